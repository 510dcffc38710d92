/- The crc package's functions, and the reference's, as registers of 32 bits. -/
import Derived.Test.YtabegniabilcpaaCrcSumP
import Derived.Test.YtabegniabilcpaaPAllx1
import Derived.Test.YtabegniabilcpaaPAllx4
namespace Go.Proofs.Ytabegniabilcpaa.CP
open Go.RowKit Go.Proofs.YtabegniabilcpaaW.PrintWords Go.Proofs.YtabegniabilcpaaW.PrintLast Go.Proofs.Ytabegniabilcpaa.PAll Go.Proofs.Ytabegniabilcpaa.PB Go.Proofs.Ytabegniabilcpaa.CM

/-- A sum's bytes. -/
def four8 (v : BitVec 32) : List UInt8 := (four v).map UInt8.ofBitVec
theorem ofNat_mod (n : Nat) : UInt8.ofNat (n % 256) = UInt8.ofBitVec (BitVec.ofNat 8 n) := by
  apply UInt8.toNat_inj.1
  rw [UInt8.toNat_ofNat']
  show _ = (BitVec.ofNat 8 n).toNat
  rw [BitVec.toNat_ofNat]
  omega
theorem laid_num (v : BitVec 32) : ∃ s, crc_laid.f ((v.toNat : Int)) = some s ∧ L s = four8 v := by
  refine ⟨_, rfl, ?_⟩
  rw [L_nums]
  have hv := v.isLt
  have h0 : ((v.toNat : Int) / 16777216 % 256).toNat = v.toNat / 16777216 % 256 := by omega
  have h1 : ((v.toNat : Int) / 65536 % 256).toNat = v.toNat / 65536 % 256 := by omega
  have h2 : ((v.toNat : Int) / 256 % 256).toNat = v.toNat / 256 % 256 := by omega
  have h3 : ((v.toNat : Int) % 256).toNat = v.toNat % 256 := by omega
  simp only [List.map_cons, List.map_nil, h0, h1, h2, h3, ofNat_mod]
  rfl
theorem four8_length (v : BitVec 32) : (four8 v).length = 4 := rfl
/-- A text with its sum. -/
def sealed (l : List UInt8) : List UInt8 := l ++ four8 (sumB l)
theorem sealed_length (l : List UInt8) : (sealed l).length = l.length + 4 := by unfold sealed; rw [List.length_append, four8_length]
theorem seal_num (s : ByteArray) (h : s.size ≤ 9223372036854775803) : ∃ f, crc_Seal.f s = some f ∧ L f = sealed (L s) := by
  obtain ⟨q, hq, hL⟩ := laid_num (sumB (L s))
  have hs : q.size = 4 := by rw [← L_length, hL, four8_length]
  refine ⟨s ++ q, ?_, by rw [L_append, hL]; rfl⟩
  unfold crc_Seal.f
  rw [sum_num s (by omega)]
  simp only [Option.bind_some]
  rw [hq]
  simp only [Option.bind_some]
  rw [if_pos (by omega)]

/-! the reference -/
theorem ref_seal (s : ByteArray) (hs : s.size ≤ 9223372036854775803) (k : Nat) (hk : s.size + 9 < k) : ∃ f, hogsheadref02_Seal.f k s = some f ∧ L f = sealed (L s) := by
  unfold hogsheadref02_Seal.f
  rw [ref_sum s (by omega) k hk]
  simp only [Option.bind_some]
  rw [size_nums]
  rw [if_pos (by simp; omega)]
  refine ⟨_, rfl, ?_⟩
  rw [L_append, L_nums]
  unfold sealed
  congr 1
  have hv := (sumB (L s)).isLt
  generalize sumB (L s) = v at *
  have e3 : (16777216 : Int) = ((16777216 : Nat) : Int) := rfl
  have e2 : (65536 : Int) = ((65536 : Nat) : Int) := rfl
  have e1 : (256 : Int) = ((256 : Nat) : Int) := rfl
  have h0 : (Int.tdiv ((v.toNat : Int)) 16777216 % 4294967296 % 256).toNat = v.toNat / 16777216 % 256 := by rw [e3, tdiv_nat]; omega
  have h1 : (Int.tdiv ((v.toNat : Int)) 65536 % 4294967296 % 256).toNat = v.toNat / 65536 % 256 := by rw [e2, tdiv_nat]; omega
  have h2 : (Int.tdiv ((v.toNat : Int)) 256 % 4294967296 % 256).toNat = v.toNat / 256 % 256 := by rw [e1, tdiv_nat]; omega
  have h3 : (Int.tmod ((v.toNat : Int)) 256 % 256).toNat = v.toNat % 256 := by rw [e1, tmod_nat]; omega
  simp only [List.map_cons, List.map_nil, h0, h1, h2, h3, ofNat_mod]
  rfl
end Go.Proofs.Ytabegniabilcpaa.CP
