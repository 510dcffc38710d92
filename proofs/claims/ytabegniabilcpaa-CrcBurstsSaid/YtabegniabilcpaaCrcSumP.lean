/- The crc package's sum, and the reference's, as registers of 32 bits. -/
import Derived.Test.YtabegniabilcpaaCrcMath
import Derived.Test.YtabegniabilcpaaPAllx1
import Derived.Test.YtabegniabilcpaaPAllx4
namespace Go.Proofs.Ytabegniabilcpaa.CP
open Go.RowKit Go.Proofs.YtabegniabilcpaaW.PrintWords Go.Proofs.YtabegniabilcpaaW.PrintLast Go.Proofs.Ytabegniabilcpaa.PAll Go.Proofs.Ytabegniabilcpaa.PB Go.Proofs.Ytabegniabilcpaa.CM

theorem n32_inj {a b : BitVec 32} : (a.toNat : Int) = (b.toNat : Int) ↔ a = b := by
  constructor
  · intro h
    apply BitVec.eq_of_toNat_eq
    omega
  · rintro rfl
    rfl
theorem l0_step (k : Nat) (r : BitVec 32) (i : Nat) (hi : i < 8) : crc_Step.l0 (k + 1) ((r.toNat : Int)) i = crc_Step.l0 k (((s1 r).toNat : Int)) ((i + 1 : Nat) : Int) := by
  simp only [crc_Step.l0]
  rw [if_pos (by omega), wrap_succ (n := 8) hi (by omega)]
  by_cases h : r.msb = true
  · rw [if_pos ((msb_iff r).2 h), shl1]
    have e : (79764919 : Int) = (poly.toNat : Int) := by decide
    rw [e, xor32]
    unfold s1
    rw [if_pos h]
  · rw [if_neg (fun h' => h ((msb_iff r).1 h')), shl1]
    unfold s1
    rw [if_neg h]
theorem l0_end (k : Nat) (x : Int) : crc_Step.l0 (k + 1) x (8 : Nat) = some x := by
  simp only [crc_Step.l0]
  rw [if_neg (by omega)]
theorem step_num (k : Nat) (hk : 9 ≤ k) (r : BitVec 32) (b : BitVec 8) : crc_Step.f k ((r.toNat : Int)) (b.toNat : Int) = some (((stepB r b).toNat : Int)) := by
  obtain ⟨k, rfl⟩ : ∃ m, k = m + 9 := ⟨k - 9, by omega⟩
  unfold crc_Step.f
  have hb := b.isLt
  have e : ((b.toNat : Int) % 4294967296 * 16777216) % 4294967296 = ((top b).toNat : Int) := by rw [toNat_top]; omega
  rw [e, xor32]
  have h := l0_step (k + 8) (r ^^^ top b) 0 (by omega)
  refine h.trans ?_
  rw [l0_step (k + 7) _ 1 (by omega), l0_step (k + 6) _ 2 (by omega), l0_step (k + 5) _ 3 (by omega), l0_step (k + 4) _ 4 (by omega), l0_step (k + 3) _ 5 (by omega), l0_step (k + 2) _ 6 (by omega), l0_step (k + 1) _ 7 (by omega), l0_end]
  rfl
theorem tab_num (i : BitVec 8) : crc_tabAt i.toNat = ((stepB 0#32 i).toNat : Int) := by
  unfold crc_tabAt
  have h := step_num 10 (by omega) 0#32 i
  have e : ((0#32).toNat : Int) = 0 := rfl
  rw [e] at h
  rw [h]
  rfl
theorem one_num (r : BitVec 32) (b : BitVec 8) : crc_one ((r.toNat : Int)) (b.toNat : Int) = ((stepB r b).toNat : Int) := by
  unfold crc_one crc_idx
  have hr := r.isLt
  have e1 : (r.toNat : Int) / 16777216 % 256 = ((hi r).toNat : Int) := by rw [toNat_hi]; omega
  have e2 : (r.toNat : Int) * (256 : Int) % (4294967296 : Int) = ((r <<< 8).toNat : Int) := by rw [BitVec.toNat_shiftLeft, Nat.shiftLeft_eq]; omega
  rw [e1, xor8, Int.toNat_natCast, tab_num, e2, xor32, ← stepB_table]
/-- The register behind bytes. -/
def foldU (r : BitVec 32) (l : List UInt8) : BitVec 32 := foldB r (l.map UInt8.toBitVec)
theorem foldU_append (r : BitVec 32) (l m : List UInt8) : foldU r (l ++ m) = foldU (foldU r l) m := by unfold foldU; rw [List.map_append, foldB_append]
theorem fold_num : ∀ (l : List UInt8) (r : BitVec 32), crc_fold ((r.toNat : Int)) l = ((foldU r l).toNat : Int)
  | [], _ => rfl
  | c :: l, r => by
    show crc_fold (crc_one ((r.toNat : Int)) (c.toNat : Int)) l = _
    have h := one_num r c.toBitVec
    rw [show ((c.toNat : Int)) = (c.toBitVec.toNat : Int) from rfl, h]
    exact fold_num l (stepB r c.toBitVec)
def ones : BitVec 32 := 4294967295#32
/-- A text's sum. -/
def sumB (l : List UInt8) : BitVec 32 := foldU ones l ^^^ ones
theorem sum_num (s : ByteArray) (h : s.size ≤ 9223372036854775807) : crc_Sum.f s = some (((sumB (L s)).toNat : Int)) := by
  unfold crc_Sum.f
  rw [if_pos h]
  have e : (4294967295 : Int) = (ones.toNat : Int) := rfl
  rw [e, fold_num]
  show some (Go.bits .xor .u32 (ones.toNat : Int) ((foldU ones (L s)).toNat : Int)) = _
  rw [xor32, BitVec.xor_comm]
  rfl
theorem tdiv_nat (a b : Nat) : Int.tdiv (a : Int) (b : Int) = ((a / b : Nat) : Int) := by rw [Int.tdiv_eq_ediv_of_nonneg (by omega)]; omega
theorem tmod_nat (a b : Nat) : Int.tmod (a : Int) (b : Int) = ((a % b : Nat) : Int) := by rw [Int.tmod_eq_emod_of_nonneg (by omega)]; omega
/-- One round of the reference: a bit of the byte's is put in. -/
theorem ref_round (k : Nat) (r : BitVec 32) (c : BitVec 8) (i : Nat) (hi : i < 8) : hogsheadref02_Step.l0 (k + 1) ((r.toNat : Int)) (c.toNat : Int) i = hogsheadref02_Step.l0 k (((s1 (r ^^^ (if c.msb then 2147483648#32 else 0#32))).toNat : Int)) ((c <<< 1).toNat : Int) ((i + 1 : Nat) : Int) := by
  have hr := r.isLt
  have hc := c.isLt
  simp only [hogsheadref02_Step.l0]
  rw [if_pos (by omega), wrap_succ (n := 8) hi (by omega)]
  have e0 : (2147483648 : Int) = ((2147483648 : Nat) : Int) := rfl
  have e1 : (128 : Int) = ((128 : Nat) : Int) := rfl
  rw [e0, e1, tdiv_nat, tdiv_nat, tmod_nat, tmod_nat]
  have hb : ((c.toNat % 128 : Nat) : Int) * (2 : Int) % (256 : Int) = ((c <<< 1).toNat : Int) := by rw [BitVec.toNat_shiftLeft, Nat.shiftLeft_eq]; omega
  rw [hb]
  have mc : c.msb = decide (128 ≤ c.toNat) := by rw [BitVec.msb_eq_decide]
  have mr : r.msb = decide (2147483648 ≤ r.toNat) := by rw [BitVec.msb_eq_decide]
  have mx : (r ^^^ (if c.msb then 2147483648#32 else 0#32)).msb = (r.msb != c.msb) := by
    rw [BitVec.msb_xor]
    cases c.msb <;> cases r.msb <;> rfl
  have sx : (r ^^^ (if c.msb then 2147483648#32 else 0#32)) <<< 1 = r <<< 1 := by
    rw [BitVec.shiftLeft_xor_distrib]
    have : (if c.msb then 2147483648#32 else 0#32) <<< 1 = 0#32 := by cases c.msb <;> rfl
    rw [this, BitVec.xor_zero]
  have hx : ((r.toNat % 2147483648 : Nat) : Int) * (2 : Int) % (4294967296 : Int) = ((r <<< 1).toNat : Int) := by rw [BitVec.toNat_shiftLeft, Nat.shiftLeft_eq]; omega
  have a1 : ((r.toNat / 2147483648 : Nat) : Int) % 4294967296 = ((r.toNat / 2147483648 : Nat) : Int) := by omega
  have a2 : ((c.toNat / 128 : Nat) : Int) % 256 = ((c.toNat / 128 : Nat) : Int) := by omega
  rw [hx, a1, a2, u32_xor_nat _ _ (by omega) (by omega)]
  have ht : ((((r.toNat / 2147483648) ^^^ (c.toNat / 128) : Nat) : Int) = 1) ↔ (r.msb != c.msb) = true := by
    rw [mr, mc]
    by_cases h1 : 2147483648 ≤ r.toNat
    · have q1 : r.toNat / 2147483648 = 1 := by omega
      by_cases h2 : 128 ≤ c.toNat
      · have q2 : c.toNat / 128 = 1 := by omega
        rw [q1, q2]; simp [h1, h2]
      · have q2 : c.toNat / 128 = 0 := by omega
        rw [q1, q2]; simp [h1, h2]
    · have q1 : r.toNat / 2147483648 = 0 := by omega
      by_cases h2 : 128 ≤ c.toNat
      · have q2 : c.toNat / 128 = 1 := by omega
        rw [q1, q2]; simp [h1, h2]
      · have q2 : c.toNat / 128 = 0 := by omega
        rw [q1, q2]; simp [h1, h2]
  unfold s1
  rw [mx, sx]
  by_cases hm : (r.msb != c.msb) = true
  · rw [if_pos (ht.2 hm), if_pos hm]
    have e : (79764919 : Int) = (poly.toNat : Int) := by decide
    rw [e, xor32]
  · rw [if_neg (fun h => hm (ht.1 h)), if_neg hm]
theorem ref_end (k : Nat) (x y : Int) : hogsheadref02_Step.l0 (k + 1) x y (8 : Nat) = some x := by
  simp only [hogsheadref02_Step.l0]
  rw [if_neg (by omega)]
/-- The register behind so many bits of a byte. -/
def bitsIn : Nat → BitVec 32 → BitVec 8 → BitVec 32
  | 0, r, _ => r
  | n + 1, r, c => bitsIn n (s1 (r ^^^ (if c.msb then 2147483648#32 else 0#32))) (c <<< 1)
theorem bitsIn_xor : ∀ (n : Nat) (a b : BitVec 32) (c : BitVec 8), bitsIn n (a ^^^ b) c = bitsIn n a 0#8 ^^^ bitsIn n b c
  | 0, _, _, _ => rfl
  | n + 1, a, b, c => by
    simp only [bitsIn]
    have h0 : (0#8).msb = false := by decide
    have h1 : (0#8 <<< 1) = 0#8 := by decide
    rw [h0, h1, BitVec.xor_assoc, s1_xor, bitsIn_xor n]
    simp
theorem bitsIn_zero (r : BitVec 32) : bitsIn 8 r 0#8 = s8 r := by
  have h0 : (0#8).msb = false := by decide
  have h1 : (0#8 <<< 1) = 0#8 := by decide
  simp only [bitsIn, h0, h1, Bool.false_eq_true, if_false, BitVec.xor_zero]
  rfl
theorem bitsIn_byte : ∀ c : BitVec 8, bitsIn 8 0#32 c = s8 (top c) := by
  have h : ∀ n : Nat, n < 256 → bitsIn 8 0#32 (BitVec.ofNat 8 n) = s8 (top (BitVec.ofNat 8 n)) := by decide +kernel
  intro c
  have := h c.toNat c.isLt
  rwa [BitVec.ofNat_toNat, BitVec.setWidth_eq] at this
theorem bitsIn_step (r : BitVec 32) (c : BitVec 8) : bitsIn 8 r c = stepB r c := by
  have h := bitsIn_xor 8 r 0#32 c
  rw [BitVec.xor_zero, bitsIn_zero, bitsIn_byte] at h
  rw [h, ← s8_xor]
  rfl
theorem ref_step (k : Nat) (hk : 9 ≤ k) (r : BitVec 32) (b : BitVec 8) : hogsheadref02_Step.f k ((r.toNat : Int)) (b.toNat : Int) = some (((stepB r b).toNat : Int)) := by
  obtain ⟨k, rfl⟩ : ∃ m, k = m + 9 := ⟨k - 9, by omega⟩
  unfold hogsheadref02_Step.f
  have h := ref_round (k + 8) r b 0 (by omega)
  refine h.trans ?_
  rw [ref_round (k + 7) _ _ 1 (by omega), ref_round (k + 6) _ _ 2 (by omega), ref_round (k + 5) _ _ 3 (by omega), ref_round (k + 4) _ _ 4 (by omega), ref_round (k + 3) _ _ 5 (by omega), ref_round (k + 2) _ _ 6 (by omega), ref_round (k + 1) _ _ 7 (by omega), ref_end, ← bitsIn_step]
  rfl
theorem ref_sum_l0 (s : ByteArray) (hs : s.size ≤ 9223372036854775807) : ∀ (d j : Nat), j ≤ s.size → s.size - j = d → ∀ (k : Nat) (r : BitVec 32), d + 9 < k → hogsheadref02_Sum.l0 k s ((r.toNat : Int)) j = some (((foldU r ((L s).drop j) ^^^ ones).toNat : Int)) := by
  intro d
  induction d with
  | zero =>
    intro j hj hd k r hk
    obtain ⟨k, rfl⟩ := succ_of (show 0 < k by omega)
    simp only [hogsheadref02_Sum.l0]
    rw [if_neg (by omega), List.drop_of_length_le (by rw [L_length]; omega)]
    have e : (4294967295 : Int) = (ones.toNat : Int) := rfl
    rw [e, xor32]
    rfl
  | succ d ih =>
    intro j hj hd k r hk
    have hlt : j < s.size := by omega
    obtain ⟨k, rfl⟩ := succ_of (show 0 < k by omega)
    simp only [hogsheadref02_Sum.l0]
    rw [if_pos (by omega), if_pos (by omega), bt_L s j hlt, wrap_succ hlt hs]
    rw [show (((L s)[j]'(by rw [L_length]; exact hlt)).toNat : Int) = (((L s)[j]'(by rw [L_length]; exact hlt)).toBitVec.toNat : Int) from rfl, ref_step k (by omega)]
    simp only [Option.bind_some]
    rw [ih (j + 1) (by omega) (by omega) k _ (by omega), List.drop_eq_getElem_cons (i := j) (by rw [L_length]; exact hlt)]
    rfl
theorem ref_sum (s : ByteArray) (hs : s.size ≤ 9223372036854775807) (k : Nat) (hk : s.size + 9 < k) : hogsheadref02_Sum.f k s = some (((sumB (L s)).toNat : Int)) := by
  have h := ref_sum_l0 s hs s.size 0 (by omega) (by omega) k ones hk
  rw [List.drop_zero] at h
  exact h
end Go.Proofs.Ytabegniabilcpaa.CP
