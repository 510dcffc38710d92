/- A sealed text in which bits were turned round, all within 32 that stand together, isn't opened. -/
import Derived.Test.YtabegniabilcpaaStCrcBursts
import Derived.Test.YtabegniabilcpaaCrcLaws
import Derived.Test.YtabegniabilcpaaCrcOpen
import Derived.Test.YtabegniabilcpaaCrcBits
import Derived.Test.YtabegniabilcpaaFlip
namespace Go.Proofs.Ytabegniabilcpaa.Pure
open Go.RowKit Go.Proofs.YtabegniabilcpaaW.PrintWords Go.Proofs.YtabegniabilcpaaW.PrintLast Go.Proofs.Ytabegniabilcpaa.PAll Go.Proofs.Ytabegniabilcpaa.Open Go.Proofs.Ytabegniabilcpaa.PB Go.Proofs.Ytabegniabilcpaa.CM Go.Proofs.Ytabegniabilcpaa.CP

theorem bit_vec : ∀ j : Fin 8, (UInt8.ofNat (128 / 2 ^ j.val)).toBitVec = 128#8 >>> j.val := by decide
theorem flip_vec (l : List UInt8) (k : Nat) : (Mark.flipL l k).map UInt8.toBitVec = flipAt (l.map UInt8.toBitVec) k := by
  unfold Mark.flipL flipAt
  apply List.ext_getElem?
  intro i
  have hb := bit_vec ⟨k % 8, Nat.mod_lt _ (by decide)⟩
  simp only at hb
  rw [List.getElem?_map, List.getElem?_set, List.getElem?_modify, List.getElem?_map]
  by_cases c : k / 8 = i
  · subst c
    rw [if_pos rfl]
    by_cases hl : k / 8 < l.length
    · rw [if_pos hl, List.getElem?_eq_getElem hl, List.getD_eq_getElem?_getD, List.getElem?_eq_getElem hl]
      simp [hb]
    · rw [if_neg hl, List.getElem?_eq_none (by omega)]
      rfl
  · rw [if_neg c]
    simp [c]
theorem turn_vec : ∀ (n : Nat) (l : List UInt8) (k b : Nat), b < 4294967296 → (Mark.turnL n l k b).map UInt8.toBitVec = flips n (l.map UInt8.toBitVec) k (BitVec.ofNat 32 b)
  | 0, _, _, _, _ => rfl
  | n + 1, l, k, b, hb => by
    rw [Mark.turnL, flips, turn_vec n _ _ _ (by omega)]
    have hm : (BitVec.ofNat 32 b).msb = true ↔ b / 2147483648 = 1 := by
      rw [BitVec.msb_eq_decide, BitVec.toNat_ofNat]
      simp
      omega
    have hs : BitVec.ofNat 32 (b % 2147483648 * 2) = BitVec.ofNat 32 b <<< 1 := by
      apply BitVec.eq_of_toNat_eq
      rw [BitVec.toNat_shiftLeft, BitVec.toNat_ofNat, BitVec.toNat_ofNat, Nat.shiftLeft_eq]
      omega
    rw [hs]
    by_cases c : b / 2147483648 = 1
    · rw [if_pos c, if_pos (hm.2 c), flip_vec]
    · rw [if_neg c, if_neg (fun h => c (hm.1 h))]
theorem CrcBursts : hogsheadlaw02_CrcBursts.Pure := by
  intro s a b _ _ hb hs
  obtain ⟨h0, h1⟩ := wf_u32 hb
  obtain ⟨b, rfl⟩ := Int.eq_ofNat_of_zero_le h0
  obtain ⟨f, hf, hL⟩ := seal_num s (by omega)
  have hsz : f.size = s.size + 4 := by rw [← L_length, hL, sealed_length, L_length]
  unfold hogsheadlaw02_CrcBursts.f
  rw [shown_true, Option.bind_some, hf, Option.bind_some, if_pos ⟨by omega, h0, by omega⟩]
  by_cases c1 : (b : Int) = 0
  · rw [if_pos c1]
  · rw [if_neg c1]
    by_cases c2 : a < 0
    · rw [if_pos c2]
    · rw [if_neg c2]
      by_cases c3 : a > 8 * (f.size : Int) - 32
      · rw [if_pos c3]
      · rw [if_neg c3, Int.toNat_natCast]
        have e1 : f.data.toList = sealed (L s) := hL
        rw [e1]
        have hlen : (Mark.turnL 32 (sealed (L s)) a.toNat b).length = s.size + 4 := by rw [Mark.turnL_length, sealed_length, L_length]
        obtain ⟨t, e, h2, h3, h4⟩ := open_num ⟨(Mark.turnL 32 (sealed (L s)) a.toNat b).toArray⟩ (by show (Mark.turnL 32 (sealed (L s)) a.toNat b).toArray.size ≤ _; rw [List.size_toArray]; omega)
        have e2 : L ⟨(Mark.turnL 32 (sealed (L s)) a.toNat b).toArray⟩ = Mark.turnL 32 (sealed (L s)) a.toNat b := rfl
        rw [e2] at h3 h4
        have hne : opened (Mark.turnL 32 (sealed (L s)) a.toNat b) = ([], 13) := by
          unfold opened
          rw [if_neg (by omega), if_neg]
          intro he
          have hfold := fold_sealed ((Mark.turnL 32 (sealed (L s)) a.toNat b).take ((Mark.turnL 32 (sealed (L s)) a.toNat b).length - 4))
          rw [he, ← fold_sealed (L s)] at hfold
          unfold foldU at hfold
          rw [turn_vec 32 _ _ _ (by omega)] at hfold
          have hz := flips_told ((sealed (L s)).map UInt8.toBitVec) a.toNat ones (BitVec.ofNat 32 b) (by rw [List.length_map, sealed_length, L_length]; omega) hfold
          have hz2 := congrArg BitVec.toNat hz
          rw [BitVec.toNat_ofNat] at hz2
          simp at hz2
          omega
        rw [hne] at h3 h4
        rw [h2, Option.bind_some]
        simp only
        rw [if_pos trivial, if_pos (by rw [L_toList]; exact h3), h4]
        rfl
end Go.Proofs.Ytabegniabilcpaa.Pure
