/- What opens, of the program and of the reference. -/
import Derived.Test.YtabegniabilcpaaCrcPure
import Derived.Test.YtabegniabilcpaaPAllx2
import Derived.Test.YtabegniabilcpaaPAllx5
namespace Go.Proofs.Ytabegniabilcpaa.CP
open Go.RowKit Go.Proofs.YtabegniabilcpaaW.PrintWords Go.Proofs.YtabegniabilcpaaW.PrintLast Go.Proofs.Ytabegniabilcpaa.PAll Go.Proofs.Ytabegniabilcpaa.PB Go.Proofs.Ytabegniabilcpaa.CM

/-- What a text opens to. -/
def opened (l : List UInt8) : List UInt8 × Int := if l.length < 4 then ([], 2) else if sealed (l.take (l.length - 4)) = l then (l.take (l.length - 4), 0) else ([], 13)
theorem four8_eq {l : List UInt8} (h : 4 ≤ l.length) (v : BitVec 32) : l.drop (l.length - 4) = four8 v ↔ l.take (l.length - 4) ++ four8 v = l := by
  constructor
  · intro e
    rw [← e, List.take_append_drop]
  · intro e
    have h2 := congrArg (List.drop (l.length - 4)) e
    rw [List.drop_append_of_le_length (by rw [List.length_take]; omega), List.drop_of_length_le (by rw [List.length_take]; omega), List.nil_append] at h2
    exact h2.symm
theorem open_num (f : ByteArray) (h : f.size ≤ 9223372036854775807) : ∃ s e, crc_Open.f f = some (s, e) ∧ L s = (opened (L f)).1 ∧ e = (opened (L f)).2 := by
  unfold crc_Open.f opened
  rw [L_length]
  have hw : wrap64 ((f.size : Int) - 4) = (f.size : Int) - 4 := wrap_in (by unfold InR; omega)
  rw [hw]
  by_cases h4 : f.size < 4
  · rw [if_pos (by omega), if_pos h4]
    exact ⟨_, _, rfl, rfl, rfl⟩
  · have et : ((f.size : Int) - 4).toNat = f.size - 4 := by omega
    rw [if_neg (by omega), if_neg h4, if_pos (by omega), if_pos (by omega), et, sum_num _ (by rw [size_le_upto _ _ (by omega)]; omega)]
    simp only [Option.bind_some]
    obtain ⟨q, hq, hL⟩ := laid_num (sumB (L (f.extract 0 (f.size - 4))))
    rw [hq]
    simp only [Option.bind_some]
    rw [L_toList, L_toList, hL, L_from, L_upto]
    have h8 := four8_eq (l := L f) (by rw [L_length]; omega) (sumB ((L f).take (f.size - 4)))
    rw [L_length] at h8
    change _ ↔ sealed ((L f).take (f.size - 4)) = L f at h8
    by_cases hc : (L f).drop (f.size - 4) = four8 (sumB ((L f).take (f.size - 4)))
    · rw [if_pos hc, if_pos (h8.1 hc)]
      exact ⟨_, _, rfl, L_upto _ _, rfl⟩
    · rw [if_neg hc, if_neg (fun h' => hc (h8.2 h'))]
      exact ⟨_, _, rfl, rfl, rfl⟩
theorem ref_open (f : ByteArray) (h : f.size ≤ 9223372036854775807) (k : Nat) (hk : f.size + 9 < k) : ∃ s e, hogsheadref02_Open.f k f = some (s, e) ∧ L s = (opened (L f)).1 ∧ e = (opened (L f)).2 := by
  unfold hogsheadref02_Open.f opened
  rw [L_length]
  by_cases h4 : f.size < 4
  · rw [if_pos (by omega), if_pos h4]
    exact ⟨_, _, rfl, rfl, rfl⟩
  · have hw : wrap64 ((f.size : Int) - 4) = (f.size : Int) - 4 := wrap_in (by unfold InR; omega)
    have et : ((f.size : Int) - 4).toNat = f.size - 4 := by omega
    have hsz := size_le_upto f (f.size - 4) (by omega)
    rw [if_neg (by omega), if_neg h4, hw, if_pos (by omega), if_pos (by omega), et]
    obtain ⟨q, hq, hL⟩ := ref_seal (f.extract 0 (f.size - 4)) (by omega) k (by omega)
    rw [hq]
    simp only [Option.bind_some]
    rw [L_toList, L_toList, hL, L_upto]
    by_cases hc : sealed ((L f).take (f.size - 4)) = L f
    · rw [if_pos hc, if_pos hc]
      exact ⟨_, _, rfl, L_upto _ _, rfl⟩
    · rw [if_neg hc, if_neg hc]
      exact ⟨_, _, rfl, rfl, rfl⟩
theorem opened_sealed (l : List UInt8) : opened (sealed l) = (l, 0) := by
  unfold opened
  have e : (sealed l).take ((sealed l).length - 4) = l := by
    rw [sealed_length]
    unfold sealed
    rw [show l.length + 4 - 4 = l.length from by omega, List.take_left]
  rw [e, if_neg (by rw [sealed_length]; omega), if_pos rfl]
/-- The register behind a sealed text. -/
theorem fold_sealed (l : List UInt8) : foldU ones (sealed l) = 3338984827#32 := by
  unfold sealed
  rw [foldU_append]
  unfold sumB four8
  have e : ((four (foldU ones l ^^^ ones)).map UInt8.ofBitVec).map UInt8.toBitVec = four (foldU ones l ^^^ ones) := by
    rw [List.map_map]
    exact List.map_id _
  show foldB (foldU ones l) _ = _
  rw [e]
  exact fold_rest _
end Go.Proofs.Ytabegniabilcpaa.CP
