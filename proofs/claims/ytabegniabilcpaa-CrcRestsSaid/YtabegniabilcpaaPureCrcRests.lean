/- The register behind a sealed text is the same one, whatever the text. -/
import Derived.Test.YtabegniabilcpaaStCrcRests
import Derived.Test.YtabegniabilcpaaCrcLaws
namespace Go.Proofs.Ytabegniabilcpaa.Pure
open Go.RowKit Go.Proofs.YtabegniabilcpaaW.PrintWords Go.Proofs.YtabegniabilcpaaW.PrintLast Go.Proofs.Ytabegniabilcpaa.PAll Go.Proofs.Ytabegniabilcpaa.Open Go.Proofs.Ytabegniabilcpaa.PB Go.Proofs.Ytabegniabilcpaa.CM Go.Proofs.Ytabegniabilcpaa.CP

theorem rests_l0 (s : ByteArray) (hs : s.size ≤ 9223372036854775807) : ∀ (d j : Nat), j ≤ s.size → s.size - j = d → ∀ (k : Nat) (r : BitVec 32), d + 9 < k → hogsheadlaw02_CrcRests.l0 k true s (r.toNat : Int) j = some (((foldU r ((L s).drop j)).toNat : Int) == 3338984827) := by
  intro d
  induction d with
  | zero =>
    intro j hj hd k r hk
    obtain ⟨k, rfl⟩ := succ_of (show 0 < k by omega)
    simp only [hogsheadlaw02_CrcRests.l0]
    rw [if_neg (by omega), if_pos trivial, List.drop_of_length_le (by rw [L_length]; omega)]
    rfl
  | succ d ih =>
    intro j hj hd k r hk
    have hlt : j < s.size := by omega
    obtain ⟨k, rfl⟩ := succ_of (show 0 < k by omega)
    simp only [hogsheadlaw02_CrcRests.l0]
    rw [if_pos (by omega), if_pos (by omega), bt_L s j hlt, wrap_succ hlt hs]
    rw [show (((L s)[j]'(by rw [L_length]; exact hlt)).toNat : Int) = (((L s)[j]'(by rw [L_length]; exact hlt)).toBitVec.toNat : Int) from rfl, step_num k (by omega)]
    simp only [Option.bind_some]
    rw [ih (j + 1) (by omega) (by omega) k _ (by omega), List.drop_eq_getElem_cons (i := j) (by rw [L_length]; exact hlt)]
    rfl
theorem CrcRests : hogsheadlaw02_CrcRests.Pure := by
  intro s _ hs
  obtain ⟨f, hf, hL⟩ := seal_num s (by omega)
  have hsz : f.size = s.size + 4 := by rw [← L_length, hL, sealed_length, L_length]
  refine ⟨f.size + 10, ?_⟩
  unfold hogsheadlaw02_CrcRests.f
  rw [shown_true, hf]
  simp only [Option.bind_some]
  have h := rests_l0 f (by omega) f.size 0 (by omega) (by omega) (f.size + 10) ones (by omega)
  rw [List.drop_zero, hL, fold_sealed] at h
  exact h
end Go.Proofs.Ytabegniabilcpaa.Pure
