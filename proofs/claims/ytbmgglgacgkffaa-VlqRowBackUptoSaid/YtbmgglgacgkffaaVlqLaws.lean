/- The examples of the document's first chapter. -/
import Derived.Test.YtbmgglgacgkffaaVlqPure
namespace Go.Proofs.Ytbmgglgacgkffaa.VP
open Go.RowKit Go.Proofs.YtbmgglgacgkffaaW.PrintWords Go.Proofs.YtbmgglgacgkffaaW.PrintLast Go.Proofs.Ytbmgglgacgkffaa.PAll Go.Proofs.Ytbmgglgacgkffaa.PB

theorem shown_true (k : Nat) (hk : 3 ≤ k) : hogsheadlaw01_shown.f k = some true := by
  unfold hogsheadlaw01_shown.f
  have h1 := take_num ⟨#[128, 1]⟩ (by decide) k (show 2 < k by omega)
  have h2 := take_num ⟨#[129]⟩ (by decide) k (show 1 < k by omega)
  have e1 : takeN (L ⟨#[128, 1]⟩) = (0, [], 3) := by decide
  have e2 : takeN (L ⟨#[129]⟩) = (0, [], 2) := by decide
  rw [e1] at h1
  rw [e2] at h2
  have n0 := num_num 0 (by omega)
  have n1 := num_num 128 (by omega)
  have n2 := num_num 300 (by omega)
  simp only [Int.cast_ofNat_Int] at n0 n1 n2
  rw [h1, h2, n0, n1, n2]
  simp only [Option.bind_some, L_toList, L_B]
  have m0 : numL 0 = [0] := by decide
  have m1 : numL 128 = [129, 0] := by decide
  have m2 : numL 300 = [130, 44] := by decide
  rw [m0, m1, m2]
  rfl
end Go.Proofs.Ytbmgglgacgkffaa.VP
