/- The number that begins bytes, and what stands behind it, are the reference's. -/
import Derived.Test.YtbmgglgacgkffaaStVlqTakes
import Derived.Test.YtbmgglgacgkffaaVlqLaws
namespace Go.Proofs.Ytbmgglgacgkffaa.Pure
open Go.RowKit Go.Proofs.YtbmgglgacgkffaaW.PrintWords Go.Proofs.YtbmgglgacgkffaaW.PrintLast Go.Proofs.Ytbmgglgacgkffaa.PAll Go.Proofs.Ytbmgglgacgkffaa.Open Go.Proofs.Ytbmgglgacgkffaa.PB Go.Proofs.Ytbmgglgacgkffaa.VP

theorem VlqTakes : hogsheadlaw01_VlqTakes.Pure := by
  intro s _ hs
  refine ⟨s.size + 3, ?_⟩
  unfold hogsheadlaw01_VlqTakes.f
  rw [shown_true _ (by omega), take_num s (by omega) _ (by omega), rtake_num s (by omega) _ (by omega)]
  simp
end Go.Proofs.Ytbmgglgacgkffaa.Pure
