/- The text that begins bytes, and what stands behind it, are the reference's. -/
import Derived.Test.YtbmgglgacgkffaaStVlqTexts
import Derived.Test.YtbmgglgacgkffaaVlqLaws
namespace Go.Proofs.Ytbmgglgacgkffaa.Pure
open Go.RowKit Go.Proofs.YtbmgglgacgkffaaW.PrintWords Go.Proofs.YtbmgglgacgkffaaW.PrintLast Go.Proofs.Ytbmgglgacgkffaa.PAll Go.Proofs.Ytbmgglgacgkffaa.Open Go.Proofs.Ytbmgglgacgkffaa.PB Go.Proofs.Ytbmgglgacgkffaa.VP

theorem VlqTexts : hogsheadlaw01_VlqTexts.Pure := by
  intro s most _ hm hs
  refine ⟨s.size + 3, ?_⟩
  unfold hogsheadlaw01_VlqTexts.f
  rw [shown_true _ (by omega), take_text s most (wf_in hm) (by omega) _ (by omega), rtake_text s most (wf_in hm) (by omega) _ (by omega)]
  simp
end Go.Proofs.Ytbmgglgacgkffaa.Pure
