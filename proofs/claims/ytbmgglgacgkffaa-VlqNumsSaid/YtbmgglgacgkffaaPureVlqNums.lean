/- A number's bytes, and a text's, are the reference's. -/
import Derived.Test.YtbmgglgacgkffaaStVlqNums
import Derived.Test.YtbmgglgacgkffaaVlqLaws
namespace Go.Proofs.Ytbmgglgacgkffaa.Pure
open Go.RowKit Go.Proofs.YtbmgglgacgkffaaW.PrintWords Go.Proofs.YtbmgglgacgkffaaW.PrintLast Go.Proofs.Ytbmgglgacgkffaa.PAll Go.Proofs.Ytbmgglgacgkffaa.Open Go.Proofs.Ytbmgglgacgkffaa.PB Go.Proofs.Ytbmgglgacgkffaa.VP

theorem VlqNums : hogsheadlaw01_VlqNums.Pure := by
  intro v s hv _ hs
  obtain ⟨h0, h1⟩ := wf_u64 hv
  obtain ⟨v, rfl⟩ := Int.eq_ofNat_of_zero_le h0
  refine ⟨11, ?_⟩
  unfold hogsheadlaw01_VlqNums.f
  rw [shown_true _ (by omega), num_num v (by omega), rnum_num v (by omega) _ (by omega), text_num s (by omega), rtext_num s (by omega) _ (by omega)]
  simp
end Go.Proofs.Ytbmgglgacgkffaa.Pure
