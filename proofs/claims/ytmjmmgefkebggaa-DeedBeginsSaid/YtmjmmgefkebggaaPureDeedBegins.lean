/- Which calls may be, and how they begin, is as the document says. -/
import Derived.Test.YtmjmmgefkebggaaStDeedBegins
import Derived.Test.YtmjmmgefkebggaaDeedNew
namespace Go.Proofs.Ytmjmmgefkebggaa.Pure
open Go.RowKit Go.Proofs.YtmjmmgefkebggaaW.PrintWords Go.Proofs.YtmjmmgefkebggaaW.PrintLast Go.Proofs.Ytmjmmgefkebggaa.PAll Go.Proofs.Ytmjmmgefkebggaa.Open Go.Proofs.Ytmjmmgefkebggaa.PB Go.Proofs.Ytmjmmgefkebggaa.DD

theorem DeedBegins : hogsheadlaw17_DeedBegins.Pure := by
  intro a0 hw hs
  refine ⟨4, ?_⟩
  unfold hogsheadlaw17_DeedBegins.f
  rw [shown_is _ (by omega), Option.bind_some, new_is _ _ _ _ _ _ (by omega), Option.bind_some, rnew_is _ _ _ _ _ _ (by omega), Option.bind_some]
  generalize newS _ _ _ _ _ = r
  simp [hogsheadlaw17_DeedBegins.j0]
end Go.Proofs.Ytmjmmgefkebggaa.Pure
