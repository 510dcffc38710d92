/- What a reading of each argument gives, and what is left to prove of each law, over numbers and lists alone. Laid by a program of this session (hrows.py). -/
import Derived.Test.YtmjmmgefkebggaaPAllx13
import Derived.Test.YtmjmmgefkebggaaPAllKinds
namespace Go.Proofs.Ytmjmmgefkebggaa.PAll
open Go.RowKit Go.Proofs.YtmjmmgefkebggaaW.PrintWords Go.Proofs.YtmjmmgefkebggaaW.PrintLast Go.Proofs.Ytmjmmgefkebggaa.PAll Go.Proofs.Ytmjmmgefkebggaa.Open
def hogsheadlaw17_DeedBegins.Pure : Prop := ∀ (a0 : S23), (o23.wf a0) → (o23.sz a0) → ∃ k, hogsheadlaw17_DeedBegins.f k a0.f0 a0.f1 a0.f2 a0.f3 a0.f4 = some true
def hogsheadlaw17_DeedBegins.PureUpto : Prop := ∀ (a0 : S23), (o23.wf a0) → (o23.wt a0 ≤ 1048576) → ∃ k, hogsheadlaw17_DeedBegins.f k a0.f0 a0.f1 a0.f2 a0.f3 a0.f4 = some true
end Go.Proofs.Ytmjmmgefkebggaa.PAll
