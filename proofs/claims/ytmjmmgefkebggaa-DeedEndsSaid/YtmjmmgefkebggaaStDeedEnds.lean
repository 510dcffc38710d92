/- What a reading of each argument gives, and what is left to prove of each law, over numbers and lists alone. Laid by a program of this session (hrows.py). -/
import Derived.Test.YtmjmmgefkebggaaPAllx32
import Derived.Test.YtmjmmgefkebggaaPAllKinds
namespace Go.Proofs.Ytmjmmgefkebggaa.PAll
open Go.RowKit Go.Proofs.YtmjmmgefkebggaaW.PrintWords Go.Proofs.YtmjmmgefkebggaaW.PrintLast Go.Proofs.Ytmjmmgefkebggaa.PAll Go.Proofs.Ytmjmmgefkebggaa.Open
def hogsheadlaw17_DeedEnds.Pure : Prop := ∀ (a0 : S28) (a1 : List (S54)), (o28.wf a0) → (os_o54.wf a1) → (o28.sz a0) → (os_o54.sz a1) → ∃ k, hogsheadlaw17_DeedEnds.f k a0.f0 a0.f1 a0.f2 a0.f3 a0.f4 a0.f5 a0.f6 a0.f7 a0.f8 a0.f9 a0.f10 a0.f11 a0.f12 a0.f13 a1 = some true
def hogsheadlaw17_DeedEnds.PureUpto : Prop := ∀ (a0 : S28) (a1 : List (S54)), (o28.wf a0) → (os_o54.wf a1) → (o28.wt a0 + os_o54.wt a1 ≤ 1048576) → ∃ k, hogsheadlaw17_DeedEnds.f k a0.f0 a0.f1 a0.f2 a0.f3 a0.f4 a0.f5 a0.f6 a0.f7 a0.f8 a0.f9 a0.f10 a0.f11 a0.f12 a0.f13 a1 = some true
end Go.Proofs.Ytmjmmgefkebggaa.PAll
