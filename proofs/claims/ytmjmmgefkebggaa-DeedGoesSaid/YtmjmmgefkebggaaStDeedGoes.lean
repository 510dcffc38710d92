/- What a reading of each argument gives, and what is left to prove of each law, over numbers and lists alone. Laid by a program of this session (hrows.py). -/
import Derived.Test.YtmjmmgefkebggaaPAllx30
import Derived.Test.YtmjmmgefkebggaaPAllKinds
namespace Go.Proofs.Ytmjmmgefkebggaa.PAll
open Go.RowKit Go.Proofs.YtmjmmgefkebggaaW.PrintWords Go.Proofs.YtmjmmgefkebggaaW.PrintLast Go.Proofs.Ytmjmmgefkebggaa.PAll Go.Proofs.Ytmjmmgefkebggaa.Open
def hogsheadlaw17_DeedGoes.Pure : Prop := ∀ (a0 : S44), (o44.wf a0) → (o44.sz a0) → ∃ k, hogsheadlaw17_DeedGoes.f k a0.f0.f0 a0.f0.f1 a0.f0.f2 a0.f0.f3 a0.f0.f4 a0.f0.f5 a0.f0.f6 a0.f0.f7 a0.f0.f8 a0.f0.f9 a0.f0.f10 a0.f0.f11 a0.f0.f12 a0.f0.f13 a0.f1.f0 a0.f1.f1 a0.f1.f2 a0.f1.f3 a0.f1.f4 a0.f1.f5 a0.f2 a0.f3 a0.f4 = some true
def hogsheadlaw17_DeedGoes.PureUpto : Prop := ∀ (a0 : S44), (o44.wf a0) → (o44.wt a0 ≤ 1048576) → ∃ k, hogsheadlaw17_DeedGoes.f k a0.f0.f0 a0.f0.f1 a0.f0.f2 a0.f0.f3 a0.f0.f4 a0.f0.f5 a0.f0.f6 a0.f0.f7 a0.f0.f8 a0.f0.f9 a0.f0.f10 a0.f0.f11 a0.f0.f12 a0.f0.f13 a0.f1.f0 a0.f1.f1 a0.f1.f2 a0.f1.f3 a0.f1.f4 a0.f1.f5 a0.f2 a0.f3 a0.f4 = some true
end Go.Proofs.Ytmjmmgefkebggaa.PAll
