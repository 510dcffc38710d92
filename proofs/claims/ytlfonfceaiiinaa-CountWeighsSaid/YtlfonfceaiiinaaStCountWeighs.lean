/- What a reading of each argument gives, and what is left to prove of each law, over numbers and lists alone. Laid by a program of this session (hrows.py). -/
import Derived.Test.YtlfonfceaiiinaaPAllx26
import Derived.Test.YtlfonfceaiiinaaPAllKinds
namespace Go.Proofs.Ytlfonfceaiiinaa.PAll
open Go.RowKit Go.Proofs.YtlfonfceaiiinaaW.PrintWords Go.Proofs.YtlfonfceaiiinaaW.PrintLast Go.Proofs.Ytlfonfceaiiinaa.PAll Go.Proofs.Ytlfonfceaiiinaa.Open
def hogsheadlaw19_CountWeighs.Pure : Prop := ∀ (a0 : S53) (a1 : List (S29)), (o53.wf a0) → (os_o29.wf a1) → (o53.sz a0) → (os_o29.sz a1) → ∃ k, hogsheadlaw19_CountWeighs.f k a0.f0 a0.f1 a0.f2 a0.f3 a1 = some true
def hogsheadlaw19_CountWeighs.PureUpto : Prop := ∀ (a0 : S53) (a1 : List (S29)), (o53.wf a0) → (os_o29.wf a1) → (o53.wt a0 + os_o29.wt a1 ≤ 1048576) → ∃ k, hogsheadlaw19_CountWeighs.f k a0.f0 a0.f1 a0.f2 a0.f3 a1 = some true
end Go.Proofs.Ytlfonfceaiiinaa.PAll
