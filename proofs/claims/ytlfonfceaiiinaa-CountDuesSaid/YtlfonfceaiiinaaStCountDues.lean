/- What a reading of each argument gives, and what is left to prove of each law, over numbers and lists alone. Laid by a program of this session (hrows.py). -/
import Derived.Test.YtlfonfceaiiinaaPAllx4
import Derived.Test.YtlfonfceaiiinaaPAllKinds
namespace Go.Proofs.Ytlfonfceaiiinaa.PAll
open Go.RowKit Go.Proofs.YtlfonfceaiiinaaW.PrintWords Go.Proofs.YtlfonfceaiiinaaW.PrintLast Go.Proofs.Ytlfonfceaiiinaa.PAll Go.Proofs.Ytlfonfceaiiinaa.Open
def hogsheadlaw19_CountDues.Pure : Prop := ∀ (a0 : S26), (o26.wf a0) → (o26.sz a0) → ∃ k, hogsheadlaw19_CountDues.f k a0.f0 a0.f1 a0.f2 = some true
def hogsheadlaw19_CountDues.PureUpto : Prop := ∀ (a0 : S26), (o26.wf a0) → (o26.wt a0 ≤ 1048576) → ∃ k, hogsheadlaw19_CountDues.f k a0.f0 a0.f1 a0.f2 = some true
end Go.Proofs.Ytlfonfceaiiinaa.PAll
