/- What a reading of each argument gives, and what is left to prove of each law, over numbers and lists alone. Laid by a program of this session (hrows.py). -/
import Derived.Test.YtlfonfceaiiinaaPAllx14
import Derived.Test.YtlfonfceaiiinaaPAllKinds
namespace Go.Proofs.Ytlfonfceaiiinaa.PAll
open Go.RowKit Go.Proofs.YtlfonfceaiiinaaW.PrintWords Go.Proofs.YtlfonfceaiiinaaW.PrintLast Go.Proofs.Ytlfonfceaiiinaa.PAll Go.Proofs.Ytlfonfceaiiinaa.Open
def hogsheadlaw19_CountRatio.Pure : Prop := ∀ (a0 : List (S42)), (os_o42.wf a0) → (os_o42.sz a0) → hogsheadlaw19_CountRatio.f a0 = some true
def hogsheadlaw19_CountRatio.PureUpto : Prop := ∀ (a0 : List (S42)), (os_o42.wf a0) → (os_o42.wt a0 ≤ 1048576) → hogsheadlaw19_CountRatio.f a0 = some true
end Go.Proofs.Ytlfonfceaiiinaa.PAll
