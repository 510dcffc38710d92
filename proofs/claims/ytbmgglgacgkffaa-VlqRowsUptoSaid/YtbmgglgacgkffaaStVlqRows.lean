/- What a reading of each argument gives, and what is left to prove of each law, over numbers and lists alone. Laid by a program of this session (hrows.py). -/
import Derived.Test.YtbmgglgacgkffaaPAllx11
import Derived.Test.YtbmgglgacgkffaaPAllKinds
namespace Go.Proofs.Ytbmgglgacgkffaa.PAll
open Go.RowKit Go.Proofs.YtbmgglgacgkffaaW.PrintWords Go.Proofs.YtbmgglgacgkffaaW.PrintLast Go.Proofs.Ytbmgglgacgkffaa.PAll Go.Proofs.Ytbmgglgacgkffaa.Open
def hogsheadlaw01_VlqRows.Pure : Prop := ∀ (a0 : S42), (o42.wf a0) → (o42.sz a0) → ∃ k, hogsheadlaw01_VlqRows.f k a0.f0 a0.f1 a0.f2 a0.f3 = some true
def hogsheadlaw01_VlqRows.PureUpto : Prop := ∀ (a0 : S42), (o42.wf a0) → (o42.wt a0 ≤ 1048576) → ∃ k, hogsheadlaw01_VlqRows.f k a0.f0 a0.f1 a0.f2 a0.f3 = some true
end Go.Proofs.Ytbmgglgacgkffaa.PAll
