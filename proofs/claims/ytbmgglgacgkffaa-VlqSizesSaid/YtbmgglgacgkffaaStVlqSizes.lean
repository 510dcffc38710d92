/- What a reading of each argument gives, and what is left to prove of each law, over numbers and lists alone. Laid by a program of this session (hrows.py). -/
import Derived.Test.YtbmgglgacgkffaaPAllx2
import Derived.Test.YtbmgglgacgkffaaPAllKinds
namespace Go.Proofs.Ytbmgglgacgkffaa.PAll
open Go.RowKit Go.Proofs.YtbmgglgacgkffaaW.PrintWords Go.Proofs.YtbmgglgacgkffaaW.PrintLast Go.Proofs.Ytbmgglgacgkffaa.PAll Go.Proofs.Ytbmgglgacgkffaa.Open
def hogsheadlaw01_VlqSizes.Pure : Prop := ∀ (a0 : Int), ((Lit.int .u64 a0).wf = true) → ∃ k, hogsheadlaw01_VlqSizes.f k a0 = some true
def hogsheadlaw01_VlqSizes.PureUpto : Prop := ∀ (a0 : Int), ((Lit.int .u64 a0).wf = true) → (1 ≤ 1048576) → ∃ k, hogsheadlaw01_VlqSizes.f k a0 = some true
end Go.Proofs.Ytbmgglgacgkffaa.PAll
