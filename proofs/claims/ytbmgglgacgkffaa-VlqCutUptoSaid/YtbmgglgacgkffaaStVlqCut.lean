/- What a reading of each argument gives, and what is left to prove of each law, over numbers and lists alone. Laid by a program of this session (hrows.py). -/
import Derived.Test.YtbmgglgacgkffaaPAllx13
import Derived.Test.YtbmgglgacgkffaaPAllKinds
namespace Go.Proofs.Ytbmgglgacgkffaa.PAll
open Go.RowKit Go.Proofs.YtbmgglgacgkffaaW.PrintWords Go.Proofs.YtbmgglgacgkffaaW.PrintLast Go.Proofs.Ytbmgglgacgkffaa.PAll Go.Proofs.Ytbmgglgacgkffaa.Open
def hogsheadlaw01_VlqCut.Pure : Prop := ∀ (a0 : Int) (a1 : List ByteArray) (a2 : Int), ((Lit.int .u64 a0).wf = true) → (os_s.wf a1) → ((Lit.int .i64 a2).wf = true) → (os_s.sz a1) → ∃ k, hogsheadlaw01_VlqCut.f k a0 a1 a2 = some true
def hogsheadlaw01_VlqCut.PureUpto : Prop := ∀ (a0 : Int) (a1 : List ByteArray) (a2 : Int), ((Lit.int .u64 a0).wf = true) → (os_s.wf a1) → ((Lit.int .i64 a2).wf = true) → (1 + os_s.wt a1 + 1 ≤ 1048576) → ∃ k, hogsheadlaw01_VlqCut.f k a0 a1 a2 = some true
end Go.Proofs.Ytbmgglgacgkffaa.PAll
