/- What a reading of each argument gives, and what is left to prove of each law, over numbers and lists alone. Laid by a program of this session (hrows.py). -/
import Derived.Test.YtbmgglgacgkffaaPAllx12
import Derived.Test.YtbmgglgacgkffaaPAllKinds
namespace Go.Proofs.Ytbmgglgacgkffaa.PAll
open Go.RowKit Go.Proofs.YtbmgglgacgkffaaW.PrintWords Go.Proofs.YtbmgglgacgkffaaW.PrintLast Go.Proofs.Ytbmgglgacgkffaa.PAll Go.Proofs.Ytbmgglgacgkffaa.Open
def hogsheadlaw01_VlqRowBack.Pure : Prop := ∀ (a0 : List ByteArray) (a1 : ByteArray), (os_s.wf a0) → (a1.size ≤ maxLen) → (os_s.sz a0) → (a1.size ≤ 140737488351232) → ∃ k, hogsheadlaw01_VlqRowBack.f k a0 a1 = some true
def hogsheadlaw01_VlqRowBack.PureUpto : Prop := ∀ (a0 : List ByteArray) (a1 : ByteArray), (os_s.wf a0) → (a1.size ≤ maxLen) → (os_s.wt a0 + a1.size + 1 ≤ 1048576) → ∃ k, hogsheadlaw01_VlqRowBack.f k a0 a1 = some true
end Go.Proofs.Ytbmgglgacgkffaa.PAll
