/- What a reading of each argument gives, and what is left to prove of each law, over numbers and lists alone. Laid by a program of this session (hrows.py). -/
import Derived.Test.YtbmgglgacgkffaaPAllx1
import Derived.Test.YtbmgglgacgkffaaPAllKinds
namespace Go.Proofs.Ytbmgglgacgkffaa.PAll
open Go.RowKit Go.Proofs.YtbmgglgacgkffaaW.PrintWords Go.Proofs.YtbmgglgacgkffaaW.PrintLast Go.Proofs.Ytbmgglgacgkffaa.PAll Go.Proofs.Ytbmgglgacgkffaa.Open
def hogsheadlaw01_VlqTakes.Pure : Prop := ∀ (a0 : ByteArray), (a0.size ≤ maxLen) → (a0.size ≤ 140737488351232) → ∃ k, hogsheadlaw01_VlqTakes.f k a0 = some true
def hogsheadlaw01_VlqTakes.PureUpto : Prop := ∀ (a0 : ByteArray), (a0.size ≤ maxLen) → (a0.size + 1 ≤ 1048576) → ∃ k, hogsheadlaw01_VlqTakes.f k a0 = some true
end Go.Proofs.Ytbmgglgacgkffaa.PAll
