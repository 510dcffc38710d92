/- What a reading of each argument gives, and what is left to prove of each law, over numbers and lists alone. Laid by a program of this session (hrows.py). -/
import Derived.Test.YtmjmmgefkebggaaPAllx33
import Derived.Test.YtmjmmgefkebggaaPAllKinds
namespace Go.Proofs.Ytmjmmgefkebggaa.PAll
open Go.RowKit Go.Proofs.YtmjmmgefkebggaaW.PrintWords Go.Proofs.YtmjmmgefkebggaaW.PrintLast Go.Proofs.Ytmjmmgefkebggaa.PAll Go.Proofs.Ytmjmmgefkebggaa.Open
def hogsheadlaw17_DeedWrites.Pure : Prop := ∀ (a0 : ByteArray) (a1 : ByteArray) (a2 : List (S54)), (a0.size ≤ maxLen) → (a1.size ≤ maxLen) → (os_o54.wf a2) → (a0.size ≤ 140737488351232) → (a1.size ≤ 140737488351232) → (os_o54.sz a2) → ∃ k, hogsheadlaw17_DeedWrites.f k a0 a1 a2 = some true
def hogsheadlaw17_DeedWrites.PureUpto : Prop := ∀ (a0 : ByteArray) (a1 : ByteArray) (a2 : List (S54)), (a0.size ≤ maxLen) → (a1.size ≤ maxLen) → (os_o54.wf a2) → (a0.size + 1 + a1.size + 1 + os_o54.wt a2 ≤ 1048576) → ∃ k, hogsheadlaw17_DeedWrites.f k a0 a1 a2 = some true
end Go.Proofs.Ytmjmmgefkebggaa.PAll
