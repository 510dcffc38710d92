/- What a reading of each argument gives, and what is left to prove of each law, over numbers and lists alone. Laid by a program of this session (hrows.py). -/
import Derived.Test.YtlfonfceaiiinaaPAllx4
import Derived.Test.YtlfonfceaiiinaaPAllKinds
namespace Go.Proofs.Ytlfonfceaiiinaa.PAll
open Go.RowKit Go.Proofs.YtlfonfceaiiinaaW.PrintWords Go.Proofs.YtlfonfceaiiinaaW.PrintLast Go.Proofs.Ytlfonfceaiiinaa.PAll Go.Proofs.Ytlfonfceaiiinaa.Open
def hogsheadlaw19_CountSums.Pure : Prop := ∀ (a0 : List (S29)) (a1 : List (S29)), (os_o29.wf a0) → (os_o29.wf a1) → (os_o29.sz a0) → (os_o29.sz a1) → ∃ k, hogsheadlaw19_CountSums.f k a0 a1 = some true
def hogsheadlaw19_CountSums.PureUpto : Prop := ∀ (a0 : List (S29)) (a1 : List (S29)), (os_o29.wf a0) → (os_o29.wf a1) → (os_o29.wt a0 + os_o29.wt a1 ≤ 1048576) → ∃ k, hogsheadlaw19_CountSums.f k a0 a1 = some true
end Go.Proofs.Ytlfonfceaiiinaa.PAll
