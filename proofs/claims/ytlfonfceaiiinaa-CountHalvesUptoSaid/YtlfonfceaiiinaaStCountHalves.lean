/- What a reading of each argument gives, and what is left to prove of each law, over numbers and lists alone. Laid by a program of this session (hrows.py). -/
import Derived.Test.YtlfonfceaiiinaaPAllx27
import Derived.Test.YtlfonfceaiiinaaPAllKinds
namespace Go.Proofs.Ytlfonfceaiiinaa.PAll
open Go.RowKit Go.Proofs.YtlfonfceaiiinaaW.PrintWords Go.Proofs.YtlfonfceaiiinaaW.PrintLast Go.Proofs.Ytlfonfceaiiinaa.PAll Go.Proofs.Ytlfonfceaiiinaa.Open
def hogsheadlaw19_CountHalves.Pure : Prop := ∀ (a0 : List ByteArray) (a1 : List ByteArray), (os_s.wf a0) → (os_s.wf a1) → (os_s.sz a0) → (os_s.sz a1) → ∃ k, hogsheadlaw19_CountHalves.f k a0 a1 = some true
def hogsheadlaw19_CountHalves.PureUpto : Prop := ∀ (a0 : List ByteArray) (a1 : List ByteArray), (os_s.wf a0) → (os_s.wf a1) → (os_s.wt a0 + os_s.wt a1 ≤ 1048576) → ∃ k, hogsheadlaw19_CountHalves.f k a0 a1 = some true
end Go.Proofs.Ytlfonfceaiiinaa.PAll
