/- What a reading of each argument gives, and what is left to prove of each law, over numbers and lists alone. Laid by a program of this session (hrows.py). -/
import Derived.Test.YtabegniabilcpaaPAllx1
import Derived.Test.YtabegniabilcpaaPAllKinds
namespace Go.Proofs.Ytabegniabilcpaa.PAll
open Go.RowKit Go.Proofs.YtabegniabilcpaaW.PrintWords Go.Proofs.YtabegniabilcpaaW.PrintLast Go.Proofs.Ytabegniabilcpaa.PAll Go.Proofs.Ytabegniabilcpaa.Open
def hogsheadlaw02_CrcLines.Pure : Prop := ∀ (a0 : S30), (o30.wf a0) → (o30.sz a0) → ∃ k, hogsheadlaw02_CrcLines.f k a0.f0 a0.f1 a0.f2 a0.f3 = some true
def hogsheadlaw02_CrcLines.PureUpto : Prop := ∀ (a0 : S30), (o30.wf a0) → (o30.wt a0 ≤ 1048576) → ∃ k, hogsheadlaw02_CrcLines.f k a0.f0 a0.f1 a0.f2 a0.f3 = some true
end Go.Proofs.Ytabegniabilcpaa.PAll
