/- What a reading of each argument gives, and what is left to prove of each law, over numbers and lists alone. Laid by a program of this session (hrows.py). -/
import Derived.Test.YtabegniabilcpaaPAllx1
import Derived.Test.YtabegniabilcpaaPAllKinds
namespace Go.Proofs.Ytabegniabilcpaa.PAll
open Go.RowKit Go.Proofs.YtabegniabilcpaaW.PrintWords Go.Proofs.YtabegniabilcpaaW.PrintLast Go.Proofs.Ytabegniabilcpaa.PAll Go.Proofs.Ytabegniabilcpaa.Open
def hogsheadlaw02_CrcSteps.Pure : Prop := ∀ (a0 : Int) (a1 : Int), ((Lit.int .u32 a0).wf = true) → ((Lit.int .u8 a1).wf = true) → ∃ k, hogsheadlaw02_CrcSteps.f k a0 a1 = some true
def hogsheadlaw02_CrcSteps.PureUpto : Prop := ∀ (a0 : Int) (a1 : Int), ((Lit.int .u32 a0).wf = true) → ((Lit.int .u8 a1).wf = true) → (1 + 1 ≤ 1048576) → ∃ k, hogsheadlaw02_CrcSteps.f k a0 a1 = some true
end Go.Proofs.Ytabegniabilcpaa.PAll
