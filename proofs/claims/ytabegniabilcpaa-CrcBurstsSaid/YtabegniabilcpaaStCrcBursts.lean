/- What a reading of each argument gives, and what is left to prove of each law, over numbers and lists alone. Laid by a program of this session (hrows.py). -/
import Derived.Test.YtabegniabilcpaaPAllx3
import Derived.Test.YtabegniabilcpaaPAllKinds
namespace Go.Proofs.Ytabegniabilcpaa.PAll
open Go.RowKit Go.Proofs.YtabegniabilcpaaW.PrintWords Go.Proofs.YtabegniabilcpaaW.PrintLast Go.Proofs.Ytabegniabilcpaa.PAll Go.Proofs.Ytabegniabilcpaa.Open
def hogsheadlaw02_CrcBursts.Pure : Prop := ∀ (a0 : ByteArray) (a1 : Int) (a2 : Int), (a0.size ≤ maxLen) → ((Lit.int .i64 a1).wf = true) → ((Lit.int .u32 a2).wf = true) → (a0.size ≤ 140737488351232) → hogsheadlaw02_CrcBursts.f a0 a1 a2 = some true
def hogsheadlaw02_CrcBursts.PureUpto : Prop := ∀ (a0 : ByteArray) (a1 : Int) (a2 : Int), (a0.size ≤ maxLen) → ((Lit.int .i64 a1).wf = true) → ((Lit.int .u32 a2).wf = true) → (a0.size + 1 + 1 + 1 ≤ 1048576) → hogsheadlaw02_CrcBursts.f a0 a1 a2 = some true
end Go.Proofs.Ytabegniabilcpaa.PAll
