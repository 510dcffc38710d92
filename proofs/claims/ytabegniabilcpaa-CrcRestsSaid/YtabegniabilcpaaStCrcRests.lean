/- What a reading of each argument gives, and what is left to prove of each law, over numbers and lists alone. Laid by a program of this session (hrows.py). -/
import Derived.Test.YtabegniabilcpaaPAllx2
import Derived.Test.YtabegniabilcpaaPAllKinds
namespace Go.Proofs.Ytabegniabilcpaa.PAll
open Go.RowKit Go.Proofs.YtabegniabilcpaaW.PrintWords Go.Proofs.YtabegniabilcpaaW.PrintLast Go.Proofs.Ytabegniabilcpaa.PAll Go.Proofs.Ytabegniabilcpaa.Open
def hogsheadlaw02_CrcRests.Pure : Prop := ∀ (a0 : ByteArray), (a0.size ≤ maxLen) → (a0.size ≤ 140737488351232) → ∃ k, hogsheadlaw02_CrcRests.f k a0 = some true
def hogsheadlaw02_CrcRests.PureUpto : Prop := ∀ (a0 : ByteArray), (a0.size ≤ maxLen) → (a0.size + 1 ≤ 1048576) → ∃ k, hogsheadlaw02_CrcRests.f k a0 = some true
end Go.Proofs.Ytabegniabilcpaa.PAll
