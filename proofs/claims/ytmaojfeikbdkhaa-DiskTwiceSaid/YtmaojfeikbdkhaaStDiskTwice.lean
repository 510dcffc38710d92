/- What a reading of each argument gives, and what is left to prove of each law, over numbers and lists alone. Laid by a program of this session (hrows.py). -/
import Derived.Test.YtmaojfeikbdkhaaPAllx5
import Derived.Test.YtmaojfeikbdkhaaPAllKinds
namespace Go.Proofs.Ytmaojfeikbdkhaa.PAll
open Go.RowKit Go.Proofs.YtmaojfeikbdkhaaW.PrintWords Go.Proofs.YtmaojfeikbdkhaaW.PrintLast Go.Proofs.Ytmaojfeikbdkhaa.PAll Go.Proofs.Ytmaojfeikbdkhaa.Open
def hogsheadlaw08_DiskTwice.Pure : Prop := ∀ (a0 : S60), (o60.wf a0) → (o60.sz a0) → ∃ k, hogsheadlaw08_DiskTwice.f k a0.f0.f0 a0.f0.f1 a0.f0.f2 a0.f0.f3 a0.f1 a0.f2 a0.f3 = some true
def hogsheadlaw08_DiskTwice.PureUpto : Prop := ∀ (a0 : S60), (o60.wf a0) → (o60.wt a0 ≤ 1048576) → ∃ k, hogsheadlaw08_DiskTwice.f k a0.f0.f0 a0.f0.f1 a0.f0.f2 a0.f0.f3 a0.f1 a0.f2 a0.f3 = some true
end Go.Proofs.Ytmaojfeikbdkhaa.PAll
