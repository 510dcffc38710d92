/- What a reading of each argument gives, and what is left to prove of each law, over numbers and lists alone. Laid by a program of this session (hrows.py). -/
import Derived.Test.YtmaojfeikbdkhaaPAllx7
import Derived.Test.YtmaojfeikbdkhaaPAllKinds
namespace Go.Proofs.Ytmaojfeikbdkhaa.PAll
open Go.RowKit Go.Proofs.YtmaojfeikbdkhaaW.PrintWords Go.Proofs.YtmaojfeikbdkhaaW.PrintLast Go.Proofs.Ytmaojfeikbdkhaa.PAll Go.Proofs.Ytmaojfeikbdkhaa.Open
def hogsheadlaw08_DiskActs.Pure : Prop := ∀ (a0 : S27), (o27.wf a0) → (o27.sz a0) → ∃ k, hogsheadlaw08_DiskActs.f k a0.f0.f0 a0.f0.f1 a0.f0.f2 a0.f0.f3 a0.f1 a0.f2 a0.f3 = some true
def hogsheadlaw08_DiskActs.PureUpto : Prop := ∀ (a0 : S27), (o27.wf a0) → (o27.wt a0 ≤ 1048576) → ∃ k, hogsheadlaw08_DiskActs.f k a0.f0.f0 a0.f0.f1 a0.f0.f2 a0.f0.f3 a0.f1 a0.f2 a0.f3 = some true
end Go.Proofs.Ytmaojfeikbdkhaa.PAll
