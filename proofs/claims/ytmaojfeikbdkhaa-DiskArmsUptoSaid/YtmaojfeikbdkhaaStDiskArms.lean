/- What a reading of each argument gives, and what is left to prove of each law, over numbers and lists alone. Laid by a program of this session (hrows.py). -/
import Derived.Test.YtmaojfeikbdkhaaPAllx11
import Derived.Test.YtmaojfeikbdkhaaPAllKinds
namespace Go.Proofs.Ytmaojfeikbdkhaa.PAll
open Go.RowKit Go.Proofs.YtmaojfeikbdkhaaW.PrintWords Go.Proofs.YtmaojfeikbdkhaaW.PrintLast Go.Proofs.Ytmaojfeikbdkhaa.PAll Go.Proofs.Ytmaojfeikbdkhaa.Open
def hogsheadlaw08_DiskArms.Pure : Prop := ∀ (a0 : S25) (a1 : Int) (a2 : List ByteArray), (o25.wf a0) → ((Lit.int .i64 a1).wf = true) → (os_s.wf a2) → (o25.sz a0) → (os_s.sz a2) → ∃ k, hogsheadlaw08_DiskArms.f k a0.f0 a0.f1 a0.f2 a0.f3 a1 a2 = some true
def hogsheadlaw08_DiskArms.PureUpto : Prop := ∀ (a0 : S25) (a1 : Int) (a2 : List ByteArray), (o25.wf a0) → ((Lit.int .i64 a1).wf = true) → (os_s.wf a2) → (o25.wt a0 + 1 + os_s.wt a2 ≤ 1048576) → ∃ k, hogsheadlaw08_DiskArms.f k a0.f0 a0.f1 a0.f2 a0.f3 a1 a2 = some true
end Go.Proofs.Ytmaojfeikbdkhaa.PAll
