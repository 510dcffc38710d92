/- What a reading of each argument gives, and what is left to prove of each law, over numbers and lists alone. Laid by a program of this session (hrows.py). -/
import Derived.Test.YtffjbbedjddpmaaPAllx47
import Derived.Test.YtffjbbedjddpmaaPAllKinds
namespace Go.Proofs.Ytffjbbedjddpmaa.PAll
open Go.RowKit Go.Proofs.YtffjbbedjddpmaaW.PrintWords Go.Proofs.YtffjbbedjddpmaaW.PrintLast Go.Proofs.Ytffjbbedjddpmaa.PAll Go.Proofs.Ytffjbbedjddpmaa.Open
def hogsheadlaw10_ShelfLasts.Pure : Prop := ∀ (a0 : S57), (o57.wf a0) → (o57.sz a0) → ∃ k, hogsheadlaw10_ShelfLasts.f k a0.f0.f0 a0.f0.f1 a0.f0.f2 a0.f0.f3 a0.f1.f0 a0.f1.f1 a0.f1.f2 a0.f2 a0.f3 a0.f4 = some true
def hogsheadlaw10_ShelfLasts.PureUpto : Prop := ∀ (a0 : S57), (o57.wf a0) → (o57.wt a0 ≤ 1048576) → ∃ k, hogsheadlaw10_ShelfLasts.f k a0.f0.f0 a0.f0.f1 a0.f0.f2 a0.f0.f3 a0.f1.f0 a0.f1.f1 a0.f1.f2 a0.f2 a0.f3 a0.f4 = some true
end Go.Proofs.Ytffjbbedjddpmaa.PAll
