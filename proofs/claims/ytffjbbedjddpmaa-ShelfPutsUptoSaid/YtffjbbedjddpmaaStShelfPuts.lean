/- What a reading of each argument gives, and what is left to prove of each law, over numbers and lists alone. Laid by a program of this session (hrows.py). -/
import Derived.Test.YtffjbbedjddpmaaPAllx43
import Derived.Test.YtffjbbedjddpmaaPAllKinds
namespace Go.Proofs.Ytffjbbedjddpmaa.PAll
open Go.RowKit Go.Proofs.YtffjbbedjddpmaaW.PrintWords Go.Proofs.YtffjbbedjddpmaaW.PrintLast Go.Proofs.Ytffjbbedjddpmaa.PAll Go.Proofs.Ytffjbbedjddpmaa.Open
def hogsheadlaw10_ShelfPuts.Pure : Prop := ∀ (a0 : S25) (a1 : S43) (a2 : S27), (o25.wf a0) → (o43.wf a1) → (o27.wf a2) → (o25.sz a0) → (o43.sz a1) → (o27.sz a2) → ∃ k, hogsheadlaw10_ShelfPuts.f k a0.f0 a0.f1 a0.f2 a0.f3 a1.f0 a1.f1 a1.f2 a2.f0 a2.f1 = some true
def hogsheadlaw10_ShelfPuts.PureUpto : Prop := ∀ (a0 : S25) (a1 : S43) (a2 : S27), (o25.wf a0) → (o43.wf a1) → (o27.wf a2) → (o25.wt a0 + o43.wt a1 + o27.wt a2 ≤ 1048576) → ∃ k, hogsheadlaw10_ShelfPuts.f k a0.f0 a0.f1 a0.f2 a0.f3 a1.f0 a1.f1 a1.f2 a2.f0 a2.f1 = some true
end Go.Proofs.Ytffjbbedjddpmaa.PAll
