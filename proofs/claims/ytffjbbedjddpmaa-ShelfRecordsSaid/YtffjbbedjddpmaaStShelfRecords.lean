/- What a reading of each argument gives, and what is left to prove of each law, over numbers and lists alone. Laid by a program of this session (hrows.py). -/
import Derived.Test.YtffjbbedjddpmaaPAllx26
import Derived.Test.YtffjbbedjddpmaaPAllKinds
namespace Go.Proofs.Ytffjbbedjddpmaa.PAll
open Go.RowKit Go.Proofs.YtffjbbedjddpmaaW.PrintWords Go.Proofs.YtffjbbedjddpmaaW.PrintLast Go.Proofs.Ytffjbbedjddpmaa.PAll Go.Proofs.Ytffjbbedjddpmaa.Open
def hogsheadlaw10_ShelfRecords.Pure : Prop := ∀ (a0 : S43) (a1 : ByteArray), (o43.wf a0) → (a1.size ≤ maxLen) → (o43.sz a0) → (a1.size ≤ 140737488351232) → ∃ k, hogsheadlaw10_ShelfRecords.f k a0.f0 a0.f1 a0.f2 a1 = some true
def hogsheadlaw10_ShelfRecords.PureUpto : Prop := ∀ (a0 : S43) (a1 : ByteArray), (o43.wf a0) → (a1.size ≤ maxLen) → (o43.wt a0 + a1.size + 1 ≤ 1048576) → ∃ k, hogsheadlaw10_ShelfRecords.f k a0.f0 a0.f1 a0.f2 a1 = some true
end Go.Proofs.Ytffjbbedjddpmaa.PAll
