/- Which shards may be, their bytes, and the shard of bytes, are as the document says. -/
import Derived.Test.YtffjbbedjddpmaaStShelfRecords
import Derived.Test.YtffjbbedjddpmaaAllShelfRecords
namespace Go.Proofs.Ytffjbbedjddpmaa.Pure
open Go.RowKit Go.Proofs.YtffjbbedjddpmaaW.PrintWords Go.Proofs.YtffjbbedjddpmaaW.PrintLast Go.Proofs.Ytffjbbedjddpmaa.PAll Go.Proofs.Ytffjbbedjddpmaa.Open Go.Proofs.Ytffjbbedjddpmaa.PB Go.Proofs.Ytffjbbedjddpmaa.DP Go.Proofs.Ytffjbbedjddpmaa.VP Go.Proofs.Ytffjbbedjddpmaa.CP Go.Proofs.Ytffjbbedjddpmaa.SH

theorem ShelfRecords : hogsheadlaw10_ShelfRecords.Pure := by
  intro x s hx hs hz hz2
  refine ⟨140737488352000, ?_⟩
  obtain ⟨k, hk⟩ := succ_of (show 0 < 140737488352000 by omega)
  unfold hogsheadlaw10_ShelfRecords.f
  rw [shown_is _ (by omega), Option.bind_some, record_is, Option.bind_some, rrecord_is _ _ _ _ (by omega), Option.bind_some, SH.take_is s (by omega) _ (by omega), Option.bind_some, SH.rtake_is s (by omega) _ (by omega), Option.bind_some, may_is, rmay_is, hk]
  simp only [hogsheadlaw10_ShelfRecords.j0, Option.bind_some]
  simp
end Go.Proofs.Ytffjbbedjddpmaa.Pure
