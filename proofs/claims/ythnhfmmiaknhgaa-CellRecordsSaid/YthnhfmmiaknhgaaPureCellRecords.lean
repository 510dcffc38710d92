/- A record's bytes, and the record of bytes, are as the document says. -/
import Derived.Test.YthnhfmmiaknhgaaStCellRecords
import Derived.Test.YthnhfmmiaknhgaaCellDocA
namespace Go.Proofs.Ythnhfmmiaknhgaa.Pure
open Go.RowKit Go.Proofs.YthnhfmmiaknhgaaW.PrintWords Go.Proofs.YthnhfmmiaknhgaaW.PrintLast Go.Proofs.Ythnhfmmiaknhgaa.PAll Go.Proofs.Ythnhfmmiaknhgaa.Open Go.Proofs.Ythnhfmmiaknhgaa.PB Go.Proofs.Ythnhfmmiaknhgaa.DP Go.Proofs.Ythnhfmmiaknhgaa.VP Go.Proofs.Ythnhfmmiaknhgaa.CP Go.Proofs.Ythnhfmmiaknhgaa.CE

theorem CellRecords : hogsheadlaw09_CellRecords.Pure := by
  intro t v s ht hv hs hv2 hs2
  obtain ⟨h0, h1⟩ := wf_u64 ht
  obtain ⟨t, rfl⟩ := Int.eq_ofNat_of_zero_le h0
  refine ⟨140737488351400, ?_⟩
  obtain ⟨k, hk⟩ := succ_of (show 0 < 140737488351400 by omega)
  unfold hogsheadlaw09_CellRecords.f
  rw [shown_is _ (by omega), Option.bind_some, record_is t (by omega) v, Option.bind_some, rrecord_is t (by omega) v _ (by omega), Option.bind_some, take_is s (by omega) _ (by omega), Option.bind_some, rtake_is s (by omega) _ (by omega), Option.bind_some, hk, hogsheadlaw09_CellRecords.j0]
  simp
end Go.Proofs.Ythnhfmmiaknhgaa.Pure
