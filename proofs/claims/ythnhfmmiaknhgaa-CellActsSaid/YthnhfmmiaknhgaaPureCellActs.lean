/- Whatever disk there is, what a cell reads, and what a write makes of it, is as the document says. -/
import Derived.Test.YthnhfmmiaknhgaaStCellActs
import Derived.Test.YthnhfmmiaknhgaaCellLaws
namespace Go.Proofs.Ythnhfmmiaknhgaa.Pure
open Go.RowKit Go.Proofs.YthnhfmmiaknhgaaW.PrintWords Go.Proofs.YthnhfmmiaknhgaaW.PrintLast Go.Proofs.Ythnhfmmiaknhgaa.PAll Go.Proofs.Ythnhfmmiaknhgaa.Open Go.Proofs.Ythnhfmmiaknhgaa.PB Go.Proofs.Ythnhfmmiaknhgaa.DP Go.Proofs.Ythnhfmmiaknhgaa.VP Go.Proofs.Ythnhfmmiaknhgaa.CP Go.Proofs.Ythnhfmmiaknhgaa.CE

theorem CellActs : hogsheadlaw09_CellActs.Pure := by
  intro d base v hw hb hv hs hv2
  obtain ⟨⟨h0, hf0⟩, ⟨h1, hf1⟩, _, _⟩ := hs
  have hf : Fits d.f0 d.f1 := ⟨hf0, fun x hx => (hf1 x hx).2⟩
  generalize d.f0 = l0 at *
  generalize d.f1 = l1 at *
  have hwa := write_any l0 l1 d.f2 d.f3 base v
  refine ⟨422212465054200, ?_⟩
  obtain ⟨k, hk⟩ := succ_of (show 0 < 422212465054200 by omega)
  unfold hogsheadlaw09_CellActs.f
  rw [shown_is _ (by omega), Option.bind_some, read_is _ _ _ _ _ hf (by omega) _ (by omega), Option.bind_some, rread_is _ _ _ _ _ hf (by omega) (by omega) _ (by omega), Option.bind_some, write_is _ _ _ _ _ _ hf (by omega) (by omega) _ (by omega), Option.bind_some, rwrite_is _ _ _ _ _ _ hf (by omega) (by omega) _ (by omega), Option.bind_some]
  rw [dsame_refl _ _ _ _ (by rw [hwa.1]; omega) ?_ _ ?_, Option.bind_some, hk, hogsheadlaw09_CellActs.j0]
  · simp
  · rcases hwa.2 with h | h
    · rw [h]; omega
    · rw [h.2.2.2.2, List.length_append, List.length_singleton]; omega
  · rw [hwa.1]
    rcases hwa.2 with h | h
    · rw [h]; omega
    · rw [h.2.2.2.2, List.length_append, List.length_singleton]; omega
end Go.Proofs.Ythnhfmmiaknhgaa.Pure
