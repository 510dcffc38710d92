/- What was written is read, at once and behind a flush. -/
import Derived.Test.YthnhfmmiaknhgaaStCellReads
import Derived.Test.YthnhfmmiaknhgaaCellLaws
namespace Go.Proofs.Ythnhfmmiaknhgaa.Pure
open Go.RowKit Go.Proofs.YthnhfmmiaknhgaaW.PrintWords Go.Proofs.YthnhfmmiaknhgaaW.PrintLast Go.Proofs.Ythnhfmmiaknhgaa.PAll Go.Proofs.Ythnhfmmiaknhgaa.Open Go.Proofs.Ythnhfmmiaknhgaa.PB Go.Proofs.Ythnhfmmiaknhgaa.DP Go.Proofs.Ythnhfmmiaknhgaa.VP Go.Proofs.Ythnhfmmiaknhgaa.CP Go.Proofs.Ythnhfmmiaknhgaa.CE

theorem CellReads : hogsheadlaw09_CellReads.Pure := by
  intro d base v hw hb hv hs hv2
  obtain ⟨⟨h0, hf0⟩, ⟨h1, hf1⟩, _, _⟩ := hs
  have hf : Fits d.f0 d.f1 := ⟨hf0, fun x hx => (hf1 x hx).2⟩
  generalize d.f0 = l0 at *
  generalize d.f1 = l1 at *
  refine ⟨422212465054200, ?_⟩
  obtain ⟨k, hk⟩ := succ_of (show 0 < 422212465054200 by omega)
  unfold hogsheadlaw09_CellReads.f
  rw [shown_is _ (by omega), Option.bind_some, read_is _ _ _ _ _ hf (by omega) _ (by omega), Option.bind_some, write_is _ _ _ _ _ _ hf (by omega) (by omega) _ (by omega), Option.bind_some]
  by_cases c : (writeS l0 l1 d.f2 d.f3 base v).2.2.2.2 = 0
  · obtain ⟨hin, hsz, ht, e3, e2, w0, w1, w3, w2⟩ := write_ok c
    have hcw := cur_write hin (L v) (by rw [L_length]; exact hsz) ht
    have hfx : Fits l0 (l1 ++ [⟨oslot (curS l0 l1 base) base, B (recB ((curS l0 l1 base).2.1 + 1) (L v))⟩]) := fits_snoc hf _ (by have := rec_size ((curS l0 l1 base).2.1 + 1) (L v) (by rw [L_length]; exact hsz); show (B _).size ≤ _; omega)
    rw [if_pos c, w0, w1, w3]
    have hl1 : (l1 ++ [(⟨oslot (curS l0 l1 base) base, B (recB ((curS l0 l1 base).2.1 + 1) (L v))⟩ : W)]).length = l1.length + 1 := by simp
    clear w0 w1 w2 w3 c
    generalize l1 ++ [(⟨oslot (curS l0 l1 base) base, B (recB ((curS l0 l1 base).2.1 + 1) (L v))⟩ : W)] = l1' at *
    have hr : readS l0 l1' base = (v, (((curS l0 l1 base).2.1 + 1 : Nat) : Int), 0) := by
      unfold readS
      rw [if_pos hin, hcw, if_pos rfl, B_L]
    rw [read_is _ _ _ _ _ hfx (by omega) _ (by omega), Option.bind_some, rflush_is _ _ _ _ (by omega) (by omega) _ (by omega), if_neg (by decide), Option.bind_some]
    dsimp only
    rw [read_is _ _ _ _ _ (fits_flush hfx) (by rw [wrs_length]; omega) _ (by omega), Option.bind_some, readS_flush, hr]
    dsimp only
    rw [if_pos rfl, if_pos rfl, if_pos rfl, if_pos rfl, if_pos rfl, if_pos rfl, if_pos rfl, hk]
    unfold readS
    rw [if_pos hin]
    by_cases ci : (curS l0 l1 base).2.2.2 = true
    · rw [if_pos ci]
      dsimp only
      rw [if_pos rfl, hogsheadlaw09_CellReads.j0]
      have ew : IntKind.u64.wrap (((curS l0 l1 base).2.1 : Int) + 1) = (((curS l0 l1 base).2.1 + 1 : Nat) : Int) := by rw [IntKind.wrap_u64]; omega
      rw [ew]
      simp
    · rw [if_neg ci]
      dsimp only
      rw [if_neg (by decide), hogsheadlaw09_CellReads.j0]
  · rw [if_neg c]
end Go.Proofs.Ythnhfmmiaknhgaa.Pure
