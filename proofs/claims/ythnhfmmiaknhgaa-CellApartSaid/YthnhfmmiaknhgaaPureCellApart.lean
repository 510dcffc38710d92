/- A write to a cell changes no slot besides its two. -/
import Derived.Test.YthnhfmmiaknhgaaStCellApart
import Derived.Test.YthnhfmmiaknhgaaCellLaws
namespace Go.Proofs.Ythnhfmmiaknhgaa.Pure
open Go.RowKit Go.Proofs.YthnhfmmiaknhgaaW.PrintWords Go.Proofs.YthnhfmmiaknhgaaW.PrintLast Go.Proofs.Ythnhfmmiaknhgaa.PAll Go.Proofs.Ythnhfmmiaknhgaa.Open Go.Proofs.Ythnhfmmiaknhgaa.PB Go.Proofs.Ythnhfmmiaknhgaa.DP Go.Proofs.Ythnhfmmiaknhgaa.VP Go.Proofs.Ythnhfmmiaknhgaa.CP Go.Proofs.Ythnhfmmiaknhgaa.CE

theorem get_apart (l0 : List ByteArray) (l1 : List W) (x : W) (slot : Int) (h : x.f0 ≠ slot) : getD l0 (l1 ++ [x]) slot = getD l0 l1 slot := by
  by_cases c : 0 ≤ slot ∧ slot < (l0.length : Int)
  · rw [get_snoc l0 l1 x slot c, if_neg h]
  · rw [get_out _ _ _ c, get_out _ _ _ c]
theorem CellApart : hogsheadlaw09_CellApart.Pure := by
  intro a hw hs
  obtain ⟨⟨⟨h0, hf0⟩, ⟨h1, hf1⟩, _, _⟩, _, hv, _⟩ := hs
  have hf : Fits a.f0.f0 a.f0.f1 := ⟨hf0, fun x hx => (hf1 x hx).2⟩
  have hbi := wf_in hw.2.1
  generalize a.f0.f0 = l0 at *
  generalize a.f0.f1 = l1 at *
  generalize a.f1 = base at *
  generalize a.f2 = v at *
  generalize a.f3 = slot at *
  refine ⟨422212465054200, ?_⟩
  obtain ⟨k, hk⟩ := succ_of (show 1 < 422212465054200 by omega)
  obtain ⟨k, rfl⟩ := succ_of (show 0 < k by omega)
  unfold hogsheadlaw09_CellApart.f
  rw [shown_is _ (by omega), Option.bind_some, hk]
  by_cases c0 : slot = base
  · rw [if_pos c0, hogsheadlaw09_CellApart.j0, if_pos rfl]
  · rw [if_neg c0, hogsheadlaw09_CellApart.j0]
    by_cases c1 : slot = wrap64 (base + 1)
    · rw [if_pos (by simpa using c1)]
    · rw [if_neg (by simpa using c1), rget_is _ _ _ _ _ (by omega) _ (by omega), Option.bind_some, write_is _ _ _ _ _ _ hf (by omega) (by omega) _ (by omega), Option.bind_some]
      have hwa := write_any l0 l1 a.f0.f2 a.f0.f3 base v
      have hg : getD (writeS l0 l1 a.f0.f2 a.f0.f3 base v).1 (writeS l0 l1 a.f0.f2 a.f0.f3 base v).2.1 slot = getD l0 l1 slot ∧ (writeS l0 l1 a.f0.f2 a.f0.f3 base v).2.1.length ≤ l1.length + 1 := by
        rcases hwa with ⟨e0, e1 | ⟨hin, _, _, _, e1⟩⟩
        · rw [e0, e1]
          exact ⟨rfl, by omega⟩
        · rw [e0, e1, List.length_append, List.length_singleton]
          refine ⟨get_apart _ _ _ _ ?_, by omega⟩
          have hb := base_wrap hin (by omega)
          rw [hb] at c1
          dsimp only
          rcases oslot_or (curS l0 l1 base) base with h | h <;> rw [h] <;> intro e
          · exact c0 e.symm
          · exact c1 e.symm
      rw [rget_is _ _ _ _ _ (by omega) _ (by omega), Option.bind_some, hg.1, if_pos rfl, hogsheadlaw09_CellApart.j1]
      simp
end Go.Proofs.Ythnhfmmiaknhgaa.Pure
