/- Helpers of does. -/
import Derived.Test.YtlfonfceaiiinaaIxOps
namespace Go.Proofs.Ytlfonfceaiiinaa.PAll
open Go.RowKit Go.Proofs.YtlfonfceaiiinaaW.PrintWords Go.Proofs.YtlfonfceaiiinaaW.PrintLast Go.Proofs.YtlfonfceaiiinaaW.PrintMore
set_option linter.unusedVariables false
set_option linter.unusedSimpArgs false
attribute [local irreducible] World.setCell
attribute [local go_sem high] eqA75
theorem turn_good {n : Nat} {l0 : List Vol} {l1 : List Nam} (h : Good n l0 l1) (i : Int) (ci : 0 ≤ i) (cl : i < (l0.length : Int)) (x : Vol) (L0 : List Vol) (e0 : L0 = l0.set i.toNat x) (ho : (rd_T45 l0 i).f4 ≠ 4 ∧ (rd_T45 l0 i).f4 ≠ 5) (hn : x.f4 ≠ 4 ∧ x.f4 ≠ 5) (hx : VolOk (rd_T45 l0 i) → VolOk x) (h5 : x.f5 = (rd_T45 l0 i).f5) : Good (n + 1) L0 l1 := by
  have gi : i.toNat < l0.length := by omega
  have ei := rdVol l0 i gi
  have vi : VolOk (rd_T45 l0 i) := by rw [ei]; exact h.1 _ (List.getElem_mem _)
  have pi : (rd_T45 l0 i).f5.length ≤ n := by rw [ei]; exact h.2.2.2.2 _ (List.getElem_mem _)
  subst e0
  exact (h.turn i.toNat gi x (hx vi) (by rw [← ei]; exact ho) hn (by rw [h5]; exact pi)).more (by omega)
theorem keep_good {n : Nat} {l0 : List Vol} {l1 : List Nam} (h : Good n l0 l1) (i : Int) (ci : 0 ≤ i) (cl : i < (l0.length : Int)) (x : Vol) (L0 : List Vol) (e0 : L0 = l0.set i.toNat x) (h4 : x.f4 = (rd_T45 l0 i).f4) (h5 : x.f5 = (rd_T45 l0 i).f5) (h6 : x.f6.length = (rd_T45 l0 i).f6.length) : Good (n + 1) L0 l1 := by
  have gi : i.toNat < l0.length := by omega
  have ei := rdVol l0 i gi
  have pi : (rd_T45 l0 i).f5.length ≤ n := by rw [ei]; exact h.2.2.2.2 _ (List.getElem_mem _)
  subst e0
  exact h.keep i.toNat gi x (by rw [h4, ei]) (by rw [h6, ei]) (by rw [h5]; omega) (by omega) h.2.2.2.1

theorem add_off (g n : Nat) : (⟨g, 0, none⟩ : Addr).add n = ⟨g, n, none⟩ := by
  by_cases h : n = 0
  · subst h; simp [Addr.add]
  · simp [Addr.add, h]

theorem infoPlace : (Try.prog.info? 75).map (fun i => (i.zero, i.size, i.bytes)) = some (some (.agg #[.int .i64 0, .int .i64 0]), 2, 16) := by kernel_rfl
end Go.Proofs.Ytlfonfceaiiinaa.PAll
