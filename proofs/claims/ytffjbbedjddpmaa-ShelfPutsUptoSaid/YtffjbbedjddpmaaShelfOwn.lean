/- What a slice of plain elements reads as abides the turn of a block that is no cells; a disk's box and an error's box, written. -/
import Derived.Test.YtffjbbedjddpmaaShelfIter
namespace Go.Proofs.Ytffjbbedjddpmaa.PAll
open Go.RowKit Go.Shelf Go.Proofs.YtffjbbedjddpmaaW.PrintWords Go.Proofs.YtffjbbedjddpmaaW.PrintLast Go.Proofs.YtffjbbedjddpmaaW.PrintMore
set_option linter.unusedVariables false
/-- Elements that lead to no row. -/
def Flat {α : Type} (d : Kd α) : Prop := ∀ W W' x cs, d.K W x cs → d.K W' x cs
theorem flat_string : Flat Kd.string := fun _ _ _ _ h => h
theorem flat_write : Flat k94 := fun _ _ _ _ h => h
theorem C_flat {α : Type} {d : Kd α} (hd : Flat d) {w w' : World} {A : Option Addr} {n : Nat} {xs : List α} (h : d.C w A n xs) (hc : ∀ a u, w.cell? a = some u → w'.cell? a = some u) : d.C w' A n xs := by
  obtain ⟨h1, h2, h3⟩ := h
  refine ⟨h1, h2, fun hn => ?_⟩
  obtain ⟨ad, e, hj⟩ := h3 hn
  refine ⟨ad, e, fun j p hp => ?_⟩
  obtain ⟨c, hs, hk, hcell⟩ := hj j p hp
  exact ⟨c, hs, hd _ _ _ _ hk, fun i u hu => hc _ _ (hcell i u hu)⟩
theorem cell_none {W : World} {a : Addr} {o : Obj} (h : W.heap[a.block]? = some o) (ho : o.isCells = false) : W.cell? a = none := by
  unfold World.cell?
  rw [h]
  cases o <;> first | rfl | (simp [Obj.isCells] at ho)
theorem F_flat_own {α : Type} {d : Kd α} (hd : Flat d) {A B : World} {row : Option Nat} {ok : Nat → Prop} {Ad : Option Addr} {n : Nat} {xs : List α} (h : Kd.F d A ok Ad n xs) (hg : A.grownBy B row) (hr : ∀ r, row = some r → ∃ o : Obj, A.heap[r]? = some o ∧ o.isCells = false) : Kd.F d B ok Ad n xs := by
  cases row with
  | none => exact Kd.F_step h (fun k _ hlt => hg.block k hlt (by simp))
  | some r =>
    obtain ⟨o, ho, hc⟩ := hr r rfl
    intro W' hW'
    have hrA : r < A.heap.size := (Array.getElem?_eq_some_iff.1 ho).1
    have hrB : r < B.heap.size := Nat.lt_of_lt_of_le hrA hg.size
    by_cases hk : ok r
    · have hrW : r < W'.heap.size := by
        have := hW' r hk hrB
        rw [Array.getElem?_eq_getElem hrB] at this
        exact (Array.getElem?_eq_some_iff.1 this).1
      have h1 : d.C (W'.putObj r o) Ad n xs := h _ (fun k hok hlt => by
        by_cases e : k = r
        · subst e
          rw [World.putObj_heap_same hrW, ho]
        · rw [World.putObj_heap_other e, hW' k hok (Nat.lt_of_lt_of_le hlt hg.size)]
          exact hg.block k hlt (fun e' => e (Option.some.inj e')))
      refine C_flat hd h1 (fun a u hu => ?_)
      by_cases e : a.block = r
      · rw [cell_none (o := o) (by rw [e]; exact World.putObj_heap_same hrW) hc] at hu
        cases hu
      · rw [← hu]
        exact World.cell?_of_block (World.putObj_heap_other e).symm
    · exact h W' (fun k hok hlt => by
        rw [hW' k hok (Nat.lt_of_lt_of_le hlt hg.size)]
        exact hg.block k hlt (fun e' => hk (Option.some.inj e' ▸ hok)))
theorem V_flat_own {α : Type} {d : Kd α} (hd : Flat d) {e base : Nat} {A B : World} {row : Option Nat} {ok : Nat → Prop} {v : Value} {xs : List α} (h : Kd.V d e A base ok v xs) (hg : A.grownBy B row) (hr : ∀ r, row = some r → ∃ o : Obj, A.heap[r]? = some o ∧ o.isCells = false) : Kd.V d e B base ok v xs :=
  Kd.V_map h (fun _ hf => F_flat_own hd hf hg hr)
theorem V_base {α : Type} {d : Kd α} {e e' base base' : Nat} {W : World} {ok : Nat → Prop} {v : Value} {xs : List α} (h : Kd.V d e W base ok v xs) : Kd.V d e' W base' ok v xs := h
/-- The box of a disk and the box of an error, written. -/
theorem boxes_put {W : World} {n₀ g2 g3 t2 t3 : Nat} {a0 a1 a2 a3 a4 : Value} (v0 v1 v2 v3 v4 : Value) (h2 : W.heap[g2]? = some (.cells #[a0, a1, a2, a3] t2 (0, 0))) (h3 : W.heap[g3]? = some (.cells #[a4] t3 (0, 0))) (hne : g2 ≠ g3) (hn2 : n₀ ≤ g2) (hn3 : n₀ ≤ g3) :
    ((((((W.setCell ⟨g2, 0, none⟩ v0).setCell ⟨g2, 1, none⟩ v1).setCell ⟨g2, 2, none⟩ v2).setCell ⟨g2, 3, none⟩ v3).setCell ⟨g3, 0, none⟩ v4).heap[g2]? = some (.cells #[v0, v1, v2, v3] t2 (0, 0))) ∧
    ((((((W.setCell ⟨g2, 0, none⟩ v0).setCell ⟨g2, 1, none⟩ v1).setCell ⟨g2, 2, none⟩ v2).setCell ⟨g2, 3, none⟩ v3).setCell ⟨g3, 0, none⟩ v4).heap[g3]? = some (.cells #[v4] t3 (0, 0))) ∧
    Below n₀ W (((((W.setCell ⟨g2, 0, none⟩ v0).setCell ⟨g2, 1, none⟩ v1).setCell ⟨g2, 2, none⟩ v2).setCell ⟨g2, 3, none⟩ v3).setCell ⟨g3, 0, none⟩ v4) ∧
    KeepsOthers W (((((W.setCell ⟨g2, 0, none⟩ v0).setCell ⟨g2, 1, none⟩ v1).setCell ⟨g2, 2, none⟩ v2).setCell ⟨g2, 3, none⟩ v3).setCell ⟨g3, 0, none⟩ v4) ∧
    (∀ k, k ≠ g2 → k ≠ g3 → (((((W.setCell ⟨g2, 0, none⟩ v0).setCell ⟨g2, 1, none⟩ v1).setCell ⟨g2, 2, none⟩ v2).setCell ⟨g2, 3, none⟩ v3).setCell ⟨g3, 0, none⟩ v4).heap[k]? = W.heap[k]?) := by
  refine ⟨?_, ?_, ?_, ?_, fun k k2 k3 => ?_⟩
  · exact blk_far (blk_put (blk_put (blk_put (blk_put h2 0 v0 rfl) 1 v1 rfl) 2 v2 rfl) 3 v3 rfl) (p := ⟨g3, 0, none⟩) hne v4
  · exact blk_put (blk_far (blk_far (blk_far (blk_far h3 (p := ⟨g2, 0, none⟩) (Ne.symm hne) v0) (p := ⟨g2, 1, none⟩) (Ne.symm hne) v1) (p := ⟨g2, 2, none⟩) (Ne.symm hne) v2) (p := ⟨g2, 3, none⟩) (Ne.symm hne) v3) 0 v4 rfl
  · exact (((((Below.refl n₀ W).setCell (p := ⟨g2, 0, none⟩) hn2 v0).setCell (p := ⟨g2, 1, none⟩) hn2 v1).setCell (p := ⟨g2, 2, none⟩) hn2 v2).setCell (p := ⟨g2, 3, none⟩) hn2 v3).setCell (p := ⟨g3, 0, none⟩) hn3 v4
  · exact ((((KeepsOthers.setCell _ _ _).trans (KeepsOthers.setCell _ _ _)).trans (KeepsOthers.setCell _ _ _)).trans (KeepsOthers.setCell _ _ _)).trans (KeepsOthers.setCell _ _ _)
  · exact (Below.heap_setCell _ ⟨g3, 0, none⟩ v4 k k3).trans ((Below.heap_setCell _ ⟨g2, 3, none⟩ v3 k k2).trans ((Below.heap_setCell _ ⟨g2, 2, none⟩ v2 k k2).trans ((Below.heap_setCell _ ⟨g2, 1, none⟩ v1 k k2).trans (Below.heap_setCell _ ⟨g2, 0, none⟩ v0 k k2))))
/-- A disk's box, written. -/
theorem box_put4 {W : World} {n₀ g t : Nat} {a0 a1 a2 a3 : Value} (v0 v1 v2 v3 : Value) (h : W.heap[g]? = some (.cells #[a0, a1, a2, a3] t (0, 0))) (hn : n₀ ≤ g) :
    ((((W.setCell ⟨g, 0, none⟩ v0).setCell ⟨g, 1, none⟩ v1).setCell ⟨g, 2, none⟩ v2).setCell ⟨g, 3, none⟩ v3).heap[g]? = some (.cells #[v0, v1, v2, v3] t (0, 0)) ∧
    Below n₀ W ((((W.setCell ⟨g, 0, none⟩ v0).setCell ⟨g, 1, none⟩ v1).setCell ⟨g, 2, none⟩ v2).setCell ⟨g, 3, none⟩ v3) ∧
    KeepsOthers W ((((W.setCell ⟨g, 0, none⟩ v0).setCell ⟨g, 1, none⟩ v1).setCell ⟨g, 2, none⟩ v2).setCell ⟨g, 3, none⟩ v3) ∧
    (∀ k, k ≠ g → ((((W.setCell ⟨g, 0, none⟩ v0).setCell ⟨g, 1, none⟩ v1).setCell ⟨g, 2, none⟩ v2).setCell ⟨g, 3, none⟩ v3).heap[k]? = W.heap[k]?) := by
  refine ⟨?_, ?_, ?_, fun k k2 => ?_⟩
  · exact blk_put (blk_put (blk_put (blk_put h 0 v0 rfl) 1 v1 rfl) 2 v2 rfl) 3 v3 rfl
  · exact ((((Below.refl n₀ W).setCell (p := ⟨g, 0, none⟩) hn v0).setCell (p := ⟨g, 1, none⟩) hn v1).setCell (p := ⟨g, 2, none⟩) hn v2).setCell (p := ⟨g, 3, none⟩) hn v3
  · exact (((KeepsOthers.setCell _ _ _).trans (KeepsOthers.setCell _ _ _)).trans (KeepsOthers.setCell _ _ _)).trans (KeepsOthers.setCell _ _ _)
  · exact (Below.heap_setCell _ ⟨g, 3, none⟩ v3 k k2).trans ((Below.heap_setCell _ ⟨g, 2, none⟩ v2 k k2).trans ((Below.heap_setCell _ ⟨g, 1, none⟩ v1 k k2).trans (Below.heap_setCell _ ⟨g, 0, none⟩ v0 k k2)))
end Go.Proofs.Ytffjbbedjddpmaa.PAll
