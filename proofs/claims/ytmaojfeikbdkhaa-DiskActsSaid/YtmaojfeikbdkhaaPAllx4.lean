/- Functions of the program as plain Lean functions, and that each call comes to what they say. Laid by a program of this session (hprint.py); Lean checks it. -/
import Derived.Test.YtmaojfeikbdkhaaPAllx0
namespace Go.Proofs.Ytmaojfeikbdkhaa.PAll
open Go.RowKit Go.Proofs.YtmaojfeikbdkhaaW.PrintWords Go.Proofs.YtmaojfeikbdkhaaW.PrintLast Go.Proofs.YtmaojfeikbdkhaaW.PrintMore
attribute [local go_sem] max2_int min2_int max_two min_two max_three min_three max_four min_four   -- for this text's walks alone
set_option linter.unusedVariables false
set_option linter.unusedSimpArgs false

/-! ### hogsheadref08_Put: function 12 -/
def hogsheadref08_Put.j0 : Nat → Int → ByteArray → Bool → List ByteArray → List (S47) → Int → Bool → Option (List ByteArray × (List (S47)) × Int × Bool × Int)
  | 0, _, _, _, _, _, _, _ => none
  | k + 1, x1, x2, x19, x185000, x185001, x185002, x185003 => if x19 = true then (some (x185000, x185001, x185002, x185003, 1)) else (if (x2.size : Int) > 1024 then (some (x185000, x185001, x185002, x185003, 4)) else ((some (([] : List (S47)) : List (S47))).bind fun y186 => (if y186.length + x185001.length < 5864062014805 then ((some (y186 ++ x185001 : List (S47))).bind fun y189 => (if y189.length < 5864062014805 then ((some (y189 ++ [(⟨x1, x2⟩ : S47)] : List (S47))).bind fun y192 => (if x185002 = 0 then (some (x185000, y192, x185002, true, 6)) else (if x185002 > 0 then (some (x185000, y192, wrap64 (x185002 - 1), x185003, 0)) else (some (x185000, y192, x185002, x185003, 0))))) else (none))) else (none))))
def hogsheadref08_Put.f (k : Nat) (l0_0 : List ByteArray) (l0_1 : List (S47)) (a0_2 : Int) (a0_3 : Bool) (a1 : Int) (a2 : ByteArray) : Option (List ByteArray × (List (S47)) × Int × Bool × Int) := if a0_3 = true then (some (l0_0, l0_1, a0_2, a0_3, 6)) else (if a1 < 0 then (hogsheadref08_Put.j0 k a1 a2 true l0_0 l0_1 a0_2 a0_3) else (hogsheadref08_Put.j0 k a1 a2 (decide (a1 ≥ (l0_0.length : Int))) l0_0 l0_1 a0_2 a0_3))
theorem hogsheadref08_Put.mono_l : ∀ k, (∀ y0 y1 y2 y3 y4 y5 y6, LeO (hogsheadref08_Put.j0 k y0 y1 y2 y3 y4 y5 y6) (hogsheadref08_Put.j0 (k + 1) y0 y1 y2 y3 y4 y5 y6))
  | 0 => fun _ _ _ _ _ _ _ r h => by simp [hogsheadref08_Put.j0] at h
  | k + 1 => by
    have ih0 := hogsheadref08_Put.mono_l k
    · intro y0 y1 y2 y3 y4 y5 y6
      unfold hogsheadref08_Put.j0
      repeat' first
      | (with_reducible exact ih0 _ _ _ _ _ _ _)
      | (with_reducible exact LeO.refl _)
      | (with_reducible exact LeO.none _)
      | (with_reducible refine LeO.ite ?_ ?_)
      | (with_reducible refine LeO.bind ?_ (fun _ => ?_))
      | exact ih0 _ _ _ _ _ _ _
      | exact LeO.none _
      | refine LeO.ite ?_ ?_
      | refine LeO.bind ?_ (fun _ => ?_)
theorem hogsheadref08_Put.mono : ∀ a0 a1 a2 a3 a4 a5 k, LeO (hogsheadref08_Put.f k a0 a1 a2 a3 a4 a5) (hogsheadref08_Put.f (k + 1) a0 a1 a2 a3 a4 a5) := by
  intro a0 a1 a2 a3 a4 a5 k
  have ih0 := hogsheadref08_Put.mono_l k
  unfold hogsheadref08_Put.f
  repeat' first
      | (with_reducible exact ih0 _ _ _ _ _ _ _)
      | (with_reducible exact LeO.refl _)
      | (with_reducible exact LeO.none _)
      | (with_reducible refine LeO.ite ?_ ?_)
      | (with_reducible refine LeO.bind ?_ (fun _ => ?_))
      | exact ih0 _ _ _ _ _ _ _
      | exact LeO.none _
      | refine LeO.ite ?_ ?_
      | refine LeO.bind ?_ (fun _ => ?_)
set_option maxHeartbeats 8000000 in
set_option maxRecDepth 100000 in
theorem hogsheadref08_Put.calls (k : Nat) (P0_0_ : Nat → Prop) (A0_0 : Option Addr) (c0_0 : Nat) (l0_0 : List ByteArray) (P0_1_ : Nat → Prop) (A0_1 : Option Addr) (c0_1 : Nat) (l0_1 : List (S47)) (a0_2 : Int) (a0_3 : Bool) (a1 : Int) (a2 : ByteArray) (r1 : List ByteArray) (r2 : List (S47)) (r3 : Int) (r4 : Bool) (r5 : Int) (w : World) (hs0_0 : Kd.V Kd.string 9 w w.heap.size (fun k_ => P0_0_ k_) (.slice A0_0 l0_0.length c0_0) l0_0) (hs0_1 : Kd.V k47 47 w w.heap.size (fun k_ => P0_1_ k_) (.slice A0_1 l0_1.length c0_1) l0_1) (h : hogsheadref08_Put.f k l0_0 l0_1 a0_2 a0_3 a1 a2 = some (r1, r2, r3, r4, r5)) :
    Calls Try.prog 12 #[.agg #[.slice A0_0 l0_0.length c0_0, .slice A0_1 l0_1.length c0_1, .int .i64 a0_2, .bool a0_3], .int .i64 a1, .string a2] w fun e w' => ∃ v0_ v1_ : Value, e = .returned (.tuple #[.agg #[v0_, v1_, .int .i64 r3, .bool r4], .int .i64 r5]) ∧ Kd.V Kd.string 9 w' w.heap.size (fun k_ => ((P0_0_ k_ ∨ P0_1_ k_) ∨ w.heap.size ≤ k_)) v0_ r1 ∧ Kd.V k47 47 w' w.heap.size (fun k_ => ((P0_0_ k_ ∨ P0_1_ k_) ∨ w.heap.size ≤ k_)) v1_ r2 ∧ Below w.heap.size w w' := by
  have hu25 := Try.underlying25
  have hu47 := Try.underlying47
  have HO0_0 := Aside0.mk (show Kd.V Kd.string 9 w w.heap.size (fun k_ => ((P0_0_ k_ ∨ P0_1_ k_) ∨ w.heap.size ≤ k_)) (.slice A0_0 l0_0.length c0_0) l0_0 from Kd.V_mono hs0_0 (fun k_ hk => .inl (.inl hk)))
  have HO0_1 := Aside0.mk (show Kd.V k47 47 w w.heap.size (fun k_ => ((P0_0_ k_ ∨ P0_1_ k_) ∨ w.heap.size ≤ k_)) (.slice A0_1 l0_1.length c0_1) l0_1 from Kd.V_mono hs0_1 (fun k_ hk => .inl (.inr hk)))
  have HB := Aside0.mk (Below.refl w.heap.size w)
  have H : (if a0_3 = true then (some (l0_0, l0_1, a0_2, a0_3, 6)) else (if a1 < 0 then (hogsheadref08_Put.j0 k a1 a2 true l0_0 l0_1 a0_2 a0_3) else (hogsheadref08_Put.j0 k a1 a2 (decide (a1 ≥ (l0_0.length : Int))) l0_0 l0_1 a0_2 a0_3))) = some (r1, r2, r3, r4, r5) := h
  clear h
  by_cases c4 : a0_3 = true
  · subst c4
    have H1 : (some (l0_0, l0_1, a0_2, true, 6)) = some (r1, r2, r3, r4, r5) := by rw [if_pos rfl] at H; exact H
    clear H
    have H := H1
    clear H1
    simp only [Option.some.injEq, Prod.mk.injEq] at H
    obtain ⟨rfl, rfl, rfl, rfl, rfl⟩ := H
    go_enter Try.func12, Try.ntmps12
    go_wp2_with (first | ((with_reducible refine gate_dst (N := 3) rfl ?_); (try (refine gate_guard (by rfl) ?_; dsimp only)); refine box_event ?hg (N := 3) ?hd (cs := #[.slice A0_0 l0_0.length c0_0, .slice A0_1 l0_1.length c0_1, .int .i64 a0_2, .bool true]) (t := 25) ?hr ?_; (case hd => rfl); (case hg => rfl); (case hr => first | (go_simp; done) | (go_simp; rfl)); intro gb184 hg w5 hbox hb; have n0_ := Aside0.mk (Kd.V_below (Kd.V_elderB (by (with_reducible repeat (first | apply Kd.V_alloc | apply Kd.V_drewN | apply Kd.V_drew)); exact HO0_0.out) gb184 (Nat.le_of_eq hg.symm)) hb); have n1_ := Aside0.mk (Kd.V_below (Kd.V_elderB (by (with_reducible repeat (first | apply Kd.V_alloc | apply Kd.V_drewN | apply Kd.V_drew)); exact HO0_1.out) gb184 (Nat.le_of_eq hg.symm)) hb); have n2_ := Aside0.mk (below_step (by repeat (first | (with_reducible first | exact HB.out | apply below_alloc | apply pw_below_drewN | apply below_drew1) | exact HB.out)) hb); have n3_ := Aside0.mk (hbox); have n4_ := Aside0.mk ((by rw [hg]; exact (below_size (by repeat (first | (with_reducible first | exact HB.out | apply below_alloc | apply pw_below_drewN | apply below_drew1) | exact HB.out))) : w.heap.size ≤ gb184)); have n5_ := Aside0.mk ((by rw [hg]; exact (below_size (by repeat (first | (with_reducible first | exact HB.out | apply below_alloc | apply pw_below_drewN | apply below_drew1) | exact HB.out))) : w.heap.size ≤ gb184)); clear HO0_0; clear HO0_1; clear HB; have HO0_0 := n0_; have HO0_1 := n1_; have HB := n2_; have BK184 := n3_; have GW184 := n4_; have GE184 := n5_; clear n0_ n1_ n2_ n3_ n4_ n5_; clear hb hbox hg) | ((with_reducible refine gate_dst (N := 6) rfl ?_); (try (refine gate_guard (by rfl) ?_; dsimp only)); refine box_event ?hg (N := 6) ?hd (cs := #[.slice none 0 0, .slice none 0 0, .int .i64 0, .bool false]) (t := 25) ?hr ?_; (case hd => rfl); (case hg => rfl); (case hr => first | (go_simp; done) | (go_simp; rfl)); intro gb185 hg w6 hbox hb; have n0_ := Aside0.mk (Kd.V_below (Kd.V_elderB (by (with_reducible repeat (first | apply Kd.V_alloc | apply Kd.V_drewN | apply Kd.V_drew)); exact HO0_0.out) gb185 (Nat.le_of_eq hg.symm)) hb); have n1_ := Aside0.mk (Kd.V_below (Kd.V_elderB (by (with_reducible repeat (first | apply Kd.V_alloc | apply Kd.V_drewN | apply Kd.V_drew)); exact HO0_1.out) gb185 (Nat.le_of_eq hg.symm)) hb); have n2_ := Aside0.mk (blk_below (g := gb184) (o := .cells #[.slice A0_0 l0_0.length c0_0, .slice A0_1 l0_1.length c0_1, .int .i64 a0_2, .bool true] 25 (0, 0)) (by (with_reducible repeat (first | refine blk_drewN ?_ _ | refine blk_drew ?_ | refine blk_alloc ?_ _)); exact BK184.out) hb); have n3_ := Aside0.mk (below_step (by repeat (first | (with_reducible first | exact HB.out | apply below_alloc | apply pw_below_drewN | apply below_drew1 | refine below_set ?_ GE184.out) | exact HB.out)) hb); have n4_ := Aside0.mk (hbox); have n5_ := Aside0.mk ((by rw [hg]; exact (below_size (by repeat (first | (with_reducible first | exact HB.out | apply below_alloc | apply pw_below_drewN | apply below_drew1 | refine below_set ?_ GE184.out) | exact HB.out))) : w.heap.size ≤ gb185)); have n6_ := Aside0.mk ((by rw [hg]; exact (below_size (by repeat (first | (with_reducible first | exact HB.out | apply below_alloc | apply pw_below_drewN | apply below_drew1 | refine below_set ?_ GE184.out) | exact HB.out))) : w.heap.size ≤ gb185)); have n7_ := Aside0.mk ((by rw [hg]; exact Nat.ne_of_lt (blk_lt (g := gb184) (o := .cells #[.slice A0_0 l0_0.length c0_0, .slice A0_1 l0_1.length c0_1, .int .i64 a0_2, .bool true] 25 (0, 0)) (by (with_reducible repeat (first | refine blk_drewN ?_ _ | refine blk_drew ?_ | refine blk_alloc ?_ _)); exact BK184.out)) : gb184 ≠ gb185)); have n8_ := Aside0.mk ((by rw [hg]; exact Nat.ne_of_gt (blk_lt (g := gb184) (o := .cells #[.slice A0_0 l0_0.length c0_0, .slice A0_1 l0_1.length c0_1, .int .i64 a0_2, .bool true] 25 (0, 0)) (by (with_reducible repeat (first | refine blk_drewN ?_ _ | refine blk_drew ?_ | refine blk_alloc ?_ _)); exact BK184.out)) : gb185 ≠ gb184)); clear HO0_0; clear HO0_1; clear BK184; clear HB; have HO0_0 := n0_; have HO0_1 := n1_; have BK184 := n2_; have HB := n3_; have BK185 := n4_; have GW185 := n5_; have GE185 := n6_; have NB184_185 := n7_; have NB185_184 := n8_; clear n0_ n1_ n2_ n3_ n4_ n5_ n6_ n7_ n8_; clear hb hbox hg; have hnb7 := NB184_185.out; have hnc7 := NB185_184.out; have hcz8_0 : w6.cell? ⟨gb184, 0, none⟩ = some (.slice A0_0 l0_0.length c0_0) := (blk_cell BK184.out 0).trans rfl; have hcz8_1 : w6.cell? ⟨gb184, 1, none⟩ = some (.slice A0_1 l0_1.length c0_1) := (blk_cell BK184.out 1).trans rfl; have hcz8_2 : w6.cell? ⟨gb184, 2, none⟩ = some (.int .i64 a0_2) := (blk_cell BK184.out 2).trans rfl; have hcz8_3 : w6.cell? ⟨gb184, 3, none⟩ = some (.bool true) := (blk_cell BK184.out 3).trans rfl; have hfz8_0 := blk_frozen BK184.out 0; have hfz8_1 := blk_frozen BK184.out 1; have hfz8_2 := blk_frozen BK184.out 2; have hfz8_3 := blk_frozen BK184.out 3; have hcz9_0 : w6.cell? ⟨gb185, 0, none⟩ = some (.slice none 0 0) := (blk_cell BK185.out 0).trans rfl; have hcz9_1 : w6.cell? ⟨gb185, 1, none⟩ = some (.slice none 0 0) := (blk_cell BK185.out 1).trans rfl; have hcz9_2 : w6.cell? ⟨gb185, 2, none⟩ = some (.int .i64 0) := (blk_cell BK185.out 2).trans rfl; have hcz9_3 : w6.cell? ⟨gb185, 3, none⟩ = some (.bool false) := (blk_cell BK185.out 3).trans rfl; have hfz9_0 := blk_frozen BK185.out 0; have hfz9_1 := blk_frozen BK185.out 1; have hfz9_2 := blk_frozen BK185.out 2; have hfz9_3 := blk_frozen BK185.out 3))
    refine bodyPost_ret (results_ct rfl _ _ gb185 25 #[.slice A0_0 l0_0.length c0_0, .slice A0_1 l0_1.length c0_1, .int .i64 a0_2, .bool true] (0, 0) _ rfl (by (with_reducible repeat (first | refine blk_drewN ?_ _ | refine blk_drew ?_ | refine blk_alloc ?_ _)); refine blk_put (cs := #[.slice A0_0 l0_0.length c0_0, .slice A0_1 l0_1.length c0_1, .int .i64 a0_2, .bool false]) ?_ 3 _ rfl; (with_reducible repeat (first | refine blk_drewN ?_ _ | refine blk_drew ?_ | refine blk_alloc ?_ _)); refine blk_put (cs := #[.slice A0_0 l0_0.length c0_0, .slice A0_1 l0_1.length c0_1, .int .i64 0, .bool false]) ?_ 2 _ rfl; (with_reducible repeat (first | refine blk_drewN ?_ _ | refine blk_drew ?_ | refine blk_alloc ?_ _)); refine blk_put (cs := #[.slice A0_0 l0_0.length c0_0, .slice none 0 0, .int .i64 0, .bool false]) ?_ 1 _ rfl; (with_reducible repeat (first | refine blk_drewN ?_ _ | refine blk_drew ?_ | refine blk_alloc ?_ _)); refine blk_put (cs := #[.slice none 0 0, .slice none 0 0, .int .i64 0, .bool false]) ?_ 0 _ rfl; (with_reducible repeat (first | refine blk_drewN ?_ _ | refine blk_drew ?_ | refine blk_alloc ?_ _)); exact BK185.out) Try.underlying25 rfl (by kernel_rfl)) rfl ?_
    exact ⟨_, _, by first | rfl | (simp [errW_none, errW_some] <;> rfl) | (simp [*, errW_none, errW_some] <;> rfl), by (with_reducible repeat (first | apply Kd.V_alloc | apply Kd.V_drewN | apply Kd.V_drew)); exact Kd.V_mono (Kd.V_far (p := ⟨gb185, 3, none⟩) (Kd.V_far (p := ⟨gb185, 2, none⟩) (Kd.V_far (p := ⟨gb185, 1, none⟩) (Kd.V_far (p := ⟨gb185, 0, none⟩) (Kd.V_mono HO0_0.out (fun k_ hk => (⟨hk, hk.2⟩ : _ ∧ k_ ≠ gb185))) (fun _ hk => hk.2) (.slice A0_0 l0_0.length c0_0)) (fun _ hk => hk.2) (.slice A0_1 l0_1.length c0_1)) (fun _ hk => hk.2) (.int .i64 a0_2)) (fun _ hk => hk.2) (.bool true)) (fun _ hk => hk.1.1.1), by (with_reducible repeat (first | apply Kd.V_alloc | apply Kd.V_drewN | apply Kd.V_drew)); exact Kd.V_mono (Kd.V_far (p := ⟨gb185, 3, none⟩) (Kd.V_far (p := ⟨gb185, 2, none⟩) (Kd.V_far (p := ⟨gb185, 1, none⟩) (Kd.V_far (p := ⟨gb185, 0, none⟩) (Kd.V_mono HO0_1.out (fun k_ hk => (⟨hk, hk.2⟩ : _ ∧ k_ ≠ gb185))) (fun _ hk => hk.2) (.slice A0_0 l0_0.length c0_0)) (fun _ hk => hk.2) (.slice A0_1 l0_1.length c0_1)) (fun _ hk => hk.2) (.int .i64 a0_2)) (fun _ hk => hk.2) (.bool true)) (fun _ hk => hk.1.1.1), by repeat (first | (with_reducible first | exact HB.out | apply below_alloc | apply pw_below_drewN | apply below_drew1 | refine below_set ?_ GE184.out | refine below_set ?_ GE185.out) | exact HB.out)⟩
  · replace c4 := Bool.eq_false_iff.mpr c4
    subst c4
    have H1 : (if a1 < 0 then (hogsheadref08_Put.j0 k a1 a2 true l0_0 l0_1 a0_2 false) else (hogsheadref08_Put.j0 k a1 a2 (decide (a1 ≥ (l0_0.length : Int))) l0_0 l0_1 a0_2 false)) = some (r1, r2, r3, r4, r5) := by rw [if_neg (show ¬ (false = true) by decide)] at H; exact H
    clear H
    have H := H1
    clear H1
    have HC10 := Aside0.mk H
    clear H
    go_enter Try.func12, Try.ntmps12
    go_upto_region 3 with (first | ((with_reducible refine gate_dst (N := 3) rfl ?_); (try (refine gate_guard (by rfl) ?_; dsimp only)); refine box_event ?hg (N := 3) ?hd (cs := #[.slice A0_0 l0_0.length c0_0, .slice A0_1 l0_1.length c0_1, .int .i64 a0_2, .bool false]) (t := 25) ?hr ?_; (case hd => rfl); (case hg => rfl); (case hr => first | (go_simp; done) | (go_simp; rfl)); intro gb184 hg w11 hbox hb; have n0_ := Aside0.mk (Kd.V_below (Kd.V_elderB (by (with_reducible repeat (first | apply Kd.V_alloc | apply Kd.V_drewN | apply Kd.V_drew)); exact HO0_0.out) gb184 (Nat.le_of_eq hg.symm)) hb); have n1_ := Aside0.mk (Kd.V_below (Kd.V_elderB (by (with_reducible repeat (first | apply Kd.V_alloc | apply Kd.V_drewN | apply Kd.V_drew)); exact HO0_1.out) gb184 (Nat.le_of_eq hg.symm)) hb); have n2_ := Aside0.mk (below_step (by repeat (first | (with_reducible first | exact HB.out | apply below_alloc | apply pw_below_drewN | apply below_drew1) | exact HB.out)) hb); have n3_ := Aside0.mk (hbox); have n4_ := Aside0.mk ((by rw [hg]; exact (below_size (by repeat (first | (with_reducible first | exact HB.out | apply below_alloc | apply pw_below_drewN | apply below_drew1) | exact HB.out))) : w.heap.size ≤ gb184)); have n5_ := Aside0.mk ((by rw [hg]; exact (below_size (by repeat (first | (with_reducible first | exact HB.out | apply below_alloc | apply pw_below_drewN | apply below_drew1) | exact HB.out))) : w.heap.size ≤ gb184)); clear HO0_0; clear HO0_1; clear HB; have HO0_0 := n0_; have HO0_1 := n1_; have HB := n2_; have BK184 := n3_; have GW184 := n4_; have GE184 := n5_; clear n0_ n1_ n2_ n3_ n4_ n5_; clear hb hbox hg) | ((with_reducible refine gate_dst (N := 6) rfl ?_); (try (refine gate_guard (by rfl) ?_; dsimp only)); refine box_event ?hg (N := 6) ?hd (cs := #[.slice none 0 0, .slice none 0 0, .int .i64 0, .bool false]) (t := 25) ?hr ?_; (case hd => rfl); (case hg => rfl); (case hr => first | (go_simp; done) | (go_simp; rfl)); intro gb185 hg w12 hbox hb; have n0_ := Aside0.mk (Kd.V_below (Kd.V_elderB (by (with_reducible repeat (first | apply Kd.V_alloc | apply Kd.V_drewN | apply Kd.V_drew)); exact HO0_0.out) gb185 (Nat.le_of_eq hg.symm)) hb); have n1_ := Aside0.mk (Kd.V_below (Kd.V_elderB (by (with_reducible repeat (first | apply Kd.V_alloc | apply Kd.V_drewN | apply Kd.V_drew)); exact HO0_1.out) gb185 (Nat.le_of_eq hg.symm)) hb); have n2_ := Aside0.mk (blk_below (g := gb184) (o := .cells #[.slice A0_0 l0_0.length c0_0, .slice A0_1 l0_1.length c0_1, .int .i64 a0_2, .bool false] 25 (0, 0)) (by (with_reducible repeat (first | refine blk_drewN ?_ _ | refine blk_drew ?_ | refine blk_alloc ?_ _)); exact BK184.out) hb); have n3_ := Aside0.mk (below_step (by repeat (first | (with_reducible first | exact HB.out | apply below_alloc | apply pw_below_drewN | apply below_drew1 | refine below_set ?_ GE184.out) | exact HB.out)) hb); have n4_ := Aside0.mk (hbox); have n5_ := Aside0.mk ((by rw [hg]; exact (below_size (by repeat (first | (with_reducible first | exact HB.out | apply below_alloc | apply pw_below_drewN | apply below_drew1 | refine below_set ?_ GE184.out) | exact HB.out))) : w.heap.size ≤ gb185)); have n6_ := Aside0.mk ((by rw [hg]; exact (below_size (by repeat (first | (with_reducible first | exact HB.out | apply below_alloc | apply pw_below_drewN | apply below_drew1 | refine below_set ?_ GE184.out) | exact HB.out))) : w.heap.size ≤ gb185)); have n7_ := Aside0.mk ((by rw [hg]; exact Nat.ne_of_lt (blk_lt (g := gb184) (o := .cells #[.slice A0_0 l0_0.length c0_0, .slice A0_1 l0_1.length c0_1, .int .i64 a0_2, .bool false] 25 (0, 0)) (by (with_reducible repeat (first | refine blk_drewN ?_ _ | refine blk_drew ?_ | refine blk_alloc ?_ _)); exact BK184.out)) : gb184 ≠ gb185)); have n8_ := Aside0.mk ((by rw [hg]; exact Nat.ne_of_gt (blk_lt (g := gb184) (o := .cells #[.slice A0_0 l0_0.length c0_0, .slice A0_1 l0_1.length c0_1, .int .i64 a0_2, .bool false] 25 (0, 0)) (by (with_reducible repeat (first | refine blk_drewN ?_ _ | refine blk_drew ?_ | refine blk_alloc ?_ _)); exact BK184.out)) : gb185 ≠ gb184)); clear HO0_0; clear HO0_1; clear BK184; clear HB; have HO0_0 := n0_; have HO0_1 := n1_; have BK184 := n2_; have HB := n3_; have BK185 := n4_; have GW185 := n5_; have GE185 := n6_; have NB184_185 := n7_; have NB185_184 := n8_; clear n0_ n1_ n2_ n3_ n4_ n5_ n6_ n7_ n8_; clear hb hbox hg; have hnb13 := NB184_185.out; have hnc13 := NB185_184.out; have hcz14_0 : w12.cell? ⟨gb184, 0, none⟩ = some (.slice A0_0 l0_0.length c0_0) := (blk_cell BK184.out 0).trans rfl; have hcz14_1 : w12.cell? ⟨gb184, 1, none⟩ = some (.slice A0_1 l0_1.length c0_1) := (blk_cell BK184.out 1).trans rfl; have hcz14_2 : w12.cell? ⟨gb184, 2, none⟩ = some (.int .i64 a0_2) := (blk_cell BK184.out 2).trans rfl; have hcz14_3 : w12.cell? ⟨gb184, 3, none⟩ = some (.bool false) := (blk_cell BK184.out 3).trans rfl; have hfz14_0 := blk_frozen BK184.out 0; have hfz14_1 := blk_frozen BK184.out 1; have hfz14_2 := blk_frozen BK184.out 2; have hfz14_3 := blk_frozen BK184.out 3))
    (try simp only [Act.put, List.setIfInBounds_toArray, List.set_cons_zero, List.set_cons_succ])
    go_cut [19] (fun v19 wc => ∃ (kq : Nat) (x19_9 : Bool), v19 = .bool x19_9 ∧ Aside0 (hogsheadref08_Put.j0 kq a1 a2 x19_9 l0_0 l0_1 a0_2 false = some (r1, r2, r3, r4, r5)) ∧ Aside0 (kq ≤ k) ∧ Aside0 (Kd.V Kd.string 9 wc w.heap.size (fun k_ => ((P0_0_ k_ ∨ P0_1_ k_) ∨ w.heap.size ≤ k_) ∧ k_ ≠ gb184 ∧ k_ ≠ gb185) (.slice A0_0 l0_0.length c0_0) l0_0) ∧ Aside0 (Kd.V k47 47 wc w.heap.size (fun k_ => ((P0_0_ k_ ∨ P0_1_ k_) ∨ w.heap.size ≤ k_) ∧ k_ ≠ gb184 ∧ k_ ≠ gb185) (.slice A0_1 l0_1.length c0_1) l0_1) ∧ Aside0 (wc.heap[gb184]? = some (.cells #[(.slice A0_0 l0_0.length c0_0), (.slice A0_1 l0_1.length c0_1), .int .i64 a0_2, .bool false] 25 (0, 0))) ∧ Aside0 (wc.heap[gb185]? = some (.cells #[(.slice none 0 0), (.slice none 0 0), .int .i64 0, .bool false] 25 (0, 0))) ∧ Aside0 (Below w.heap.size w wc))
    case first =>
      have H := HC10.out
      clear HC10
      by_cases c15 : a1 < 0
      · rw [if_pos c15] at H
        have c15b0 : decide (a1 < 0) = true := decide_eq_true c15
        clear c15
        (first | rw [c15b0] | (simp only [i64_w, i32_w]; rw [c15b0]) | skip)
        have H' := Aside0.mk H
        clear H
        go_wp2
        go_meet
        case rel => exact ⟨_, (true), (by first | rfl | (simp; done) | (simp [*]; done)), H', ⟨by first | omega | exact Nat.le_refl _⟩, ⟨by (with_reducible repeat (first | apply Kd.V_alloc | apply Kd.V_drewN | apply Kd.V_drew)); exact Kd.V_mono HO0_0.out (fun _ hk => ⟨hk.1.1, ⟨hk.1.2, hk.2⟩⟩)⟩, ⟨by (with_reducible repeat (first | apply Kd.V_alloc | apply Kd.V_drewN | apply Kd.V_drew)); exact Kd.V_mono HO0_1.out (fun _ hk => ⟨hk.1.1, ⟨hk.1.2, hk.2⟩⟩)⟩, ⟨by (with_reducible repeat (first | refine blk_drewN ?_ _ | refine blk_drew ?_ | refine blk_alloc ?_ _)); exact BK184.out⟩, ⟨by (with_reducible repeat (first | refine blk_drewN ?_ _ | refine blk_drew ?_ | refine blk_alloc ?_ _)); exact BK185.out⟩, ⟨by repeat (first | (with_reducible first | exact HB.out | apply below_alloc | apply pw_below_drewN | apply below_drew1 | refine below_set ?_ GE184.out | refine below_set ?_ GE185.out) | exact HB.out)⟩⟩
      · rw [if_neg c15] at H
        have c15b0 : decide (a1 < 0) = false := decide_eq_false c15
        clear c15
        (first | rw [c15b0] | (simp only [i64_w, i32_w]; rw [c15b0]) | skip)
        have H' := Aside0.mk H
        clear H
        have hnb16 := NB184_185.out
        have hnc16 := NB185_184.out
        have hcz17_0 : w12.cell? ⟨gb184, 0, none⟩ = some (.slice A0_0 l0_0.length c0_0) := (blk_cell BK184.out 0).trans rfl
        have hcz17_1 : w12.cell? ⟨gb184, 1, none⟩ = some (.slice A0_1 l0_1.length c0_1) := (blk_cell BK184.out 1).trans rfl
        have hcz17_2 : w12.cell? ⟨gb184, 2, none⟩ = some (.int .i64 a0_2) := (blk_cell BK184.out 2).trans rfl
        have hcz17_3 : w12.cell? ⟨gb184, 3, none⟩ = some (.bool false) := (blk_cell BK184.out 3).trans rfl
        have hfz17_0 := blk_frozen BK184.out 0
        have hfz17_1 := blk_frozen BK184.out 1
        have hfz17_2 := blk_frozen BK184.out 2
        have hfz17_3 := blk_frozen BK184.out 3
        go_wp2
        go_meet
        case rel => exact ⟨_, (decide (a1 ≥ (l0_0.length : Int))), (by first | rfl | (simp; done) | (simp [*]; done)), H', ⟨by first | omega | exact Nat.le_refl _⟩, ⟨by (with_reducible repeat (first | apply Kd.V_alloc | apply Kd.V_drewN | apply Kd.V_drew)); exact Kd.V_mono HO0_0.out (fun _ hk => ⟨hk.1.1, ⟨hk.1.2, hk.2⟩⟩)⟩, ⟨by (with_reducible repeat (first | apply Kd.V_alloc | apply Kd.V_drewN | apply Kd.V_drew)); exact Kd.V_mono HO0_1.out (fun _ hk => ⟨hk.1.1, ⟨hk.1.2, hk.2⟩⟩)⟩, ⟨by (with_reducible repeat (first | refine blk_drewN ?_ _ | refine blk_drew ?_ | refine blk_alloc ?_ _)); exact BK184.out⟩, ⟨by (with_reducible repeat (first | refine blk_drewN ?_ _ | refine blk_drew ?_ | refine blk_alloc ?_ _)); exact BK185.out⟩, ⟨by repeat (first | (with_reducible first | exact HB.out | apply below_alloc | apply pw_below_drewN | apply below_drew1 | refine below_set ?_ GE184.out | refine below_set ?_ GE185.out) | exact HB.out)⟩⟩
    case rest =>
      clear HC10
      try clear c1
      try clear p2
      try clear c4
      try clear c7
      try clear c12
      try clear c13
      try clear c15
      try clear c15b0
      try clear c16
      try clear hcz14_0
      try clear hcz14_1
      try clear hcz14_2
      try clear hcz14_3
      try clear hcz17_0
      try clear hcz17_1
      try clear hcz17_2
      try clear hcz17_3
      try clear hcz8_0
      try clear hcz8_1
      try clear hcz8_2
      try clear hcz8_3
      try clear hcz9_0
      try clear hcz9_1
      try clear hcz9_2
      try clear hcz9_3
      try clear hfz14_0
      try clear hfz14_1
      try clear hfz14_2
      try clear hfz14_3
      try clear hfz17_0
      try clear hfz17_1
      try clear hfz17_2
      try clear hfz17_3
      try clear hfz8_0
      try clear hfz8_1
      try clear hfz8_2
      try clear hfz8_3
      try clear hfz9_0
      try clear hfz9_1
      try clear hfz9_2
      try clear hfz9_3
      obtain ⟨kq, x19_9, rfl, HA, HJ9, HO_185000, HO_185001, BK184, BK185, HB⟩ := hcut
      cases kq with
      | zero => exact absurd HA.out (by simp [hogsheadref08_Put.j0])
      | succ kj9 =>
        have H := HA.out
        clear HA
        simp only [hogsheadref08_Put.j0] at H
        by_cases c18 : x19_9 = true
        · subst c18
          have H1 : (some (l0_0, l0_1, a0_2, false, 1)) = some (r1, r2, r3, r4, r5) := by rw [if_pos rfl] at H; exact H
          clear H
          have H := H1
          clear H1
          simp only [Option.some.injEq, Prod.mk.injEq] at H
          obtain ⟨rfl, rfl, rfl, rfl, rfl⟩ := H
          have hnb19 := NB184_185.out
          have hnc19 := NB185_184.out
          have hcz20_0 : wc.cell? ⟨gb184, 0, none⟩ = some (.slice A0_0 l0_0.length c0_0) := (blk_cell BK184.out 0).trans rfl
          have hcz20_1 : wc.cell? ⟨gb184, 1, none⟩ = some (.slice A0_1 l0_1.length c0_1) := (blk_cell BK184.out 1).trans rfl
          have hcz20_2 : wc.cell? ⟨gb184, 2, none⟩ = some (.int .i64 a0_2) := (blk_cell BK184.out 2).trans rfl
          have hcz20_3 : wc.cell? ⟨gb184, 3, none⟩ = some (.bool false) := (blk_cell BK184.out 3).trans rfl
          have hfz20_0 := blk_frozen BK184.out 0
          have hfz20_1 := blk_frozen BK184.out 1
          have hfz20_2 := blk_frozen BK184.out 2
          have hfz20_3 := blk_frozen BK184.out 3
          have hcz21_0 : wc.cell? ⟨gb185, 0, none⟩ = some (.slice none 0 0) := (blk_cell BK185.out 0).trans rfl
          have hcz21_1 : wc.cell? ⟨gb185, 1, none⟩ = some (.slice none 0 0) := (blk_cell BK185.out 1).trans rfl
          have hcz21_2 : wc.cell? ⟨gb185, 2, none⟩ = some (.int .i64 0) := (blk_cell BK185.out 2).trans rfl
          have hcz21_3 : wc.cell? ⟨gb185, 3, none⟩ = some (.bool false) := (blk_cell BK185.out 3).trans rfl
          have hfz21_0 := blk_frozen BK185.out 0
          have hfz21_1 := blk_frozen BK185.out 1
          have hfz21_2 := blk_frozen BK185.out 2
          have hfz21_3 := blk_frozen BK185.out 3
          go_wp2
          refine bodyPost_ret (results_ct rfl _ _ gb185 25 #[.slice A0_0 l0_0.length c0_0, .slice A0_1 l0_1.length c0_1, .int .i64 a0_2, .bool false] (0, 0) _ rfl (by (with_reducible repeat (first | refine blk_drewN ?_ _ | refine blk_drew ?_ | refine blk_alloc ?_ _)); refine blk_put (cs := #[.slice A0_0 l0_0.length c0_0, .slice A0_1 l0_1.length c0_1, .int .i64 a0_2, .bool false]) ?_ 3 _ rfl; (with_reducible repeat (first | refine blk_drewN ?_ _ | refine blk_drew ?_ | refine blk_alloc ?_ _)); refine blk_put (cs := #[.slice A0_0 l0_0.length c0_0, .slice A0_1 l0_1.length c0_1, .int .i64 0, .bool false]) ?_ 2 _ rfl; (with_reducible repeat (first | refine blk_drewN ?_ _ | refine blk_drew ?_ | refine blk_alloc ?_ _)); refine blk_put (cs := #[.slice A0_0 l0_0.length c0_0, .slice none 0 0, .int .i64 0, .bool false]) ?_ 1 _ rfl; (with_reducible repeat (first | refine blk_drewN ?_ _ | refine blk_drew ?_ | refine blk_alloc ?_ _)); refine blk_put (cs := #[.slice none 0 0, .slice none 0 0, .int .i64 0, .bool false]) ?_ 0 _ rfl; (with_reducible repeat (first | refine blk_drewN ?_ _ | refine blk_drew ?_ | refine blk_alloc ?_ _)); exact BK185.out) Try.underlying25 rfl (by kernel_rfl)) rfl ?_
          exact ⟨_, _, by first | rfl | (simp [errW_none, errW_some] <;> rfl) | (simp [*, errW_none, errW_some] <;> rfl), by (with_reducible repeat (first | apply Kd.V_alloc | apply Kd.V_drewN | apply Kd.V_drew)); exact Kd.V_mono (Kd.V_far (p := ⟨gb185, 3, none⟩) (Kd.V_far (p := ⟨gb185, 2, none⟩) (Kd.V_far (p := ⟨gb185, 1, none⟩) (Kd.V_far (p := ⟨gb185, 0, none⟩) (Kd.V_mono HO_185000.out (fun k_ hk => (⟨hk, hk.2.2⟩ : _ ∧ k_ ≠ gb185))) (fun _ hk => hk.2) (.slice A0_0 l0_0.length c0_0)) (fun _ hk => hk.2) (.slice A0_1 l0_1.length c0_1)) (fun _ hk => hk.2) (.int .i64 a0_2)) (fun _ hk => hk.2) (.bool false)) (fun _ hk => hk.1.1), by (with_reducible repeat (first | apply Kd.V_alloc | apply Kd.V_drewN | apply Kd.V_drew)); exact Kd.V_mono (Kd.V_far (p := ⟨gb185, 3, none⟩) (Kd.V_far (p := ⟨gb185, 2, none⟩) (Kd.V_far (p := ⟨gb185, 1, none⟩) (Kd.V_far (p := ⟨gb185, 0, none⟩) (Kd.V_mono HO_185001.out (fun k_ hk => (⟨hk, hk.2.2⟩ : _ ∧ k_ ≠ gb185))) (fun _ hk => hk.2) (.slice A0_0 l0_0.length c0_0)) (fun _ hk => hk.2) (.slice A0_1 l0_1.length c0_1)) (fun _ hk => hk.2) (.int .i64 a0_2)) (fun _ hk => hk.2) (.bool false)) (fun _ hk => hk.1.1), by repeat (first | (with_reducible first | exact HB.out | apply below_alloc | apply pw_below_drewN | apply below_drew1 | refine below_set ?_ GE184.out | refine below_set ?_ GE185.out) | exact HB.out)⟩
        · replace c18 := Bool.eq_false_iff.mpr c18
          subst c18
          have H1 : (if (a2.size : Int) > 1024 then (some (l0_0, l0_1, a0_2, false, 4)) else ((some (([] : List (S47)) : List (S47))).bind fun y186 => (if y186.length + l0_1.length < 5864062014805 then ((some (y186 ++ l0_1 : List (S47))).bind fun y189 => (if y189.length < 5864062014805 then ((some (y189 ++ [(⟨a1, a2⟩ : S47)] : List (S47))).bind fun y192 => (if a0_2 = 0 then (some (l0_0, y192, a0_2, true, 6)) else (if a0_2 > 0 then (some (l0_0, y192, wrap64 (a0_2 - 1), false, 0)) else (some (l0_0, y192, a0_2, false, 0))))) else (none))) else (none)))) = some (r1, r2, r3, r4, r5) := by rw [if_neg (show ¬ (false = true) by decide)] at H; exact H
          clear H
          have H := H1
          clear H1
          by_cases c22 : (a2.size : Int) > 1024
          · rw [if_pos c22] at H
            have c22b0 : decide (1024 < (a2.size : Int)) = true := decide_eq_true c22
            have c22b1 : decide (1024 < a2.size) = true := decide_eq_true (by omega)
            clear c22
            simp only [Option.some.injEq, Prod.mk.injEq] at H
            obtain ⟨rfl, rfl, rfl, rfl, rfl⟩ := H
            have hnb23 := NB184_185.out
            have hnc23 := NB185_184.out
            have hcz24_0 : wc.cell? ⟨gb184, 0, none⟩ = some (.slice A0_0 l0_0.length c0_0) := (blk_cell BK184.out 0).trans rfl
            have hcz24_1 : wc.cell? ⟨gb184, 1, none⟩ = some (.slice A0_1 l0_1.length c0_1) := (blk_cell BK184.out 1).trans rfl
            have hcz24_2 : wc.cell? ⟨gb184, 2, none⟩ = some (.int .i64 a0_2) := (blk_cell BK184.out 2).trans rfl
            have hcz24_3 : wc.cell? ⟨gb184, 3, none⟩ = some (.bool false) := (blk_cell BK184.out 3).trans rfl
            have hfz24_0 := blk_frozen BK184.out 0
            have hfz24_1 := blk_frozen BK184.out 1
            have hfz24_2 := blk_frozen BK184.out 2
            have hfz24_3 := blk_frozen BK184.out 3
            have hcz25_0 : wc.cell? ⟨gb185, 0, none⟩ = some (.slice none 0 0) := (blk_cell BK185.out 0).trans rfl
            have hcz25_1 : wc.cell? ⟨gb185, 1, none⟩ = some (.slice none 0 0) := (blk_cell BK185.out 1).trans rfl
            have hcz25_2 : wc.cell? ⟨gb185, 2, none⟩ = some (.int .i64 0) := (blk_cell BK185.out 2).trans rfl
            have hcz25_3 : wc.cell? ⟨gb185, 3, none⟩ = some (.bool false) := (blk_cell BK185.out 3).trans rfl
            have hfz25_0 := blk_frozen BK185.out 0
            have hfz25_1 := blk_frozen BK185.out 1
            have hfz25_2 := blk_frozen BK185.out 2
            have hfz25_3 := blk_frozen BK185.out 3
            go_wp2
            refine bodyPost_ret (results_ct rfl _ _ gb185 25 #[.slice A0_0 l0_0.length c0_0, .slice A0_1 l0_1.length c0_1, .int .i64 a0_2, .bool false] (0, 0) _ rfl (by (with_reducible repeat (first | refine blk_drewN ?_ _ | refine blk_drew ?_ | refine blk_alloc ?_ _)); refine blk_put (cs := #[.slice A0_0 l0_0.length c0_0, .slice A0_1 l0_1.length c0_1, .int .i64 a0_2, .bool false]) ?_ 3 _ rfl; (with_reducible repeat (first | refine blk_drewN ?_ _ | refine blk_drew ?_ | refine blk_alloc ?_ _)); refine blk_put (cs := #[.slice A0_0 l0_0.length c0_0, .slice A0_1 l0_1.length c0_1, .int .i64 0, .bool false]) ?_ 2 _ rfl; (with_reducible repeat (first | refine blk_drewN ?_ _ | refine blk_drew ?_ | refine blk_alloc ?_ _)); refine blk_put (cs := #[.slice A0_0 l0_0.length c0_0, .slice none 0 0, .int .i64 0, .bool false]) ?_ 1 _ rfl; (with_reducible repeat (first | refine blk_drewN ?_ _ | refine blk_drew ?_ | refine blk_alloc ?_ _)); refine blk_put (cs := #[.slice none 0 0, .slice none 0 0, .int .i64 0, .bool false]) ?_ 0 _ rfl; (with_reducible repeat (first | refine blk_drewN ?_ _ | refine blk_drew ?_ | refine blk_alloc ?_ _)); exact BK185.out) Try.underlying25 rfl (by kernel_rfl)) rfl ?_
            exact ⟨_, _, by first | rfl | (simp [errW_none, errW_some] <;> rfl) | (simp [*, errW_none, errW_some] <;> rfl), by (with_reducible repeat (first | apply Kd.V_alloc | apply Kd.V_drewN | apply Kd.V_drew)); exact Kd.V_mono (Kd.V_far (p := ⟨gb185, 3, none⟩) (Kd.V_far (p := ⟨gb185, 2, none⟩) (Kd.V_far (p := ⟨gb185, 1, none⟩) (Kd.V_far (p := ⟨gb185, 0, none⟩) (Kd.V_mono HO_185000.out (fun k_ hk => (⟨hk, hk.2.2⟩ : _ ∧ k_ ≠ gb185))) (fun _ hk => hk.2) (.slice A0_0 l0_0.length c0_0)) (fun _ hk => hk.2) (.slice A0_1 l0_1.length c0_1)) (fun _ hk => hk.2) (.int .i64 a0_2)) (fun _ hk => hk.2) (.bool false)) (fun _ hk => hk.1.1), by (with_reducible repeat (first | apply Kd.V_alloc | apply Kd.V_drewN | apply Kd.V_drew)); exact Kd.V_mono (Kd.V_far (p := ⟨gb185, 3, none⟩) (Kd.V_far (p := ⟨gb185, 2, none⟩) (Kd.V_far (p := ⟨gb185, 1, none⟩) (Kd.V_far (p := ⟨gb185, 0, none⟩) (Kd.V_mono HO_185001.out (fun k_ hk => (⟨hk, hk.2.2⟩ : _ ∧ k_ ≠ gb185))) (fun _ hk => hk.2) (.slice A0_0 l0_0.length c0_0)) (fun _ hk => hk.2) (.slice A0_1 l0_1.length c0_1)) (fun _ hk => hk.2) (.int .i64 a0_2)) (fun _ hk => hk.2) (.bool false)) (fun _ hk => hk.1.1), by repeat (first | (with_reducible first | exact HB.out | apply below_alloc | apply pw_below_drewN | apply below_drew1 | refine below_set ?_ GE184.out | refine below_set ?_ GE185.out) | exact HB.out)⟩
          · rw [if_neg c22] at H
            have c22b0 : decide (1024 < (a2.size : Int)) = false := decide_eq_false c22
            have c22b1 : decide (1024 < a2.size) = false := decide_eq_false (by omega)
            clear c22
            obtain ⟨y186, hy186⟩ : ∃ y_ : List (S47), y_ = (([] : List (S47))) := ⟨_, rfl⟩
            replace H : (if y186.length + l0_1.length < 5864062014805 then ((some (y186 ++ l0_1 : List (S47))).bind fun y189 => (if y189.length < 5864062014805 then ((some (y189 ++ [(⟨a1, a2⟩ : S47)] : List (S47))).bind fun y192 => (if a0_2 = 0 then (some (l0_0, y192, a0_2, true, 6)) else (if a0_2 > 0 then (some (l0_0, y192, wrap64 (a0_2 - 1), false, 0)) else (some (l0_0, y192, a0_2, false, 0))))) else (none))) else (none)) = some (r1, r2, r3, r4, r5) := by first | (rw [hy186]; with_reducible exact H) | (have H2_ := (Option.bind_some _ _).symm.trans H; rw [hy186]; with_reducible exact H2_) | (have H2_ := (Option.bind_some _ _).symm.trans H; with_reducible exact H2_) | with_reducible exact H | (rw [hy186]; exact H) | exact H
            have Ny186 := Aside0.mk hy186
            clear hy186
            by_cases c26 : y186.length + l0_1.length < 5864062014805
            · rw [if_pos c26] at H
              have LMc26 := Aside0.mk c26
              clear c26
              obtain ⟨y189, hy189⟩ : ∃ y_ : List (S47), y_ = (y186 ++ l0_1) := ⟨_, rfl⟩
              replace H : (if y189.length < 5864062014805 then ((some (y189 ++ [(⟨a1, a2⟩ : S47)] : List (S47))).bind fun y192 => (if a0_2 = 0 then (some (l0_0, y192, a0_2, true, 6)) else (if a0_2 > 0 then (some (l0_0, y192, wrap64 (a0_2 - 1), false, 0)) else (some (l0_0, y192, a0_2, false, 0))))) else (none)) = some (r1, r2, r3, r4, r5) := by first | (rw [hy189]; with_reducible exact H) | (have H2_ := (Option.bind_some _ _).symm.trans H; rw [hy189]; with_reducible exact H2_) | (have H2_ := (Option.bind_some _ _).symm.trans H; with_reducible exact H2_) | with_reducible exact H | (rw [hy189]; exact H) | exact H
              have Ny189 := Aside0.mk hy189
              clear hy189
              by_cases c27 : y189.length < 5864062014805
              · rw [if_pos c27] at H
                have LMc27 := Aside0.mk c27
                clear c27
                obtain ⟨y192, hy192⟩ : ∃ y_ : List (S47), y_ = (y189 ++ [(⟨a1, a2⟩ : S47)]) := ⟨_, rfl⟩
                replace H : (if a0_2 = 0 then (some (l0_0, y192, a0_2, true, 6)) else (if a0_2 > 0 then (some (l0_0, y192, wrap64 (a0_2 - 1), false, 0)) else (some (l0_0, y192, a0_2, false, 0)))) = some (r1, r2, r3, r4, r5) := by first | (rw [hy192]; with_reducible exact H) | (have H2_ := (Option.bind_some _ _).symm.trans H; rw [hy192]; with_reducible exact H2_) | (have H2_ := (Option.bind_some _ _).symm.trans H; with_reducible exact H2_) | with_reducible exact H | (rw [hy192]; exact H) | exact H
                have Ny192 := Aside0.mk hy192
                clear hy192
                by_cases c28 : a0_2 = 0
                · rw [if_pos c28] at H
                  have c28b0 : (a0_2 == 0) = true := beq_iff_eq.mpr c28
                  have c28b1 : (a0_2 != 0) = false := bne_eq_false_iff_eq.mpr c28
                  clear c28
                  simp only [Option.some.injEq, Prod.mk.injEq] at H
                  obtain ⟨rfl, rfl, rfl, rfl, rfl⟩ := H
                  go_wp2_with (first | ((with_reducible refine gate_dst (N := 25) rfl ?_); (try (refine gate_guard (by rfl) ?_; dsimp only)); refine Kd.R_lit k47 _ 47 ?hg (N := 25) ?hd (xs := ([] : List (S47))) (inner := []) (ok := fun _ => True) (okp := fun _ => True) ?hr ?hp (fun _ hk => hk) trivial (Below.refl _ _) (Nat.le_refl _) (by simp) ?_; (case hd => rfl); (case hg => rfl); (case hr => first | (go_simp; done) | (go_simp; rfl)); (case hp => exact (Reps.none _ _)); intro v187 w29 ho30 hb hg_ hnew_; clear hg_ hnew_; (first | rw [← Ny186.out] at ho30 | (simp only [Int.reduceToNat] at ho30; rw [← Ny186.out] at ho30)); have n0_ := Aside0.mk (Kd.V_elder' (by (with_reducible repeat (first | apply Kd.V_alloc | apply Kd.V_drewN | apply Kd.V_drew)); exact HO_185000.out) (Kd.R_base ho30) hb); have n1_ := Aside0.mk (Kd.V_elder' (by (with_reducible repeat (first | apply Kd.V_alloc | apply Kd.V_drewN | apply Kd.V_drew)); exact HO_185001.out) (Kd.R_base ho30) hb); have n2_ := Aside0.mk (Kd.R_lower (Kd.R_newM (M := fun k_ => (w.heap.size ≤ k_)) ho30 (below_size (by repeat (first | (with_reducible first | exact HB.out | apply below_alloc | apply pw_below_drewN | apply below_drew1 | refine below_set ?_ GE184.out | refine below_set ?_ GE185.out) | exact HB.out))) (fun k_ h_ => h_)) (below_size (by repeat (first | (with_reducible first | exact HB.out | apply below_alloc | apply pw_below_drewN | apply below_drew1 | refine below_set ?_ GE184.out | refine below_set ?_ GE185.out) | exact HB.out)))); have n3_ := Aside0.mk (blk_below (g := gb184) (o := .cells #[.slice A0_0 l0_0.length c0_0, .slice A0_1 l0_1.length c0_1, .int .i64 a0_2, .bool false] 25 (0, 0)) (by (with_reducible repeat (first | refine blk_drewN ?_ _ | refine blk_drew ?_ | refine blk_alloc ?_ _)); exact BK184.out) hb); have n4_ := Aside0.mk (blk_below (g := gb185) (o := .cells #[.slice none 0 0, .slice none 0 0, .int .i64 0, .bool false] 25 (0, 0)) (by (with_reducible repeat (first | refine blk_drewN ?_ _ | refine blk_drew ?_ | refine blk_alloc ?_ _)); exact BK185.out) hb); have n5_ := Aside0.mk (below_step (by repeat (first | (with_reducible first | exact HB.out | apply below_alloc | apply pw_below_drewN | apply below_drew1 | refine below_set ?_ GE184.out | refine below_set ?_ GE185.out) | exact HB.out)) hb); clear HO_185000; clear HO_185001; clear BK184; clear BK185; clear HB; have HO_185000 := n0_; have HO_185001 := n1_; have HO188 := n2_; have BK184 := n3_; have BK185 := n4_; have HB := n5_; clear n0_ n1_ n2_ n3_ n4_ n5_; clear hb ho30; have hnb31 := NB184_185.out; have hnc31 := NB185_184.out; have hcz32_0 : w29.cell? ⟨gb184, 0, none⟩ = some (.slice A0_0 l0_0.length c0_0) := (blk_cell BK184.out 0).trans rfl; have hcz32_1 : w29.cell? ⟨gb184, 1, none⟩ = some (.slice A0_1 l0_1.length c0_1) := (blk_cell BK184.out 1).trans rfl; have hcz32_2 : w29.cell? ⟨gb184, 2, none⟩ = some (.int .i64 a0_2) := (blk_cell BK184.out 2).trans rfl; have hcz32_3 : w29.cell? ⟨gb184, 3, none⟩ = some (.bool false) := (blk_cell BK184.out 3).trans rfl; have hfz32_0 := blk_frozen BK184.out 0; have hfz32_1 := blk_frozen BK184.out 1; have hfz32_2 := blk_frozen BK184.out 2; have hfz32_3 := blk_frozen BK184.out 3) | ((with_reducible refine gate_builtin (b := .append) (xs := #[.tmp 25, .tmp 27]) rfl ?_); (try (refine gate_guard (by rfl) ?_; dsimp only)); at_builtin; refine Kd.R_append_rows k47 (w0 := w) w.heap.size rfl (.tmp 25) (.tmp 27) 23 47 (.agg #[(.int .i64 0), (.string ⟨#[]⟩)]) 24 rfl Try.underlying23 info47 rfl (by decide) (by omega) v187 y186 l0_1 _ _ _ (fun k_ => (w.heap.size ≤ k_)) (fun _ => False) rfl rfl ?aO ?aR (fun _ _ h => h) (fun _ h => h.elim) ?aF ?aB ?aS ?aL ?_; (case aR => repeat (first | exact (Kd.V_reads' HO_185001.out).2.2 | (with_reducible refine Kd.C_alloc ?_ _) | (with_reducible refine Kd.C_drewN ?_ _) | (with_reducible refine Kd.C_drew ?_))); (case aB => exact (by repeat (first | (with_reducible first | exact HB.out | apply below_alloc | apply pw_below_drewN | apply below_drew1 | refine below_set ?_ GE184.out | refine below_set ?_ GE185.out) | exact HB.out))); (case aF => exact (fun k_ hk => (Nat.le_trans (below_size (by repeat (first | (with_reducible first | exact HB.out | apply below_alloc | apply pw_below_drewN | apply below_drew1 | refine below_set ?_ GE184.out | refine below_set ?_ GE185.out) | exact HB.out))) hk))); (case aO => exact (by (with_reducible repeat (first | apply Kd.R_alloc | apply Kd.R_drewN | apply Kd.R_drew)); exact Kd.R_mono HO188.out (fun _ hk => hk.1))); (case aS => exact (below_size (by repeat (first | (with_reducible first | exact HB.out | apply below_alloc | apply pw_below_drewN | apply below_drew1 | refine below_set ?_ GE184.out | refine below_set ?_ GE185.out) | exact HB.out)))); (case aL => have := LMc26.out; omega); intro v190 w33 ho hb hg hat; rw [← Ny189.out] at ho; have n0_ := Aside0.mk (Kd.V_afterv (ok := (fun k_ => ((P0_0_ k_ ∨ P0_1_ k_) ∨ w.heap.size ≤ k_) ∧ k_ ≠ gb184 ∧ k_ ≠ gb185)) (by (with_reducible repeat (first | apply Kd.V_alloc | apply Kd.V_drewN | apply Kd.V_drew)); exact HO_185000.out) hg hat); have n1_ := Aside0.mk (Kd.V_afterv (ok := (fun k_ => ((P0_0_ k_ ∨ P0_1_ k_) ∨ w.heap.size ≤ k_) ∧ k_ ≠ gb184 ∧ k_ ≠ gb185)) (by (with_reducible repeat (first | apply Kd.V_alloc | apply Kd.V_drewN | apply Kd.V_drew)); exact HO_185001.out) hg hat); have n2_ := Aside0.mk (blk_grown (g := gb184) (o := .cells #[.slice A0_0 l0_0.length c0_0, .slice A0_1 l0_1.length c0_1, .int .i64 a0_2, .bool false] 25 (0, 0)) (by (with_reducible repeat (first | refine blk_drewN ?_ _ | refine blk_drew ?_ | refine blk_alloc ?_ _)); exact BK184.out) hg (Kd.R_ne HO188.out BK184.out (by decide))); have n3_ := Aside0.mk (blk_grown (g := gb185) (o := .cells #[.slice none 0 0, .slice none 0 0, .int .i64 0, .bool false] 25 (0, 0)) (by (with_reducible repeat (first | refine blk_drewN ?_ _ | refine blk_drew ?_ | refine blk_alloc ?_ _)); exact BK185.out) hg (Kd.R_ne HO188.out BK185.out (by decide))); have n4_ := Aside0.mk (hb); have n5_ := Aside0.mk (ho); clear HO_185000; clear HO_185001; clear BK184; clear BK185; clear HB; clear HO188; have HO_185000 := n0_; have HO_185001 := n1_; have BK184 := n2_; have BK185 := n3_; have HB := n4_; have HO191 := n5_; clear n0_ n1_ n2_ n3_ n4_ n5_; clear ho hb hg hat) | ((with_reducible refine gate_builtin (b := .append) (xs := #[.tmp 28, .tmp 32]) rfl ?_); (try (refine gate_guard (by rfl) ?_; dsimp only)); at_builtin; refine Kd.R_append k47 (w0 := w) w.heap.size rfl (.tmp 28) (.tmp 32) 23 47 (.agg #[(.int .i64 0), (.string ⟨#[]⟩)]) 24 rfl Try.underlying23 info47 rfl (by decide) (by omega) v190 y189 (⟨a1, a2⟩ : S47) [.int .i64 a1, .string a2] (fun k_ => (w.heap.size ≤ k_)) (fun _ => False) rfl rfl ?aP (fun _ hk => hk.elim) ?aF ?aO ?aB ?aS ?aL ?_; (case aP => exact k47_mkM _ _ _ (⟨a1, a2⟩ : S47)); (case aB => exact (by repeat (first | (with_reducible first | exact HB.out | apply below_alloc | apply pw_below_drewN | apply below_drew1 | refine below_set ?_ GE184.out | refine below_set ?_ GE185.out) | exact HB.out))); (case aF => exact (fun k_ hk => (Nat.le_trans (below_size (by repeat (first | (with_reducible first | exact HB.out | apply below_alloc | apply pw_below_drewN | apply below_drew1 | refine below_set ?_ GE184.out | refine below_set ?_ GE185.out) | exact HB.out))) hk))); (case aO => exact (by (with_reducible repeat (first | apply Kd.R_alloc | apply Kd.R_drewN | apply Kd.R_drew)); exact HO191.out)); (case aS => exact (below_size (by repeat (first | (with_reducible first | exact HB.out | apply below_alloc | apply pw_below_drewN | apply below_drew1 | refine below_set ?_ GE184.out | refine below_set ?_ GE185.out) | exact HB.out)))); (case aL => have := LMc27.out; omega); intro v193 w34 ho hb hg hat; rw [← Ny192.out] at ho; have n0_ := Aside0.mk (Kd.V_afterv (ok := (fun k_ => ((P0_0_ k_ ∨ P0_1_ k_) ∨ w.heap.size ≤ k_) ∧ k_ ≠ gb184 ∧ k_ ≠ gb185)) (by (with_reducible repeat (first | apply Kd.V_alloc | apply Kd.V_drewN | apply Kd.V_drew)); exact HO_185000.out) hg hat); have n1_ := Aside0.mk (Kd.V_afterv (ok := (fun k_ => ((P0_0_ k_ ∨ P0_1_ k_) ∨ w.heap.size ≤ k_) ∧ k_ ≠ gb184 ∧ k_ ≠ gb185)) (by (with_reducible repeat (first | apply Kd.V_alloc | apply Kd.V_drewN | apply Kd.V_drew)); exact HO_185001.out) hg hat); have n2_ := Aside0.mk (blk_grown (g := gb184) (o := .cells #[.slice A0_0 l0_0.length c0_0, .slice A0_1 l0_1.length c0_1, .int .i64 a0_2, .bool false] 25 (0, 0)) (by (with_reducible repeat (first | refine blk_drewN ?_ _ | refine blk_drew ?_ | refine blk_alloc ?_ _)); exact BK184.out) hg (Kd.R_ne HO191.out BK184.out (by decide))); have n3_ := Aside0.mk (blk_grown (g := gb185) (o := .cells #[.slice none 0 0, .slice none 0 0, .int .i64 0, .bool false] 25 (0, 0)) (by (with_reducible repeat (first | refine blk_drewN ?_ _ | refine blk_drew ?_ | refine blk_alloc ?_ _)); exact BK185.out) hg (Kd.R_ne HO191.out BK185.out (by decide))); have n4_ := Aside0.mk (hb); have n5_ := Aside0.mk (ho); clear HO_185000; clear HO_185001; clear BK184; clear BK185; clear HB; clear HO191; have HO_185000 := n0_; have HO_185001 := n1_; have BK184 := n2_; have BK185 := n3_; have HB := n4_; have HO194 := n5_; clear n0_ n1_ n2_ n3_ n4_ n5_; clear ho hb hg hat; obtain ⟨Ao35, co35, eo35⟩ := Kd.R_slice HO194.out; subst eo35; have hcz36_0 : w34.cell? ⟨gb184, 0, none⟩ = some (.slice A0_0 l0_0.length c0_0) := (blk_cell BK184.out 0).trans rfl; have hcz36_1 : w34.cell? ⟨gb184, 1, none⟩ = some (.slice A0_1 l0_1.length c0_1) := (blk_cell BK184.out 1).trans rfl; have hcz36_2 : w34.cell? ⟨gb184, 2, none⟩ = some (.int .i64 a0_2) := (blk_cell BK184.out 2).trans rfl; have hcz36_3 : w34.cell? ⟨gb184, 3, none⟩ = some (.bool false) := (blk_cell BK184.out 3).trans rfl; have hfz36_0 := blk_frozen BK184.out 0; have hfz36_1 := blk_frozen BK184.out 1; have hfz36_2 := blk_frozen BK184.out 2; have hfz36_3 := blk_frozen BK184.out 3; have hcz37_0 : w34.cell? ⟨gb185, 0, none⟩ = some (.slice none 0 0) := (blk_cell BK185.out 0).trans rfl; have hcz37_1 : w34.cell? ⟨gb185, 1, none⟩ = some (.slice none 0 0) := (blk_cell BK185.out 1).trans rfl; have hcz37_2 : w34.cell? ⟨gb185, 2, none⟩ = some (.int .i64 0) := (blk_cell BK185.out 2).trans rfl; have hcz37_3 : w34.cell? ⟨gb185, 3, none⟩ = some (.bool false) := (blk_cell BK185.out 3).trans rfl; have hfz37_0 := blk_frozen BK185.out 0; have hfz37_1 := blk_frozen BK185.out 1; have hfz37_2 := blk_frozen BK185.out 2; have hfz37_3 := blk_frozen BK185.out 3))
                  refine bodyPost_ret (results_ct rfl _ _ gb185 25 #[.slice A0_0 l0_0.length c0_0, .slice Ao35 y192.length co35, .int .i64 a0_2, .bool true] (0, 0) _ rfl (by (with_reducible repeat (first | refine blk_drewN ?_ _ | refine blk_drew ?_ | refine blk_alloc ?_ _)); refine blk_put (cs := #[.slice A0_0 l0_0.length c0_0, .slice Ao35 y192.length co35, .int .i64 a0_2, .bool false]) ?_ 3 _ rfl; (with_reducible repeat (first | refine blk_drewN ?_ _ | refine blk_drew ?_ | refine blk_alloc ?_ _)); refine blk_put (cs := #[.slice A0_0 l0_0.length c0_0, .slice Ao35 y192.length co35, .int .i64 0, .bool false]) ?_ 2 _ rfl; (with_reducible repeat (first | refine blk_drewN ?_ _ | refine blk_drew ?_ | refine blk_alloc ?_ _)); refine blk_put (cs := #[.slice A0_0 l0_0.length c0_0, .slice none 0 0, .int .i64 0, .bool false]) ?_ 1 _ rfl; (with_reducible repeat (first | refine blk_drewN ?_ _ | refine blk_drew ?_ | refine blk_alloc ?_ _)); refine blk_put (cs := #[.slice none 0 0, .slice none 0 0, .int .i64 0, .bool false]) ?_ 0 _ rfl; (with_reducible repeat (first | refine blk_drewN ?_ _ | refine blk_drew ?_ | refine blk_alloc ?_ _)); refine blk_far ?_ NB185_184.out _; (with_reducible repeat (first | refine blk_drewN ?_ _ | refine blk_drew ?_ | refine blk_alloc ?_ _)); refine blk_far ?_ NB185_184.out _; (with_reducible repeat (first | refine blk_drewN ?_ _ | refine blk_drew ?_ | refine blk_alloc ?_ _)); exact BK185.out) Try.underlying25 rfl (by kernel_rfl)) rfl ?_
                  exact ⟨_, _, by first | rfl | (simp [errW_none, errW_some] <;> rfl) | (simp [*, errW_none, errW_some] <;> rfl), by (with_reducible repeat (first | apply Kd.V_alloc | apply Kd.V_drewN | apply Kd.V_drew)); exact Kd.V_mono (Kd.V_far (p := ⟨gb185, 3, none⟩) (Kd.V_far (p := ⟨gb185, 2, none⟩) (Kd.V_far (p := ⟨gb185, 1, none⟩) (Kd.V_far (p := ⟨gb185, 0, none⟩) (Kd.V_far (p := ⟨gb184, 3, none⟩) (Kd.V_far (p := ⟨gb184, 1, none⟩) (Kd.V_mono (Kd.V_mono HO_185000.out (fun k_ hk => (⟨hk, hk.1.2.1⟩ : _ ∧ k_ ≠ gb184))) (fun k_ hk => (⟨hk, hk.1.1.2.2⟩ : _ ∧ k_ ≠ gb185))) (fun _ hk => hk.1.2) (.slice Ao35 y192.length co35)) (fun _ hk => hk.1.2) (.bool true)) (fun _ hk => hk.2) (.slice A0_0 l0_0.length c0_0)) (fun _ hk => hk.2) (.slice Ao35 y192.length co35)) (fun _ hk => hk.2) (.int .i64 a0_2)) (fun _ hk => hk.2) (.bool true)) (fun _ hk => hk.1.1.1.1), Kd.V_mono (Kd.R_V (by (with_reducible repeat (first | apply Kd.R_alloc | apply Kd.R_drewN | apply Kd.R_drew)); exact Kd.R_mono (Kd.R_far (p := ⟨gb185, 3, none⟩) (Kd.R_far (p := ⟨gb185, 2, none⟩) (Kd.R_far (p := ⟨gb185, 1, none⟩) (Kd.R_far (p := ⟨gb185, 0, none⟩) (Kd.R_far (p := ⟨gb184, 3, none⟩) (Kd.R_far (p := ⟨gb184, 1, none⟩) (Kd.R_types (Kd.R_types HO194.out BK184.out (by decide)) BK185.out (by decide)) (fun _ hk => hk.1.2) (.slice Ao35 y192.length co35)) (fun _ hk => hk.1.2) (.bool true)) (fun _ hk => hk.2) (.slice A0_0 l0_0.length c0_0)) (fun _ hk => hk.2) (.slice Ao35 y192.length co35)) (fun _ hk => hk.2) (.int .i64 a0_2)) (fun _ hk => hk.2) (.bool true)) (fun _ hk => hk.1.1))) (fun k_ hk => by first | exact ⟨(.inr (hk.1)), hk.2⟩ | exact (.inr (hk))), by repeat (first | (with_reducible first | exact HB.out | apply below_alloc | apply pw_below_drewN | apply below_drew1 | refine below_set ?_ GE184.out | refine below_set ?_ GE185.out) | exact HB.out)⟩
                · rw [if_neg c28] at H
                  have c28b0 : (a0_2 == 0) = false := beq_eq_false_iff_ne.mpr c28
                  have c28b1 : (a0_2 != 0) = true := bne_iff_ne.mpr c28
                  by_cases c38 : a0_2 > 0
                  · rw [if_pos c38] at H
                    have c38b0 : decide (0 < a0_2) = true := decide_eq_true c38
                    clear c38
                    simp only [Option.some.injEq, Prod.mk.injEq] at H
                    obtain ⟨rfl, rfl, rfl, rfl, rfl⟩ := H
                    go_wp2_with (first | ((with_reducible refine gate_dst (N := 25) rfl ?_); (try (refine gate_guard (by rfl) ?_; dsimp only)); refine Kd.R_lit k47 _ 47 ?hg (N := 25) ?hd (xs := ([] : List (S47))) (inner := []) (ok := fun _ => True) (okp := fun _ => True) ?hr ?hp (fun _ hk => hk) trivial (Below.refl _ _) (Nat.le_refl _) (by simp) ?_; (case hd => rfl); (case hg => rfl); (case hr => first | (go_simp; done) | (go_simp; rfl)); (case hp => exact (Reps.none _ _)); intro v187 w39 ho40 hb hg_ hnew_; clear hg_ hnew_; (first | rw [← Ny186.out] at ho40 | (simp only [Int.reduceToNat] at ho40; rw [← Ny186.out] at ho40)); have n0_ := Aside0.mk (Kd.V_elder' (by (with_reducible repeat (first | apply Kd.V_alloc | apply Kd.V_drewN | apply Kd.V_drew)); exact HO_185000.out) (Kd.R_base ho40) hb); have n1_ := Aside0.mk (Kd.V_elder' (by (with_reducible repeat (first | apply Kd.V_alloc | apply Kd.V_drewN | apply Kd.V_drew)); exact HO_185001.out) (Kd.R_base ho40) hb); have n2_ := Aside0.mk (Kd.R_lower (Kd.R_newM (M := fun k_ => (w.heap.size ≤ k_)) ho40 (below_size (by repeat (first | (with_reducible first | exact HB.out | apply below_alloc | apply pw_below_drewN | apply below_drew1 | refine below_set ?_ GE184.out | refine below_set ?_ GE185.out) | exact HB.out))) (fun k_ h_ => h_)) (below_size (by repeat (first | (with_reducible first | exact HB.out | apply below_alloc | apply pw_below_drewN | apply below_drew1 | refine below_set ?_ GE184.out | refine below_set ?_ GE185.out) | exact HB.out)))); have n3_ := Aside0.mk (blk_below (g := gb184) (o := .cells #[.slice A0_0 l0_0.length c0_0, .slice A0_1 l0_1.length c0_1, .int .i64 a0_2, .bool false] 25 (0, 0)) (by (with_reducible repeat (first | refine blk_drewN ?_ _ | refine blk_drew ?_ | refine blk_alloc ?_ _)); exact BK184.out) hb); have n4_ := Aside0.mk (blk_below (g := gb185) (o := .cells #[.slice none 0 0, .slice none 0 0, .int .i64 0, .bool false] 25 (0, 0)) (by (with_reducible repeat (first | refine blk_drewN ?_ _ | refine blk_drew ?_ | refine blk_alloc ?_ _)); exact BK185.out) hb); have n5_ := Aside0.mk (below_step (by repeat (first | (with_reducible first | exact HB.out | apply below_alloc | apply pw_below_drewN | apply below_drew1 | refine below_set ?_ GE184.out | refine below_set ?_ GE185.out) | exact HB.out)) hb); clear HO_185000; clear HO_185001; clear BK184; clear BK185; clear HB; have HO_185000 := n0_; have HO_185001 := n1_; have HO188 := n2_; have BK184 := n3_; have BK185 := n4_; have HB := n5_; clear n0_ n1_ n2_ n3_ n4_ n5_; clear hb ho40; have hnb41 := NB184_185.out; have hnc41 := NB185_184.out; have hcz42_0 : w39.cell? ⟨gb184, 0, none⟩ = some (.slice A0_0 l0_0.length c0_0) := (blk_cell BK184.out 0).trans rfl; have hcz42_1 : w39.cell? ⟨gb184, 1, none⟩ = some (.slice A0_1 l0_1.length c0_1) := (blk_cell BK184.out 1).trans rfl; have hcz42_2 : w39.cell? ⟨gb184, 2, none⟩ = some (.int .i64 a0_2) := (blk_cell BK184.out 2).trans rfl; have hcz42_3 : w39.cell? ⟨gb184, 3, none⟩ = some (.bool false) := (blk_cell BK184.out 3).trans rfl; have hfz42_0 := blk_frozen BK184.out 0; have hfz42_1 := blk_frozen BK184.out 1; have hfz42_2 := blk_frozen BK184.out 2; have hfz42_3 := blk_frozen BK184.out 3) | ((with_reducible refine gate_builtin (b := .append) (xs := #[.tmp 25, .tmp 27]) rfl ?_); (try (refine gate_guard (by rfl) ?_; dsimp only)); at_builtin; refine Kd.R_append_rows k47 (w0 := w) w.heap.size rfl (.tmp 25) (.tmp 27) 23 47 (.agg #[(.int .i64 0), (.string ⟨#[]⟩)]) 24 rfl Try.underlying23 info47 rfl (by decide) (by omega) v187 y186 l0_1 _ _ _ (fun k_ => (w.heap.size ≤ k_)) (fun _ => False) rfl rfl ?aO ?aR (fun _ _ h => h) (fun _ h => h.elim) ?aF ?aB ?aS ?aL ?_; (case aR => repeat (first | exact (Kd.V_reads' HO_185001.out).2.2 | (with_reducible refine Kd.C_alloc ?_ _) | (with_reducible refine Kd.C_drewN ?_ _) | (with_reducible refine Kd.C_drew ?_))); (case aB => exact (by repeat (first | (with_reducible first | exact HB.out | apply below_alloc | apply pw_below_drewN | apply below_drew1 | refine below_set ?_ GE184.out | refine below_set ?_ GE185.out) | exact HB.out))); (case aF => exact (fun k_ hk => (Nat.le_trans (below_size (by repeat (first | (with_reducible first | exact HB.out | apply below_alloc | apply pw_below_drewN | apply below_drew1 | refine below_set ?_ GE184.out | refine below_set ?_ GE185.out) | exact HB.out))) hk))); (case aO => exact (by (with_reducible repeat (first | apply Kd.R_alloc | apply Kd.R_drewN | apply Kd.R_drew)); exact Kd.R_mono HO188.out (fun _ hk => hk.1))); (case aS => exact (below_size (by repeat (first | (with_reducible first | exact HB.out | apply below_alloc | apply pw_below_drewN | apply below_drew1 | refine below_set ?_ GE184.out | refine below_set ?_ GE185.out) | exact HB.out)))); (case aL => have := LMc26.out; omega); intro v190 w43 ho hb hg hat; rw [← Ny189.out] at ho; have n0_ := Aside0.mk (Kd.V_afterv (ok := (fun k_ => ((P0_0_ k_ ∨ P0_1_ k_) ∨ w.heap.size ≤ k_) ∧ k_ ≠ gb184 ∧ k_ ≠ gb185)) (by (with_reducible repeat (first | apply Kd.V_alloc | apply Kd.V_drewN | apply Kd.V_drew)); exact HO_185000.out) hg hat); have n1_ := Aside0.mk (Kd.V_afterv (ok := (fun k_ => ((P0_0_ k_ ∨ P0_1_ k_) ∨ w.heap.size ≤ k_) ∧ k_ ≠ gb184 ∧ k_ ≠ gb185)) (by (with_reducible repeat (first | apply Kd.V_alloc | apply Kd.V_drewN | apply Kd.V_drew)); exact HO_185001.out) hg hat); have n2_ := Aside0.mk (blk_grown (g := gb184) (o := .cells #[.slice A0_0 l0_0.length c0_0, .slice A0_1 l0_1.length c0_1, .int .i64 a0_2, .bool false] 25 (0, 0)) (by (with_reducible repeat (first | refine blk_drewN ?_ _ | refine blk_drew ?_ | refine blk_alloc ?_ _)); exact BK184.out) hg (Kd.R_ne HO188.out BK184.out (by decide))); have n3_ := Aside0.mk (blk_grown (g := gb185) (o := .cells #[.slice none 0 0, .slice none 0 0, .int .i64 0, .bool false] 25 (0, 0)) (by (with_reducible repeat (first | refine blk_drewN ?_ _ | refine blk_drew ?_ | refine blk_alloc ?_ _)); exact BK185.out) hg (Kd.R_ne HO188.out BK185.out (by decide))); have n4_ := Aside0.mk (hb); have n5_ := Aside0.mk (ho); clear HO_185000; clear HO_185001; clear BK184; clear BK185; clear HB; clear HO188; have HO_185000 := n0_; have HO_185001 := n1_; have BK184 := n2_; have BK185 := n3_; have HB := n4_; have HO191 := n5_; clear n0_ n1_ n2_ n3_ n4_ n5_; clear ho hb hg hat) | ((with_reducible refine gate_builtin (b := .append) (xs := #[.tmp 28, .tmp 32]) rfl ?_); (try (refine gate_guard (by rfl) ?_; dsimp only)); at_builtin; refine Kd.R_append k47 (w0 := w) w.heap.size rfl (.tmp 28) (.tmp 32) 23 47 (.agg #[(.int .i64 0), (.string ⟨#[]⟩)]) 24 rfl Try.underlying23 info47 rfl (by decide) (by omega) v190 y189 (⟨a1, a2⟩ : S47) [.int .i64 a1, .string a2] (fun k_ => (w.heap.size ≤ k_)) (fun _ => False) rfl rfl ?aP (fun _ hk => hk.elim) ?aF ?aO ?aB ?aS ?aL ?_; (case aP => exact k47_mkM _ _ _ (⟨a1, a2⟩ : S47)); (case aB => exact (by repeat (first | (with_reducible first | exact HB.out | apply below_alloc | apply pw_below_drewN | apply below_drew1 | refine below_set ?_ GE184.out | refine below_set ?_ GE185.out) | exact HB.out))); (case aF => exact (fun k_ hk => (Nat.le_trans (below_size (by repeat (first | (with_reducible first | exact HB.out | apply below_alloc | apply pw_below_drewN | apply below_drew1 | refine below_set ?_ GE184.out | refine below_set ?_ GE185.out) | exact HB.out))) hk))); (case aO => exact (by (with_reducible repeat (first | apply Kd.R_alloc | apply Kd.R_drewN | apply Kd.R_drew)); exact HO191.out)); (case aS => exact (below_size (by repeat (first | (with_reducible first | exact HB.out | apply below_alloc | apply pw_below_drewN | apply below_drew1 | refine below_set ?_ GE184.out | refine below_set ?_ GE185.out) | exact HB.out)))); (case aL => have := LMc27.out; omega); intro v193 w44 ho hb hg hat; rw [← Ny192.out] at ho; have n0_ := Aside0.mk (Kd.V_afterv (ok := (fun k_ => ((P0_0_ k_ ∨ P0_1_ k_) ∨ w.heap.size ≤ k_) ∧ k_ ≠ gb184 ∧ k_ ≠ gb185)) (by (with_reducible repeat (first | apply Kd.V_alloc | apply Kd.V_drewN | apply Kd.V_drew)); exact HO_185000.out) hg hat); have n1_ := Aside0.mk (Kd.V_afterv (ok := (fun k_ => ((P0_0_ k_ ∨ P0_1_ k_) ∨ w.heap.size ≤ k_) ∧ k_ ≠ gb184 ∧ k_ ≠ gb185)) (by (with_reducible repeat (first | apply Kd.V_alloc | apply Kd.V_drewN | apply Kd.V_drew)); exact HO_185001.out) hg hat); have n2_ := Aside0.mk (blk_grown (g := gb184) (o := .cells #[.slice A0_0 l0_0.length c0_0, .slice A0_1 l0_1.length c0_1, .int .i64 a0_2, .bool false] 25 (0, 0)) (by (with_reducible repeat (first | refine blk_drewN ?_ _ | refine blk_drew ?_ | refine blk_alloc ?_ _)); exact BK184.out) hg (Kd.R_ne HO191.out BK184.out (by decide))); have n3_ := Aside0.mk (blk_grown (g := gb185) (o := .cells #[.slice none 0 0, .slice none 0 0, .int .i64 0, .bool false] 25 (0, 0)) (by (with_reducible repeat (first | refine blk_drewN ?_ _ | refine blk_drew ?_ | refine blk_alloc ?_ _)); exact BK185.out) hg (Kd.R_ne HO191.out BK185.out (by decide))); have n4_ := Aside0.mk (hb); have n5_ := Aside0.mk (ho); clear HO_185000; clear HO_185001; clear BK184; clear BK185; clear HB; clear HO191; have HO_185000 := n0_; have HO_185001 := n1_; have BK184 := n2_; have BK185 := n3_; have HB := n4_; have HO194 := n5_; clear n0_ n1_ n2_ n3_ n4_ n5_; clear ho hb hg hat; obtain ⟨Ao45, co45, eo45⟩ := Kd.R_slice HO194.out; subst eo45; have hcz46_0 : w44.cell? ⟨gb184, 0, none⟩ = some (.slice A0_0 l0_0.length c0_0) := (blk_cell BK184.out 0).trans rfl; have hcz46_1 : w44.cell? ⟨gb184, 1, none⟩ = some (.slice A0_1 l0_1.length c0_1) := (blk_cell BK184.out 1).trans rfl; have hcz46_2 : w44.cell? ⟨gb184, 2, none⟩ = some (.int .i64 a0_2) := (blk_cell BK184.out 2).trans rfl; have hcz46_3 : w44.cell? ⟨gb184, 3, none⟩ = some (.bool false) := (blk_cell BK184.out 3).trans rfl; have hfz46_0 := blk_frozen BK184.out 0; have hfz46_1 := blk_frozen BK184.out 1; have hfz46_2 := blk_frozen BK184.out 2; have hfz46_3 := blk_frozen BK184.out 3; have hcz47_0 : w44.cell? ⟨gb185, 0, none⟩ = some (.slice none 0 0) := (blk_cell BK185.out 0).trans rfl; have hcz47_1 : w44.cell? ⟨gb185, 1, none⟩ = some (.slice none 0 0) := (blk_cell BK185.out 1).trans rfl; have hcz47_2 : w44.cell? ⟨gb185, 2, none⟩ = some (.int .i64 0) := (blk_cell BK185.out 2).trans rfl; have hcz47_3 : w44.cell? ⟨gb185, 3, none⟩ = some (.bool false) := (blk_cell BK185.out 3).trans rfl; have hfz47_0 := blk_frozen BK185.out 0; have hfz47_1 := blk_frozen BK185.out 1; have hfz47_2 := blk_frozen BK185.out 2; have hfz47_3 := blk_frozen BK185.out 3))
                    refine bodyPost_ret (results_ct rfl _ _ gb185 25 #[.slice A0_0 l0_0.length c0_0, .slice Ao45 y192.length co45, .int .i64 (wrap64 (a0_2 - 1)), .bool false] (0, 0) _ rfl (by (with_reducible repeat (first | refine blk_drewN ?_ _ | refine blk_drew ?_ | refine blk_alloc ?_ _)); refine blk_put (cs := #[.slice A0_0 l0_0.length c0_0, .slice Ao45 y192.length co45, .int .i64 (wrap64 (a0_2 - 1)), .bool false]) ?_ 3 _ rfl; (with_reducible repeat (first | refine blk_drewN ?_ _ | refine blk_drew ?_ | refine blk_alloc ?_ _)); refine blk_put (cs := #[.slice A0_0 l0_0.length c0_0, .slice Ao45 y192.length co45, .int .i64 0, .bool false]) ?_ 2 _ rfl; (with_reducible repeat (first | refine blk_drewN ?_ _ | refine blk_drew ?_ | refine blk_alloc ?_ _)); refine blk_put (cs := #[.slice A0_0 l0_0.length c0_0, .slice none 0 0, .int .i64 0, .bool false]) ?_ 1 _ rfl; (with_reducible repeat (first | refine blk_drewN ?_ _ | refine blk_drew ?_ | refine blk_alloc ?_ _)); refine blk_put (cs := #[.slice none 0 0, .slice none 0 0, .int .i64 0, .bool false]) ?_ 0 _ rfl; (with_reducible repeat (first | refine blk_drewN ?_ _ | refine blk_drew ?_ | refine blk_alloc ?_ _)); refine blk_far ?_ NB185_184.out _; (with_reducible repeat (first | refine blk_drewN ?_ _ | refine blk_drew ?_ | refine blk_alloc ?_ _)); refine blk_far ?_ NB185_184.out _; (with_reducible repeat (first | refine blk_drewN ?_ _ | refine blk_drew ?_ | refine blk_alloc ?_ _)); exact BK185.out) Try.underlying25 rfl (by kernel_rfl)) rfl ?_
                    exact ⟨_, _, by first | rfl | (simp [errW_none, errW_some] <;> rfl) | (simp [*, errW_none, errW_some] <;> rfl), by (with_reducible repeat (first | apply Kd.V_alloc | apply Kd.V_drewN | apply Kd.V_drew)); exact Kd.V_mono (Kd.V_far (p := ⟨gb185, 3, none⟩) (Kd.V_far (p := ⟨gb185, 2, none⟩) (Kd.V_far (p := ⟨gb185, 1, none⟩) (Kd.V_far (p := ⟨gb185, 0, none⟩) (Kd.V_far (p := ⟨gb184, 2, none⟩) (Kd.V_far (p := ⟨gb184, 1, none⟩) (Kd.V_mono (Kd.V_mono HO_185000.out (fun k_ hk => (⟨hk, hk.1.2.1⟩ : _ ∧ k_ ≠ gb184))) (fun k_ hk => (⟨hk, hk.1.1.2.2⟩ : _ ∧ k_ ≠ gb185))) (fun _ hk => hk.1.2) (.slice Ao45 y192.length co45)) (fun _ hk => hk.1.2) (.int .i64 (wrap64 (a0_2 - 1)))) (fun _ hk => hk.2) (.slice A0_0 l0_0.length c0_0)) (fun _ hk => hk.2) (.slice Ao45 y192.length co45)) (fun _ hk => hk.2) (.int .i64 (wrap64 (a0_2 - 1)))) (fun _ hk => hk.2) (.bool false)) (fun _ hk => hk.1.1.1.1), Kd.V_mono (Kd.R_V (by (with_reducible repeat (first | apply Kd.R_alloc | apply Kd.R_drewN | apply Kd.R_drew)); exact Kd.R_mono (Kd.R_far (p := ⟨gb185, 3, none⟩) (Kd.R_far (p := ⟨gb185, 2, none⟩) (Kd.R_far (p := ⟨gb185, 1, none⟩) (Kd.R_far (p := ⟨gb185, 0, none⟩) (Kd.R_far (p := ⟨gb184, 2, none⟩) (Kd.R_far (p := ⟨gb184, 1, none⟩) (Kd.R_types (Kd.R_types HO194.out BK184.out (by decide)) BK185.out (by decide)) (fun _ hk => hk.1.2) (.slice Ao45 y192.length co45)) (fun _ hk => hk.1.2) (.int .i64 (wrap64 (a0_2 - 1)))) (fun _ hk => hk.2) (.slice A0_0 l0_0.length c0_0)) (fun _ hk => hk.2) (.slice Ao45 y192.length co45)) (fun _ hk => hk.2) (.int .i64 (wrap64 (a0_2 - 1)))) (fun _ hk => hk.2) (.bool false)) (fun _ hk => hk.1.1))) (fun k_ hk => by first | exact ⟨(.inr (hk.1)), hk.2⟩ | exact (.inr (hk))), by repeat (first | (with_reducible first | exact HB.out | apply below_alloc | apply pw_below_drewN | apply below_drew1 | refine below_set ?_ GE184.out | refine below_set ?_ GE185.out) | exact HB.out)⟩
                  · rw [if_neg c38] at H
                    have c38b0 : decide (0 < a0_2) = false := decide_eq_false c38
                    clear c38
                    simp only [Option.some.injEq, Prod.mk.injEq] at H
                    obtain ⟨rfl, rfl, rfl, rfl, rfl⟩ := H
                    go_wp2_with (first | ((with_reducible refine gate_dst (N := 25) rfl ?_); (try (refine gate_guard (by rfl) ?_; dsimp only)); refine Kd.R_lit k47 _ 47 ?hg (N := 25) ?hd (xs := ([] : List (S47))) (inner := []) (ok := fun _ => True) (okp := fun _ => True) ?hr ?hp (fun _ hk => hk) trivial (Below.refl _ _) (Nat.le_refl _) (by simp) ?_; (case hd => rfl); (case hg => rfl); (case hr => first | (go_simp; done) | (go_simp; rfl)); (case hp => exact (Reps.none _ _)); intro v187 w48 ho49 hb hg_ hnew_; clear hg_ hnew_; (first | rw [← Ny186.out] at ho49 | (simp only [Int.reduceToNat] at ho49; rw [← Ny186.out] at ho49)); have n0_ := Aside0.mk (Kd.V_elder' (by (with_reducible repeat (first | apply Kd.V_alloc | apply Kd.V_drewN | apply Kd.V_drew)); exact HO_185000.out) (Kd.R_base ho49) hb); have n1_ := Aside0.mk (Kd.V_elder' (by (with_reducible repeat (first | apply Kd.V_alloc | apply Kd.V_drewN | apply Kd.V_drew)); exact HO_185001.out) (Kd.R_base ho49) hb); have n2_ := Aside0.mk (Kd.R_lower (Kd.R_newM (M := fun k_ => (w.heap.size ≤ k_)) ho49 (below_size (by repeat (first | (with_reducible first | exact HB.out | apply below_alloc | apply pw_below_drewN | apply below_drew1 | refine below_set ?_ GE184.out | refine below_set ?_ GE185.out) | exact HB.out))) (fun k_ h_ => h_)) (below_size (by repeat (first | (with_reducible first | exact HB.out | apply below_alloc | apply pw_below_drewN | apply below_drew1 | refine below_set ?_ GE184.out | refine below_set ?_ GE185.out) | exact HB.out)))); have n3_ := Aside0.mk (blk_below (g := gb184) (o := .cells #[.slice A0_0 l0_0.length c0_0, .slice A0_1 l0_1.length c0_1, .int .i64 a0_2, .bool false] 25 (0, 0)) (by (with_reducible repeat (first | refine blk_drewN ?_ _ | refine blk_drew ?_ | refine blk_alloc ?_ _)); exact BK184.out) hb); have n4_ := Aside0.mk (blk_below (g := gb185) (o := .cells #[.slice none 0 0, .slice none 0 0, .int .i64 0, .bool false] 25 (0, 0)) (by (with_reducible repeat (first | refine blk_drewN ?_ _ | refine blk_drew ?_ | refine blk_alloc ?_ _)); exact BK185.out) hb); have n5_ := Aside0.mk (below_step (by repeat (first | (with_reducible first | exact HB.out | apply below_alloc | apply pw_below_drewN | apply below_drew1 | refine below_set ?_ GE184.out | refine below_set ?_ GE185.out) | exact HB.out)) hb); clear HO_185000; clear HO_185001; clear BK184; clear BK185; clear HB; have HO_185000 := n0_; have HO_185001 := n1_; have HO188 := n2_; have BK184 := n3_; have BK185 := n4_; have HB := n5_; clear n0_ n1_ n2_ n3_ n4_ n5_; clear hb ho49; have hnb50 := NB184_185.out; have hnc50 := NB185_184.out; have hcz51_0 : w48.cell? ⟨gb184, 0, none⟩ = some (.slice A0_0 l0_0.length c0_0) := (blk_cell BK184.out 0).trans rfl; have hcz51_1 : w48.cell? ⟨gb184, 1, none⟩ = some (.slice A0_1 l0_1.length c0_1) := (blk_cell BK184.out 1).trans rfl; have hcz51_2 : w48.cell? ⟨gb184, 2, none⟩ = some (.int .i64 a0_2) := (blk_cell BK184.out 2).trans rfl; have hcz51_3 : w48.cell? ⟨gb184, 3, none⟩ = some (.bool false) := (blk_cell BK184.out 3).trans rfl; have hfz51_0 := blk_frozen BK184.out 0; have hfz51_1 := blk_frozen BK184.out 1; have hfz51_2 := blk_frozen BK184.out 2; have hfz51_3 := blk_frozen BK184.out 3) | ((with_reducible refine gate_builtin (b := .append) (xs := #[.tmp 25, .tmp 27]) rfl ?_); (try (refine gate_guard (by rfl) ?_; dsimp only)); at_builtin; refine Kd.R_append_rows k47 (w0 := w) w.heap.size rfl (.tmp 25) (.tmp 27) 23 47 (.agg #[(.int .i64 0), (.string ⟨#[]⟩)]) 24 rfl Try.underlying23 info47 rfl (by decide) (by omega) v187 y186 l0_1 _ _ _ (fun k_ => (w.heap.size ≤ k_)) (fun _ => False) rfl rfl ?aO ?aR (fun _ _ h => h) (fun _ h => h.elim) ?aF ?aB ?aS ?aL ?_; (case aR => repeat (first | exact (Kd.V_reads' HO_185001.out).2.2 | (with_reducible refine Kd.C_alloc ?_ _) | (with_reducible refine Kd.C_drewN ?_ _) | (with_reducible refine Kd.C_drew ?_))); (case aB => exact (by repeat (first | (with_reducible first | exact HB.out | apply below_alloc | apply pw_below_drewN | apply below_drew1 | refine below_set ?_ GE184.out | refine below_set ?_ GE185.out) | exact HB.out))); (case aF => exact (fun k_ hk => (Nat.le_trans (below_size (by repeat (first | (with_reducible first | exact HB.out | apply below_alloc | apply pw_below_drewN | apply below_drew1 | refine below_set ?_ GE184.out | refine below_set ?_ GE185.out) | exact HB.out))) hk))); (case aO => exact (by (with_reducible repeat (first | apply Kd.R_alloc | apply Kd.R_drewN | apply Kd.R_drew)); exact Kd.R_mono HO188.out (fun _ hk => hk.1))); (case aS => exact (below_size (by repeat (first | (with_reducible first | exact HB.out | apply below_alloc | apply pw_below_drewN | apply below_drew1 | refine below_set ?_ GE184.out | refine below_set ?_ GE185.out) | exact HB.out)))); (case aL => have := LMc26.out; omega); intro v190 w52 ho hb hg hat; rw [← Ny189.out] at ho; have n0_ := Aside0.mk (Kd.V_afterv (ok := (fun k_ => ((P0_0_ k_ ∨ P0_1_ k_) ∨ w.heap.size ≤ k_) ∧ k_ ≠ gb184 ∧ k_ ≠ gb185)) (by (with_reducible repeat (first | apply Kd.V_alloc | apply Kd.V_drewN | apply Kd.V_drew)); exact HO_185000.out) hg hat); have n1_ := Aside0.mk (Kd.V_afterv (ok := (fun k_ => ((P0_0_ k_ ∨ P0_1_ k_) ∨ w.heap.size ≤ k_) ∧ k_ ≠ gb184 ∧ k_ ≠ gb185)) (by (with_reducible repeat (first | apply Kd.V_alloc | apply Kd.V_drewN | apply Kd.V_drew)); exact HO_185001.out) hg hat); have n2_ := Aside0.mk (blk_grown (g := gb184) (o := .cells #[.slice A0_0 l0_0.length c0_0, .slice A0_1 l0_1.length c0_1, .int .i64 a0_2, .bool false] 25 (0, 0)) (by (with_reducible repeat (first | refine blk_drewN ?_ _ | refine blk_drew ?_ | refine blk_alloc ?_ _)); exact BK184.out) hg (Kd.R_ne HO188.out BK184.out (by decide))); have n3_ := Aside0.mk (blk_grown (g := gb185) (o := .cells #[.slice none 0 0, .slice none 0 0, .int .i64 0, .bool false] 25 (0, 0)) (by (with_reducible repeat (first | refine blk_drewN ?_ _ | refine blk_drew ?_ | refine blk_alloc ?_ _)); exact BK185.out) hg (Kd.R_ne HO188.out BK185.out (by decide))); have n4_ := Aside0.mk (hb); have n5_ := Aside0.mk (ho); clear HO_185000; clear HO_185001; clear BK184; clear BK185; clear HB; clear HO188; have HO_185000 := n0_; have HO_185001 := n1_; have BK184 := n2_; have BK185 := n3_; have HB := n4_; have HO191 := n5_; clear n0_ n1_ n2_ n3_ n4_ n5_; clear ho hb hg hat) | ((with_reducible refine gate_builtin (b := .append) (xs := #[.tmp 28, .tmp 32]) rfl ?_); (try (refine gate_guard (by rfl) ?_; dsimp only)); at_builtin; refine Kd.R_append k47 (w0 := w) w.heap.size rfl (.tmp 28) (.tmp 32) 23 47 (.agg #[(.int .i64 0), (.string ⟨#[]⟩)]) 24 rfl Try.underlying23 info47 rfl (by decide) (by omega) v190 y189 (⟨a1, a2⟩ : S47) [.int .i64 a1, .string a2] (fun k_ => (w.heap.size ≤ k_)) (fun _ => False) rfl rfl ?aP (fun _ hk => hk.elim) ?aF ?aO ?aB ?aS ?aL ?_; (case aP => exact k47_mkM _ _ _ (⟨a1, a2⟩ : S47)); (case aB => exact (by repeat (first | (with_reducible first | exact HB.out | apply below_alloc | apply pw_below_drewN | apply below_drew1 | refine below_set ?_ GE184.out | refine below_set ?_ GE185.out) | exact HB.out))); (case aF => exact (fun k_ hk => (Nat.le_trans (below_size (by repeat (first | (with_reducible first | exact HB.out | apply below_alloc | apply pw_below_drewN | apply below_drew1 | refine below_set ?_ GE184.out | refine below_set ?_ GE185.out) | exact HB.out))) hk))); (case aO => exact (by (with_reducible repeat (first | apply Kd.R_alloc | apply Kd.R_drewN | apply Kd.R_drew)); exact HO191.out)); (case aS => exact (below_size (by repeat (first | (with_reducible first | exact HB.out | apply below_alloc | apply pw_below_drewN | apply below_drew1 | refine below_set ?_ GE184.out | refine below_set ?_ GE185.out) | exact HB.out)))); (case aL => have := LMc27.out; omega); intro v193 w53 ho hb hg hat; rw [← Ny192.out] at ho; have n0_ := Aside0.mk (Kd.V_afterv (ok := (fun k_ => ((P0_0_ k_ ∨ P0_1_ k_) ∨ w.heap.size ≤ k_) ∧ k_ ≠ gb184 ∧ k_ ≠ gb185)) (by (with_reducible repeat (first | apply Kd.V_alloc | apply Kd.V_drewN | apply Kd.V_drew)); exact HO_185000.out) hg hat); have n1_ := Aside0.mk (Kd.V_afterv (ok := (fun k_ => ((P0_0_ k_ ∨ P0_1_ k_) ∨ w.heap.size ≤ k_) ∧ k_ ≠ gb184 ∧ k_ ≠ gb185)) (by (with_reducible repeat (first | apply Kd.V_alloc | apply Kd.V_drewN | apply Kd.V_drew)); exact HO_185001.out) hg hat); have n2_ := Aside0.mk (blk_grown (g := gb184) (o := .cells #[.slice A0_0 l0_0.length c0_0, .slice A0_1 l0_1.length c0_1, .int .i64 a0_2, .bool false] 25 (0, 0)) (by (with_reducible repeat (first | refine blk_drewN ?_ _ | refine blk_drew ?_ | refine blk_alloc ?_ _)); exact BK184.out) hg (Kd.R_ne HO191.out BK184.out (by decide))); have n3_ := Aside0.mk (blk_grown (g := gb185) (o := .cells #[.slice none 0 0, .slice none 0 0, .int .i64 0, .bool false] 25 (0, 0)) (by (with_reducible repeat (first | refine blk_drewN ?_ _ | refine blk_drew ?_ | refine blk_alloc ?_ _)); exact BK185.out) hg (Kd.R_ne HO191.out BK185.out (by decide))); have n4_ := Aside0.mk (hb); have n5_ := Aside0.mk (ho); clear HO_185000; clear HO_185001; clear BK184; clear BK185; clear HB; clear HO191; have HO_185000 := n0_; have HO_185001 := n1_; have BK184 := n2_; have BK185 := n3_; have HB := n4_; have HO194 := n5_; clear n0_ n1_ n2_ n3_ n4_ n5_; clear ho hb hg hat; obtain ⟨Ao54, co54, eo54⟩ := Kd.R_slice HO194.out; subst eo54; have hcz55_0 : w53.cell? ⟨gb184, 0, none⟩ = some (.slice A0_0 l0_0.length c0_0) := (blk_cell BK184.out 0).trans rfl; have hcz55_1 : w53.cell? ⟨gb184, 1, none⟩ = some (.slice A0_1 l0_1.length c0_1) := (blk_cell BK184.out 1).trans rfl; have hcz55_2 : w53.cell? ⟨gb184, 2, none⟩ = some (.int .i64 a0_2) := (blk_cell BK184.out 2).trans rfl; have hcz55_3 : w53.cell? ⟨gb184, 3, none⟩ = some (.bool false) := (blk_cell BK184.out 3).trans rfl; have hfz55_0 := blk_frozen BK184.out 0; have hfz55_1 := blk_frozen BK184.out 1; have hfz55_2 := blk_frozen BK184.out 2; have hfz55_3 := blk_frozen BK184.out 3; have hcz56_0 : w53.cell? ⟨gb185, 0, none⟩ = some (.slice none 0 0) := (blk_cell BK185.out 0).trans rfl; have hcz56_1 : w53.cell? ⟨gb185, 1, none⟩ = some (.slice none 0 0) := (blk_cell BK185.out 1).trans rfl; have hcz56_2 : w53.cell? ⟨gb185, 2, none⟩ = some (.int .i64 0) := (blk_cell BK185.out 2).trans rfl; have hcz56_3 : w53.cell? ⟨gb185, 3, none⟩ = some (.bool false) := (blk_cell BK185.out 3).trans rfl; have hfz56_0 := blk_frozen BK185.out 0; have hfz56_1 := blk_frozen BK185.out 1; have hfz56_2 := blk_frozen BK185.out 2; have hfz56_3 := blk_frozen BK185.out 3))
                    refine bodyPost_ret (results_ct rfl _ _ gb185 25 #[.slice A0_0 l0_0.length c0_0, .slice Ao54 y192.length co54, .int .i64 a0_2, .bool false] (0, 0) _ rfl (by (with_reducible repeat (first | refine blk_drewN ?_ _ | refine blk_drew ?_ | refine blk_alloc ?_ _)); refine blk_put (cs := #[.slice A0_0 l0_0.length c0_0, .slice Ao54 y192.length co54, .int .i64 a0_2, .bool false]) ?_ 3 _ rfl; (with_reducible repeat (first | refine blk_drewN ?_ _ | refine blk_drew ?_ | refine blk_alloc ?_ _)); refine blk_put (cs := #[.slice A0_0 l0_0.length c0_0, .slice Ao54 y192.length co54, .int .i64 0, .bool false]) ?_ 2 _ rfl; (with_reducible repeat (first | refine blk_drewN ?_ _ | refine blk_drew ?_ | refine blk_alloc ?_ _)); refine blk_put (cs := #[.slice A0_0 l0_0.length c0_0, .slice none 0 0, .int .i64 0, .bool false]) ?_ 1 _ rfl; (with_reducible repeat (first | refine blk_drewN ?_ _ | refine blk_drew ?_ | refine blk_alloc ?_ _)); refine blk_put (cs := #[.slice none 0 0, .slice none 0 0, .int .i64 0, .bool false]) ?_ 0 _ rfl; (with_reducible repeat (first | refine blk_drewN ?_ _ | refine blk_drew ?_ | refine blk_alloc ?_ _)); refine blk_far ?_ NB185_184.out _; (with_reducible repeat (first | refine blk_drewN ?_ _ | refine blk_drew ?_ | refine blk_alloc ?_ _)); exact BK185.out) Try.underlying25 rfl (by kernel_rfl)) rfl ?_
                    exact ⟨_, _, by first | rfl | (simp [errW_none, errW_some] <;> rfl) | (simp [*, errW_none, errW_some] <;> rfl), by (with_reducible repeat (first | apply Kd.V_alloc | apply Kd.V_drewN | apply Kd.V_drew)); exact Kd.V_mono (Kd.V_far (p := ⟨gb185, 3, none⟩) (Kd.V_far (p := ⟨gb185, 2, none⟩) (Kd.V_far (p := ⟨gb185, 1, none⟩) (Kd.V_far (p := ⟨gb185, 0, none⟩) (Kd.V_far (p := ⟨gb184, 1, none⟩) (Kd.V_mono (Kd.V_mono HO_185000.out (fun k_ hk => (⟨hk, hk.1.2.1⟩ : _ ∧ k_ ≠ gb184))) (fun k_ hk => (⟨hk, hk.1.1.2.2⟩ : _ ∧ k_ ≠ gb185))) (fun _ hk => hk.1.2) (.slice Ao54 y192.length co54)) (fun _ hk => hk.2) (.slice A0_0 l0_0.length c0_0)) (fun _ hk => hk.2) (.slice Ao54 y192.length co54)) (fun _ hk => hk.2) (.int .i64 a0_2)) (fun _ hk => hk.2) (.bool false)) (fun _ hk => hk.1.1.1.1), Kd.V_mono (Kd.R_V (by (with_reducible repeat (first | apply Kd.R_alloc | apply Kd.R_drewN | apply Kd.R_drew)); exact Kd.R_mono (Kd.R_far (p := ⟨gb185, 3, none⟩) (Kd.R_far (p := ⟨gb185, 2, none⟩) (Kd.R_far (p := ⟨gb185, 1, none⟩) (Kd.R_far (p := ⟨gb185, 0, none⟩) (Kd.R_far (p := ⟨gb184, 1, none⟩) (Kd.R_types (Kd.R_types HO194.out BK184.out (by decide)) BK185.out (by decide)) (fun _ hk => hk.1.2) (.slice Ao54 y192.length co54)) (fun _ hk => hk.2) (.slice A0_0 l0_0.length c0_0)) (fun _ hk => hk.2) (.slice Ao54 y192.length co54)) (fun _ hk => hk.2) (.int .i64 a0_2)) (fun _ hk => hk.2) (.bool false)) (fun _ hk => hk.1.1))) (fun k_ hk => by first | exact ⟨(.inr (hk.1)), hk.2⟩ | exact (.inr (hk))), by repeat (first | (with_reducible first | exact HB.out | apply below_alloc | apply pw_below_drewN | apply below_drew1 | refine below_set ?_ GE184.out | refine below_set ?_ GE185.out) | exact HB.out)⟩
              · rw [if_neg c27] at H
                exact absurd H (by simp)
            · rw [if_neg c26] at H
              exact absurd H (by simp)

/-! ### hogsheadref08_Get: function 14 -/
mutual
def hogsheadref08_Get.j0 : Nat → Int → Bool → List ByteArray → List (S47) → Int → Bool → Option (ByteArray × Int)
  | 0, _, _, _, _, _, _ => none
  | k + 1, x1, x16, x196000, x196001, x196002, x196003 => if x16 = true then (some ((⟨#[]⟩ : ByteArray), 1)) else (if 0 ≤ x1 then (if x1 < (x196000.length : Int) then (hogsheadref08_Get.l0 k x1 (rdOf ByteArray.empty x196000 x1) 0 x196000 x196001 x196002 x196003) else (none)) else (none))
def hogsheadref08_Get.l0 : Nat → Int → ByteArray → Int → List ByteArray → List (S47) → Int → Bool → Option (ByteArray × Int)
  | 0, _, _, _, _, _, _, _ => none
  | k + 1, x1, x6, x7, x196000, x196001, x196002, x196003 => if x7 < (x196001.length : Int) then (if 0 ≤ x7 then (if ((rd_T47 x196001 x7).f0) = x1 then (hogsheadref08_Get.l0 k x1 ((rd_T47 x196001 x7).f1) (wrap64 (x7 + 1)) x196000 x196001 x196002 x196003) else (hogsheadref08_Get.l0 k x1 x6 (wrap64 (x7 + 1)) x196000 x196001 x196002 x196003)) else (none)) else (some (x6, 0))
end
def hogsheadref08_Get.f (k : Nat) (l0_0 : List ByteArray) (l0_1 : List (S47)) (a0_2 : Int) (a0_3 : Bool) (a1 : Int) : Option (ByteArray × Int) := if a1 < 0 then (hogsheadref08_Get.j0 k a1 true l0_0 l0_1 a0_2 a0_3) else (hogsheadref08_Get.j0 k a1 (decide (a1 ≥ (l0_0.length : Int))) l0_0 l0_1 a0_2 a0_3)
theorem hogsheadref08_Get.mono_l : ∀ k, (∀ y0 y1 y2 y3 y4 y5, LeO (hogsheadref08_Get.j0 k y0 y1 y2 y3 y4 y5) (hogsheadref08_Get.j0 (k + 1) y0 y1 y2 y3 y4 y5)) ∧ (∀ y0 y1 y2 y3 y4 y5 y6, LeO (hogsheadref08_Get.l0 k y0 y1 y2 y3 y4 y5 y6) (hogsheadref08_Get.l0 (k + 1) y0 y1 y2 y3 y4 y5 y6))
  | 0 => ⟨fun _ _ _ _ _ _ r h => by simp [hogsheadref08_Get.j0] at h, fun _ _ _ _ _ _ _ r h => by simp [hogsheadref08_Get.l0] at h⟩
  | k + 1 => by
    obtain ⟨ih0, ih1⟩ := hogsheadref08_Get.mono_l k
    refine ⟨?_, ?_⟩
    · intro y0 y1 y2 y3 y4 y5
      unfold hogsheadref08_Get.j0
      repeat' first
      | (with_reducible exact ih0 _ _ _ _ _ _)
      | (with_reducible exact ih1 _ _ _ _ _ _ _)
      | (with_reducible exact LeO.refl _)
      | (with_reducible exact LeO.none _)
      | (with_reducible refine LeO.ite ?_ ?_)
      | (with_reducible refine LeO.bind ?_ (fun _ => ?_))
      | exact ih0 _ _ _ _ _ _
      | exact ih1 _ _ _ _ _ _ _
      | exact LeO.none _
      | refine LeO.ite ?_ ?_
      | refine LeO.bind ?_ (fun _ => ?_)
    · intro y0 y1 y2 y3 y4 y5 y6
      unfold hogsheadref08_Get.l0
      repeat' first
      | (with_reducible exact ih0 _ _ _ _ _ _)
      | (with_reducible exact ih1 _ _ _ _ _ _ _)
      | (with_reducible exact LeO.refl _)
      | (with_reducible exact LeO.none _)
      | (with_reducible refine LeO.ite ?_ ?_)
      | (with_reducible refine LeO.bind ?_ (fun _ => ?_))
      | exact ih0 _ _ _ _ _ _
      | exact ih1 _ _ _ _ _ _ _
      | exact LeO.none _
      | refine LeO.ite ?_ ?_
      | refine LeO.bind ?_ (fun _ => ?_)
theorem hogsheadref08_Get.mono : ∀ a0 a1 a2 a3 a4 k, LeO (hogsheadref08_Get.f k a0 a1 a2 a3 a4) (hogsheadref08_Get.f (k + 1) a0 a1 a2 a3 a4) := by
  intro a0 a1 a2 a3 a4 k
  obtain ⟨ih0, ih1⟩ := hogsheadref08_Get.mono_l k
  unfold hogsheadref08_Get.f
  repeat' first
      | (with_reducible exact ih0 _ _ _ _ _ _)
      | (with_reducible exact ih1 _ _ _ _ _ _ _)
      | (with_reducible exact LeO.refl _)
      | (with_reducible exact LeO.none _)
      | (with_reducible refine LeO.ite ?_ ?_)
      | (with_reducible refine LeO.bind ?_ (fun _ => ?_))
      | exact ih0 _ _ _ _ _ _
      | exact ih1 _ _ _ _ _ _ _
      | exact LeO.none _
      | refine LeO.ite ?_ ?_
      | refine LeO.bind ?_ (fun _ => ?_)
set_option maxHeartbeats 8000000 in
set_option maxRecDepth 100000 in
theorem hogsheadref08_Get.calls (k : Nat) (A0_0 : Option Addr) (c0_0 : Nat) (l0_0 : List ByteArray) (A0_1 : Option Addr) (c0_1 : Nat) (l0_1 : List (S47)) (a0_2 : Int) (a0_3 : Bool) (a1 : Int) (r1 : ByteArray) (r2 : Int) (w : World) (hr0_0 : Kd.C Kd.string w A0_0 l0_0.length l0_0) (hc0_0 : l0_0.length ≤ c0_0) (hr0_1 : Kd.C k47 w A0_1 l0_1.length l0_1) (hc0_1 : l0_1.length ≤ c0_1) (h : hogsheadref08_Get.f k l0_0 l0_1 a0_2 a0_3 a1 = some (r1, r2)) :
    Calls Try.prog 14 #[.agg #[.slice A0_0 l0_0.length c0_0, .slice A0_1 l0_1.length c0_1, .int .i64 a0_2, .bool a0_3], .int .i64 a1] w fun e w' => e = .returned (.tuple #[.string r1, .int .i64 r2]) ∧ Below w.heap.size w w' := by
  have hu25 := Try.underlying25
  have HR0_0 := Aside0.mk hr0_0
  have HC0_0 := Aside0.mk hc0_0
  clear hr0_0 hc0_0
  have HR0_1 := Aside0.mk hr0_1
  have HC0_1 := Aside0.mk hc0_1
  clear hr0_1 hc0_1
  have HB := Aside0.mk (Below.refl w.heap.size w)
  have H : (if a1 < 0 then (hogsheadref08_Get.j0 k a1 true l0_0 l0_1 a0_2 a0_3) else (hogsheadref08_Get.j0 k a1 (decide (a1 ≥ (l0_0.length : Int))) l0_0 l0_1 a0_2 a0_3)) = some (r1, r2) := h
  clear h
  have HC3 := Aside0.mk H
  clear H
  go_enter Try.func14, Try.ntmps14
  go_upto_region 1 with (first | ((with_reducible refine gate_dst (N := 2) rfl ?_); (try (refine gate_guard (by rfl) ?_; dsimp only)); refine box_event ?hg (N := 2) ?hd (cs := #[.slice A0_0 l0_0.length c0_0, .slice A0_1 l0_1.length c0_1, .int .i64 a0_2, .bool a0_3]) (t := 25) ?hr ?_; (case hd => rfl); (case hg => rfl); (case hr => first | (go_simp; done) | (go_simp; rfl)); intro gb195 hg w4 hbox hb; have n0_ := Aside0.mk (below_step (by repeat (first | (with_reducible first | exact HB.out | apply below_alloc | apply pw_below_drewN | apply below_drew1) | exact HB.out)) hb); have n1_ := Aside0.mk (hbox); have n2_ := Aside0.mk ((by rw [hg]; exact (below_size (by repeat (first | (with_reducible first | exact HB.out | apply below_alloc | apply pw_below_drewN | apply below_drew1) | exact HB.out))) : w.heap.size ≤ gb195)); have n3_ := Aside0.mk ((by rw [hg]; exact (below_size (by repeat (first | (with_reducible first | exact HB.out | apply below_alloc | apply pw_below_drewN | apply below_drew1) | exact HB.out))) : w.heap.size ≤ gb195)); clear HB; have HB := n0_; have BK195 := n1_; have GW195 := n2_; have GE195 := n3_; clear n0_ n1_ n2_ n3_; clear hb hbox hg))
  (try simp only [Act.put, List.setIfInBounds_toArray, List.set_cons_zero, List.set_cons_succ])
  go_cut [16] (fun v16 wc => ∃ (kq : Nat) (x16_2 : Bool), v16 = .bool x16_2 ∧ Aside0 (hogsheadref08_Get.j0 kq a1 x16_2 l0_0 l0_1 a0_2 a0_3 = some (r1, r2)) ∧ Aside0 (kq ≤ k) ∧ Aside0 (wc.heap[gb195]? = some (.cells #[(.slice A0_0 l0_0.length c0_0), (.slice A0_1 l0_1.length c0_1), .int .i64 a0_2, .bool a0_3] 25 (0, 0))) ∧ Aside0 (Below w.heap.size w wc))
  case first =>
    have H := HC3.out
    clear HC3
    by_cases c5 : a1 < 0
    · rw [if_pos c5] at H
      have c5b0 : decide (a1 < 0) = true := decide_eq_true c5
      clear c5
      (first | rw [c5b0] | (simp only [i64_w, i32_w]; rw [c5b0]) | skip)
      have H' := Aside0.mk H
      clear H
      go_wp2
      go_meet
      case rel => exact ⟨_, (true), (by first | rfl | (simp; done) | (simp [*]; done)), H', ⟨by first | omega | exact Nat.le_refl _⟩, ⟨by (with_reducible repeat (first | refine blk_drewN ?_ _ | refine blk_drew ?_ | refine blk_alloc ?_ _)); exact BK195.out⟩, ⟨by repeat (first | (with_reducible first | exact HB.out | apply below_alloc | apply pw_below_drewN | apply below_drew1 | refine below_set ?_ GE195.out) | exact HB.out)⟩⟩
    · rw [if_neg c5] at H
      have c5b0 : decide (a1 < 0) = false := decide_eq_false c5
      clear c5
      (first | rw [c5b0] | (simp only [i64_w, i32_w]; rw [c5b0]) | skip)
      have H' := Aside0.mk H
      clear H
      have hcz6_0 : w4.cell? ⟨gb195, 0, none⟩ = some (.slice A0_0 l0_0.length c0_0) := (blk_cell BK195.out 0).trans rfl
      have hcz6_1 : w4.cell? ⟨gb195, 1, none⟩ = some (.slice A0_1 l0_1.length c0_1) := (blk_cell BK195.out 1).trans rfl
      have hcz6_2 : w4.cell? ⟨gb195, 2, none⟩ = some (.int .i64 a0_2) := (blk_cell BK195.out 2).trans rfl
      have hcz6_3 : w4.cell? ⟨gb195, 3, none⟩ = some (.bool a0_3) := (blk_cell BK195.out 3).trans rfl
      have hfz6_0 := blk_frozen BK195.out 0
      have hfz6_1 := blk_frozen BK195.out 1
      have hfz6_2 := blk_frozen BK195.out 2
      have hfz6_3 := blk_frozen BK195.out 3
      go_wp2
      go_meet
      case rel => exact ⟨_, (decide (a1 ≥ (l0_0.length : Int))), (by first | rfl | (simp; done) | (simp [*]; done)), H', ⟨by first | omega | exact Nat.le_refl _⟩, ⟨by (with_reducible repeat (first | refine blk_drewN ?_ _ | refine blk_drew ?_ | refine blk_alloc ?_ _)); exact BK195.out⟩, ⟨by repeat (first | (with_reducible first | exact HB.out | apply below_alloc | apply pw_below_drewN | apply below_drew1 | refine below_set ?_ GE195.out) | exact HB.out)⟩⟩
  case rest =>
    clear HC3
    try clear c1
    try clear p2
    try clear c5
    try clear c5b0
    try clear hcz6_0
    try clear hcz6_1
    try clear hcz6_2
    try clear hcz6_3
    try clear hfz6_0
    try clear hfz6_1
    try clear hfz6_2
    try clear hfz6_3
    obtain ⟨kq, x16_2, rfl, HA, HJ2, BK195, HB⟩ := hcut
    cases kq with
    | zero => exact absurd HA.out (by simp [hogsheadref08_Get.j0])
    | succ kj2 =>
      have H := HA.out
      clear HA
      simp only [hogsheadref08_Get.j0] at H
      by_cases c7 : x16_2 = true
      · subst c7
        have H1 : (some ((⟨#[]⟩ : ByteArray), 1)) = some (r1, r2) := by rw [if_pos rfl] at H; exact H
        clear H
        have H := H1
        clear H1
        simp only [Option.some.injEq, Prod.mk.injEq] at H
        obtain ⟨rfl, rfl⟩ := H
        go_wp2
        go_ret2
        exact ⟨by first | rfl | (simp [errW_none, errW_some] <;> rfl) | (simp [*, errW_none, errW_some] <;> rfl), by repeat (first | (with_reducible first | exact HB.out | apply below_alloc | apply pw_below_drewN | apply below_drew1 | refine below_set ?_ GE195.out) | exact HB.out)⟩
      · replace c7 := Bool.eq_false_iff.mpr c7
        subst c7
        have H1 : (if 0 ≤ a1 then (if a1 < (l0_0.length : Int) then (hogsheadref08_Get.l0 kj2 a1 (rdOf ByteArray.empty l0_0 a1) 0 l0_0 l0_1 a0_2 a0_3) else (none)) else (none)) = some (r1, r2) := by rw [if_neg (show ¬ (false = true) by decide)] at H; exact H
        clear H
        have H := H1
        clear H1
        by_cases c8 : 0 ≤ a1
        · rw [if_pos c8] at H
          have c8b0 : decide (0 ≤ a1) = true := decide_eq_true c8
          clear c8
          by_cases c9 : a1 < (l0_0.length : Int)
          · rw [if_pos c9] at H
            have c9b0 : decide (a1 < (l0_0.length : Int)) = true := decide_eq_true c9
            clear c9
            have H' := Aside0.mk H
            clear H
            have hcz10_0 : wc.cell? ⟨gb195, 0, none⟩ = some (.slice A0_0 l0_0.length c0_0) := (blk_cell BK195.out 0).trans rfl
            have hcz10_1 : wc.cell? ⟨gb195, 1, none⟩ = some (.slice A0_1 l0_1.length c0_1) := (blk_cell BK195.out 1).trans rfl
            have hcz10_2 : wc.cell? ⟨gb195, 2, none⟩ = some (.int .i64 a0_2) := (blk_cell BK195.out 2).trans rfl
            have hcz10_3 : wc.cell? ⟨gb195, 3, none⟩ = some (.bool a0_3) := (blk_cell BK195.out 3).trans rfl
            have hfz10_0 := blk_frozen BK195.out 0
            have hfz10_1 := blk_frozen BK195.out 1
            have hfz10_2 := blk_frozen BK195.out 2
            have hfz10_3 := blk_frozen BK195.out 3
            have p196 : 0 ≤ (a1 : Int) := of_decide_eq_true (by first | (with_reducible assumption) | assumption)
            have q196 : a1 < (l0_0.length : Int) := of_decide_eq_true (by first | (with_reducible assumption) | assumption)
            obtain ⟨ad196, e196, hx196_0⟩ := Kd.at_string HR0_0.out a1 p196 q196
            cases e196
            replace hx196_0 := (HB.out.cell (World.block_lt_of_cell? w _ hx196_0)).trans hx196_0
            replace p196 := eq_true p196
            replace q196 := eq_true q196
            go_wp2
            go_loopg [6, 7] kj2 (fun kq v6 v7 w' => ∃ (x6_2 : ByteArray) (x7_2 : Int), v6 = .string x6_2 ∧ v7 = .int .i64 x7_2 ∧ Aside0 (hogsheadref08_Get.l0 kq a1 x6_2 x7_2 l0_0 l0_1 a0_2 a0_3 = some (r1, r2)) ∧ Aside0 (kq ≤ kj2) ∧ Aside0 (w'.heap[gb195]? = some (.cells #[(.slice (some ad196) l0_0.length c0_0), (.slice A0_1 l0_1.length c0_1), .int .i64 a0_2, .bool a0_3] 25 (0, 0))) ∧ Aside0 (Below w.heap.size w w'))
            case atStart => exact ⟨(rdOf ByteArray.empty l0_0 a1), (0), (by first | rfl | (simp; done) | (simp [*]; done)), (by first | rfl | (simp; done) | (simp [*]; done)), H', ⟨Nat.le_refl _⟩, ⟨by (with_reducible repeat (first | refine blk_drewN ?_ _ | refine blk_drew ?_ | refine blk_alloc ?_ _)); exact BK195.out⟩, ⟨by repeat (first | (with_reducible first | exact HB.out | apply below_alloc | apply pw_below_drewN | apply below_drew1 | refine below_set ?_ GE195.out) | exact HB.out)⟩⟩
            case round =>
              clear H'
              try clear c1
              try clear p1
              try clear q1
              try clear hx1
              try clear p2
              try clear c5
              try clear c5b0
              try clear c7
              try clear c8
              try clear c8b0
              try clear c9
              try clear c9b0
              try clear hcz10_0
              try clear hcz10_1
              try clear hcz10_2
              try clear hcz10_3
              try clear hcz6_0
              try clear hcz6_1
              try clear hcz6_2
              try clear hcz6_3
              try clear hfz10_0
              try clear hfz10_1
              try clear hfz10_2
              try clear hfz10_3
              try clear hfz6_0
              try clear hfz6_1
              try clear hfz6_2
              try clear hfz6_3
              try clear hx196_0
              try clear p196
              try clear p2
              try clear q196
              obtain ⟨x6_2, x7_2, rfl, rfl, HA, HK2, BK195, HB⟩ := hrel
              cases gk with
              | zero => exact absurd HA.out (by simp [hogsheadref08_Get.l0])
              | succ k2 =>
                have H := HA.out
                clear HA
                simp only [hogsheadref08_Get.l0] at H
                by_cases c11 : x7_2 < (l0_1.length : Int)
                · rw [if_pos c11] at H
                  have c11b0 : decide (x7_2 < (l0_1.length : Int)) = true := decide_eq_true c11
                  clear c11
                  by_cases c12 : 0 ≤ x7_2
                  · rw [if_pos c12] at H
                    have c12b0 : decide (0 ≤ x7_2) = true := decide_eq_true c12
                    clear c12
                    by_cases c13 : ((rd_T47 l0_1 x7_2).f0) = a1
                    · rw [if_pos c13] at H
                      have c13b0 : (((rd_T47 l0_1 x7_2).f0) == a1) = true := beq_iff_eq.mpr c13
                      have c13b1 : (((rd_T47 l0_1 x7_2).f0) != a1) = false := bne_eq_false_iff_eq.mpr c13
                      clear c13
                      have H' := Aside0.mk H
                      clear H
                      have hcz14_0 : wr.cell? ⟨gb195, 0, none⟩ = some (.slice (some ad196) l0_0.length c0_0) := (blk_cell BK195.out 0).trans rfl
                      have hcz14_1 : wr.cell? ⟨gb195, 1, none⟩ = some (.slice A0_1 l0_1.length c0_1) := (blk_cell BK195.out 1).trans rfl
                      have hcz14_2 : wr.cell? ⟨gb195, 2, none⟩ = some (.int .i64 a0_2) := (blk_cell BK195.out 2).trans rfl
                      have hcz14_3 : wr.cell? ⟨gb195, 3, none⟩ = some (.bool a0_3) := (blk_cell BK195.out 3).trans rfl
                      have hfz14_0 := blk_frozen BK195.out 0
                      have hfz14_1 := blk_frozen BK195.out 1
                      have hfz14_2 := blk_frozen BK195.out 2
                      have hfz14_3 := blk_frozen BK195.out 3
                      have p197 : 0 ≤ (x7_2 : Int) := of_decide_eq_true (by first | (with_reducible assumption) | assumption)
                      have q197 : x7_2 < (l0_1.length : Int) := of_decide_eq_true (by first | (with_reducible assumption) | assumption)
                      obtain ⟨ad197, e197, hx197_0, hx197_1⟩ := at_T47 HR0_1.out x7_2 p197 q197
                      cases e197
                      replace hx197_0 := (HB.out.cell (World.block_lt_of_cell? w _ hx197_0)).trans hx197_0
                      replace hx197_1 := (HB.out.cell (World.block_lt_of_cell? w _ hx197_1)).trans hx197_1
                      replace p197 := eq_true p197
                      replace q197 := eq_true q197
                      have p198 : 0 ≤ (x7_2 : Int) := of_decide_eq_true (by first | (with_reducible assumption) | assumption)
                      have q198 : x7_2 < (l0_1.length : Int) := of_decide_eq_true (by first | (with_reducible assumption) | assumption)
                      obtain ⟨ad198, e198, hx198_0, hx198_1⟩ := at_T47 HR0_1.out x7_2 p198 q198
                      obtain rfl : ad197 = ad198 := (by injection e198)
                      replace hx198_0 := (HB.out.cell (World.block_lt_of_cell? w _ hx198_0)).trans hx198_0
                      replace hx198_1 := (HB.out.cell (World.block_lt_of_cell? w _ hx198_1)).trans hx198_1
                      replace p198 := eq_true p198
                      replace q198 := eq_true q198
                      go_wp2
                      go_roundg k2
                      case measure => have := HJ2.out; have := HK2.out; omega
                      case rel => exact ⟨((rd_T47 l0_1 x7_2).f1), (wrap64 (x7_2 + 1)), (by first | rfl | (simp; done) | (simp [*]; done)), (by first | rfl | (simp; done) | (simp [*]; done)), H', ⟨by have := HJ2.out; have := HK2.out; omega⟩, ⟨by (with_reducible repeat (first | refine blk_drewN ?_ _ | refine blk_drew ?_ | refine blk_alloc ?_ _)); exact BK195.out⟩, ⟨by repeat (first | (with_reducible first | exact HB.out | apply below_alloc | apply pw_below_drewN | apply below_drew1 | refine below_set ?_ GE195.out) | exact HB.out)⟩⟩
                    · rw [if_neg c13] at H
                      have c13b0 : (((rd_T47 l0_1 x7_2).f0) == a1) = false := beq_eq_false_iff_ne.mpr c13
                      have c13b1 : (((rd_T47 l0_1 x7_2).f0) != a1) = true := bne_iff_ne.mpr c13
                      have H' := Aside0.mk H
                      clear H
                      have hcz15_0 : wr.cell? ⟨gb195, 0, none⟩ = some (.slice (some ad196) l0_0.length c0_0) := (blk_cell BK195.out 0).trans rfl
                      have hcz15_1 : wr.cell? ⟨gb195, 1, none⟩ = some (.slice A0_1 l0_1.length c0_1) := (blk_cell BK195.out 1).trans rfl
                      have hcz15_2 : wr.cell? ⟨gb195, 2, none⟩ = some (.int .i64 a0_2) := (blk_cell BK195.out 2).trans rfl
                      have hcz15_3 : wr.cell? ⟨gb195, 3, none⟩ = some (.bool a0_3) := (blk_cell BK195.out 3).trans rfl
                      have hfz15_0 := blk_frozen BK195.out 0
                      have hfz15_1 := blk_frozen BK195.out 1
                      have hfz15_2 := blk_frozen BK195.out 2
                      have hfz15_3 := blk_frozen BK195.out 3
                      have p197 : 0 ≤ (x7_2 : Int) := of_decide_eq_true (by first | (with_reducible assumption) | assumption)
                      have q197 : x7_2 < (l0_1.length : Int) := of_decide_eq_true (by first | (with_reducible assumption) | assumption)
                      obtain ⟨ad197, e197, hx197_0, hx197_1⟩ := at_T47 HR0_1.out x7_2 p197 q197
                      cases e197
                      replace hx197_0 := (HB.out.cell (World.block_lt_of_cell? w _ hx197_0)).trans hx197_0
                      replace hx197_1 := (HB.out.cell (World.block_lt_of_cell? w _ hx197_1)).trans hx197_1
                      replace p197 := eq_true p197
                      replace q197 := eq_true q197
                      go_wp2
                      go_roundg k2
                      case measure => have := HJ2.out; have := HK2.out; omega
                      case rel => exact ⟨(x6_2), (wrap64 (x7_2 + 1)), (by first | rfl | (simp; done) | (simp [*]; done)), (by first | rfl | (simp; done) | (simp [*]; done)), H', ⟨by have := HJ2.out; have := HK2.out; omega⟩, ⟨by (with_reducible repeat (first | refine blk_drewN ?_ _ | refine blk_drew ?_ | refine blk_alloc ?_ _)); exact BK195.out⟩, ⟨by repeat (first | (with_reducible first | exact HB.out | apply below_alloc | apply pw_below_drewN | apply below_drew1 | refine below_set ?_ GE195.out) | exact HB.out)⟩⟩
                  · rw [if_neg c12] at H
                    exact absurd H (by simp)
                · rw [if_neg c11] at H
                  have c11b0 : decide (x7_2 < (l0_1.length : Int)) = false := decide_eq_false c11
                  clear c11
                  simp only [Option.some.injEq, Prod.mk.injEq] at H
                  obtain ⟨rfl, rfl⟩ := H
                  have hcz16_0 : wr.cell? ⟨gb195, 0, none⟩ = some (.slice (some ad196) l0_0.length c0_0) := (blk_cell BK195.out 0).trans rfl
                  have hcz16_1 : wr.cell? ⟨gb195, 1, none⟩ = some (.slice A0_1 l0_1.length c0_1) := (blk_cell BK195.out 1).trans rfl
                  have hcz16_2 : wr.cell? ⟨gb195, 2, none⟩ = some (.int .i64 a0_2) := (blk_cell BK195.out 2).trans rfl
                  have hcz16_3 : wr.cell? ⟨gb195, 3, none⟩ = some (.bool a0_3) := (blk_cell BK195.out 3).trans rfl
                  have hfz16_0 := blk_frozen BK195.out 0
                  have hfz16_1 := blk_frozen BK195.out 1
                  have hfz16_2 := blk_frozen BK195.out 2
                  have hfz16_3 := blk_frozen BK195.out 3
                  go_wp2
                  go_ret2
                  exact ⟨by first | rfl | (simp [errW_none, errW_some] <;> rfl) | (simp [*, errW_none, errW_some] <;> rfl), by repeat (first | (with_reducible first | exact HB.out | apply below_alloc | apply pw_below_drewN | apply below_drew1 | refine below_set ?_ GE195.out) | exact HB.out)⟩
          · rw [if_neg c9] at H
            exact absurd H (by simp)
        · rw [if_neg c8] at H
          exact absurd H (by simp)

/-! ### hogsheadref08_done: function 30 -/
def hogsheadref08_done.l0 : Nat → Int → List ByteArray → Int → List ByteArray → List (S47) → Int → Bool → Option (List ByteArray)
  | 0, _, _, _, _, _, _, _ => none
  | k + 1, x1, x5, x6, x200000, x200001, x200002, x200003 => if x6 < x1 then (if 0 ≤ x6 then (if x6 < (x200001.length : Int) then (if ((rd_T47 x200001 x6).f0) ≥ 0 then (if ((rd_T47 x200001 x6).f0) < (x5.length : Int) then (if 0 ≤ ((rd_T47 x200001 x6).f0) then (hogsheadref08_done.l0 k x1 (x5.set (((rd_T47 x200001 x6).f0) : Int).toNat ((rd_T47 x200001 x6).f1)) (wrap64 (x6 + 1)) x200000 x200001 x200002 x200003) else (none)) else (hogsheadref08_done.l0 k x1 x5 (wrap64 (x6 + 1)) x200000 x200001 x200002 x200003)) else (hogsheadref08_done.l0 k x1 x5 (wrap64 (x6 + 1)) x200000 x200001 x200002 x200003)) else (none)) else (none)) else (some x5)
def hogsheadref08_done.f (k : Nat) (l0_0 : List ByteArray) (l0_1 : List (S47)) (a0_2 : Int) (a0_3 : Bool) (a1 : Int) : Option (List ByteArray) := (some (([] : List ByteArray) : List ByteArray)).bind fun y200 => (if y200.length + l0_0.length < 8796093022208 then (hogsheadref08_done.l0 k a1 (y200 ++ l0_0) 0 l0_0 l0_1 a0_2 a0_3) else (none))
theorem hogsheadref08_done.mono_l : ∀ k, (∀ y0 y1 y2 y3 y4 y5 y6, LeO (hogsheadref08_done.l0 k y0 y1 y2 y3 y4 y5 y6) (hogsheadref08_done.l0 (k + 1) y0 y1 y2 y3 y4 y5 y6))
  | 0 => fun _ _ _ _ _ _ _ r h => by simp [hogsheadref08_done.l0] at h
  | k + 1 => by
    have ih0 := hogsheadref08_done.mono_l k
    · intro y0 y1 y2 y3 y4 y5 y6
      unfold hogsheadref08_done.l0
      repeat' first
      | (with_reducible exact ih0 _ _ _ _ _ _ _)
      | (with_reducible exact LeO.refl _)
      | (with_reducible exact LeO.none _)
      | (with_reducible refine LeO.ite ?_ ?_)
      | (with_reducible refine LeO.bind ?_ (fun _ => ?_))
      | exact ih0 _ _ _ _ _ _ _
      | exact LeO.none _
      | refine LeO.ite ?_ ?_
      | refine LeO.bind ?_ (fun _ => ?_)
theorem hogsheadref08_done.mono : ∀ a0 a1 a2 a3 a4 k, LeO (hogsheadref08_done.f k a0 a1 a2 a3 a4) (hogsheadref08_done.f (k + 1) a0 a1 a2 a3 a4) := by
  intro a0 a1 a2 a3 a4 k
  have ih0 := hogsheadref08_done.mono_l k
  unfold hogsheadref08_done.f
  repeat' first
      | (with_reducible exact ih0 _ _ _ _ _ _ _)
      | (with_reducible exact LeO.refl _)
      | (with_reducible exact LeO.none _)
      | (with_reducible refine LeO.ite ?_ ?_)
      | (with_reducible refine LeO.bind ?_ (fun _ => ?_))
      | exact ih0 _ _ _ _ _ _ _
      | exact LeO.none _
      | refine LeO.ite ?_ ?_
      | refine LeO.bind ?_ (fun _ => ?_)
set_option maxHeartbeats 8000000 in
set_option maxRecDepth 100000 in
theorem hogsheadref08_done.calls (k : Nat) (A0_0 : Option Addr) (c0_0 : Nat) (l0_0 : List ByteArray) (A0_1 : Option Addr) (c0_1 : Nat) (l0_1 : List (S47)) (a0_2 : Int) (a0_3 : Bool) (a1 : Int) (r : List ByteArray) (w : World) (hr0_0 : Kd.C Kd.string w A0_0 l0_0.length l0_0) (hc0_0 : l0_0.length ≤ c0_0) (hr0_1 : Kd.C k47 w A0_1 l0_1.length l0_1) (hc0_1 : l0_1.length ≤ c0_1) (h : hogsheadref08_done.f k l0_0 l0_1 a0_2 a0_3 a1 = some r) :
    Calls Try.prog 30 #[.agg #[.slice A0_0 l0_0.length c0_0, .slice A0_1 l0_1.length c0_1, .int .i64 a0_2, .bool a0_3], .int .i64 a1] w fun e w' => ∃ v0_ : Value, e = .returned (v0_) ∧ Kd.R Kd.string 9 w' w.heap.size (fun _ => True) v0_ r ∧ Below w.heap.size w w' := by
  have hu25 := Try.underlying25
  have hu47 := Try.underlying47
  have HR0_0 := Aside0.mk hr0_0
  have HC0_0 := Aside0.mk hc0_0
  clear hr0_0 hc0_0
  have HR0_1 := Aside0.mk hr0_1
  have HC0_1 := Aside0.mk hc0_1
  clear hr0_1 hc0_1
  have HB := Aside0.mk (Below.refl w.heap.size w)
  have H : ((some (([] : List ByteArray) : List ByteArray)).bind fun y200 => (if y200.length + l0_0.length < 8796093022208 then (hogsheadref08_done.l0 k a1 (y200 ++ l0_0) 0 l0_0 l0_1 a0_2 a0_3) else (none))) = some r := h
  clear h
  obtain ⟨y200, hy200⟩ : ∃ y_ : List ByteArray, y_ = (([] : List ByteArray)) := ⟨_, rfl⟩
  replace H : (if y200.length + l0_0.length < 8796093022208 then (hogsheadref08_done.l0 k a1 (y200 ++ l0_0) 0 l0_0 l0_1 a0_2 a0_3) else (none)) = some r := by first | (rw [hy200]; with_reducible exact H) | (have H2_ := (Option.bind_some _ _).symm.trans H; rw [hy200]; with_reducible exact H2_) | (have H2_ := (Option.bind_some _ _).symm.trans H; with_reducible exact H2_) | with_reducible exact H | (rw [hy200]; exact H) | exact H
  have Ny200 := Aside0.mk hy200
  clear hy200
  by_cases c3 : y200.length + l0_0.length < 8796093022208
  · rw [if_pos c3] at H
    have LMc3 := Aside0.mk c3
    clear c3
    obtain ⟨y203, hy203⟩ : ∃ y_ : List ByteArray, y_ = (y200 ++ l0_0) := ⟨_, rfl⟩
    replace H : (hogsheadref08_done.l0 k a1 y203 0 l0_0 l0_1 a0_2 a0_3) = some r := by first | (rw [hy203]; with_reducible exact H) | (have H2_ := (Option.bind_some _ _).symm.trans H; rw [hy203]; with_reducible exact H2_) | (have H2_ := (Option.bind_some _ _).symm.trans H; with_reducible exact H2_) | with_reducible exact H | (rw [hy203]; exact H) | exact H
    have Ny203 := Aside0.mk hy203
    clear hy203
    have H' := Aside0.mk H
    clear H
    go_enter Try.func30, Try.ntmps30
    go_wp2_with (first | ((with_reducible refine gate_dst (N := 2) rfl ?_); (try (refine gate_guard (by rfl) ?_; dsimp only)); refine box_event ?hg (N := 2) ?hd (cs := #[.slice A0_0 l0_0.length c0_0, .slice A0_1 l0_1.length c0_1, .int .i64 a0_2, .bool a0_3]) (t := 25) ?hr ?_; (case hd => rfl); (case hg => rfl); (case hr => first | (go_simp; done) | (go_simp; rfl)); intro gb199 hg w4 hbox hb; have n0_ := Aside0.mk (below_step (by repeat (first | (with_reducible first | exact HB.out | apply below_alloc | apply pw_below_drewN | apply below_drew1) | exact HB.out)) hb); have n1_ := Aside0.mk (hbox); have n2_ := Aside0.mk ((by rw [hg]; exact (below_size (by repeat (first | (with_reducible first | exact HB.out | apply below_alloc | apply pw_below_drewN | apply below_drew1) | exact HB.out))) : w.heap.size ≤ gb199)); have n3_ := Aside0.mk ((by rw [hg]; exact (below_size (by repeat (first | (with_reducible first | exact HB.out | apply below_alloc | apply pw_below_drewN | apply below_drew1) | exact HB.out))) : w.heap.size ≤ gb199)); clear HB; have HB := n0_; have BK199 := n1_; have GW199 := n2_; have GE199 := n3_; clear n0_ n1_ n2_ n3_; clear hb hbox hg) | ((with_reducible refine gate_dst (N := 8) rfl ?_); (try (refine gate_guard (by rfl) ?_; dsimp only)); refine Kd.R_lit Kd.string _ 9 ?hg (N := 8) ?hd (xs := ([] : List ByteArray)) (inner := []) (ok := fun _ => True) (okp := fun _ => True) ?hr ?hp (fun _ hk => hk) trivial (Below.refl _ _) (Nat.le_refl _) (by simp) ?_; (case hd => rfl); (case hg => rfl); (case hr => first | (go_simp; done) | (go_simp; rfl)); (case hp => exact (Reps.none _ _)); intro v201 w5 ho6 hb hg_ hnew_; clear hg_ hnew_; (first | rw [← Ny200.out] at ho6 | (simp only [Int.reduceToNat] at ho6; rw [← Ny200.out] at ho6)); have n0_ := Aside0.mk (Kd.R_lower ho6 (below_size (by repeat (first | (with_reducible first | exact HB.out | apply below_alloc | apply pw_below_drewN | apply below_drew1 | refine below_set ?_ GE199.out) | exact HB.out)))); have n1_ := Aside0.mk (blk_below (g := gb199) (o := .cells #[.slice A0_0 l0_0.length c0_0, .slice A0_1 l0_1.length c0_1, .int .i64 a0_2, .bool a0_3] 25 (0, 0)) (by (with_reducible repeat (first | refine blk_drewN ?_ _ | refine blk_drew ?_ | refine blk_alloc ?_ _)); exact BK199.out) hb); have n2_ := Aside0.mk (below_step (by repeat (first | (with_reducible first | exact HB.out | apply below_alloc | apply pw_below_drewN | apply below_drew1 | refine below_set ?_ GE199.out) | exact HB.out)) hb); clear BK199; clear HB; have HO202 := n0_; have BK199 := n1_; have HB := n2_; clear n0_ n1_ n2_; clear hb ho6; have hcz7_0 : w5.cell? ⟨gb199, 0, none⟩ = some (.slice A0_0 l0_0.length c0_0) := (blk_cell BK199.out 0).trans rfl; have hcz7_1 : w5.cell? ⟨gb199, 1, none⟩ = some (.slice A0_1 l0_1.length c0_1) := (blk_cell BK199.out 1).trans rfl; have hcz7_2 : w5.cell? ⟨gb199, 2, none⟩ = some (.int .i64 a0_2) := (blk_cell BK199.out 2).trans rfl; have hcz7_3 : w5.cell? ⟨gb199, 3, none⟩ = some (.bool a0_3) := (blk_cell BK199.out 3).trans rfl; have hfz7_0 := blk_frozen BK199.out 0; have hfz7_1 := blk_frozen BK199.out 1; have hfz7_2 := blk_frozen BK199.out 2; have hfz7_3 := blk_frozen BK199.out 3) | ((with_reducible refine gate_builtin (b := .append) (xs := #[.tmp 8, .tmp 10]) rfl ?_); (try (refine gate_guard (by rfl) ?_; dsimp only)); at_builtin; refine Kd.R_append_rows Kd.string (w0 := w) w.heap.size rfl (.tmp 8) (.tmp 10) 22 9 (.string ⟨#[]⟩) 16 rfl Try.underlying22 info9 rfl (by decide) (by omega) v201 y200 l0_0 _ _ _ (fun _ => True) (fun _ => False) rfl rfl ?aO ?aR (fun _ _ h => h) (fun _ h => h.elim) ?aF ?aB ?aS ?aL ?_; (case aR => repeat (first | exact (Kd.C_below HR0_0.out HB.out) | (with_reducible refine Kd.C_alloc ?_ _) | (with_reducible refine Kd.C_drewN ?_ _) | (with_reducible refine Kd.C_drew ?_))); (case aB => exact (by repeat (first | (with_reducible first | exact HB.out | apply below_alloc | apply pw_below_drewN | apply below_drew1 | refine below_set ?_ GE199.out) | exact HB.out))); (case aF => exact (fun _ _ => trivial)); (case aO => exact (by (with_reducible repeat (first | apply Kd.R_alloc | apply Kd.R_drewN | apply Kd.R_drew)); exact HO202.out)); (case aS => exact (below_size (by repeat (first | (with_reducible first | exact HB.out | apply below_alloc | apply pw_below_drewN | apply below_drew1 | refine below_set ?_ GE199.out) | exact HB.out)))); (case aL => have := LMc3.out; omega); intro v204 w8 ho hb hg hat; rw [← Ny203.out] at ho; have n0_ := Aside0.mk (blk_grown (g := gb199) (o := .cells #[.slice A0_0 l0_0.length c0_0, .slice A0_1 l0_1.length c0_1, .int .i64 a0_2, .bool a0_3] 25 (0, 0)) (by (with_reducible repeat (first | refine blk_drewN ?_ _ | refine blk_drew ?_ | refine blk_alloc ?_ _)); exact BK199.out) hg (Kd.R_ne HO202.out BK199.out (by decide))); have n1_ := Aside0.mk (hb); have n2_ := Aside0.mk (ho); clear BK199; clear HB; clear HO202; have BK199 := n0_; have HB := n1_; have HO205 := n2_; clear n0_ n1_ n2_; clear ho hb hg hat))
    go_loopg [6] k (fun kq v6 w' => ∃ (x5_1 : List ByteArray) (x6_1 : Int), v6 = .int .i64 x6_1 ∧ Aside0 (hogsheadref08_done.l0 kq a1 x5_1 x6_1 l0_0 l0_1 a0_2 a0_3 = some r) ∧ Aside0 (kq ≤ k) ∧ Aside0 (Kd.R Kd.string 9 w' w.heap.size (fun _ => True) v204 x5_1) ∧ Aside0 (w'.heap[gb199]? = some (.cells #[(.slice A0_0 l0_0.length c0_0), (.slice A0_1 l0_1.length c0_1), .int .i64 a0_2, .bool a0_3] 25 (0, 0))) ∧ Aside0 (Below w.heap.size w w'))
    case atStart => exact ⟨(y203), (0), (by first | rfl | (simp; done) | (simp [*]; done)), H', ⟨Nat.le_refl _⟩, ⟨by (with_reducible repeat (first | apply Kd.R_alloc | apply Kd.R_drewN | apply Kd.R_drew)); exact HO205.out⟩, ⟨by (with_reducible repeat (first | refine blk_drewN ?_ _ | refine blk_drew ?_ | refine blk_alloc ?_ _)); exact BK199.out⟩, ⟨by repeat (first | (with_reducible first | exact HB.out | apply below_alloc | apply pw_below_drewN | apply below_drew1 | refine below_set ?_ GE199.out) | exact HB.out)⟩⟩
    case round =>
      clear H'
      try clear p2
      try clear c3
      try clear hcz7_0
      try clear hcz7_1
      try clear hcz7_2
      try clear hcz7_3
      try clear hfz7_0
      try clear hfz7_1
      try clear hfz7_2
      try clear hfz7_3
      obtain ⟨x5_1, x6_1, rfl, HA, HK1, HO_5, BK199, HB⟩ := hrel
      cases gk with
      | zero => exact absurd HA.out (by simp [hogsheadref08_done.l0])
      | succ k1 =>
        have H := HA.out
        clear HA
        simp only [hogsheadref08_done.l0] at H
        by_cases c9 : x6_1 < a1
        · rw [if_pos c9] at H
          have c9b0 : decide (x6_1 < a1) = true := decide_eq_true c9
          clear c9
          by_cases c10 : 0 ≤ x6_1
          · rw [if_pos c10] at H
            have c10b0 : decide (0 ≤ x6_1) = true := decide_eq_true c10
            clear c10
            by_cases c11 : x6_1 < (l0_1.length : Int)
            · rw [if_pos c11] at H
              have c11b0 : decide (x6_1 < (l0_1.length : Int)) = true := decide_eq_true c11
              clear c11
              by_cases c12 : ((rd_T47 l0_1 x6_1).f0) ≥ 0
              · rw [if_pos c12] at H
                have c12b0 : decide (0 ≤ ((rd_T47 l0_1 x6_1).f0)) = true := decide_eq_true c12
                clear c12
                by_cases c13 : ((rd_T47 l0_1 x6_1).f0) < (x5_1.length : Int)
                · rw [if_pos c13] at H
                  have c13b0 : decide (((rd_T47 l0_1 x6_1).f0) < (x5_1.length : Int)) = true := decide_eq_true c13
                  clear c13
                  by_cases c14 : 0 ≤ ((rd_T47 l0_1 x6_1).f0)
                  · rw [if_pos c14] at H
                    have c14b0 : decide (0 ≤ ((rd_T47 l0_1 x6_1).f0)) = true := decide_eq_true c14
                    clear c14
                    obtain ⟨y208, hy208⟩ : ∃ y_ : List ByteArray, y_ = (x5_1.set (((rd_T47 l0_1 x6_1).f0) : Int).toNat ((rd_T47 l0_1 x6_1).f1)) := ⟨_, rfl⟩
                    replace H : (hogsheadref08_done.l0 k1 a1 y208 (wrap64 (x6_1 + 1)) l0_0 l0_1 a0_2 a0_3) = some r := by first | (rw [hy208]; with_reducible exact H) | (have H2_ := (Option.bind_some _ _).symm.trans H; rw [hy208]; with_reducible exact H2_) | (have H2_ := (Option.bind_some _ _).symm.trans H; with_reducible exact H2_) | with_reducible exact H | (rw [hy208]; exact H) | exact H
                    have Ny208 := Aside0.mk hy208
                    clear hy208
                    have H' := Aside0.mk H
                    clear H
                    have hcz16_0 : wr.cell? ⟨gb199, 0, none⟩ = some (.slice A0_0 l0_0.length c0_0) := (blk_cell BK199.out 0).trans rfl
                    have hcz16_1 : wr.cell? ⟨gb199, 1, none⟩ = some (.slice A0_1 l0_1.length c0_1) := (blk_cell BK199.out 1).trans rfl
                    have hcz16_2 : wr.cell? ⟨gb199, 2, none⟩ = some (.int .i64 a0_2) := (blk_cell BK199.out 2).trans rfl
                    have hcz16_3 : wr.cell? ⟨gb199, 3, none⟩ = some (.bool a0_3) := (blk_cell BK199.out 3).trans rfl
                    have hfz16_0 := blk_frozen BK199.out 0
                    have hfz16_1 := blk_frozen BK199.out 1
                    have hfz16_2 := blk_frozen BK199.out 2
                    have hfz16_3 := blk_frozen BK199.out 3
                    have p206 : 0 ≤ (x6_1 : Int) := of_decide_eq_true (by first | (with_reducible assumption) | assumption)
                    have q206 : x6_1 < (l0_1.length : Int) := of_decide_eq_true (by first | (with_reducible assumption) | assumption)
                    obtain ⟨ad206, e206, hx206_0, hx206_1⟩ := at_T47 HR0_1.out x6_1 p206 q206
                    cases e206
                    replace hx206_0 := (HB.out.cell (World.block_lt_of_cell? w _ hx206_0)).trans hx206_0
                    replace hx206_1 := (HB.out.cell (World.block_lt_of_cell? w _ hx206_1)).trans hx206_1
                    replace p206 := eq_true p206
                    replace q206 := eq_true q206
                    go_wp2_with (first | ((with_reducible refine gate_dst (N := 7) rfl ?_); (try (refine gate_guard (by rfl) ?_; dsimp only)); refine box_event ?hg (N := 7) ?hd (cs := #[.int .i64 0, .string (⟨#[]⟩ : ByteArray)]) (t := 47) ?hr ?_; (case hd => rfl); (case hg => rfl); (case hr => first | (go_simp; done) | (go_simp; rfl)); intro gb207 hg w17 hbox hb; have n0_ := Aside0.mk (Kd.R_below (by (with_reducible repeat (first | apply Kd.R_alloc | apply Kd.R_drewN | apply Kd.R_drew)); exact HO_5.out) hb); have n1_ := Aside0.mk (blk_below (g := gb199) (o := .cells #[.slice A0_0 l0_0.length c0_0, .slice (some ad206) l0_1.length c0_1, .int .i64 a0_2, .bool a0_3] 25 (0, 0)) (by (with_reducible repeat (first | refine blk_drewN ?_ _ | refine blk_drew ?_ | refine blk_alloc ?_ _)); exact BK199.out) hb); have n2_ := Aside0.mk (below_step (by repeat (first | (with_reducible first | exact HB.out | apply below_alloc | apply pw_below_drewN | apply below_drew1 | refine below_set ?_ GE199.out) | exact HB.out)) hb); have n3_ := Aside0.mk (hbox); have n4_ := Aside0.mk ((by rw [hg]; exact (below_size (by repeat (first | (with_reducible first | exact HB.out | apply below_alloc | apply pw_below_drewN | apply below_drew1 | refine below_set ?_ GE199.out) | exact HB.out))) : w.heap.size ≤ gb207)); have n5_ := Aside0.mk ((by rw [hg]; exact (below_size (by repeat (first | (with_reducible first | exact HB.out | apply below_alloc | apply pw_below_drewN | apply below_drew1 | refine below_set ?_ GE199.out) | exact HB.out))) : w.heap.size ≤ gb207)); have n6_ := Aside0.mk ((by rw [hg]; exact Nat.ne_of_lt (blk_lt (g := gb199) (o := .cells #[.slice A0_0 l0_0.length c0_0, .slice (some ad206) l0_1.length c0_1, .int .i64 a0_2, .bool a0_3] 25 (0, 0)) (by (with_reducible repeat (first | refine blk_drewN ?_ _ | refine blk_drew ?_ | refine blk_alloc ?_ _)); exact BK199.out)) : gb199 ≠ gb207)); have n7_ := Aside0.mk ((by rw [hg]; exact Nat.ne_of_gt (blk_lt (g := gb199) (o := .cells #[.slice A0_0 l0_0.length c0_0, .slice (some ad206) l0_1.length c0_1, .int .i64 a0_2, .bool a0_3] 25 (0, 0)) (by (with_reducible repeat (first | refine blk_drewN ?_ _ | refine blk_drew ?_ | refine blk_alloc ?_ _)); exact BK199.out)) : gb207 ≠ gb199)); clear HO_5; clear BK199; clear HB; have HO_5 := n0_; have BK199 := n1_; have HB := n2_; have BK207 := n3_; have GW207 := n4_; have GE207 := n5_; have NB199_207 := n6_; have NB207_199 := n7_; clear n0_ n1_ n2_ n3_ n4_ n5_ n6_ n7_; clear hb hbox hg; have hnb18 := NB207_199.out; have hnc18 := NB199_207.out; have hcz19_0 : w17.cell? ⟨gb207, 0, none⟩ = some (.int .i64 0) := (blk_cell BK207.out 0).trans rfl; have hcz19_1 : w17.cell? ⟨gb207, 1, none⟩ = some (.string (⟨#[]⟩ : ByteArray)) := (blk_cell BK207.out 1).trans rfl; have hfz19_0 := blk_frozen BK207.out 0; have hfz19_1 := blk_frozen BK207.out 1) | ((with_reducible refine gate_store (t := 47) (p := 7) rfl ?_); refine store_event (t := 47) (p := 7) (v := ?vo_w20) (w1 := ((w17.setCell ⟨gb207, 0, none⟩ (.int .i64 ((rd_T47 l0_1 x6_1).f0))).setCell ⟨gb207, 1, none⟩ (.string ((rd_T47 l0_1 x6_1).f1)))) ?hg ?ho ?hn ?hr ?_; (case ho => rfl); (case hg => rfl); (case hn => rfl); (case hr => first | (go_simp; done) | (go_simp; rfl)); intro w20 hw; have n0_ : Aside0 (Kd.R Kd.string 9 w20 w.heap.size (fun _ => True) v204 x5_1) := ⟨(by rw [hw]; exact (by (with_reducible repeat (first | apply Kd.R_alloc | apply Kd.R_drewN | apply Kd.R_drew)); exact Kd.R_mono (Kd.R_far (p := ⟨gb207, 1, none⟩) (Kd.R_far (p := ⟨gb207, 0, none⟩) (Kd.R_types HO_5.out BK207.out (by decide)) (fun _ hk => hk.2) (.int .i64 ((rd_T47 l0_1 x6_1).f0))) (fun _ hk => hk.2) (.string ((rd_T47 l0_1 x6_1).f1))) (fun _ hk => trivial)))⟩; have n1_ : Aside0 (w20.heap[gb199]? = some (.cells #[.slice A0_0 l0_0.length c0_0, .slice (some ad206) l0_1.length c0_1, .int .i64 a0_2, .bool a0_3] 25 (0, 0))) := ⟨(by rw [hw]; exact (by (with_reducible repeat (first | refine blk_drewN ?_ _ | refine blk_drew ?_ | refine blk_alloc ?_ _)); refine blk_far ?_ NB199_207.out _; (with_reducible repeat (first | refine blk_drewN ?_ _ | refine blk_drew ?_ | refine blk_alloc ?_ _)); refine blk_far ?_ NB199_207.out _; (with_reducible repeat (first | refine blk_drewN ?_ _ | refine blk_drew ?_ | refine blk_alloc ?_ _)); exact BK199.out))⟩; have n2_ : Aside0 (w20.heap[gb207]? = some (.cells #[.int .i64 ((rd_T47 l0_1 x6_1).f0), .string ((rd_T47 l0_1 x6_1).f1)] 47 (0, 0))) := ⟨(by rw [hw]; exact (by (with_reducible repeat (first | refine blk_drewN ?_ _ | refine blk_drew ?_ | refine blk_alloc ?_ _)); refine blk_put (cs := #[.int .i64 ((rd_T47 l0_1 x6_1).f0), .string (⟨#[]⟩ : ByteArray)]) ?_ 1 _ rfl; (with_reducible repeat (first | refine blk_drewN ?_ _ | refine blk_drew ?_ | refine blk_alloc ?_ _)); refine blk_put (cs := #[.int .i64 0, .string (⟨#[]⟩ : ByteArray)]) ?_ 0 _ rfl; (with_reducible repeat (first | refine blk_drewN ?_ _ | refine blk_drew ?_ | refine blk_alloc ?_ _)); exact BK207.out))⟩; have n3_ : Aside0 (Below w.heap.size w w20) := ⟨(by rw [hw]; exact (by repeat (first | (with_reducible first | exact HB.out | apply below_alloc | apply pw_below_drewN | apply below_drew1 | refine below_set ?_ GE199.out | refine below_set ?_ GE207.out) | exact HB.out)))⟩; clear hw; clear HO_5; clear BK199; clear BK207; clear HB; have HO_5 := n0_; have BK199 := n1_; have BK207 := n2_; have HB := n3_; clear n0_ n1_ n2_ n3_; have hcz21_0 : w20.cell? ⟨gb207, 0, none⟩ = some (.int .i64 ((rd_T47 l0_1 x6_1).f0)) := (blk_cell BK207.out 0).trans rfl; have hcz21_1 : w20.cell? ⟨gb207, 1, none⟩ = some (.string ((rd_T47 l0_1 x6_1).f1)) := (blk_cell BK207.out 1).trans rfl; have hfz21_0 := blk_frozen BK207.out 0; have hfz21_1 := blk_frozen BK207.out 1; obtain ⟨Ao22, co22, eo22⟩ := Kd.R_slice HO_5.out; subst eo22; have p15 : 0 ≤ (((rd_T47 l0_1 x6_1).f0) : Int) := of_decide_eq_true (by first | (with_reducible assumption) | assumption); have q15 : (((rd_T47 l0_1 x6_1).f0) : Int) < ((x5_1.length : Int) : Int) := of_decide_eq_true (by first | (with_reducible assumption) | assumption); obtain ⟨go15, co15, eo15, gb15, gl15, cl15, HG15⟩ := Kd.R_form HO_5.out (by omega); (first | cases eo15 | (injection eo15 with ea_ en_ ec_; (first | subst ea_ | (injection ea_ with ea_; subst ea_)); subst ec_; clear en_)); have GB15 := Aside0.mk gb15; have GG15 := Aside0.mk HG15; clear gb15 gl15 HG15; obtain ⟨hx15_0, hf15_0⟩ := Kd.R_celln (⟨#[]⟩ : ByteArray) HO_5.out (((rd_T47 l0_1 x6_1).f0) : Int) p15 q15; replace p15 := eq_true p15; replace q15 := eq_true q15; obtain ⟨hy23_, hz23_⟩ := Kd.R_celln (⟨#[]⟩ : ByteArray) HO_5.out (((rd_T47 l0_1 x6_1).f0) : Int) (of_decide_eq_true (by first | (with_reducible assumption) | assumption)) (of_decide_eq_true (by first | (with_reducible assumption) | assumption)); have HP23 := Kd.R_putg HO_5.out (((rd_T47 l0_1 x6_1).f0) : Int) ((rd_T47 l0_1 x6_1).f1)) | ((with_reducible refine gate_store (t := 9) (p := 37) rfl ?_); refine store_event (t := 9) (p := 37) (v := ?vo_w24) (w1 := (w20.setCell ⟨go15, (((rd_T47 l0_1 x6_1).f0) : Int).toNat, none⟩ (.string ((rd_T47 l0_1 x6_1).f1)))) ?hg ?ho ?hn ?hr ?_; (case ho => rfl); (case hg => rfl); (case hn => rfl); (case hr => first | (go_simp; done) | (go_simp; rfl)); intro w24 hw; have hg : w20.grownBy w24 (some go15) := (by rw [hw]; exact HP23.2); have hp_ : Kd.R Kd.string 9 w24 w.heap.size (fun _ => True) (.slice (some ⟨go15, 0, none⟩) x5_1.length co22) y208 := (by rw [hw, Ny208.out]; exact HP23.1); clear HP23; have n0_ := Aside0.mk (hp_); have n1_ := Aside0.mk (blk_grown (g := gb199) (o := .cells #[.slice A0_0 l0_0.length c0_0, .slice (some ad206) l0_1.length c0_1, .int .i64 a0_2, .bool a0_3] 25 (0, 0)) (by (with_reducible repeat (first | refine blk_drewN ?_ _ | refine blk_drew ?_ | refine blk_alloc ?_ _)); exact BK199.out) hg (Kd.R_ne HO_5.out BK199.out (by decide))); have n2_ := Aside0.mk (blk_grown (g := gb207) (o := .cells #[.int .i64 ((rd_T47 l0_1 x6_1).f0), .string ((rd_T47 l0_1 x6_1).f1)] 47 (0, 0)) (by (with_reducible repeat (first | refine blk_drewN ?_ _ | refine blk_drew ?_ | refine blk_alloc ?_ _)); exact BK207.out) hg (Kd.R_ne HO_5.out BK207.out (by decide))); have n3_ := Aside0.mk ((by rw [hw]; exact below_set (HB.out) GB15.out : Below w.heap.size w w24)); clear HO_5; clear BK199; clear BK207; clear HB; have HO_5 := n0_; have BK199 := n1_; have BK207 := n2_; have HB := n3_; clear n0_ n1_ n2_ n3_; clear hg hw hp_))
                    go_roundg k1
                    case measure => have := HK1.out; omega
                    case rel => exact ⟨(y208), (wrap64 (x6_1 + 1)), (by first | rfl | (simp; done) | (simp [*]; done)), H', ⟨by have := HK1.out; omega⟩, ⟨by (with_reducible repeat (first | apply Kd.R_alloc | apply Kd.R_drewN | apply Kd.R_drew)); exact HO_5.out⟩, ⟨by (with_reducible repeat (first | refine blk_drewN ?_ _ | refine blk_drew ?_ | refine blk_alloc ?_ _)); exact BK199.out⟩, ⟨by repeat (first | (with_reducible first | exact HB.out | apply below_alloc | apply pw_below_drewN | apply below_drew1 | refine below_set ?_ GE199.out | refine below_set ?_ GE207.out) | exact HB.out)⟩⟩
                  · rw [if_neg c14] at H
                    exact absurd H (by simp)
                · rw [if_neg c13] at H
                  have c13b0 : decide (((rd_T47 l0_1 x6_1).f0) < (x5_1.length : Int)) = false := decide_eq_false c13
                  clear c13
                  have H' := Aside0.mk H
                  clear H
                  have hcz25_0 : wr.cell? ⟨gb199, 0, none⟩ = some (.slice A0_0 l0_0.length c0_0) := (blk_cell BK199.out 0).trans rfl
                  have hcz25_1 : wr.cell? ⟨gb199, 1, none⟩ = some (.slice A0_1 l0_1.length c0_1) := (blk_cell BK199.out 1).trans rfl
                  have hcz25_2 : wr.cell? ⟨gb199, 2, none⟩ = some (.int .i64 a0_2) := (blk_cell BK199.out 2).trans rfl
                  have hcz25_3 : wr.cell? ⟨gb199, 3, none⟩ = some (.bool a0_3) := (blk_cell BK199.out 3).trans rfl
                  have hfz25_0 := blk_frozen BK199.out 0
                  have hfz25_1 := blk_frozen BK199.out 1
                  have hfz25_2 := blk_frozen BK199.out 2
                  have hfz25_3 := blk_frozen BK199.out 3
                  have p206 : 0 ≤ (x6_1 : Int) := of_decide_eq_true (by first | (with_reducible assumption) | assumption)
                  have q206 : x6_1 < (l0_1.length : Int) := of_decide_eq_true (by first | (with_reducible assumption) | assumption)
                  obtain ⟨ad206, e206, hx206_0, hx206_1⟩ := at_T47 HR0_1.out x6_1 p206 q206
                  cases e206
                  replace hx206_0 := (HB.out.cell (World.block_lt_of_cell? w _ hx206_0)).trans hx206_0
                  replace hx206_1 := (HB.out.cell (World.block_lt_of_cell? w _ hx206_1)).trans hx206_1
                  replace p206 := eq_true p206
                  replace q206 := eq_true q206
                  go_wp2_with (first | ((with_reducible refine gate_dst (N := 7) rfl ?_); (try (refine gate_guard (by rfl) ?_; dsimp only)); refine box_event ?hg (N := 7) ?hd (cs := #[.int .i64 0, .string (⟨#[]⟩ : ByteArray)]) (t := 47) ?hr ?_; (case hd => rfl); (case hg => rfl); (case hr => first | (go_simp; done) | (go_simp; rfl)); intro gb207 hg w26 hbox hb; have n0_ := Aside0.mk (Kd.R_below (by (with_reducible repeat (first | apply Kd.R_alloc | apply Kd.R_drewN | apply Kd.R_drew)); exact HO_5.out) hb); have n1_ := Aside0.mk (blk_below (g := gb199) (o := .cells #[.slice A0_0 l0_0.length c0_0, .slice (some ad206) l0_1.length c0_1, .int .i64 a0_2, .bool a0_3] 25 (0, 0)) (by (with_reducible repeat (first | refine blk_drewN ?_ _ | refine blk_drew ?_ | refine blk_alloc ?_ _)); exact BK199.out) hb); have n2_ := Aside0.mk (below_step (by repeat (first | (with_reducible first | exact HB.out | apply below_alloc | apply pw_below_drewN | apply below_drew1 | refine below_set ?_ GE199.out) | exact HB.out)) hb); have n3_ := Aside0.mk (hbox); have n4_ := Aside0.mk ((by rw [hg]; exact (below_size (by repeat (first | (with_reducible first | exact HB.out | apply below_alloc | apply pw_below_drewN | apply below_drew1 | refine below_set ?_ GE199.out) | exact HB.out))) : w.heap.size ≤ gb207)); have n5_ := Aside0.mk ((by rw [hg]; exact (below_size (by repeat (first | (with_reducible first | exact HB.out | apply below_alloc | apply pw_below_drewN | apply below_drew1 | refine below_set ?_ GE199.out) | exact HB.out))) : w.heap.size ≤ gb207)); have n6_ := Aside0.mk ((by rw [hg]; exact Nat.ne_of_lt (blk_lt (g := gb199) (o := .cells #[.slice A0_0 l0_0.length c0_0, .slice (some ad206) l0_1.length c0_1, .int .i64 a0_2, .bool a0_3] 25 (0, 0)) (by (with_reducible repeat (first | refine blk_drewN ?_ _ | refine blk_drew ?_ | refine blk_alloc ?_ _)); exact BK199.out)) : gb199 ≠ gb207)); have n7_ := Aside0.mk ((by rw [hg]; exact Nat.ne_of_gt (blk_lt (g := gb199) (o := .cells #[.slice A0_0 l0_0.length c0_0, .slice (some ad206) l0_1.length c0_1, .int .i64 a0_2, .bool a0_3] 25 (0, 0)) (by (with_reducible repeat (first | refine blk_drewN ?_ _ | refine blk_drew ?_ | refine blk_alloc ?_ _)); exact BK199.out)) : gb207 ≠ gb199)); clear HO_5; clear BK199; clear HB; have HO_5 := n0_; have BK199 := n1_; have HB := n2_; have BK207 := n3_; have GW207 := n4_; have GE207 := n5_; have NB199_207 := n6_; have NB207_199 := n7_; clear n0_ n1_ n2_ n3_ n4_ n5_ n6_ n7_; clear hb hbox hg; have hnb27 := NB207_199.out; have hnc27 := NB199_207.out; have hcz28_0 : w26.cell? ⟨gb207, 0, none⟩ = some (.int .i64 0) := (blk_cell BK207.out 0).trans rfl; have hcz28_1 : w26.cell? ⟨gb207, 1, none⟩ = some (.string (⟨#[]⟩ : ByteArray)) := (blk_cell BK207.out 1).trans rfl; have hfz28_0 := blk_frozen BK207.out 0; have hfz28_1 := blk_frozen BK207.out 1; obtain ⟨Ao29, co29, eo29⟩ := Kd.R_slice HO_5.out; subst eo29))
                  go_roundg k1
                  case measure => have := HK1.out; omega
                  case rel => exact ⟨(x5_1), (wrap64 (x6_1 + 1)), (by first | rfl | (simp; done) | (simp [*]; done)), H', ⟨by have := HK1.out; omega⟩, ⟨by (with_reducible repeat (first | apply Kd.R_alloc | apply Kd.R_drewN | apply Kd.R_drew)); exact Kd.R_mono (Kd.R_far (p := ⟨gb207, 1, none⟩) (Kd.R_far (p := ⟨gb207, 0, none⟩) (Kd.R_types HO_5.out BK207.out (by decide)) (fun _ hk => hk.2) (.int .i64 ((rd_T47 l0_1 x6_1).f0))) (fun _ hk => hk.2) (.string ((rd_T47 l0_1 x6_1).f1))) (fun _ hk => trivial)⟩, ⟨by (with_reducible repeat (first | refine blk_drewN ?_ _ | refine blk_drew ?_ | refine blk_alloc ?_ _)); refine blk_far ?_ NB199_207.out _; (with_reducible repeat (first | refine blk_drewN ?_ _ | refine blk_drew ?_ | refine blk_alloc ?_ _)); refine blk_far ?_ NB199_207.out _; (with_reducible repeat (first | refine blk_drewN ?_ _ | refine blk_drew ?_ | refine blk_alloc ?_ _)); exact BK199.out⟩, ⟨by repeat (first | (with_reducible first | exact HB.out | apply below_alloc | apply pw_below_drewN | apply below_drew1 | refine below_set ?_ GE199.out | refine below_set ?_ GE207.out) | exact HB.out)⟩⟩
              · rw [if_neg c12] at H
                have c12b0 : decide (0 ≤ ((rd_T47 l0_1 x6_1).f0)) = false := decide_eq_false c12
                clear c12
                have H' := Aside0.mk H
                clear H
                have hcz30_0 : wr.cell? ⟨gb199, 0, none⟩ = some (.slice A0_0 l0_0.length c0_0) := (blk_cell BK199.out 0).trans rfl
                have hcz30_1 : wr.cell? ⟨gb199, 1, none⟩ = some (.slice A0_1 l0_1.length c0_1) := (blk_cell BK199.out 1).trans rfl
                have hcz30_2 : wr.cell? ⟨gb199, 2, none⟩ = some (.int .i64 a0_2) := (blk_cell BK199.out 2).trans rfl
                have hcz30_3 : wr.cell? ⟨gb199, 3, none⟩ = some (.bool a0_3) := (blk_cell BK199.out 3).trans rfl
                have hfz30_0 := blk_frozen BK199.out 0
                have hfz30_1 := blk_frozen BK199.out 1
                have hfz30_2 := blk_frozen BK199.out 2
                have hfz30_3 := blk_frozen BK199.out 3
                have p206 : 0 ≤ (x6_1 : Int) := of_decide_eq_true (by first | (with_reducible assumption) | assumption)
                have q206 : x6_1 < (l0_1.length : Int) := of_decide_eq_true (by first | (with_reducible assumption) | assumption)
                obtain ⟨ad206, e206, hx206_0, hx206_1⟩ := at_T47 HR0_1.out x6_1 p206 q206
                cases e206
                replace hx206_0 := (HB.out.cell (World.block_lt_of_cell? w _ hx206_0)).trans hx206_0
                replace hx206_1 := (HB.out.cell (World.block_lt_of_cell? w _ hx206_1)).trans hx206_1
                replace p206 := eq_true p206
                replace q206 := eq_true q206
                go_wp2_with (first | ((with_reducible refine gate_dst (N := 7) rfl ?_); (try (refine gate_guard (by rfl) ?_; dsimp only)); refine box_event ?hg (N := 7) ?hd (cs := #[.int .i64 0, .string (⟨#[]⟩ : ByteArray)]) (t := 47) ?hr ?_; (case hd => rfl); (case hg => rfl); (case hr => first | (go_simp; done) | (go_simp; rfl)); intro gb207 hg w31 hbox hb; have n0_ := Aside0.mk (Kd.R_below (by (with_reducible repeat (first | apply Kd.R_alloc | apply Kd.R_drewN | apply Kd.R_drew)); exact HO_5.out) hb); have n1_ := Aside0.mk (blk_below (g := gb199) (o := .cells #[.slice A0_0 l0_0.length c0_0, .slice (some ad206) l0_1.length c0_1, .int .i64 a0_2, .bool a0_3] 25 (0, 0)) (by (with_reducible repeat (first | refine blk_drewN ?_ _ | refine blk_drew ?_ | refine blk_alloc ?_ _)); exact BK199.out) hb); have n2_ := Aside0.mk (below_step (by repeat (first | (with_reducible first | exact HB.out | apply below_alloc | apply pw_below_drewN | apply below_drew1 | refine below_set ?_ GE199.out) | exact HB.out)) hb); have n3_ := Aside0.mk (hbox); have n4_ := Aside0.mk ((by rw [hg]; exact (below_size (by repeat (first | (with_reducible first | exact HB.out | apply below_alloc | apply pw_below_drewN | apply below_drew1 | refine below_set ?_ GE199.out) | exact HB.out))) : w.heap.size ≤ gb207)); have n5_ := Aside0.mk ((by rw [hg]; exact (below_size (by repeat (first | (with_reducible first | exact HB.out | apply below_alloc | apply pw_below_drewN | apply below_drew1 | refine below_set ?_ GE199.out) | exact HB.out))) : w.heap.size ≤ gb207)); have n6_ := Aside0.mk ((by rw [hg]; exact Nat.ne_of_lt (blk_lt (g := gb199) (o := .cells #[.slice A0_0 l0_0.length c0_0, .slice (some ad206) l0_1.length c0_1, .int .i64 a0_2, .bool a0_3] 25 (0, 0)) (by (with_reducible repeat (first | refine blk_drewN ?_ _ | refine blk_drew ?_ | refine blk_alloc ?_ _)); exact BK199.out)) : gb199 ≠ gb207)); have n7_ := Aside0.mk ((by rw [hg]; exact Nat.ne_of_gt (blk_lt (g := gb199) (o := .cells #[.slice A0_0 l0_0.length c0_0, .slice (some ad206) l0_1.length c0_1, .int .i64 a0_2, .bool a0_3] 25 (0, 0)) (by (with_reducible repeat (first | refine blk_drewN ?_ _ | refine blk_drew ?_ | refine blk_alloc ?_ _)); exact BK199.out)) : gb207 ≠ gb199)); clear HO_5; clear BK199; clear HB; have HO_5 := n0_; have BK199 := n1_; have HB := n2_; have BK207 := n3_; have GW207 := n4_; have GE207 := n5_; have NB199_207 := n6_; have NB207_199 := n7_; clear n0_ n1_ n2_ n3_ n4_ n5_ n6_ n7_; clear hb hbox hg; have hnb32 := NB207_199.out; have hnc32 := NB199_207.out; have hcz33_0 : w31.cell? ⟨gb207, 0, none⟩ = some (.int .i64 0) := (blk_cell BK207.out 0).trans rfl; have hcz33_1 : w31.cell? ⟨gb207, 1, none⟩ = some (.string (⟨#[]⟩ : ByteArray)) := (blk_cell BK207.out 1).trans rfl; have hfz33_0 := blk_frozen BK207.out 0; have hfz33_1 := blk_frozen BK207.out 1))
                go_roundg k1
                case measure => have := HK1.out; omega
                case rel => exact ⟨(x5_1), (wrap64 (x6_1 + 1)), (by first | rfl | (simp; done) | (simp [*]; done)), H', ⟨by have := HK1.out; omega⟩, ⟨by (with_reducible repeat (first | apply Kd.R_alloc | apply Kd.R_drewN | apply Kd.R_drew)); exact Kd.R_mono (Kd.R_far (p := ⟨gb207, 1, none⟩) (Kd.R_far (p := ⟨gb207, 0, none⟩) (Kd.R_types HO_5.out BK207.out (by decide)) (fun _ hk => hk.2) (.int .i64 ((rd_T47 l0_1 x6_1).f0))) (fun _ hk => hk.2) (.string ((rd_T47 l0_1 x6_1).f1))) (fun _ hk => trivial)⟩, ⟨by (with_reducible repeat (first | refine blk_drewN ?_ _ | refine blk_drew ?_ | refine blk_alloc ?_ _)); refine blk_far ?_ NB199_207.out _; (with_reducible repeat (first | refine blk_drewN ?_ _ | refine blk_drew ?_ | refine blk_alloc ?_ _)); refine blk_far ?_ NB199_207.out _; (with_reducible repeat (first | refine blk_drewN ?_ _ | refine blk_drew ?_ | refine blk_alloc ?_ _)); exact BK199.out⟩, ⟨by repeat (first | (with_reducible first | exact HB.out | apply below_alloc | apply pw_below_drewN | apply below_drew1 | refine below_set ?_ GE199.out | refine below_set ?_ GE207.out) | exact HB.out)⟩⟩
            · rw [if_neg c11] at H
              exact absurd H (by simp)
          · rw [if_neg c10] at H
            exact absurd H (by simp)
        · rw [if_neg c9] at H
          have c9b0 : decide (x6_1 < a1) = false := decide_eq_false c9
          clear c9
          obtain rfl := Option.some.inj H
          go_wp2
          go_ret
          exact ⟨_, by first | rfl | (simp [errW_none, errW_some] <;> rfl) | (simp [*, errW_none, errW_some] <;> rfl), by (with_reducible repeat (first | apply Kd.R_alloc | apply Kd.R_drewN | apply Kd.R_drew)); exact HO_5.out, by repeat (first | (with_reducible first | exact HB.out | apply below_alloc | apply pw_below_drewN | apply below_drew1 | refine below_set ?_ GE199.out) | exact HB.out)⟩
  · rw [if_neg c3] at H
    exact absurd H (by simp)

end Go.Proofs.Ytmaojfeikbdkhaa.PAll
