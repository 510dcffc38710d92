/- Functions of the program as plain Lean functions, and that each call comes to what they say. Laid by a program of this session (hprint.py); Lean checks it. -/
import Derived.Test.YtlfonfceaiiinaaPAllx0
import Derived.Test.YtlfonfceaiiinaaPAllx1
import Derived.Test.YtlfonfceaiiinaaPAllx2
namespace Go.Proofs.Ytlfonfceaiiinaa.PAll
open Go.RowKit Go.Proofs.YtlfonfceaiiinaaW.PrintWords Go.Proofs.YtlfonfceaiiinaaW.PrintLast Go.Proofs.YtlfonfceaiiinaaW.PrintMore
attribute [local go_sem] max2_int min2_int max_two min_two max_three min_three max_four min_four   -- for this text's walks alone
set_option linter.unusedVariables false
set_option linter.unusedSimpArgs false

attribute [local go_sem high] eqA29
/-! ### count_Logical: function 11 -/
def count_Logical.l0 : Nat → Int → List (S45) → Int → Int → Option (Int)
  | 0, _, _, _, _ => none
  | k + 1, x3, x7, x8, x9 => if x9 < x8 then (if 0 ≤ x9 then (if x9 < (x7.length : Int) then (if ((rd_T45 x7 x9).f4) = 4 then (count_Logical.l0 k (wrap64 (x3 + 160)) x7 x8 (wrap64 (x9 + 1))) else (count_Logical.l0 k x3 x7 x8 (wrap64 (x9 + 1)))) else (none)) else (none)) else (some x3)
def count_Logical.f (k : Nat) (l0_0 : List (S45)) (l0_1 : List (S92)) (l0_2 : List (S64)) : Option (Int) := count_Logical.l0 k 0 l0_0 (l0_0.length : Int) 0
theorem count_Logical.mono_l : ∀ k, (∀ y0 y1 y2 y3, LeO (count_Logical.l0 k y0 y1 y2 y3) (count_Logical.l0 (k + 1) y0 y1 y2 y3))
  | 0 => fun _ _ _ _ r h => by simp [count_Logical.l0] at h
  | k + 1 => by
    have ih0 := count_Logical.mono_l k
    · intro y0 y1 y2 y3
      unfold count_Logical.l0
      repeat' first
      | (with_reducible exact ih0 _ _ _ _)
      | (with_reducible exact LeO.refl _)
      | (with_reducible exact LeO.none _)
      | (with_reducible refine LeO.ite ?_ ?_)
      | (with_reducible refine LeO.bind ?_ (fun _ => ?_))
      | exact ih0 _ _ _ _
      | exact LeO.none _
      | refine LeO.ite ?_ ?_
      | refine LeO.bind ?_ (fun _ => ?_)
theorem count_Logical.mono : ∀ a0 a1 a2 k, LeO (count_Logical.f k a0 a1 a2) (count_Logical.f (k + 1) a0 a1 a2) := by
  intro a0 a1 a2 k
  have ih0 := count_Logical.mono_l k
  unfold count_Logical.f
  repeat' first
      | (with_reducible exact ih0 _ _ _ _)
      | (with_reducible exact LeO.refl _)
      | (with_reducible exact LeO.none _)
      | (with_reducible refine LeO.ite ?_ ?_)
      | (with_reducible refine LeO.bind ?_ (fun _ => ?_))
      | exact ih0 _ _ _ _
      | exact LeO.none _
      | refine LeO.ite ?_ ?_
      | refine LeO.bind ?_ (fun _ => ?_)
set_option maxHeartbeats 8000000 in
set_option maxRecDepth 100000 in
theorem count_Logical.calls (k : Nat) (A0_0 : Option Addr) (c0_0 : Nat) (l0_0 : List (S45)) (A0_1 : Option Addr) (c0_1 : Nat) (l0_1 : List (S92)) (A0_2 : Option Addr) (c0_2 : Nat) (l0_2 : List (S64)) (r : Int) (w : World) (hr0_0 : Kd.C k45 w A0_0 l0_0.length l0_0) (hc0_0 : l0_0.length ≤ c0_0) (hr0_1 : Kd.C k92 w A0_1 l0_1.length l0_1) (hc0_1 : l0_1.length ≤ c0_1) (hr0_2 : Kd.C k64 w A0_2 l0_2.length l0_2) (hc0_2 : l0_2.length ≤ c0_2) (h : count_Logical.f k l0_0 l0_1 l0_2 = some r) :
    Calls Try.prog 11 #[.agg #[.slice A0_0 l0_0.length c0_0, .slice A0_1 l0_1.length c0_1, .slice A0_2 l0_2.length c0_2]] w fun e w' => e = .returned (.int .i64 r) ∧ Below w.heap.size w w' := by
  have hu26 := Try.underlying26
  have hu45 := Try.underlying45
  have HR0_0 := Aside0.mk hr0_0
  have HC0_0 := Aside0.mk hc0_0
  clear hr0_0 hc0_0
  have HR0_1 := Aside0.mk hr0_1
  have HC0_1 := Aside0.mk hc0_1
  clear hr0_1 hc0_1
  have HR0_2 := Aside0.mk hr0_2
  have HC0_2 := Aside0.mk hc0_2
  clear hr0_2 hc0_2
  have HB := Aside0.mk (Below.refl w.heap.size w)
  have H : (count_Logical.l0 k 0 l0_0 (l0_0.length : Int) 0) = some r := h
  clear h
  have H' := Aside0.mk H
  clear H
  go_enter Try.func11, Try.ntmps11
  go_wp2_with (first | ((with_reducible refine gate_dst (N := 1) rfl ?_); refine box_event ?hg (N := 1) ?hd (cs := #[.slice A0_0 l0_0.length c0_0, .slice A0_1 l0_1.length c0_1, .slice A0_2 l0_2.length c0_2]) (t := 26) ?hr ?_; (case hd => rfl); (case hg => rfl); (case hr => first | (go_simp; done) | (go_simp; rfl)); intro gb126 hg w2 hbox hb; have n0_ := Aside0.mk (below_step (by repeat (first | (with_reducible first | exact HB.out | apply below_alloc | apply pw_below_drewN | apply below_drew1) | exact HB.out)) hb); have n1_ := Aside0.mk (hbox); have n2_ := Aside0.mk ((by rw [hg]; exact (below_size (by repeat (first | (with_reducible first | exact HB.out | apply below_alloc | apply pw_below_drewN | apply below_drew1) | exact HB.out))) : w.heap.size ≤ gb126)); have n3_ := Aside0.mk ((by rw [hg]; exact (below_size (by repeat (first | (with_reducible first | exact HB.out | apply below_alloc | apply pw_below_drewN | apply below_drew1) | exact HB.out))) : w.heap.size ≤ gb126)); clear HB; have HB := n0_; have BK126 := n1_; have GW126 := n2_; have GE126 := n3_; clear n0_ n1_ n2_ n3_; clear hb hbox hg; have hcz3_0 : w2.cell? ⟨gb126, 0, none⟩ = some (.slice A0_0 l0_0.length c0_0) := (blk_cell BK126.out 0).trans rfl; have hcz3_1 : w2.cell? ⟨gb126, 1, none⟩ = some (.slice A0_1 l0_1.length c0_1) := (blk_cell BK126.out 1).trans rfl; have hcz3_2 : w2.cell? ⟨gb126, 2, none⟩ = some (.slice A0_2 l0_2.length c0_2) := (blk_cell BK126.out 2).trans rfl; have hfz3_0 := blk_frozen BK126.out 0; have hfz3_1 := blk_frozen BK126.out 1; have hfz3_2 := blk_frozen BK126.out 2))
  go_loopg [3, 9] k (fun kq v3 v9 w' => ∃ (x3_1 : Int) (x9_1 : Int), v3 = .int .i64 x3_1 ∧ v9 = .int .i64 x9_1 ∧ Aside0 (count_Logical.l0 kq x3_1 l0_0 (l0_0.length : Int) x9_1 = some r) ∧ Aside0 (kq ≤ k) ∧ Aside0 (w'.heap[gb126]? = some (.cells #[(.slice A0_0 l0_0.length c0_0), (.slice A0_1 l0_1.length c0_1), (.slice A0_2 l0_2.length c0_2)] 26 (0, 0))) ∧ Aside0 (Below w.heap.size w w'))
  case atStart => exact ⟨(0), (0), (by first | rfl | (simp; done) | (simp [*]; done)), (by first | rfl | (simp; done) | (simp [*]; done)), H', ⟨Nat.le_refl _⟩, ⟨by (with_reducible repeat (first | refine blk_drewN ?_ _ | refine blk_drew ?_ | refine blk_alloc ?_ _)); exact BK126.out⟩, ⟨by repeat (first | (with_reducible first | exact HB.out | apply below_alloc | apply pw_below_drewN | apply below_drew1 | refine below_set ?_ GE126.out) | exact HB.out)⟩⟩
  case round =>
    clear H'
    try clear c1
    try clear p2
    try clear hcz3_0
    try clear hcz3_1
    try clear hcz3_2
    try clear hfz3_0
    try clear hfz3_1
    try clear hfz3_2
    obtain ⟨x3_1, x9_1, rfl, rfl, HA, HK1, BK126, HB⟩ := hrel
    cases gk with
    | zero => exact absurd HA.out (by simp [count_Logical.l0])
    | succ k1 =>
      have H := HA.out
      clear HA
      simp only [count_Logical.l0] at H
      by_cases c4 : x9_1 < (l0_0.length : Int)
      · rw [if_pos c4] at H
        have c4b0 : decide (x9_1 < (l0_0.length : Int)) = true := decide_eq_true c4
        clear c4
        by_cases c5 : 0 ≤ x9_1
        · rw [if_pos c5] at H
          have c5b0 : decide (0 ≤ x9_1) = true := decide_eq_true c5
          clear c5
          by_cases c6 : x9_1 < (l0_0.length : Int)
          · rw [if_pos c6] at H
            have c6b0 : decide (x9_1 < (l0_0.length : Int)) = true := decide_eq_true c6
            clear c6
            by_cases c7 : ((rd_T45 l0_0 x9_1).f4) = 4
            · rw [if_pos c7] at H
              have c7b0 : (((rd_T45 l0_0 x9_1).f4) == 4) = true := beq_iff_eq.mpr c7
              have c7b1 : (((rd_T45 l0_0 x9_1).f4) != 4) = false := bne_eq_false_iff_eq.mpr c7
              clear c7
              have H' := Aside0.mk H
              clear H
              have p127 : 0 ≤ (x9_1 : Int) := of_decide_eq_true (by first | (with_reducible assumption) | assumption)
              have q127 : x9_1 < (l0_0.length : Int) := of_decide_eq_true (by first | (with_reducible assumption) | assumption)
              obtain ⟨ad127, A127_5, c127_5, A127_6, c127_6, e127, hx127_0, hx127_1, hx127_2, hx127_3, hx127_4, hx127_5, hx127_6, hx127_7, hx127_8, hl127_5, hi127_5, hl127_6, hi127_6⟩ := at_T45 HR0_0.out x9_1 p127 q127
              cases e127
              replace hx127_0 := (HB.out.cell (World.block_lt_of_cell? w _ hx127_0)).trans hx127_0
              replace hx127_1 := (HB.out.cell (World.block_lt_of_cell? w _ hx127_1)).trans hx127_1
              replace hx127_2 := (HB.out.cell (World.block_lt_of_cell? w _ hx127_2)).trans hx127_2
              replace hx127_3 := (HB.out.cell (World.block_lt_of_cell? w _ hx127_3)).trans hx127_3
              replace hx127_4 := (HB.out.cell (World.block_lt_of_cell? w _ hx127_4)).trans hx127_4
              replace hx127_5 := (HB.out.cell (World.block_lt_of_cell? w _ hx127_5)).trans hx127_5
              replace hx127_6 := (HB.out.cell (World.block_lt_of_cell? w _ hx127_6)).trans hx127_6
              replace hx127_7 := (HB.out.cell (World.block_lt_of_cell? w _ hx127_7)).trans hx127_7
              replace hx127_8 := (HB.out.cell (World.block_lt_of_cell? w _ hx127_8)).trans hx127_8
              have HR127_5 := Aside0.mk hi127_5
              have HC127_5 := Aside0.mk hl127_5
              clear hi127_5 hl127_5
              have HR127_6 := Aside0.mk hi127_6
              have HC127_6 := Aside0.mk hl127_6
              clear hi127_6 hl127_6
              replace p127 := eq_true p127
              replace q127 := eq_true q127
              go_wp2_with (first | ((with_reducible refine gate_dst (N := 5) rfl ?_); refine box_event ?hg (N := 5) ?hd (cs := #[.int .i64 0, .int .i64 0, .int .i64 0, .int .i64 0, .int .i64 0, .slice none 0 0, .slice none 0 0, .int .i64 0, .int .i64 0]) (t := 45) ?hr ?_; (case hd => rfl); (case hg => rfl); (case hr => first | (go_simp; done) | (go_simp; rfl)); intro gb128 hg w8 hbox hb; have n0_ := Aside0.mk (blk_below (g := gb126) (o := .cells #[.slice (some ad127) l0_0.length c0_0, .slice A0_1 l0_1.length c0_1, .slice A0_2 l0_2.length c0_2] 26 (0, 0)) (by (with_reducible repeat (first | refine blk_drewN ?_ _ | refine blk_drew ?_ | refine blk_alloc ?_ _)); exact BK126.out) hb); have n1_ := Aside0.mk (below_step (by repeat (first | (with_reducible first | exact HB.out | apply below_alloc | apply pw_below_drewN | apply below_drew1 | refine below_set ?_ GE126.out) | exact HB.out)) hb); have n2_ := Aside0.mk (hbox); have n3_ := Aside0.mk ((by rw [hg]; exact (below_size (by repeat (first | (with_reducible first | exact HB.out | apply below_alloc | apply pw_below_drewN | apply below_drew1 | refine below_set ?_ GE126.out) | exact HB.out))) : w.heap.size ≤ gb128)); have n4_ := Aside0.mk ((by rw [hg]; exact (below_size (by repeat (first | (with_reducible first | exact HB.out | apply below_alloc | apply pw_below_drewN | apply below_drew1 | refine below_set ?_ GE126.out) | exact HB.out))) : w.heap.size ≤ gb128)); have n5_ := Aside0.mk ((by rw [hg]; exact Nat.ne_of_lt (blk_lt (g := gb126) (o := .cells #[.slice (some ad127) l0_0.length c0_0, .slice A0_1 l0_1.length c0_1, .slice A0_2 l0_2.length c0_2] 26 (0, 0)) (by (with_reducible repeat (first | refine blk_drewN ?_ _ | refine blk_drew ?_ | refine blk_alloc ?_ _)); exact BK126.out)) : gb126 ≠ gb128)); have n6_ := Aside0.mk ((by rw [hg]; exact Nat.ne_of_gt (blk_lt (g := gb126) (o := .cells #[.slice (some ad127) l0_0.length c0_0, .slice A0_1 l0_1.length c0_1, .slice A0_2 l0_2.length c0_2] 26 (0, 0)) (by (with_reducible repeat (first | refine blk_drewN ?_ _ | refine blk_drew ?_ | refine blk_alloc ?_ _)); exact BK126.out)) : gb128 ≠ gb126)); clear BK126; clear HB; have BK126 := n0_; have HB := n1_; have BK128 := n2_; have GW128 := n3_; have GE128 := n4_; have NB126_128 := n5_; have NB128_126 := n6_; clear n0_ n1_ n2_ n3_ n4_ n5_ n6_; clear hb hbox hg; have hnb9 := NB128_126.out; have hnc9 := NB126_128.out; have hcz10_0 : w8.cell? ⟨gb128, 0, none⟩ = some (.int .i64 0) := (blk_cell BK128.out 0).trans rfl; have hcz10_1 : w8.cell? ⟨gb128, 1, none⟩ = some (.int .i64 0) := (blk_cell BK128.out 1).trans rfl; have hcz10_2 : w8.cell? ⟨gb128, 2, none⟩ = some (.int .i64 0) := (blk_cell BK128.out 2).trans rfl; have hcz10_3 : w8.cell? ⟨gb128, 3, none⟩ = some (.int .i64 0) := (blk_cell BK128.out 3).trans rfl; have hcz10_4 : w8.cell? ⟨gb128, 4, none⟩ = some (.int .i64 0) := (blk_cell BK128.out 4).trans rfl; have hcz10_5 : w8.cell? ⟨gb128, 5, none⟩ = some (.slice none 0 0) := (blk_cell BK128.out 5).trans rfl; have hcz10_6 : w8.cell? ⟨gb128, 6, none⟩ = some (.slice none 0 0) := (blk_cell BK128.out 6).trans rfl; have hcz10_7 : w8.cell? ⟨gb128, 7, none⟩ = some (.int .i64 0) := (blk_cell BK128.out 7).trans rfl; have hcz10_8 : w8.cell? ⟨gb128, 8, none⟩ = some (.int .i64 0) := (blk_cell BK128.out 8).trans rfl; have hfz10_0 := blk_frozen BK128.out 0; have hfz10_1 := blk_frozen BK128.out 1; have hfz10_2 := blk_frozen BK128.out 2; have hfz10_3 := blk_frozen BK128.out 3; have hfz10_4 := blk_frozen BK128.out 4; have hfz10_5 := blk_frozen BK128.out 5; have hfz10_6 := blk_frozen BK128.out 6; have hfz10_7 := blk_frozen BK128.out 7; have hfz10_8 := blk_frozen BK128.out 8))
              go_roundg k1
              case measure => have := HK1.out; omega
              case rel => exact ⟨(wrap64 (x3_1 + 160)), (wrap64 (x9_1 + 1)), (by first | rfl | (simp; done) | (simp [*]; done)), (by first | rfl | (simp; done) | (simp [*]; done)), H', ⟨by have := HK1.out; omega⟩, ⟨by (with_reducible repeat (first | refine blk_drewN ?_ _ | refine blk_drew ?_ | refine blk_alloc ?_ _)); refine blk_far ?_ NB126_128.out _; (with_reducible repeat (first | refine blk_drewN ?_ _ | refine blk_drew ?_ | refine blk_alloc ?_ _)); refine blk_far ?_ NB126_128.out _; (with_reducible repeat (first | refine blk_drewN ?_ _ | refine blk_drew ?_ | refine blk_alloc ?_ _)); refine blk_far ?_ NB126_128.out _; (with_reducible repeat (first | refine blk_drewN ?_ _ | refine blk_drew ?_ | refine blk_alloc ?_ _)); refine blk_far ?_ NB126_128.out _; (with_reducible repeat (first | refine blk_drewN ?_ _ | refine blk_drew ?_ | refine blk_alloc ?_ _)); refine blk_far ?_ NB126_128.out _; (with_reducible repeat (first | refine blk_drewN ?_ _ | refine blk_drew ?_ | refine blk_alloc ?_ _)); refine blk_far ?_ NB126_128.out _; (with_reducible repeat (first | refine blk_drewN ?_ _ | refine blk_drew ?_ | refine blk_alloc ?_ _)); refine blk_far ?_ NB126_128.out _; (with_reducible repeat (first | refine blk_drewN ?_ _ | refine blk_drew ?_ | refine blk_alloc ?_ _)); refine blk_far ?_ NB126_128.out _; (with_reducible repeat (first | refine blk_drewN ?_ _ | refine blk_drew ?_ | refine blk_alloc ?_ _)); refine blk_far ?_ NB126_128.out _; (with_reducible repeat (first | refine blk_drewN ?_ _ | refine blk_drew ?_ | refine blk_alloc ?_ _)); exact BK126.out⟩, ⟨by repeat (first | (with_reducible first | exact HB.out | apply below_alloc | apply pw_below_drewN | apply below_drew1 | refine below_set ?_ GE126.out | refine below_set ?_ GE128.out) | exact HB.out)⟩⟩
            · rw [if_neg c7] at H
              have c7b0 : (((rd_T45 l0_0 x9_1).f4) == 4) = false := beq_eq_false_iff_ne.mpr c7
              have c7b1 : (((rd_T45 l0_0 x9_1).f4) != 4) = true := bne_iff_ne.mpr c7
              have H' := Aside0.mk H
              clear H
              have p127 : 0 ≤ (x9_1 : Int) := of_decide_eq_true (by first | (with_reducible assumption) | assumption)
              have q127 : x9_1 < (l0_0.length : Int) := of_decide_eq_true (by first | (with_reducible assumption) | assumption)
              obtain ⟨ad127, A127_5, c127_5, A127_6, c127_6, e127, hx127_0, hx127_1, hx127_2, hx127_3, hx127_4, hx127_5, hx127_6, hx127_7, hx127_8, hl127_5, hi127_5, hl127_6, hi127_6⟩ := at_T45 HR0_0.out x9_1 p127 q127
              cases e127
              replace hx127_0 := (HB.out.cell (World.block_lt_of_cell? w _ hx127_0)).trans hx127_0
              replace hx127_1 := (HB.out.cell (World.block_lt_of_cell? w _ hx127_1)).trans hx127_1
              replace hx127_2 := (HB.out.cell (World.block_lt_of_cell? w _ hx127_2)).trans hx127_2
              replace hx127_3 := (HB.out.cell (World.block_lt_of_cell? w _ hx127_3)).trans hx127_3
              replace hx127_4 := (HB.out.cell (World.block_lt_of_cell? w _ hx127_4)).trans hx127_4
              replace hx127_5 := (HB.out.cell (World.block_lt_of_cell? w _ hx127_5)).trans hx127_5
              replace hx127_6 := (HB.out.cell (World.block_lt_of_cell? w _ hx127_6)).trans hx127_6
              replace hx127_7 := (HB.out.cell (World.block_lt_of_cell? w _ hx127_7)).trans hx127_7
              replace hx127_8 := (HB.out.cell (World.block_lt_of_cell? w _ hx127_8)).trans hx127_8
              have HR127_5 := Aside0.mk hi127_5
              have HC127_5 := Aside0.mk hl127_5
              clear hi127_5 hl127_5
              have HR127_6 := Aside0.mk hi127_6
              have HC127_6 := Aside0.mk hl127_6
              clear hi127_6 hl127_6
              replace p127 := eq_true p127
              replace q127 := eq_true q127
              go_wp2_with (first | ((with_reducible refine gate_dst (N := 5) rfl ?_); refine box_event ?hg (N := 5) ?hd (cs := #[.int .i64 0, .int .i64 0, .int .i64 0, .int .i64 0, .int .i64 0, .slice none 0 0, .slice none 0 0, .int .i64 0, .int .i64 0]) (t := 45) ?hr ?_; (case hd => rfl); (case hg => rfl); (case hr => first | (go_simp; done) | (go_simp; rfl)); intro gb128 hg w11 hbox hb; have n0_ := Aside0.mk (blk_below (g := gb126) (o := .cells #[.slice (some ad127) l0_0.length c0_0, .slice A0_1 l0_1.length c0_1, .slice A0_2 l0_2.length c0_2] 26 (0, 0)) (by (with_reducible repeat (first | refine blk_drewN ?_ _ | refine blk_drew ?_ | refine blk_alloc ?_ _)); exact BK126.out) hb); have n1_ := Aside0.mk (below_step (by repeat (first | (with_reducible first | exact HB.out | apply below_alloc | apply pw_below_drewN | apply below_drew1 | refine below_set ?_ GE126.out) | exact HB.out)) hb); have n2_ := Aside0.mk (hbox); have n3_ := Aside0.mk ((by rw [hg]; exact (below_size (by repeat (first | (with_reducible first | exact HB.out | apply below_alloc | apply pw_below_drewN | apply below_drew1 | refine below_set ?_ GE126.out) | exact HB.out))) : w.heap.size ≤ gb128)); have n4_ := Aside0.mk ((by rw [hg]; exact (below_size (by repeat (first | (with_reducible first | exact HB.out | apply below_alloc | apply pw_below_drewN | apply below_drew1 | refine below_set ?_ GE126.out) | exact HB.out))) : w.heap.size ≤ gb128)); have n5_ := Aside0.mk ((by rw [hg]; exact Nat.ne_of_lt (blk_lt (g := gb126) (o := .cells #[.slice (some ad127) l0_0.length c0_0, .slice A0_1 l0_1.length c0_1, .slice A0_2 l0_2.length c0_2] 26 (0, 0)) (by (with_reducible repeat (first | refine blk_drewN ?_ _ | refine blk_drew ?_ | refine blk_alloc ?_ _)); exact BK126.out)) : gb126 ≠ gb128)); have n6_ := Aside0.mk ((by rw [hg]; exact Nat.ne_of_gt (blk_lt (g := gb126) (o := .cells #[.slice (some ad127) l0_0.length c0_0, .slice A0_1 l0_1.length c0_1, .slice A0_2 l0_2.length c0_2] 26 (0, 0)) (by (with_reducible repeat (first | refine blk_drewN ?_ _ | refine blk_drew ?_ | refine blk_alloc ?_ _)); exact BK126.out)) : gb128 ≠ gb126)); clear BK126; clear HB; have BK126 := n0_; have HB := n1_; have BK128 := n2_; have GW128 := n3_; have GE128 := n4_; have NB126_128 := n5_; have NB128_126 := n6_; clear n0_ n1_ n2_ n3_ n4_ n5_ n6_; clear hb hbox hg; have hnb12 := NB128_126.out; have hnc12 := NB126_128.out; have hcz13_0 : w11.cell? ⟨gb128, 0, none⟩ = some (.int .i64 0) := (blk_cell BK128.out 0).trans rfl; have hcz13_1 : w11.cell? ⟨gb128, 1, none⟩ = some (.int .i64 0) := (blk_cell BK128.out 1).trans rfl; have hcz13_2 : w11.cell? ⟨gb128, 2, none⟩ = some (.int .i64 0) := (blk_cell BK128.out 2).trans rfl; have hcz13_3 : w11.cell? ⟨gb128, 3, none⟩ = some (.int .i64 0) := (blk_cell BK128.out 3).trans rfl; have hcz13_4 : w11.cell? ⟨gb128, 4, none⟩ = some (.int .i64 0) := (blk_cell BK128.out 4).trans rfl; have hcz13_5 : w11.cell? ⟨gb128, 5, none⟩ = some (.slice none 0 0) := (blk_cell BK128.out 5).trans rfl; have hcz13_6 : w11.cell? ⟨gb128, 6, none⟩ = some (.slice none 0 0) := (blk_cell BK128.out 6).trans rfl; have hcz13_7 : w11.cell? ⟨gb128, 7, none⟩ = some (.int .i64 0) := (blk_cell BK128.out 7).trans rfl; have hcz13_8 : w11.cell? ⟨gb128, 8, none⟩ = some (.int .i64 0) := (blk_cell BK128.out 8).trans rfl; have hfz13_0 := blk_frozen BK128.out 0; have hfz13_1 := blk_frozen BK128.out 1; have hfz13_2 := blk_frozen BK128.out 2; have hfz13_3 := blk_frozen BK128.out 3; have hfz13_4 := blk_frozen BK128.out 4; have hfz13_5 := blk_frozen BK128.out 5; have hfz13_6 := blk_frozen BK128.out 6; have hfz13_7 := blk_frozen BK128.out 7; have hfz13_8 := blk_frozen BK128.out 8))
              go_roundg k1
              case measure => have := HK1.out; omega
              case rel => exact ⟨(x3_1), (wrap64 (x9_1 + 1)), (by first | rfl | (simp; done) | (simp [*]; done)), (by first | rfl | (simp; done) | (simp [*]; done)), H', ⟨by have := HK1.out; omega⟩, ⟨by (with_reducible repeat (first | refine blk_drewN ?_ _ | refine blk_drew ?_ | refine blk_alloc ?_ _)); refine blk_far ?_ NB126_128.out _; (with_reducible repeat (first | refine blk_drewN ?_ _ | refine blk_drew ?_ | refine blk_alloc ?_ _)); refine blk_far ?_ NB126_128.out _; (with_reducible repeat (first | refine blk_drewN ?_ _ | refine blk_drew ?_ | refine blk_alloc ?_ _)); refine blk_far ?_ NB126_128.out _; (with_reducible repeat (first | refine blk_drewN ?_ _ | refine blk_drew ?_ | refine blk_alloc ?_ _)); refine blk_far ?_ NB126_128.out _; (with_reducible repeat (first | refine blk_drewN ?_ _ | refine blk_drew ?_ | refine blk_alloc ?_ _)); refine blk_far ?_ NB126_128.out _; (with_reducible repeat (first | refine blk_drewN ?_ _ | refine blk_drew ?_ | refine blk_alloc ?_ _)); refine blk_far ?_ NB126_128.out _; (with_reducible repeat (first | refine blk_drewN ?_ _ | refine blk_drew ?_ | refine blk_alloc ?_ _)); refine blk_far ?_ NB126_128.out _; (with_reducible repeat (first | refine blk_drewN ?_ _ | refine blk_drew ?_ | refine blk_alloc ?_ _)); refine blk_far ?_ NB126_128.out _; (with_reducible repeat (first | refine blk_drewN ?_ _ | refine blk_drew ?_ | refine blk_alloc ?_ _)); refine blk_far ?_ NB126_128.out _; (with_reducible repeat (first | refine blk_drewN ?_ _ | refine blk_drew ?_ | refine blk_alloc ?_ _)); exact BK126.out⟩, ⟨by repeat (first | (with_reducible first | exact HB.out | apply below_alloc | apply pw_below_drewN | apply below_drew1 | refine below_set ?_ GE126.out | refine below_set ?_ GE128.out) | exact HB.out)⟩⟩
          · rw [if_neg c6] at H
            exact absurd H (by simp)
        · rw [if_neg c5] at H
          exact absurd H (by simp)
      · rw [if_neg c4] at H
        have c4b0 : decide (x9_1 < (l0_0.length : Int)) = false := decide_eq_false c4
        clear c4
        obtain rfl := Option.some.inj H
        go_wp2
        go_ret
        exact ⟨by first | rfl | (simp [errW_none, errW_some] <;> rfl) | (simp [*, errW_none, errW_some] <;> rfl), by repeat (first | (with_reducible first | exact HB.out | apply below_alloc | apply pw_below_drewN | apply below_drew1 | refine below_set ?_ GE126.out) | exact HB.out)⟩

/-! ### hogsheadlaw19_shown: function 8 -/
def hogsheadlaw19_shown.f (k : Nat)  : Option (Bool) := if 14 ≤ 17592186044416 then ((some (List.replicate 14 z75 : List (S75))).bind fun y129 => ((some (([(⟨1, 0, 0, 0, 4, ([] : List (S59)), y129, 0, 0⟩ : S45), (⟨2, 0, 0, 0, 4, ([] : List (S59)), y129, 0, 0⟩ : S45), (⟨3, 0, 0, 0, 5, ([] : List (S59)), y129, 0, 0⟩ : S45)] : List (S45)) : List (S45))).bind fun y132 => ((count_Due.f k y132 ([] : List (S92)) ([] : List (S64))).bind fun bt136 => (if (bt136.1 == 42 && (bt136.2.1 == 672 && (bt136.2.2.1 == 0 && (bt136.2.2.2 == 0)))) = true then ((count_Logical.f k y132 ([] : List (S92)) ([] : List (S64))).bind fun t140 => (some (t140 == 320))) else (some false))))) else (none)
theorem hogsheadlaw19_shown.mono : ∀ k, LeO (hogsheadlaw19_shown.f k ) (hogsheadlaw19_shown.f (k + 1) ) := by
  intro  k
  unfold hogsheadlaw19_shown.f
  repeat' first
      | (with_reducible exact count_Due.mono _ _ _ _)
      | (with_reducible exact count_Logical.mono _ _ _ _)
      | (with_reducible exact LeO.refl _)
      | (with_reducible exact LeO.none _)
      | (with_reducible refine LeO.ite ?_ ?_)
      | (with_reducible refine LeO.bind ?_ (fun _ => ?_))
      | exact count_Due.mono _ _ _ _
      | exact count_Logical.mono _ _ _ _
      | exact LeO.none _
      | refine LeO.ite ?_ ?_
      | refine LeO.bind ?_ (fun _ => ?_)
set_option maxHeartbeats 8000000 in
set_option maxRecDepth 100000 in
theorem hogsheadlaw19_shown.calls (k : Nat)  (r : Bool) (w : World) (h : hogsheadlaw19_shown.f k  = some r) :
    Calls Try.prog 8 #[] w fun e w' => e = .returned (.bool r) ∧ Below w.heap.size w w' := by
  have hu45 := Try.underlying45
  have hu26 := Try.underlying26
  have hu29 := Try.underlying29
  have HB := Aside0.mk (Below.refl w.heap.size w)
  have H : (if 14 ≤ 17592186044416 then ((some (List.replicate 14 z75 : List (S75))).bind fun y129 => ((some (([(⟨1, 0, 0, 0, 4, ([] : List (S59)), y129, 0, 0⟩ : S45), (⟨2, 0, 0, 0, 4, ([] : List (S59)), y129, 0, 0⟩ : S45), (⟨3, 0, 0, 0, 5, ([] : List (S59)), y129, 0, 0⟩ : S45)] : List (S45)) : List (S45))).bind fun y132 => ((count_Due.f k y132 ([] : List (S92)) ([] : List (S64))).bind fun bt136 => (if (bt136.1 == 42 && (bt136.2.1 == 672 && (bt136.2.2.1 == 0 && (bt136.2.2.2 == 0)))) = true then ((count_Logical.f k y132 ([] : List (S92)) ([] : List (S64))).bind fun t140 => (some (t140 == 320))) else (some false))))) else (none)) = some r := h
  clear h
  by_cases c1 : 14 ≤ 17592186044416
  · rw [if_pos c1] at H
    have c1b0 := eq_true c1
    have c1b1 : decide (14 ≤ 17592186044416) = true := decide_eq_true c1
    clear c1
    obtain ⟨y129, hy129⟩ : ∃ y_ : List (S75), y_ = (List.replicate 14 z75) := ⟨_, rfl⟩
    replace H : ((some (([(⟨1, 0, 0, 0, 4, ([] : List (S59)), y129, 0, 0⟩ : S45), (⟨2, 0, 0, 0, 4, ([] : List (S59)), y129, 0, 0⟩ : S45), (⟨3, 0, 0, 0, 5, ([] : List (S59)), y129, 0, 0⟩ : S45)] : List (S45)) : List (S45))).bind fun y132 => ((count_Due.f k y132 ([] : List (S92)) ([] : List (S64))).bind fun bt136 => (if (bt136.1 == 42 && (bt136.2.1 == 672 && (bt136.2.2.1 == 0 && (bt136.2.2.2 == 0)))) = true then ((count_Logical.f k y132 ([] : List (S92)) ([] : List (S64))).bind fun t140 => (some (t140 == 320))) else (some false)))) = some r := by first | (rw [hy129]; with_reducible exact H) | (have H2_ := (Option.bind_some _ _).symm.trans H; rw [hy129]; with_reducible exact H2_) | (have H2_ := (Option.bind_some _ _).symm.trans H; with_reducible exact H2_) | with_reducible exact H | (rw [hy129]; exact H) | exact H
    have Ny129 := Aside0.mk hy129
    clear hy129
    obtain ⟨y132, hy132⟩ : ∃ y_ : List (S45), y_ = (([(⟨1, 0, 0, 0, 4, ([] : List (S59)), y129, 0, 0⟩ : S45), (⟨2, 0, 0, 0, 4, ([] : List (S59)), y129, 0, 0⟩ : S45), (⟨3, 0, 0, 0, 5, ([] : List (S59)), y129, 0, 0⟩ : S45)] : List (S45))) := ⟨_, rfl⟩
    replace H : ((count_Due.f k y132 ([] : List (S92)) ([] : List (S64))).bind fun bt136 => (if (bt136.1 == 42 && (bt136.2.1 == 672 && (bt136.2.2.1 == 0 && (bt136.2.2.2 == 0)))) = true then ((count_Logical.f k y132 ([] : List (S92)) ([] : List (S64))).bind fun t140 => (some (t140 == 320))) else (some false))) = some r := by first | (rw [hy132]; with_reducible exact H) | (have H2_ := (Option.bind_some _ _).symm.trans H; rw [hy132]; with_reducible exact H2_) | (have H2_ := (Option.bind_some _ _).symm.trans H; with_reducible exact H2_) | with_reducible exact H | (rw [hy132]; exact H) | exact H
    have Ny132 := Aside0.mk hy132
    clear hy132
    replace H := Option.bind_eq_some_iff.mp H
    obtain ⟨⟨t136, t137, t138, t139⟩, A20, H⟩ := H
    replace H : (if (t136 == 42 && (t137 == 672 && (t138 == 0 && (t139 == 0)))) = true then ((count_Logical.f k y132 ([] : List (S92)) ([] : List (S64))).bind fun t140 => (some (t140 == 320))) else (some false)) = some r := H
    have A2 := Aside0.mk A20
    clear A20
    by_cases c3 : (t136 == 42 && (t137 == 672 && (t138 == 0 && (t139 == 0)))) = true
    · rw [if_pos c3] at H
      have c3b0 : (t136 == 42 && (t137 == 672 && (t138 == 0 && (t139 == 0)))) = true := c3
      (try (have c3b1 : decide (t136 = 42 && (t137 == 672 && (t138 == 0 && (t139 == 0)))) = true := by simpa using c3))
      (try (have c3b2 : (t136 == 42 && (t137 == 672 && (t138 == 0 && (t139 == 0)))) = true := by simpa using c3))
      clear c3
      replace H := Option.bind_eq_some_iff.mp H
      obtain ⟨t140, A40, H⟩ := H
      replace H : (some (t140 == 320)) = some r := H
      have A4 := Aside0.mk A40
      clear A40
      obtain rfl := Option.some.inj H
      go_enter Try.func8, Try.ntmps8
      go_wp2_with (first | ((with_reducible refine gate_dst (N := 3) rfl ?_); refine Kd.R_make k75 _ 75 rfl (N := 3) rfl 40 _ _ rfl 14 rfl rfl Try.underlying40 (.agg #[(.int .i64 0), (.int .i64 0)]) 16 info75 rfl (by decide) (by omega) z75 (ok := fun _ => True) (okp := fun _ => True) (k75_mkM _ _ _ z75 ) (fun _ hk => hk) trivial (by omega) (by omega) (Below.refl _ _) (Nat.le_refl _) ?_; intro v130 w5 ho6 hb hg_ hnew_; clear hg_ hnew_; (first | rw [← Ny129.out] at ho6 | (simp only [Int.reduceToNat] at ho6; rw [← Ny129.out] at ho6)); have n0_ := Aside0.mk (Kd.R_lower ho6 (below_size (by repeat (first | (with_reducible first | exact HB.out | apply below_alloc | apply pw_below_drewN | apply below_drew1) | exact HB.out)))); have n1_ := Aside0.mk (below_step (by repeat (first | (with_reducible first | exact HB.out | apply below_alloc | apply pw_below_drewN | apply below_drew1) | exact HB.out)) hb); clear HB; have HO131 := n0_; have HB := n1_; clear n0_ n1_; clear hb ho6; obtain ⟨Ao7, co7, eo7⟩ := Kd.R_slice HO131.out; subst eo7) | ((with_reducible refine gate_dst (N := 10) rfl ?_); refine Kd.N_lit k45 _ 45 ?hg (N' := 10) ?hd (xs := ([(⟨1, 0, 0, 0, 4, ([] : List (S59)), y129, 0, 0⟩ : S45), (⟨2, 0, 0, 0, 4, ([] : List (S59)), y129, 0, 0⟩ : S45), (⟨3, 0, 0, 0, 5, ([] : List (S59)), y129, 0, 0⟩ : S45)] : List (S45))) (inner := [.int .i64 1, .int .i64 0, .int .i64 0, .int .i64 0, .int .i64 4, .slice none 0 0, .slice Ao7 y129.length co7, .int .i64 0, .int .i64 0, .int .i64 2, .int .i64 0, .int .i64 0, .int .i64 0, .int .i64 4, .slice none 0 0, .slice Ao7 y129.length co7, .int .i64 0, .int .i64 0, .int .i64 3, .int .i64 0, .int .i64 0, .int .i64 0, .int .i64 5, .slice none 0 0, .slice Ao7 y129.length co7, .int .i64 0, .int .i64 0]) (ok := (fun _ => True)) (okp := (fun _ => True)) ?hr ?hp (fun _ hk => hk) ((show ∀ k_, w5.heap.size ≤ k_ → (fun _ => True) k_ from fun k_ hk => trivial) _ (Nat.le_refl _)) (Below.refl _ _) (Nat.le_refl _) (by simp) ?_; (case hd => rfl); (case hg => rfl); (case hr => first | (go_simp; done) | (go_simp; rfl)); (case hp => exact (Reps.c9 (show Kd.FK k45 _ _ (⟨1, 0, 0, 0, 4, ([] : List (S59)), y129, 0, 0⟩ : S45) [.int .i64 1, .int .i64 0, .int .i64 0, .int .i64 0, .int .i64 4, .slice none 0 0, .slice Ao7 y129.length co7, .int .i64 0, .int .i64 0] from (k45_mkF _ _ (⟨1, 0, 0, 0, 4, ([] : List (S59)), y129, 0, 0⟩ : S45) (Nat.le_refl _) (Kd.F_nil _ _ _) (Kd.R_reads' (Kd.R_mono (ok' := (fun _ => True)) (HO131.out) (fun k_ hk => trivial))).2.1 (Kd.R_F (Kd.R_mono (ok' := (fun _ => True)) (HO131.out) (fun k_ hk => trivial))))) (Reps.c9 (show Kd.FK k45 _ _ (⟨2, 0, 0, 0, 4, ([] : List (S59)), y129, 0, 0⟩ : S45) [.int .i64 2, .int .i64 0, .int .i64 0, .int .i64 0, .int .i64 4, .slice none 0 0, .slice Ao7 y129.length co7, .int .i64 0, .int .i64 0] from (k45_mkF _ _ (⟨2, 0, 0, 0, 4, ([] : List (S59)), y129, 0, 0⟩ : S45) (Nat.le_refl _) (Kd.F_nil _ _ _) (Kd.R_reads' (Kd.R_mono (ok' := (fun _ => True)) (HO131.out) (fun k_ hk => trivial))).2.1 (Kd.R_F (Kd.R_mono (ok' := (fun _ => True)) (HO131.out) (fun k_ hk => trivial))))) (Reps.c9 (show Kd.FK k45 _ _ (⟨3, 0, 0, 0, 5, ([] : List (S59)), y129, 0, 0⟩ : S45) [.int .i64 3, .int .i64 0, .int .i64 0, .int .i64 0, .int .i64 5, .slice none 0 0, .slice Ao7 y129.length co7, .int .i64 0, .int .i64 0] from (k45_mkF _ _ (⟨3, 0, 0, 0, 5, ([] : List (S59)), y129, 0, 0⟩ : S45) (Nat.le_refl _) (Kd.F_nil _ _ _) (Kd.R_reads' (Kd.R_mono (ok' := (fun _ => True)) (HO131.out) (fun k_ hk => trivial))).2.1 (Kd.R_F (Kd.R_mono (ok' := (fun _ => True)) (HO131.out) (fun k_ hk => trivial))))) (Reps.none _ _))))); intro v133 w8 ho9 hb hg_ hnew_; clear hg_ hnew_; (first | rw [← Ny132.out] at ho9 | (simp only [Int.reduceToNat] at ho9; rw [← Ny132.out] at ho9)); have n0_ := Aside0.mk (Kd.N_lower ho9 (below_size (by repeat (first | (with_reducible first | exact HB.out | apply below_alloc | apply pw_below_drewN | apply below_drew1) | exact HB.out)))); have n1_ := Aside0.mk (below_step (by repeat (first | (with_reducible first | exact HB.out | apply below_alloc | apply pw_below_drewN | apply below_drew1) | exact HB.out)) hb); clear HB; clear HO131; have HO134 := n0_; have HB := n1_; clear n0_ n1_; clear hb ho9; obtain ⟨Ao10, co10, eo10⟩ := Kd.N_slice HO134.out; subst eo10) | ((with_reducible refine gate_dst (N := 2) rfl ?_); refine box_event ?hg (N := 2) ?hd (cs := #[.slice none 0 0, .slice none 0 0, .slice none 0 0]) (t := 26) ?hr ?_; (case hd => rfl); (case hg => rfl); (case hr => first | (go_simp; done) | (go_simp; rfl)); intro gb135 hg w11 hbox hb; have n0_ := Aside0.mk (Kd.N_below (Kd.N_elderB (by (with_reducible repeat (first | apply Kd.N_alloc | apply Kd.N_drewN | apply Kd.N_drew)); exact HO134.out) gb135 (Nat.le_of_eq hg.symm)) hb); have n1_ := Aside0.mk (below_step (by repeat (first | (with_reducible first | exact HB.out | apply below_alloc | apply pw_below_drewN | apply below_drew1) | exact HB.out)) hb); have n2_ := Aside0.mk (hbox); have n3_ := Aside0.mk ((by rw [hg]; exact (below_size (by repeat (first | (with_reducible first | exact HB.out | apply below_alloc | apply pw_below_drewN | apply below_drew1) | exact HB.out))) : w.heap.size ≤ gb135)); have n4_ := Aside0.mk ((by rw [hg]; exact (below_size (by repeat (first | (with_reducible first | exact HB.out | apply below_alloc | apply pw_below_drewN | apply below_drew1) | exact HB.out))) : w.heap.size ≤ gb135)); clear HO134; clear HB; have HO134 := n0_; have HB := n1_; have BK135 := n2_; have GW135 := n3_; have GE135 := n4_; clear n0_ n1_ n2_ n3_ n4_; clear hb hbox hg; have hcz12_0 : w11.cell? ⟨gb135, 0, none⟩ = some (.slice none 0 0) := (blk_cell BK135.out 0).trans rfl; have hcz12_1 : w11.cell? ⟨gb135, 1, none⟩ = some (.slice none 0 0) := (blk_cell BK135.out 1).trans rfl; have hcz12_2 : w11.cell? ⟨gb135, 2, none⟩ = some (.slice none 0 0) := (blk_cell BK135.out 2).trans rfl; have hfz12_0 := blk_frozen BK135.out 0; have hfz12_1 := blk_frozen BK135.out 1; have hfz12_2 := blk_frozen BK135.out 2) | ((with_reducible refine gate_callee (f := 9) rfl ?_); refine goesL_ (some 13) rfl rfl Try.func9 (by kernel_rfl) rfl #[.agg #[.slice Ao10 y132.length co10, .slice none 0 0, .slice none 0 0]] rfl (by (try simp only [List.map_toArray, List.map_cons, List.map_nil]); first | done | rfl | (simp only [List.length_drop, List.length_take]; rfl)) ?_; (refine (count_Due.calls k _ _ y132 _ _ ([] : List (S92)) _ _ ([] : List (S64)) t136 t137 t138 t139 _ ?side1 ?side2 ?side3 ?side4 ?side5 ?side6 A2.out).mono ?_); (case side1 => refine (Kd.N_reads' (e := 45) (base := w.heap.size) (ok := fun k_ => (True ∧ k_ ≠ gb135)) (n := y132.length) (c := co10) ?_).2.2; exact (by (with_reducible repeat (first | apply Kd.N_alloc | apply Kd.N_drewN | apply Kd.N_drew)); exact (Kd.N_mono (Kd.N_far (p := ⟨gb135, 2, none⟩) (Kd.N_far (p := ⟨gb135, 1, none⟩) (Kd.N_far (p := ⟨gb135, 0, none⟩) (Kd.N_mono HO134.out (fun k_ hk => (⟨hk, hk.2⟩ : _ ∧ k_ ≠ gb135))) (fun _ hk => hk.2) (.slice Ao10 y132.length co10)) (fun _ hk => hk.2) (.slice none 0 0)) (fun _ hk => hk.2) (.slice none 0 0)) (fun _ h_ => h_.1)))); (case side2 => exact (Kd.N_reads' HO134.out).2.1); (case side3 => exact Kd.C_nil _ _); (case side4 => exact Nat.le_refl _); (case side5 => exact Kd.C_nil _ _); (case side6 => exact Nat.le_refl _); rintro e w13 ⟨rfl, hb⟩; refine ⟨_, rfl, ?_⟩; have n0_ := Aside0.mk (Kd.N_below (by (with_reducible repeat (first | apply Kd.N_alloc | apply Kd.N_drewN | apply Kd.N_drew)); exact (Kd.N_mono (Kd.N_far (p := ⟨gb135, 2, none⟩) (Kd.N_far (p := ⟨gb135, 1, none⟩) (Kd.N_far (p := ⟨gb135, 0, none⟩) (Kd.N_mono HO134.out (fun k_ hk => (⟨hk, hk.2⟩ : _ ∧ k_ ≠ gb135))) (fun _ hk => hk.2) (.slice Ao10 y132.length co10)) (fun _ hk => hk.2) (.slice none 0 0)) (fun _ hk => hk.2) (.slice none 0 0)) (fun _ h_ => h_.1))) hb); have n1_ := Aside0.mk (blk_below (g := gb135) (o := .cells #[.slice Ao10 y132.length co10, .slice none 0 0, .slice none 0 0] 26 (0, 0)) (by (with_reducible repeat (first | refine blk_drewN ?_ _ | refine blk_drew ?_ | refine blk_alloc ?_ _)); refine blk_put (cs := #[.slice Ao10 y132.length co10, .slice none 0 0, .slice none 0 0]) ?_ 2 _ rfl; (with_reducible repeat (first | refine blk_drewN ?_ _ | refine blk_drew ?_ | refine blk_alloc ?_ _)); refine blk_put (cs := #[.slice Ao10 y132.length co10, .slice none 0 0, .slice none 0 0]) ?_ 1 _ rfl; (with_reducible repeat (first | refine blk_drewN ?_ _ | refine blk_drew ?_ | refine blk_alloc ?_ _)); refine blk_put (cs := #[.slice none 0 0, .slice none 0 0, .slice none 0 0]) ?_ 0 _ rfl; (with_reducible repeat (first | refine blk_drewN ?_ _ | refine blk_drew ?_ | refine blk_alloc ?_ _)); exact BK135.out) hb); have n2_ := Aside0.mk (below_step (by repeat (first | (with_reducible first | exact HB.out | apply below_alloc | apply pw_below_drewN | apply below_drew1 | refine below_set ?_ GE135.out) | exact HB.out)) hb); clear HO134; clear BK135; clear HB; have HO134 := n0_; have BK135 := n1_; have HB := n2_; clear n0_ n1_ n2_; (try clear hb); (try clear hb2); (try clear hk); (try clear hi); have hcz14_0 : w13.cell? ⟨gb135, 0, none⟩ = some (.slice Ao10 y132.length co10) := (blk_cell BK135.out 0).trans rfl; have hcz14_1 : w13.cell? ⟨gb135, 1, none⟩ = some (.slice none 0 0) := (blk_cell BK135.out 1).trans rfl; have hcz14_2 : w13.cell? ⟨gb135, 2, none⟩ = some (.slice none 0 0) := (blk_cell BK135.out 2).trans rfl; have hfz14_0 := blk_frozen BK135.out 0; have hfz14_1 := blk_frozen BK135.out 1; have hfz14_2 := blk_frozen BK135.out 2) | (go_at_call 11; (refine (count_Logical.calls k _ _ y132 _ _ ([] : List (S92)) _ _ ([] : List (S64)) t140 _ ?side1 ?side2 ?side3 ?side4 ?side5 ?side6 A4.out).mono ?_); (case side1 => repeat (first | exact (Kd.N_reads' HO134.out).2.2 | (with_reducible refine Kd.C_alloc ?_ _) | (with_reducible refine Kd.C_drewN ?_ _) | (with_reducible refine Kd.C_drew ?_))); (case side2 => exact (Kd.N_reads' HO134.out).2.1); (case side3 => exact Kd.C_nil _ _); (case side4 => exact Nat.le_refl _); (case side5 => exact Kd.C_nil _ _); (case side6 => exact Nat.le_refl _); rintro e w15 ⟨rfl, hb⟩; have n0_ := Aside0.mk (Kd.N_below (by (with_reducible repeat (first | apply Kd.N_alloc | apply Kd.N_drewN | apply Kd.N_drew)); exact HO134.out) hb); have n1_ := Aside0.mk (blk_below (g := gb135) (o := .cells #[.slice Ao10 y132.length co10, .slice none 0 0, .slice none 0 0] 26 (0, 0)) (by (with_reducible repeat (first | refine blk_drewN ?_ _ | refine blk_drew ?_ | refine blk_alloc ?_ _)); exact BK135.out) hb); have n2_ := Aside0.mk (below_step (by repeat (first | (with_reducible first | exact HB.out | apply below_alloc | apply pw_below_drewN | apply below_drew1 | refine below_set ?_ GE135.out) | exact HB.out)) hb); clear HO134; clear BK135; clear HB; have HO134 := n0_; have BK135 := n1_; have HB := n2_; clear n0_ n1_ n2_; (try clear hb); (try clear hb2); (try clear hk); (try clear hi)))
      go_ret
      exact ⟨by first | rfl | (simp [errW_none, errW_some] <;> rfl) | (simp [*, errW_none, errW_some] <;> rfl), by repeat (first | (with_reducible first | exact HB.out | apply below_alloc | apply pw_below_drewN | apply below_drew1 | refine below_set ?_ GE135.out) | exact HB.out)⟩
    · rw [if_neg c3] at H
      have c3b0 : (t136 == 42 && (t137 == 672 && (t138 == 0 && (t139 == 0)))) = false := by simpa using c3
      (try (have c3b1 : decide (t136 = 42 && (t137 == 672 && (t138 == 0 && (t139 == 0)))) = false := by simpa using c3))
      (try (have c3b2 : (t136 == 42 && (t137 == 672 && (t138 == 0 && (t139 == 0)))) = false := by simpa using c3))
      (try (have c3b3 : ¬ (t136 = 42 && (t137 == 672 && (t138 == 0 && (t139 == 0)))) := by simpa using c3))
      clear c3
      obtain rfl := Option.some.inj H
      go_enter Try.func8, Try.ntmps8
      go_wp2_with (first | ((with_reducible refine gate_dst (N := 3) rfl ?_); refine Kd.R_make k75 _ 75 rfl (N := 3) rfl 40 _ _ rfl 14 rfl rfl Try.underlying40 (.agg #[(.int .i64 0), (.int .i64 0)]) 16 info75 rfl (by decide) (by omega) z75 (ok := fun _ => True) (okp := fun _ => True) (k75_mkM _ _ _ z75 ) (fun _ hk => hk) trivial (by omega) (by omega) (Below.refl _ _) (Nat.le_refl _) ?_; intro v130 w16 ho17 hb hg_ hnew_; clear hg_ hnew_; (first | rw [← Ny129.out] at ho17 | (simp only [Int.reduceToNat] at ho17; rw [← Ny129.out] at ho17)); have n0_ := Aside0.mk (Kd.R_lower ho17 (below_size (by repeat (first | (with_reducible first | exact HB.out | apply below_alloc | apply pw_below_drewN | apply below_drew1) | exact HB.out)))); have n1_ := Aside0.mk (below_step (by repeat (first | (with_reducible first | exact HB.out | apply below_alloc | apply pw_below_drewN | apply below_drew1) | exact HB.out)) hb); clear HB; have HO131 := n0_; have HB := n1_; clear n0_ n1_; clear hb ho17; obtain ⟨Ao18, co18, eo18⟩ := Kd.R_slice HO131.out; subst eo18) | ((with_reducible refine gate_dst (N := 10) rfl ?_); refine Kd.N_lit k45 _ 45 ?hg (N' := 10) ?hd (xs := ([(⟨1, 0, 0, 0, 4, ([] : List (S59)), y129, 0, 0⟩ : S45), (⟨2, 0, 0, 0, 4, ([] : List (S59)), y129, 0, 0⟩ : S45), (⟨3, 0, 0, 0, 5, ([] : List (S59)), y129, 0, 0⟩ : S45)] : List (S45))) (inner := [.int .i64 1, .int .i64 0, .int .i64 0, .int .i64 0, .int .i64 4, .slice none 0 0, .slice Ao18 y129.length co18, .int .i64 0, .int .i64 0, .int .i64 2, .int .i64 0, .int .i64 0, .int .i64 0, .int .i64 4, .slice none 0 0, .slice Ao18 y129.length co18, .int .i64 0, .int .i64 0, .int .i64 3, .int .i64 0, .int .i64 0, .int .i64 0, .int .i64 5, .slice none 0 0, .slice Ao18 y129.length co18, .int .i64 0, .int .i64 0]) (ok := (fun _ => True)) (okp := (fun _ => True)) ?hr ?hp (fun _ hk => hk) ((show ∀ k_, w16.heap.size ≤ k_ → (fun _ => True) k_ from fun k_ hk => trivial) _ (Nat.le_refl _)) (Below.refl _ _) (Nat.le_refl _) (by simp) ?_; (case hd => rfl); (case hg => rfl); (case hr => first | (go_simp; done) | (go_simp; rfl)); (case hp => exact (Reps.c9 (show Kd.FK k45 _ _ (⟨1, 0, 0, 0, 4, ([] : List (S59)), y129, 0, 0⟩ : S45) [.int .i64 1, .int .i64 0, .int .i64 0, .int .i64 0, .int .i64 4, .slice none 0 0, .slice Ao18 y129.length co18, .int .i64 0, .int .i64 0] from (k45_mkF _ _ (⟨1, 0, 0, 0, 4, ([] : List (S59)), y129, 0, 0⟩ : S45) (Nat.le_refl _) (Kd.F_nil _ _ _) (Kd.R_reads' (Kd.R_mono (ok' := (fun _ => True)) (HO131.out) (fun k_ hk => trivial))).2.1 (Kd.R_F (Kd.R_mono (ok' := (fun _ => True)) (HO131.out) (fun k_ hk => trivial))))) (Reps.c9 (show Kd.FK k45 _ _ (⟨2, 0, 0, 0, 4, ([] : List (S59)), y129, 0, 0⟩ : S45) [.int .i64 2, .int .i64 0, .int .i64 0, .int .i64 0, .int .i64 4, .slice none 0 0, .slice Ao18 y129.length co18, .int .i64 0, .int .i64 0] from (k45_mkF _ _ (⟨2, 0, 0, 0, 4, ([] : List (S59)), y129, 0, 0⟩ : S45) (Nat.le_refl _) (Kd.F_nil _ _ _) (Kd.R_reads' (Kd.R_mono (ok' := (fun _ => True)) (HO131.out) (fun k_ hk => trivial))).2.1 (Kd.R_F (Kd.R_mono (ok' := (fun _ => True)) (HO131.out) (fun k_ hk => trivial))))) (Reps.c9 (show Kd.FK k45 _ _ (⟨3, 0, 0, 0, 5, ([] : List (S59)), y129, 0, 0⟩ : S45) [.int .i64 3, .int .i64 0, .int .i64 0, .int .i64 0, .int .i64 5, .slice none 0 0, .slice Ao18 y129.length co18, .int .i64 0, .int .i64 0] from (k45_mkF _ _ (⟨3, 0, 0, 0, 5, ([] : List (S59)), y129, 0, 0⟩ : S45) (Nat.le_refl _) (Kd.F_nil _ _ _) (Kd.R_reads' (Kd.R_mono (ok' := (fun _ => True)) (HO131.out) (fun k_ hk => trivial))).2.1 (Kd.R_F (Kd.R_mono (ok' := (fun _ => True)) (HO131.out) (fun k_ hk => trivial))))) (Reps.none _ _))))); intro v133 w19 ho20 hb hg_ hnew_; clear hg_ hnew_; (first | rw [← Ny132.out] at ho20 | (simp only [Int.reduceToNat] at ho20; rw [← Ny132.out] at ho20)); have n0_ := Aside0.mk (Kd.N_lower ho20 (below_size (by repeat (first | (with_reducible first | exact HB.out | apply below_alloc | apply pw_below_drewN | apply below_drew1) | exact HB.out)))); have n1_ := Aside0.mk (below_step (by repeat (first | (with_reducible first | exact HB.out | apply below_alloc | apply pw_below_drewN | apply below_drew1) | exact HB.out)) hb); clear HB; clear HO131; have HO134 := n0_; have HB := n1_; clear n0_ n1_; clear hb ho20; obtain ⟨Ao21, co21, eo21⟩ := Kd.N_slice HO134.out; subst eo21) | ((with_reducible refine gate_dst (N := 2) rfl ?_); refine box_event ?hg (N := 2) ?hd (cs := #[.slice none 0 0, .slice none 0 0, .slice none 0 0]) (t := 26) ?hr ?_; (case hd => rfl); (case hg => rfl); (case hr => first | (go_simp; done) | (go_simp; rfl)); intro gb135 hg w22 hbox hb; have n0_ := Aside0.mk (Kd.N_below (Kd.N_elderB (by (with_reducible repeat (first | apply Kd.N_alloc | apply Kd.N_drewN | apply Kd.N_drew)); exact HO134.out) gb135 (Nat.le_of_eq hg.symm)) hb); have n1_ := Aside0.mk (below_step (by repeat (first | (with_reducible first | exact HB.out | apply below_alloc | apply pw_below_drewN | apply below_drew1) | exact HB.out)) hb); have n2_ := Aside0.mk (hbox); have n3_ := Aside0.mk ((by rw [hg]; exact (below_size (by repeat (first | (with_reducible first | exact HB.out | apply below_alloc | apply pw_below_drewN | apply below_drew1) | exact HB.out))) : w.heap.size ≤ gb135)); have n4_ := Aside0.mk ((by rw [hg]; exact (below_size (by repeat (first | (with_reducible first | exact HB.out | apply below_alloc | apply pw_below_drewN | apply below_drew1) | exact HB.out))) : w.heap.size ≤ gb135)); clear HO134; clear HB; have HO134 := n0_; have HB := n1_; have BK135 := n2_; have GW135 := n3_; have GE135 := n4_; clear n0_ n1_ n2_ n3_ n4_; clear hb hbox hg; have hcz23_0 : w22.cell? ⟨gb135, 0, none⟩ = some (.slice none 0 0) := (blk_cell BK135.out 0).trans rfl; have hcz23_1 : w22.cell? ⟨gb135, 1, none⟩ = some (.slice none 0 0) := (blk_cell BK135.out 1).trans rfl; have hcz23_2 : w22.cell? ⟨gb135, 2, none⟩ = some (.slice none 0 0) := (blk_cell BK135.out 2).trans rfl; have hfz23_0 := blk_frozen BK135.out 0; have hfz23_1 := blk_frozen BK135.out 1; have hfz23_2 := blk_frozen BK135.out 2) | ((with_reducible refine gate_callee (f := 9) rfl ?_); refine goesL_ (some 13) rfl rfl Try.func9 (by kernel_rfl) rfl #[.agg #[.slice Ao21 y132.length co21, .slice none 0 0, .slice none 0 0]] rfl (by (try simp only [List.map_toArray, List.map_cons, List.map_nil]); first | done | rfl | (simp only [List.length_drop, List.length_take]; rfl)) ?_; (refine (count_Due.calls k _ _ y132 _ _ ([] : List (S92)) _ _ ([] : List (S64)) t136 t137 t138 t139 _ ?side1 ?side2 ?side3 ?side4 ?side5 ?side6 A2.out).mono ?_); (case side1 => refine (Kd.N_reads' (e := 45) (base := w.heap.size) (ok := fun k_ => (True ∧ k_ ≠ gb135)) (n := y132.length) (c := co21) ?_).2.2; exact (by (with_reducible repeat (first | apply Kd.N_alloc | apply Kd.N_drewN | apply Kd.N_drew)); exact (Kd.N_mono (Kd.N_far (p := ⟨gb135, 2, none⟩) (Kd.N_far (p := ⟨gb135, 1, none⟩) (Kd.N_far (p := ⟨gb135, 0, none⟩) (Kd.N_mono HO134.out (fun k_ hk => (⟨hk, hk.2⟩ : _ ∧ k_ ≠ gb135))) (fun _ hk => hk.2) (.slice Ao21 y132.length co21)) (fun _ hk => hk.2) (.slice none 0 0)) (fun _ hk => hk.2) (.slice none 0 0)) (fun _ h_ => h_.1)))); (case side2 => exact (Kd.N_reads' HO134.out).2.1); (case side3 => exact Kd.C_nil _ _); (case side4 => exact Nat.le_refl _); (case side5 => exact Kd.C_nil _ _); (case side6 => exact Nat.le_refl _); rintro e w24 ⟨rfl, hb⟩; refine ⟨_, rfl, ?_⟩; have n0_ := Aside0.mk (Kd.N_below (by (with_reducible repeat (first | apply Kd.N_alloc | apply Kd.N_drewN | apply Kd.N_drew)); exact (Kd.N_mono (Kd.N_far (p := ⟨gb135, 2, none⟩) (Kd.N_far (p := ⟨gb135, 1, none⟩) (Kd.N_far (p := ⟨gb135, 0, none⟩) (Kd.N_mono HO134.out (fun k_ hk => (⟨hk, hk.2⟩ : _ ∧ k_ ≠ gb135))) (fun _ hk => hk.2) (.slice Ao21 y132.length co21)) (fun _ hk => hk.2) (.slice none 0 0)) (fun _ hk => hk.2) (.slice none 0 0)) (fun _ h_ => h_.1))) hb); have n1_ := Aside0.mk (blk_below (g := gb135) (o := .cells #[.slice Ao21 y132.length co21, .slice none 0 0, .slice none 0 0] 26 (0, 0)) (by (with_reducible repeat (first | refine blk_drewN ?_ _ | refine blk_drew ?_ | refine blk_alloc ?_ _)); refine blk_put (cs := #[.slice Ao21 y132.length co21, .slice none 0 0, .slice none 0 0]) ?_ 2 _ rfl; (with_reducible repeat (first | refine blk_drewN ?_ _ | refine blk_drew ?_ | refine blk_alloc ?_ _)); refine blk_put (cs := #[.slice Ao21 y132.length co21, .slice none 0 0, .slice none 0 0]) ?_ 1 _ rfl; (with_reducible repeat (first | refine blk_drewN ?_ _ | refine blk_drew ?_ | refine blk_alloc ?_ _)); refine blk_put (cs := #[.slice none 0 0, .slice none 0 0, .slice none 0 0]) ?_ 0 _ rfl; (with_reducible repeat (first | refine blk_drewN ?_ _ | refine blk_drew ?_ | refine blk_alloc ?_ _)); exact BK135.out) hb); have n2_ := Aside0.mk (below_step (by repeat (first | (with_reducible first | exact HB.out | apply below_alloc | apply pw_below_drewN | apply below_drew1 | refine below_set ?_ GE135.out) | exact HB.out)) hb); clear HO134; clear BK135; clear HB; have HO134 := n0_; have BK135 := n1_; have HB := n2_; clear n0_ n1_ n2_; (try clear hb); (try clear hb2); (try clear hk); (try clear hi)))
      go_ret
      exact ⟨by first | rfl | (simp [errW_none, errW_some] <;> rfl) | (simp [*, errW_none, errW_some] <;> rfl), by repeat (first | (with_reducible first | exact HB.out | apply below_alloc | apply pw_below_drewN | apply below_drew1 | refine below_set ?_ GE135.out) | exact HB.out)⟩
  · rw [if_neg c1] at H
    exact absurd H (by simp)

/-! ### hogsheadref19_Due: function 10 -/
mutual
def hogsheadref19_Due.l0 : Nat → Int → List (S45) → List (S92) → List (S64) → Int → Int → Int → Int → Option (Int × Int × Int × Int)
  | 0, _, _, _, _, _, _, _, _ => none
  | k + 1, x4, x142000, x142001, x142002, x144000, x144001, x144002, x144003 => if x4 < (x142000.length : Int) then (if 0 ≤ x4 then (hogsheadref19_Due.l1 k x4 0 x142000 x142001 x142002 (wrap64 (x144000 + (((rd_T45 x142000 x4).f6).length : Int))) (wrap64 (x144001 + (wrap64 (16 * (((rd_T45 x142000 x4).f6).length : Int))))) x144002 x144003 ((rd_T45 x142000 x4).f0) ((rd_T45 x142000 x4).f1) ((rd_T45 x142000 x4).f2) ((rd_T45 x142000 x4).f3) ((rd_T45 x142000 x4).f4) ((rd_T45 x142000 x4).f5) ((rd_T45 x142000 x4).f6) ((rd_T45 x142000 x4).f7) ((rd_T45 x142000 x4).f8)) else (none)) else (some (x144000, x144001, x144002, x144003))
def hogsheadref19_Due.l1 : Nat → Int → Int → List (S45) → List (S92) → List (S64) → Int → Int → Int → Int → Int → Int → Int → Int → Int → List (S59) → List (S75) → Int → Int → Option (Int × Int × Int × Int)
  | 0, _, _, _, _, _, _, _, _, _, _, _, _, _, _, _, _, _, _ => none
  | k + 1, x4, x6, x142000, x142001, x142002, x144000, x144001, x144002, x144003, x146000, x146001, x146002, x146003, x146004, x146005, x146006, x146007, x146008 => if x6 < (x146005.length : Int) then (if x146004 ≥ 1 then (if x146004 ≤ 3 then (if 0 ≤ x6 then (hogsheadref19_Due.l1 k x4 (wrap64 (x6 + 1)) x142000 x142001 x142002 x144000 x144001 (wrap64 (x144002 + 4)) (wrap64 (x144003 + (wrap64 (4 * ((rd_T59 x146005 x6).f1))))) x146000 x146001 x146002 x146003 x146004 x146005 x146006 x146007 x146008) else (none)) else (hogsheadref19_Due.l0 k (wrap64 (x4 + 1)) x142000 x142001 x142002 x144000 x144001 x144002 x144003)) else (hogsheadref19_Due.l0 k (wrap64 (x4 + 1)) x142000 x142001 x142002 x144000 x144001 x144002 x144003)) else (hogsheadref19_Due.l0 k (wrap64 (x4 + 1)) x142000 x142001 x142002 x144000 x144001 x144002 x144003)
end
def hogsheadref19_Due.f (k : Nat) (l0_0 : List (S45)) (l0_1 : List (S92)) (l0_2 : List (S64)) : Option (Int × Int × Int × Int) := hogsheadref19_Due.l0 k 0 l0_0 l0_1 l0_2 0 0 0 0
theorem hogsheadref19_Due.mono_l : ∀ k, (∀ y0 y1 y2 y3 y4 y5 y6 y7, LeO (hogsheadref19_Due.l0 k y0 y1 y2 y3 y4 y5 y6 y7) (hogsheadref19_Due.l0 (k + 1) y0 y1 y2 y3 y4 y5 y6 y7)) ∧ (∀ y0 y1 y2 y3 y4 y5 y6 y7 y8 y9 y10 y11 y12 y13 y14 y15 y16 y17, LeO (hogsheadref19_Due.l1 k y0 y1 y2 y3 y4 y5 y6 y7 y8 y9 y10 y11 y12 y13 y14 y15 y16 y17) (hogsheadref19_Due.l1 (k + 1) y0 y1 y2 y3 y4 y5 y6 y7 y8 y9 y10 y11 y12 y13 y14 y15 y16 y17))
  | 0 => ⟨fun _ _ _ _ _ _ _ _ r h => by simp [hogsheadref19_Due.l0] at h, fun _ _ _ _ _ _ _ _ _ _ _ _ _ _ _ _ _ _ r h => by simp [hogsheadref19_Due.l1] at h⟩
  | k + 1 => by
    obtain ⟨ih0, ih1⟩ := hogsheadref19_Due.mono_l k
    refine ⟨?_, ?_⟩
    · intro y0 y1 y2 y3 y4 y5 y6 y7
      unfold hogsheadref19_Due.l0
      repeat' first
      | (with_reducible exact ih0 _ _ _ _ _ _ _ _)
      | (with_reducible exact ih1 _ _ _ _ _ _ _ _ _ _ _ _ _ _ _ _ _ _)
      | (with_reducible exact LeO.refl _)
      | (with_reducible exact LeO.none _)
      | (with_reducible refine LeO.ite ?_ ?_)
      | (with_reducible refine LeO.bind ?_ (fun _ => ?_))
      | exact ih0 _ _ _ _ _ _ _ _
      | exact ih1 _ _ _ _ _ _ _ _ _ _ _ _ _ _ _ _ _ _
      | exact LeO.none _
      | refine LeO.ite ?_ ?_
      | refine LeO.bind ?_ (fun _ => ?_)
    · intro y0 y1 y2 y3 y4 y5 y6 y7 y8 y9 y10 y11 y12 y13 y14 y15 y16 y17
      unfold hogsheadref19_Due.l1
      repeat' first
      | (with_reducible exact ih0 _ _ _ _ _ _ _ _)
      | (with_reducible exact ih1 _ _ _ _ _ _ _ _ _ _ _ _ _ _ _ _ _ _)
      | (with_reducible exact LeO.refl _)
      | (with_reducible exact LeO.none _)
      | (with_reducible refine LeO.ite ?_ ?_)
      | (with_reducible refine LeO.bind ?_ (fun _ => ?_))
      | exact ih0 _ _ _ _ _ _ _ _
      | exact ih1 _ _ _ _ _ _ _ _ _ _ _ _ _ _ _ _ _ _
      | exact LeO.none _
      | refine LeO.ite ?_ ?_
      | refine LeO.bind ?_ (fun _ => ?_)
theorem hogsheadref19_Due.mono : ∀ a0 a1 a2 k, LeO (hogsheadref19_Due.f k a0 a1 a2) (hogsheadref19_Due.f (k + 1) a0 a1 a2) := by
  intro a0 a1 a2 k
  obtain ⟨ih0, ih1⟩ := hogsheadref19_Due.mono_l k
  unfold hogsheadref19_Due.f
  repeat' first
      | (with_reducible exact ih0 _ _ _ _ _ _ _ _)
      | (with_reducible exact ih1 _ _ _ _ _ _ _ _ _ _ _ _ _ _ _ _ _ _)
      | (with_reducible exact LeO.refl _)
      | (with_reducible exact LeO.none _)
      | (with_reducible refine LeO.ite ?_ ?_)
      | (with_reducible refine LeO.bind ?_ (fun _ => ?_))
      | exact ih0 _ _ _ _ _ _ _ _
      | exact ih1 _ _ _ _ _ _ _ _ _ _ _ _ _ _ _ _ _ _
      | exact LeO.none _
      | refine LeO.ite ?_ ?_
      | refine LeO.bind ?_ (fun _ => ?_)
def hogsheadref19_Due.T12 : Bool × List (List Nat × List Nat) := (true, [([], []), ([0], [0]), ([], []), ([2], [2]), ([], []), ([3, 4], [3, 4]), ([5], [5]), ([6], [6]), ([7], [7]), ([1, 8], [1, 8]), ([0, 1, 2, 3, 4, 5, 6, 7, 8, 9], []), ([10, 9, 0, 1, 2, 3, 4, 5, 6, 7, 8, 9], [9, 10])])
def hogsheadref19_Due.B12 : List Nat := [0, 1, 0, 4, 0, 28, 60, 124, 252, 511, 1023, 2047]
theorem hogsheadref19_Due.tab12 : rtab .any (opsOf Try.f10 12) = hogsheadref19_Due.T12 := by kernel_rfl
theorem hogsheadref19_Due.bits12 : waitsOk hogsheadref19_Due.T12.2 hogsheadref19_Due.B12 = true := by kernel_rfl
set_option maxHeartbeats 8000000 in
set_option maxRecDepth 100000 in
theorem hogsheadref19_Due.calls (k : Nat) (A0_0 : Option Addr) (c0_0 : Nat) (l0_0 : List (S45)) (A0_1 : Option Addr) (c0_1 : Nat) (l0_1 : List (S92)) (A0_2 : Option Addr) (c0_2 : Nat) (l0_2 : List (S64)) (r1 : Int) (r2 : Int) (r3 : Int) (r4 : Int) (w : World) (hr0_0 : Kd.C k45 w A0_0 l0_0.length l0_0) (hc0_0 : l0_0.length ≤ c0_0) (hr0_1 : Kd.C k92 w A0_1 l0_1.length l0_1) (hc0_1 : l0_1.length ≤ c0_1) (hr0_2 : Kd.C k64 w A0_2 l0_2.length l0_2) (hc0_2 : l0_2.length ≤ c0_2) (h : hogsheadref19_Due.f k l0_0 l0_1 l0_2 = some (r1, r2, r3, r4)) :
    Calls Try.prog 10 #[.agg #[.slice A0_0 l0_0.length c0_0, .slice A0_1 l0_1.length c0_1, .slice A0_2 l0_2.length c0_2]] w fun e w' => e = .returned (.agg #[.int .i64 r1, .int .i64 r2, .int .i64 r3, .int .i64 r4]) ∧ Below w.heap.size w w' := by
  have hu26 := Try.underlying26
  have hu29 := Try.underlying29
  have hu45 := Try.underlying45
  have HR0_0 := Aside0.mk hr0_0
  have HC0_0 := Aside0.mk hc0_0
  clear hr0_0 hc0_0
  have HR0_1 := Aside0.mk hr0_1
  have HC0_1 := Aside0.mk hc0_1
  clear hr0_1 hc0_1
  have HR0_2 := Aside0.mk hr0_2
  have HC0_2 := Aside0.mk hc0_2
  clear hr0_2 hc0_2
  have HB := Aside0.mk (Below.refl w.heap.size w)
  have H : (hogsheadref19_Due.l0 k 0 l0_0 l0_1 l0_2 0 0 0 0) = some (r1, r2, r3, r4) := h
  clear h
  have H' := Aside0.mk H
  clear H
  go_enter Try.func10, Try.ntmps10
  go_wp2_with (first | ((with_reducible refine gate_dst (N := 1) rfl ?_); refine box_event ?hg (N := 1) ?hd (cs := #[.slice A0_0 l0_0.length c0_0, .slice A0_1 l0_1.length c0_1, .slice A0_2 l0_2.length c0_2]) (t := 26) ?hr ?_; (case hd => rfl); (case hg => rfl); (case hr => first | (go_simp; done) | (go_simp; rfl)); intro gb141 hg w2 hbox hb; have n0_ := Aside0.mk (below_step (by repeat (first | (with_reducible first | exact HB.out | apply below_alloc | apply pw_below_drewN | apply below_drew1) | exact HB.out)) hb); have n1_ := Aside0.mk (hbox); have n2_ := Aside0.mk ((by rw [hg]; exact (below_size (by repeat (first | (with_reducible first | exact HB.out | apply below_alloc | apply pw_below_drewN | apply below_drew1) | exact HB.out))) : w.heap.size ≤ gb141)); have n3_ := Aside0.mk ((by rw [hg]; exact (below_size (by repeat (first | (with_reducible first | exact HB.out | apply below_alloc | apply pw_below_drewN | apply below_drew1) | exact HB.out))) : w.heap.size ≤ gb141)); clear HB; have HB := n0_; have BK141 := n1_; have GW141 := n2_; have GE141 := n3_; clear n0_ n1_ n2_ n3_; clear hb hbox hg) | ((with_reducible refine gate_dst (N := 2) rfl ?_); refine box_event ?hg (N := 2) ?hd (cs := #[.int .i64 0, .int .i64 0, .int .i64 0, .int .i64 0]) (t := 29) ?hr ?_; (case hd => rfl); (case hg => rfl); (case hr => first | (go_simp; done) | (go_simp; rfl)); intro gb142 hg w3 hbox hb; have n0_ := Aside0.mk (blk_below (g := gb141) (o := .cells #[.slice A0_0 l0_0.length c0_0, .slice A0_1 l0_1.length c0_1, .slice A0_2 l0_2.length c0_2] 26 (0, 0)) (by (with_reducible repeat (first | refine blk_drewN ?_ _ | refine blk_drew ?_ | refine blk_alloc ?_ _)); exact BK141.out) hb); have n1_ := Aside0.mk (below_step (by repeat (first | (with_reducible first | exact HB.out | apply below_alloc | apply pw_below_drewN | apply below_drew1 | refine below_set ?_ GE141.out) | exact HB.out)) hb); have n2_ := Aside0.mk (hbox); have n3_ := Aside0.mk ((by rw [hg]; exact (below_size (by repeat (first | (with_reducible first | exact HB.out | apply below_alloc | apply pw_below_drewN | apply below_drew1 | refine below_set ?_ GE141.out) | exact HB.out))) : w.heap.size ≤ gb142)); have n4_ := Aside0.mk ((by rw [hg]; exact (below_size (by repeat (first | (with_reducible first | exact HB.out | apply below_alloc | apply pw_below_drewN | apply below_drew1 | refine below_set ?_ GE141.out) | exact HB.out))) : w.heap.size ≤ gb142)); have n5_ := Aside0.mk ((by rw [hg]; exact Nat.ne_of_lt (blk_lt (g := gb141) (o := .cells #[.slice A0_0 l0_0.length c0_0, .slice A0_1 l0_1.length c0_1, .slice A0_2 l0_2.length c0_2] 26 (0, 0)) (by (with_reducible repeat (first | refine blk_drewN ?_ _ | refine blk_drew ?_ | refine blk_alloc ?_ _)); exact BK141.out)) : gb141 ≠ gb142)); have n6_ := Aside0.mk ((by rw [hg]; exact Nat.ne_of_gt (blk_lt (g := gb141) (o := .cells #[.slice A0_0 l0_0.length c0_0, .slice A0_1 l0_1.length c0_1, .slice A0_2 l0_2.length c0_2] 26 (0, 0)) (by (with_reducible repeat (first | refine blk_drewN ?_ _ | refine blk_drew ?_ | refine blk_alloc ?_ _)); exact BK141.out)) : gb142 ≠ gb141)); clear BK141; clear HB; have BK141 := n0_; have HB := n1_; have BK142 := n2_; have GW142 := n3_; have GE142 := n4_; have NB141_142 := n5_; have NB142_141 := n6_; clear n0_ n1_ n2_ n3_ n4_ n5_ n6_; clear hb hbox hg) | ((with_reducible refine gate_dst (N := 3) rfl ?_); refine box_event ?hg (N := 3) ?hd (cs := #[.int .i64 0, .int .i64 0, .int .i64 0, .int .i64 0]) (t := 29) ?hr ?_; (case hd => rfl); (case hg => rfl); (case hr => first | (go_simp; done) | (go_simp; rfl)); intro gb143 hg w4 hbox hb; have n0_ := Aside0.mk (blk_below (g := gb141) (o := .cells #[.slice A0_0 l0_0.length c0_0, .slice A0_1 l0_1.length c0_1, .slice A0_2 l0_2.length c0_2] 26 (0, 0)) (by (with_reducible repeat (first | refine blk_drewN ?_ _ | refine blk_drew ?_ | refine blk_alloc ?_ _)); exact BK141.out) hb); have n1_ := Aside0.mk (blk_below (g := gb142) (o := .cells #[.int .i64 0, .int .i64 0, .int .i64 0, .int .i64 0] 29 (0, 0)) (by (with_reducible repeat (first | refine blk_drewN ?_ _ | refine blk_drew ?_ | refine blk_alloc ?_ _)); exact BK142.out) hb); have n2_ := Aside0.mk (below_step (by repeat (first | (with_reducible first | exact HB.out | apply below_alloc | apply pw_below_drewN | apply below_drew1 | refine below_set ?_ GE141.out | refine below_set ?_ GE142.out) | exact HB.out)) hb); have n3_ := Aside0.mk (hbox); have n4_ := Aside0.mk ((by rw [hg]; exact (below_size (by repeat (first | (with_reducible first | exact HB.out | apply below_alloc | apply pw_below_drewN | apply below_drew1 | refine below_set ?_ GE141.out | refine below_set ?_ GE142.out) | exact HB.out))) : w.heap.size ≤ gb143)); have n5_ := Aside0.mk ((by rw [hg]; exact (below_size (by repeat (first | (with_reducible first | exact HB.out | apply below_alloc | apply pw_below_drewN | apply below_drew1 | refine below_set ?_ GE141.out | refine below_set ?_ GE142.out) | exact HB.out))) : w.heap.size ≤ gb143)); have n6_ := Aside0.mk ((by rw [hg]; exact Nat.ne_of_lt (blk_lt (g := gb141) (o := .cells #[.slice A0_0 l0_0.length c0_0, .slice A0_1 l0_1.length c0_1, .slice A0_2 l0_2.length c0_2] 26 (0, 0)) (by (with_reducible repeat (first | refine blk_drewN ?_ _ | refine blk_drew ?_ | refine blk_alloc ?_ _)); exact BK141.out)) : gb141 ≠ gb143)); have n7_ := Aside0.mk ((by rw [hg]; exact Nat.ne_of_gt (blk_lt (g := gb141) (o := .cells #[.slice A0_0 l0_0.length c0_0, .slice A0_1 l0_1.length c0_1, .slice A0_2 l0_2.length c0_2] 26 (0, 0)) (by (with_reducible repeat (first | refine blk_drewN ?_ _ | refine blk_drew ?_ | refine blk_alloc ?_ _)); exact BK141.out)) : gb143 ≠ gb141)); have n8_ := Aside0.mk ((by rw [hg]; exact Nat.ne_of_lt (blk_lt (g := gb142) (o := .cells #[.int .i64 0, .int .i64 0, .int .i64 0, .int .i64 0] 29 (0, 0)) (by (with_reducible repeat (first | refine blk_drewN ?_ _ | refine blk_drew ?_ | refine blk_alloc ?_ _)); exact BK142.out)) : gb142 ≠ gb143)); have n9_ := Aside0.mk ((by rw [hg]; exact Nat.ne_of_gt (blk_lt (g := gb142) (o := .cells #[.int .i64 0, .int .i64 0, .int .i64 0, .int .i64 0] 29 (0, 0)) (by (with_reducible repeat (first | refine blk_drewN ?_ _ | refine blk_drew ?_ | refine blk_alloc ?_ _)); exact BK142.out)) : gb143 ≠ gb142)); clear BK141; clear BK142; clear HB; have BK141 := n0_; have BK142 := n1_; have HB := n2_; have BK143 := n3_; have GW143 := n4_; have GE143 := n5_; have NB141_143 := n6_; have NB143_141 := n7_; have NB142_143 := n8_; have NB143_142 := n9_; clear n0_ n1_ n2_ n3_ n4_ n5_ n6_ n7_ n8_ n9_; clear hb hbox hg; have hnb5 := NB143_141.out; have hnc5 := NB141_143.out; have hnb6 := NB143_142.out; have hnc6 := NB142_143.out; have hcz7_0 : w4.cell? ⟨gb143, 0, none⟩ = some (.int .i64 0) := (blk_cell BK143.out 0).trans rfl; have hcz7_1 : w4.cell? ⟨gb143, 1, none⟩ = some (.int .i64 0) := (blk_cell BK143.out 1).trans rfl; have hcz7_2 : w4.cell? ⟨gb143, 2, none⟩ = some (.int .i64 0) := (blk_cell BK143.out 2).trans rfl; have hcz7_3 : w4.cell? ⟨gb143, 3, none⟩ = some (.int .i64 0) := (blk_cell BK143.out 3).trans rfl; have hfz7_0 := blk_frozen BK143.out 0; have hfz7_1 := blk_frozen BK143.out 1; have hfz7_2 := blk_frozen BK143.out 2; have hfz7_3 := blk_frozen BK143.out 3))
  go_loopg [4] k (fun kq v4 w' => ∃ (x4_1 : Int) (x144000_1 : Int) (x144001_1 : Int) (x144002_1 : Int) (x144003_1 : Int), v4 = .int .i64 x4_1 ∧ Aside0 (hogsheadref19_Due.l0 kq x4_1 l0_0 l0_1 l0_2 x144000_1 x144001_1 x144002_1 x144003_1 = some (r1, r2, r3, r4)) ∧ Aside0 (kq ≤ k) ∧ Aside0 (w'.heap[gb141]? = some (.cells #[(.slice A0_0 l0_0.length c0_0), (.slice A0_1 l0_1.length c0_1), (.slice A0_2 l0_2.length c0_2)] 26 (0, 0))) ∧ Aside0 (w'.heap[gb142]? = some (.cells #[.int .i64 0, .int .i64 0, .int .i64 0, .int .i64 0] 29 (0, 0))) ∧ Aside0 (w'.heap[gb143]? = some (.cells #[.int .i64 x144000_1, .int .i64 x144001_1, .int .i64 x144002_1, .int .i64 x144003_1] 29 (0, 0))) ∧ Aside0 (Below w.heap.size w w'))
  case atStart => exact ⟨(0), (0), (0), (0), (0), (by first | rfl | (simp; done) | (simp [*]; done)), H', ⟨Nat.le_refl _⟩, ⟨by (with_reducible repeat (first | refine blk_drewN ?_ _ | refine blk_drew ?_ | refine blk_alloc ?_ _)); refine blk_far ?_ NB141_143.out _; (with_reducible repeat (first | refine blk_drewN ?_ _ | refine blk_drew ?_ | refine blk_alloc ?_ _)); refine blk_far ?_ NB141_143.out _; (with_reducible repeat (first | refine blk_drewN ?_ _ | refine blk_drew ?_ | refine blk_alloc ?_ _)); refine blk_far ?_ NB141_143.out _; (with_reducible repeat (first | refine blk_drewN ?_ _ | refine blk_drew ?_ | refine blk_alloc ?_ _)); refine blk_far ?_ NB141_143.out _; (with_reducible repeat (first | refine blk_drewN ?_ _ | refine blk_drew ?_ | refine blk_alloc ?_ _)); exact BK141.out⟩, ⟨by (with_reducible repeat (first | refine blk_drewN ?_ _ | refine blk_drew ?_ | refine blk_alloc ?_ _)); refine blk_far ?_ NB142_143.out _; (with_reducible repeat (first | refine blk_drewN ?_ _ | refine blk_drew ?_ | refine blk_alloc ?_ _)); refine blk_far ?_ NB142_143.out _; (with_reducible repeat (first | refine blk_drewN ?_ _ | refine blk_drew ?_ | refine blk_alloc ?_ _)); refine blk_far ?_ NB142_143.out _; (with_reducible repeat (first | refine blk_drewN ?_ _ | refine blk_drew ?_ | refine blk_alloc ?_ _)); refine blk_far ?_ NB142_143.out _; (with_reducible repeat (first | refine blk_drewN ?_ _ | refine blk_drew ?_ | refine blk_alloc ?_ _)); exact BK142.out⟩, ⟨by (with_reducible repeat (first | refine blk_drewN ?_ _ | refine blk_drew ?_ | refine blk_alloc ?_ _)); refine blk_put (cs := #[.int .i64 0, .int .i64 0, .int .i64 0, .int .i64 0]) ?_ 3 _ rfl; (with_reducible repeat (first | refine blk_drewN ?_ _ | refine blk_drew ?_ | refine blk_alloc ?_ _)); refine blk_put (cs := #[.int .i64 0, .int .i64 0, .int .i64 0, .int .i64 0]) ?_ 2 _ rfl; (with_reducible repeat (first | refine blk_drewN ?_ _ | refine blk_drew ?_ | refine blk_alloc ?_ _)); refine blk_put (cs := #[.int .i64 0, .int .i64 0, .int .i64 0, .int .i64 0]) ?_ 1 _ rfl; (with_reducible repeat (first | refine blk_drewN ?_ _ | refine blk_drew ?_ | refine blk_alloc ?_ _)); refine blk_put (cs := #[.int .i64 0, .int .i64 0, .int .i64 0, .int .i64 0]) ?_ 0 _ rfl; (with_reducible repeat (first | refine blk_drewN ?_ _ | refine blk_drew ?_ | refine blk_alloc ?_ _)); exact BK143.out⟩, ⟨by repeat (first | (with_reducible first | exact HB.out | apply below_alloc | apply pw_below_drewN | apply below_drew1 | refine below_set ?_ GE141.out | refine below_set ?_ GE142.out | refine below_set ?_ GE143.out) | exact HB.out)⟩⟩
  case round =>
    clear H'
    try clear c1
    try clear p2
    try clear c5
    try clear c6
    try clear hcz7_0
    try clear hcz7_1
    try clear hcz7_2
    try clear hcz7_3
    try clear hfz7_0
    try clear hfz7_1
    try clear hfz7_2
    try clear hfz7_3
    obtain ⟨x4_1, x144000_1, x144001_1, x144002_1, x144003_1, rfl, HA, HK1, BK141, BK142, BK143, HB⟩ := hrel
    cases gk with
    | zero => exact absurd HA.out (by simp [hogsheadref19_Due.l0])
    | succ k1 =>
      have H := HA.out
      clear HA
      simp only [hogsheadref19_Due.l0] at H
      by_cases c8 : x4_1 < (l0_0.length : Int)
      · rw [if_pos c8] at H
        have c8b0 : decide (x4_1 < (l0_0.length : Int)) = true := decide_eq_true c8
        clear c8
        by_cases c9 : 0 ≤ x4_1
        · rw [if_pos c9] at H
          have c9b0 : decide (0 ≤ x4_1) = true := decide_eq_true c9
          clear c9
          have H' := Aside0.mk H
          clear H
          have hnb10 := NB141_142.out
          have hnc10 := NB142_141.out
          have hnb11 := NB141_143.out
          have hnc11 := NB143_141.out
          have hcz12_0 : wr.cell? ⟨gb141, 0, none⟩ = some (.slice A0_0 l0_0.length c0_0) := (blk_cell BK141.out 0).trans rfl
          have hcz12_1 : wr.cell? ⟨gb141, 1, none⟩ = some (.slice A0_1 l0_1.length c0_1) := (blk_cell BK141.out 1).trans rfl
          have hcz12_2 : wr.cell? ⟨gb141, 2, none⟩ = some (.slice A0_2 l0_2.length c0_2) := (blk_cell BK141.out 2).trans rfl
          have hfz12_0 := blk_frozen BK141.out 0
          have hfz12_1 := blk_frozen BK141.out 1
          have hfz12_2 := blk_frozen BK141.out 2
          have p144 : 0 ≤ (x4_1 : Int) := of_decide_eq_true (by first | (with_reducible assumption) | assumption)
          have q144 : x4_1 < (l0_0.length : Int) := of_decide_eq_true (by first | (with_reducible assumption) | assumption)
          obtain ⟨ad144, A144_5, c144_5, A144_6, c144_6, e144, hx144_0, hx144_1, hx144_2, hx144_3, hx144_4, hx144_5, hx144_6, hx144_7, hx144_8, hl144_5, hi144_5, hl144_6, hi144_6⟩ := at_T45 HR0_0.out x4_1 p144 q144
          cases e144
          replace hx144_0 := (HB.out.cell (World.block_lt_of_cell? w _ hx144_0)).trans hx144_0
          replace hx144_1 := (HB.out.cell (World.block_lt_of_cell? w _ hx144_1)).trans hx144_1
          replace hx144_2 := (HB.out.cell (World.block_lt_of_cell? w _ hx144_2)).trans hx144_2
          replace hx144_3 := (HB.out.cell (World.block_lt_of_cell? w _ hx144_3)).trans hx144_3
          replace hx144_4 := (HB.out.cell (World.block_lt_of_cell? w _ hx144_4)).trans hx144_4
          replace hx144_5 := (HB.out.cell (World.block_lt_of_cell? w _ hx144_5)).trans hx144_5
          replace hx144_6 := (HB.out.cell (World.block_lt_of_cell? w _ hx144_6)).trans hx144_6
          replace hx144_7 := (HB.out.cell (World.block_lt_of_cell? w _ hx144_7)).trans hx144_7
          replace hx144_8 := (HB.out.cell (World.block_lt_of_cell? w _ hx144_8)).trans hx144_8
          have HR144_5 := Aside0.mk hi144_5
          have HC144_5 := Aside0.mk hl144_5
          clear hi144_5 hl144_5
          have HR144_6 := Aside0.mk hi144_6
          have HC144_6 := Aside0.mk hl144_6
          clear hi144_6 hl144_6
          replace p144 := eq_true p144
          replace q144 := eq_true q144
          go_wp2_with (first | ((with_reducible refine gate_dst (N := 5) rfl ?_); refine box_event ?hg (N := 5) ?hd (cs := #[.int .i64 0, .int .i64 0, .int .i64 0, .int .i64 0, .int .i64 0, .slice none 0 0, .slice none 0 0, .int .i64 0, .int .i64 0]) (t := 45) ?hr ?_; (case hd => rfl); (case hg => rfl); (case hr => first | (go_simp; done) | (go_simp; rfl)); intro gb145 hg w13 hbox hb; have n0_ := Aside0.mk (blk_below (g := gb141) (o := .cells #[.slice (some ad144) l0_0.length c0_0, .slice A0_1 l0_1.length c0_1, .slice A0_2 l0_2.length c0_2] 26 (0, 0)) (by (with_reducible repeat (first | refine blk_drewN ?_ _ | refine blk_drew ?_ | refine blk_alloc ?_ _)); exact BK141.out) hb); have n1_ := Aside0.mk (blk_below (g := gb142) (o := .cells #[.int .i64 0, .int .i64 0, .int .i64 0, .int .i64 0] 29 (0, 0)) (by (with_reducible repeat (first | refine blk_drewN ?_ _ | refine blk_drew ?_ | refine blk_alloc ?_ _)); exact BK142.out) hb); have n2_ := Aside0.mk (blk_below (g := gb143) (o := .cells #[.int .i64 x144000_1, .int .i64 x144001_1, .int .i64 x144002_1, .int .i64 x144003_1] 29 (0, 0)) (by (with_reducible repeat (first | refine blk_drewN ?_ _ | refine blk_drew ?_ | refine blk_alloc ?_ _)); exact BK143.out) hb); have n3_ := Aside0.mk (below_step (by repeat (first | (with_reducible first | exact HB.out | apply below_alloc | apply pw_below_drewN | apply below_drew1 | refine below_set ?_ GE141.out | refine below_set ?_ GE142.out | refine below_set ?_ GE143.out) | exact HB.out)) hb); have n4_ := Aside0.mk (hbox); have n5_ := Aside0.mk ((by rw [hg]; exact (below_size (by repeat (first | (with_reducible first | exact HB.out | apply below_alloc | apply pw_below_drewN | apply below_drew1 | refine below_set ?_ GE141.out | refine below_set ?_ GE142.out | refine below_set ?_ GE143.out) | exact HB.out))) : w.heap.size ≤ gb145)); have n6_ := Aside0.mk ((by rw [hg]; exact (below_size (by repeat (first | (with_reducible first | exact HB.out | apply below_alloc | apply pw_below_drewN | apply below_drew1 | refine below_set ?_ GE141.out | refine below_set ?_ GE142.out | refine below_set ?_ GE143.out) | exact HB.out))) : w.heap.size ≤ gb145)); have n7_ := Aside0.mk ((by rw [hg]; exact Nat.ne_of_lt (blk_lt (g := gb141) (o := .cells #[.slice (some ad144) l0_0.length c0_0, .slice A0_1 l0_1.length c0_1, .slice A0_2 l0_2.length c0_2] 26 (0, 0)) (by (with_reducible repeat (first | refine blk_drewN ?_ _ | refine blk_drew ?_ | refine blk_alloc ?_ _)); exact BK141.out)) : gb141 ≠ gb145)); have n8_ := Aside0.mk ((by rw [hg]; exact Nat.ne_of_gt (blk_lt (g := gb141) (o := .cells #[.slice (some ad144) l0_0.length c0_0, .slice A0_1 l0_1.length c0_1, .slice A0_2 l0_2.length c0_2] 26 (0, 0)) (by (with_reducible repeat (first | refine blk_drewN ?_ _ | refine blk_drew ?_ | refine blk_alloc ?_ _)); exact BK141.out)) : gb145 ≠ gb141)); have n9_ := Aside0.mk ((by rw [hg]; exact Nat.ne_of_lt (blk_lt (g := gb142) (o := .cells #[.int .i64 0, .int .i64 0, .int .i64 0, .int .i64 0] 29 (0, 0)) (by (with_reducible repeat (first | refine blk_drewN ?_ _ | refine blk_drew ?_ | refine blk_alloc ?_ _)); exact BK142.out)) : gb142 ≠ gb145)); have n10_ := Aside0.mk ((by rw [hg]; exact Nat.ne_of_gt (blk_lt (g := gb142) (o := .cells #[.int .i64 0, .int .i64 0, .int .i64 0, .int .i64 0] 29 (0, 0)) (by (with_reducible repeat (first | refine blk_drewN ?_ _ | refine blk_drew ?_ | refine blk_alloc ?_ _)); exact BK142.out)) : gb145 ≠ gb142)); have n11_ := Aside0.mk ((by rw [hg]; exact Nat.ne_of_lt (blk_lt (g := gb143) (o := .cells #[.int .i64 x144000_1, .int .i64 x144001_1, .int .i64 x144002_1, .int .i64 x144003_1] 29 (0, 0)) (by (with_reducible repeat (first | refine blk_drewN ?_ _ | refine blk_drew ?_ | refine blk_alloc ?_ _)); exact BK143.out)) : gb143 ≠ gb145)); have n12_ := Aside0.mk ((by rw [hg]; exact Nat.ne_of_gt (blk_lt (g := gb143) (o := .cells #[.int .i64 x144000_1, .int .i64 x144001_1, .int .i64 x144002_1, .int .i64 x144003_1] 29 (0, 0)) (by (with_reducible repeat (first | refine blk_drewN ?_ _ | refine blk_drew ?_ | refine blk_alloc ?_ _)); exact BK143.out)) : gb145 ≠ gb143)); clear BK141; clear BK142; clear BK143; clear HB; have BK141 := n0_; have BK142 := n1_; have BK143 := n2_; have HB := n3_; have BK145 := n4_; have GW145 := n5_; have GE145 := n6_; have NB141_145 := n7_; have NB145_141 := n8_; have NB142_145 := n9_; have NB145_142 := n10_; have NB143_145 := n11_; have NB145_143 := n12_; clear n0_ n1_ n2_ n3_ n4_ n5_ n6_ n7_ n8_ n9_ n10_ n11_ n12_; clear hb hbox hg; have hnb14 := NB145_141.out; have hnc14 := NB141_145.out; have hnb15 := NB145_142.out; have hnc15 := NB142_145.out; have hnb16 := NB145_143.out; have hnc16 := NB143_145.out; have hcz17_0 : w13.cell? ⟨gb145, 0, none⟩ = some (.int .i64 0) := (blk_cell BK145.out 0).trans rfl; have hcz17_1 : w13.cell? ⟨gb145, 1, none⟩ = some (.int .i64 0) := (blk_cell BK145.out 1).trans rfl; have hcz17_2 : w13.cell? ⟨gb145, 2, none⟩ = some (.int .i64 0) := (blk_cell BK145.out 2).trans rfl; have hcz17_3 : w13.cell? ⟨gb145, 3, none⟩ = some (.int .i64 0) := (blk_cell BK145.out 3).trans rfl; have hcz17_4 : w13.cell? ⟨gb145, 4, none⟩ = some (.int .i64 0) := (blk_cell BK145.out 4).trans rfl; have hcz17_5 : w13.cell? ⟨gb145, 5, none⟩ = some (.slice none 0 0) := (blk_cell BK145.out 5).trans rfl; have hcz17_6 : w13.cell? ⟨gb145, 6, none⟩ = some (.slice none 0 0) := (blk_cell BK145.out 6).trans rfl; have hcz17_7 : w13.cell? ⟨gb145, 7, none⟩ = some (.int .i64 0) := (blk_cell BK145.out 7).trans rfl; have hcz17_8 : w13.cell? ⟨gb145, 8, none⟩ = some (.int .i64 0) := (blk_cell BK145.out 8).trans rfl; have hfz17_0 := blk_frozen BK145.out 0; have hfz17_1 := blk_frozen BK145.out 1; have hfz17_2 := blk_frozen BK145.out 2; have hfz17_3 := blk_frozen BK145.out 3; have hfz17_4 := blk_frozen BK145.out 4; have hfz17_5 := blk_frozen BK145.out 5; have hfz17_6 := blk_frozen BK145.out 6; have hfz17_7 := blk_frozen BK145.out 7; have hfz17_8 := blk_frozen BK145.out 8; have hnb18 := NB143_142.out; have hnc18 := NB142_143.out; have hcz19_0 : w13.cell? ⟨gb143, 0, none⟩ = some (.int .i64 x144000_1) := (blk_cell BK143.out 0).trans rfl; have hcz19_1 : w13.cell? ⟨gb143, 1, none⟩ = some (.int .i64 x144001_1) := (blk_cell BK143.out 1).trans rfl; have hcz19_2 : w13.cell? ⟨gb143, 2, none⟩ = some (.int .i64 x144002_1) := (blk_cell BK143.out 2).trans rfl; have hcz19_3 : w13.cell? ⟨gb143, 3, none⟩ = some (.int .i64 x144003_1) := (blk_cell BK143.out 3).trans rfl; have hfz19_0 := blk_frozen BK143.out 0; have hfz19_1 := blk_frozen BK143.out 1; have hfz19_2 := blk_frozen BK143.out 2; have hfz19_3 := blk_frozen BK143.out 3))
          go_loopg [6] k1 (fun kq v6 w' => ∃ (x6_2 : Int) (x144002_2 : Int) (x144003_2 : Int), v6 = .int .i64 x6_2 ∧ Aside0 (hogsheadref19_Due.l1 kq x4_1 x6_2 l0_0 l0_1 l0_2 (wrap64 (x144000_1 + (((rd_T45 l0_0 x4_1).f6).length : Int))) (wrap64 (x144001_1 + (wrap64 (16 * (((rd_T45 l0_0 x4_1).f6).length : Int))))) x144002_2 x144003_2 ((rd_T45 l0_0 x4_1).f0) ((rd_T45 l0_0 x4_1).f1) ((rd_T45 l0_0 x4_1).f2) ((rd_T45 l0_0 x4_1).f3) ((rd_T45 l0_0 x4_1).f4) ((rd_T45 l0_0 x4_1).f5) ((rd_T45 l0_0 x4_1).f6) ((rd_T45 l0_0 x4_1).f7) ((rd_T45 l0_0 x4_1).f8) = some (r1, r2, r3, r4)) ∧ Aside0 (kq ≤ k1) ∧ Aside0 (w'.heap[gb141]? = some (.cells #[(.slice (some ad144) l0_0.length c0_0), (.slice A0_1 l0_1.length c0_1), (.slice A0_2 l0_2.length c0_2)] 26 (0, 0))) ∧ Aside0 (w'.heap[gb142]? = some (.cells #[.int .i64 0, .int .i64 0, .int .i64 0, .int .i64 0] 29 (0, 0))) ∧ Aside0 (w'.heap[gb143]? = some (.cells #[.int .i64 (wrap64 (x144000_1 + (((rd_T45 l0_0 x4_1).f6).length : Int))), .int .i64 (wrap64 (x144001_1 + (wrap64 (16 * (((rd_T45 l0_0 x4_1).f6).length : Int))))), .int .i64 x144002_2, .int .i64 x144003_2] 29 (0, 0))) ∧ Aside0 (w'.heap[gb145]? = some (.cells #[.int .i64 ((rd_T45 l0_0 x4_1).f0), .int .i64 ((rd_T45 l0_0 x4_1).f1), .int .i64 ((rd_T45 l0_0 x4_1).f2), .int .i64 ((rd_T45 l0_0 x4_1).f3), .int .i64 ((rd_T45 l0_0 x4_1).f4), (.slice A144_5 ((rd_T45 l0_0 x4_1).f5).length c144_5), (.slice A144_6 ((rd_T45 l0_0 x4_1).f6).length c144_6), .int .i64 ((rd_T45 l0_0 x4_1).f7), .int .i64 ((rd_T45 l0_0 x4_1).f8)] 45 (0, 0))) ∧ Aside0 (Below w.heap.size w w'))
          case atStart => exact ⟨(0), (x144002_1), (x144003_1), (by first | rfl | (simp; done) | (simp [*]; done)), H', ⟨Nat.le_refl _⟩, ⟨by (with_reducible repeat (first | refine blk_drewN ?_ _ | refine blk_drew ?_ | refine blk_alloc ?_ _)); refine blk_far ?_ NB141_143.out _; (with_reducible repeat (first | refine blk_drewN ?_ _ | refine blk_drew ?_ | refine blk_alloc ?_ _)); refine blk_far ?_ NB141_143.out _; (with_reducible repeat (first | refine blk_drewN ?_ _ | refine blk_drew ?_ | refine blk_alloc ?_ _)); refine blk_far ?_ NB141_145.out _; (with_reducible repeat (first | refine blk_drewN ?_ _ | refine blk_drew ?_ | refine blk_alloc ?_ _)); refine blk_far ?_ NB141_145.out _; (with_reducible repeat (first | refine blk_drewN ?_ _ | refine blk_drew ?_ | refine blk_alloc ?_ _)); refine blk_far ?_ NB141_145.out _; (with_reducible repeat (first | refine blk_drewN ?_ _ | refine blk_drew ?_ | refine blk_alloc ?_ _)); refine blk_far ?_ NB141_145.out _; (with_reducible repeat (first | refine blk_drewN ?_ _ | refine blk_drew ?_ | refine blk_alloc ?_ _)); refine blk_far ?_ NB141_145.out _; (with_reducible repeat (first | refine blk_drewN ?_ _ | refine blk_drew ?_ | refine blk_alloc ?_ _)); refine blk_far ?_ NB141_145.out _; (with_reducible repeat (first | refine blk_drewN ?_ _ | refine blk_drew ?_ | refine blk_alloc ?_ _)); refine blk_far ?_ NB141_145.out _; (with_reducible repeat (first | refine blk_drewN ?_ _ | refine blk_drew ?_ | refine blk_alloc ?_ _)); refine blk_far ?_ NB141_145.out _; (with_reducible repeat (first | refine blk_drewN ?_ _ | refine blk_drew ?_ | refine blk_alloc ?_ _)); refine blk_far ?_ NB141_145.out _; (with_reducible repeat (first | refine blk_drewN ?_ _ | refine blk_drew ?_ | refine blk_alloc ?_ _)); exact BK141.out⟩, ⟨by (with_reducible repeat (first | refine blk_drewN ?_ _ | refine blk_drew ?_ | refine blk_alloc ?_ _)); refine blk_far ?_ NB142_143.out _; (with_reducible repeat (first | refine blk_drewN ?_ _ | refine blk_drew ?_ | refine blk_alloc ?_ _)); refine blk_far ?_ NB142_143.out _; (with_reducible repeat (first | refine blk_drewN ?_ _ | refine blk_drew ?_ | refine blk_alloc ?_ _)); refine blk_far ?_ NB142_145.out _; (with_reducible repeat (first | refine blk_drewN ?_ _ | refine blk_drew ?_ | refine blk_alloc ?_ _)); refine blk_far ?_ NB142_145.out _; (with_reducible repeat (first | refine blk_drewN ?_ _ | refine blk_drew ?_ | refine blk_alloc ?_ _)); refine blk_far ?_ NB142_145.out _; (with_reducible repeat (first | refine blk_drewN ?_ _ | refine blk_drew ?_ | refine blk_alloc ?_ _)); refine blk_far ?_ NB142_145.out _; (with_reducible repeat (first | refine blk_drewN ?_ _ | refine blk_drew ?_ | refine blk_alloc ?_ _)); refine blk_far ?_ NB142_145.out _; (with_reducible repeat (first | refine blk_drewN ?_ _ | refine blk_drew ?_ | refine blk_alloc ?_ _)); refine blk_far ?_ NB142_145.out _; (with_reducible repeat (first | refine blk_drewN ?_ _ | refine blk_drew ?_ | refine blk_alloc ?_ _)); refine blk_far ?_ NB142_145.out _; (with_reducible repeat (first | refine blk_drewN ?_ _ | refine blk_drew ?_ | refine blk_alloc ?_ _)); refine blk_far ?_ NB142_145.out _; (with_reducible repeat (first | refine blk_drewN ?_ _ | refine blk_drew ?_ | refine blk_alloc ?_ _)); refine blk_far ?_ NB142_145.out _; (with_reducible repeat (first | refine blk_drewN ?_ _ | refine blk_drew ?_ | refine blk_alloc ?_ _)); exact BK142.out⟩, ⟨by (with_reducible repeat (first | refine blk_drewN ?_ _ | refine blk_drew ?_ | refine blk_alloc ?_ _)); refine blk_put (cs := #[.int .i64 (wrap64 (x144000_1 + (((rd_T45 l0_0 x4_1).f6).length : Int))), .int .i64 x144001_1, .int .i64 x144002_1, .int .i64 x144003_1]) ?_ 1 _ rfl; (with_reducible repeat (first | refine blk_drewN ?_ _ | refine blk_drew ?_ | refine blk_alloc ?_ _)); refine blk_put (cs := #[.int .i64 x144000_1, .int .i64 x144001_1, .int .i64 x144002_1, .int .i64 x144003_1]) ?_ 0 _ rfl; (with_reducible repeat (first | refine blk_drewN ?_ _ | refine blk_drew ?_ | refine blk_alloc ?_ _)); refine blk_far ?_ NB143_145.out _; (with_reducible repeat (first | refine blk_drewN ?_ _ | refine blk_drew ?_ | refine blk_alloc ?_ _)); refine blk_far ?_ NB143_145.out _; (with_reducible repeat (first | refine blk_drewN ?_ _ | refine blk_drew ?_ | refine blk_alloc ?_ _)); refine blk_far ?_ NB143_145.out _; (with_reducible repeat (first | refine blk_drewN ?_ _ | refine blk_drew ?_ | refine blk_alloc ?_ _)); refine blk_far ?_ NB143_145.out _; (with_reducible repeat (first | refine blk_drewN ?_ _ | refine blk_drew ?_ | refine blk_alloc ?_ _)); refine blk_far ?_ NB143_145.out _; (with_reducible repeat (first | refine blk_drewN ?_ _ | refine blk_drew ?_ | refine blk_alloc ?_ _)); refine blk_far ?_ NB143_145.out _; (with_reducible repeat (first | refine blk_drewN ?_ _ | refine blk_drew ?_ | refine blk_alloc ?_ _)); refine blk_far ?_ NB143_145.out _; (with_reducible repeat (first | refine blk_drewN ?_ _ | refine blk_drew ?_ | refine blk_alloc ?_ _)); refine blk_far ?_ NB143_145.out _; (with_reducible repeat (first | refine blk_drewN ?_ _ | refine blk_drew ?_ | refine blk_alloc ?_ _)); refine blk_far ?_ NB143_145.out _; (with_reducible repeat (first | refine blk_drewN ?_ _ | refine blk_drew ?_ | refine blk_alloc ?_ _)); exact BK143.out⟩, ⟨by (with_reducible repeat (first | refine blk_drewN ?_ _ | refine blk_drew ?_ | refine blk_alloc ?_ _)); refine blk_far ?_ NB145_143.out _; (with_reducible repeat (first | refine blk_drewN ?_ _ | refine blk_drew ?_ | refine blk_alloc ?_ _)); refine blk_far ?_ NB145_143.out _; (with_reducible repeat (first | refine blk_drewN ?_ _ | refine blk_drew ?_ | refine blk_alloc ?_ _)); refine blk_put (cs := #[.int .i64 ((rd_T45 l0_0 x4_1).f0), .int .i64 ((rd_T45 l0_0 x4_1).f1), .int .i64 ((rd_T45 l0_0 x4_1).f2), .int .i64 ((rd_T45 l0_0 x4_1).f3), .int .i64 ((rd_T45 l0_0 x4_1).f4), .slice A144_5 ((rd_T45 l0_0 x4_1).f5).length c144_5, .slice A144_6 ((rd_T45 l0_0 x4_1).f6).length c144_6, .int .i64 ((rd_T45 l0_0 x4_1).f7), .int .i64 0]) ?_ 8 _ rfl; (with_reducible repeat (first | refine blk_drewN ?_ _ | refine blk_drew ?_ | refine blk_alloc ?_ _)); refine blk_put (cs := #[.int .i64 ((rd_T45 l0_0 x4_1).f0), .int .i64 ((rd_T45 l0_0 x4_1).f1), .int .i64 ((rd_T45 l0_0 x4_1).f2), .int .i64 ((rd_T45 l0_0 x4_1).f3), .int .i64 ((rd_T45 l0_0 x4_1).f4), .slice A144_5 ((rd_T45 l0_0 x4_1).f5).length c144_5, .slice A144_6 ((rd_T45 l0_0 x4_1).f6).length c144_6, .int .i64 0, .int .i64 0]) ?_ 7 _ rfl; (with_reducible repeat (first | refine blk_drewN ?_ _ | refine blk_drew ?_ | refine blk_alloc ?_ _)); refine blk_put (cs := #[.int .i64 ((rd_T45 l0_0 x4_1).f0), .int .i64 ((rd_T45 l0_0 x4_1).f1), .int .i64 ((rd_T45 l0_0 x4_1).f2), .int .i64 ((rd_T45 l0_0 x4_1).f3), .int .i64 ((rd_T45 l0_0 x4_1).f4), .slice A144_5 ((rd_T45 l0_0 x4_1).f5).length c144_5, .slice none 0 0, .int .i64 0, .int .i64 0]) ?_ 6 _ rfl; (with_reducible repeat (first | refine blk_drewN ?_ _ | refine blk_drew ?_ | refine blk_alloc ?_ _)); refine blk_put (cs := #[.int .i64 ((rd_T45 l0_0 x4_1).f0), .int .i64 ((rd_T45 l0_0 x4_1).f1), .int .i64 ((rd_T45 l0_0 x4_1).f2), .int .i64 ((rd_T45 l0_0 x4_1).f3), .int .i64 ((rd_T45 l0_0 x4_1).f4), .slice none 0 0, .slice none 0 0, .int .i64 0, .int .i64 0]) ?_ 5 _ rfl; (with_reducible repeat (first | refine blk_drewN ?_ _ | refine blk_drew ?_ | refine blk_alloc ?_ _)); refine blk_put (cs := #[.int .i64 ((rd_T45 l0_0 x4_1).f0), .int .i64 ((rd_T45 l0_0 x4_1).f1), .int .i64 ((rd_T45 l0_0 x4_1).f2), .int .i64 ((rd_T45 l0_0 x4_1).f3), .int .i64 0, .slice none 0 0, .slice none 0 0, .int .i64 0, .int .i64 0]) ?_ 4 _ rfl; (with_reducible repeat (first | refine blk_drewN ?_ _ | refine blk_drew ?_ | refine blk_alloc ?_ _)); refine blk_put (cs := #[.int .i64 ((rd_T45 l0_0 x4_1).f0), .int .i64 ((rd_T45 l0_0 x4_1).f1), .int .i64 ((rd_T45 l0_0 x4_1).f2), .int .i64 0, .int .i64 0, .slice none 0 0, .slice none 0 0, .int .i64 0, .int .i64 0]) ?_ 3 _ rfl; (with_reducible repeat (first | refine blk_drewN ?_ _ | refine blk_drew ?_ | refine blk_alloc ?_ _)); refine blk_put (cs := #[.int .i64 ((rd_T45 l0_0 x4_1).f0), .int .i64 ((rd_T45 l0_0 x4_1).f1), .int .i64 0, .int .i64 0, .int .i64 0, .slice none 0 0, .slice none 0 0, .int .i64 0, .int .i64 0]) ?_ 2 _ rfl; (with_reducible repeat (first | refine blk_drewN ?_ _ | refine blk_drew ?_ | refine blk_alloc ?_ _)); refine blk_put (cs := #[.int .i64 ((rd_T45 l0_0 x4_1).f0), .int .i64 0, .int .i64 0, .int .i64 0, .int .i64 0, .slice none 0 0, .slice none 0 0, .int .i64 0, .int .i64 0]) ?_ 1 _ rfl; (with_reducible repeat (first | refine blk_drewN ?_ _ | refine blk_drew ?_ | refine blk_alloc ?_ _)); refine blk_put (cs := #[.int .i64 0, .int .i64 0, .int .i64 0, .int .i64 0, .int .i64 0, .slice none 0 0, .slice none 0 0, .int .i64 0, .int .i64 0]) ?_ 0 _ rfl; (with_reducible repeat (first | refine blk_drewN ?_ _ | refine blk_drew ?_ | refine blk_alloc ?_ _)); exact BK145.out⟩, ⟨by repeat (first | (with_reducible first | exact HB.out | apply below_alloc | apply pw_below_drewN | apply below_drew1 | refine below_set ?_ GE141.out | refine below_set ?_ GE142.out | refine below_set ?_ GE143.out | refine below_set ?_ GE145.out) | exact HB.out)⟩⟩
          case round =>
            clear H'
            try clear c1
            try clear p1
            try clear q1
            try clear hx1
            try clear p2
            try clear c5
            try clear c6
            try clear p6
            try clear c8
            try clear c8b0
            try clear c9
            try clear c9b0
            try clear c10
            try clear c11
            try clear c14
            try clear p14
            try clear q14
            try clear hx14
            try clear c15
            try clear c16
            try clear c18
            try clear hcz12_0
            try clear hcz12_1
            try clear hcz12_2
            try clear hcz17_0
            try clear hcz17_1
            try clear hcz17_2
            try clear hcz17_3
            try clear hcz17_4
            try clear hcz17_5
            try clear hcz17_6
            try clear hcz17_7
            try clear hcz17_8
            try clear hcz19_0
            try clear hcz19_1
            try clear hcz19_2
            try clear hcz19_3
            try clear hcz7_0
            try clear hcz7_1
            try clear hcz7_2
            try clear hcz7_3
            try clear hfz12_0
            try clear hfz12_1
            try clear hfz12_2
            try clear hfz17_0
            try clear hfz17_1
            try clear hfz17_2
            try clear hfz17_3
            try clear hfz17_4
            try clear hfz17_5
            try clear hfz17_6
            try clear hfz17_7
            try clear hfz17_8
            try clear hfz19_0
            try clear hfz19_1
            try clear hfz19_2
            try clear hfz19_3
            try clear hfz7_0
            try clear hfz7_1
            try clear hfz7_2
            try clear hfz7_3
            try clear hx144_0
            try clear hx144_1
            try clear hx144_2
            try clear hx144_3
            try clear hx144_4
            try clear hx144_5
            try clear hx144_6
            try clear hx144_7
            try clear hx144_8
            try clear p144
            try clear p2
            try clear q144
            obtain ⟨x6_2, x144002_2, x144003_2, rfl, HA, HK2, BK141, BK142, BK143, BK145, HB⟩ := hrel
            cases gk with
            | zero => exact absurd HA.out (by simp [hogsheadref19_Due.l1])
            | succ k2 =>
              have H := HA.out
              clear HA
              simp only [hogsheadref19_Due.l1] at H
              by_cases c20 : x6_2 < (((rd_T45 l0_0 x4_1).f5).length : Int)
              · rw [if_pos c20] at H
                have c20b0 : decide (x6_2 < (((rd_T45 l0_0 x4_1).f5).length : Int)) = true := decide_eq_true c20
                clear c20
                by_cases c21 : ((rd_T45 l0_0 x4_1).f4) ≥ 1
                · rw [if_pos c21] at H
                  have c21b0 : decide (1 ≤ ((rd_T45 l0_0 x4_1).f4)) = true := decide_eq_true c21
                  clear c21
                  by_cases c22 : ((rd_T45 l0_0 x4_1).f4) ≤ 3
                  · rw [if_pos c22] at H
                    have c22b0 : decide (((rd_T45 l0_0 x4_1).f4) ≤ 3) = true := decide_eq_true c22
                    clear c22
                    by_cases c23 : 0 ≤ x6_2
                    · rw [if_pos c23] at H
                      have c23b0 : decide (0 ≤ x6_2) = true := decide_eq_true c23
                      clear c23
                      have H' := Aside0.mk H
                      clear H
                      have hnb24 := NB145_141.out
                      have hnc24 := NB141_145.out
                      have hnb25 := NB145_142.out
                      have hnc25 := NB142_145.out
                      have hnb26 := NB145_143.out
                      have hnc26 := NB143_145.out
                      have hcz27_0 : wr.cell? ⟨gb145, 0, none⟩ = some (.int .i64 ((rd_T45 l0_0 x4_1).f0)) := (blk_cell BK145.out 0).trans rfl
                      have hcz27_1 : wr.cell? ⟨gb145, 1, none⟩ = some (.int .i64 ((rd_T45 l0_0 x4_1).f1)) := (blk_cell BK145.out 1).trans rfl
                      have hcz27_2 : wr.cell? ⟨gb145, 2, none⟩ = some (.int .i64 ((rd_T45 l0_0 x4_1).f2)) := (blk_cell BK145.out 2).trans rfl
                      have hcz27_3 : wr.cell? ⟨gb145, 3, none⟩ = some (.int .i64 ((rd_T45 l0_0 x4_1).f3)) := (blk_cell BK145.out 3).trans rfl
                      have hcz27_4 : wr.cell? ⟨gb145, 4, none⟩ = some (.int .i64 ((rd_T45 l0_0 x4_1).f4)) := (blk_cell BK145.out 4).trans rfl
                      have hcz27_5 : wr.cell? ⟨gb145, 5, none⟩ = some (.slice A144_5 ((rd_T45 l0_0 x4_1).f5).length c144_5) := (blk_cell BK145.out 5).trans rfl
                      have hcz27_6 : wr.cell? ⟨gb145, 6, none⟩ = some (.slice A144_6 ((rd_T45 l0_0 x4_1).f6).length c144_6) := (blk_cell BK145.out 6).trans rfl
                      have hcz27_7 : wr.cell? ⟨gb145, 7, none⟩ = some (.int .i64 ((rd_T45 l0_0 x4_1).f7)) := (blk_cell BK145.out 7).trans rfl
                      have hcz27_8 : wr.cell? ⟨gb145, 8, none⟩ = some (.int .i64 ((rd_T45 l0_0 x4_1).f8)) := (blk_cell BK145.out 8).trans rfl
                      have hfz27_0 := blk_frozen BK145.out 0
                      have hfz27_1 := blk_frozen BK145.out 1
                      have hfz27_2 := blk_frozen BK145.out 2
                      have hfz27_3 := blk_frozen BK145.out 3
                      have hfz27_4 := blk_frozen BK145.out 4
                      have hfz27_5 := blk_frozen BK145.out 5
                      have hfz27_6 := blk_frozen BK145.out 6
                      have hfz27_7 := blk_frozen BK145.out 7
                      have hfz27_8 := blk_frozen BK145.out 8
                      have hnb28 := NB143_141.out
                      have hnc28 := NB141_143.out
                      have hnb29 := NB143_142.out
                      have hnc29 := NB142_143.out
                      have hcz30_0 : wr.cell? ⟨gb143, 0, none⟩ = some (.int .i64 (wrap64 (x144000_1 + (((rd_T45 l0_0 x4_1).f6).length : Int)))) := (blk_cell BK143.out 0).trans rfl
                      have hcz30_1 : wr.cell? ⟨gb143, 1, none⟩ = some (.int .i64 (wrap64 (x144001_1 + (wrap64 (16 * (((rd_T45 l0_0 x4_1).f6).length : Int)))))) := (blk_cell BK143.out 1).trans rfl
                      have hcz30_2 : wr.cell? ⟨gb143, 2, none⟩ = some (.int .i64 x144002_2) := (blk_cell BK143.out 2).trans rfl
                      have hcz30_3 : wr.cell? ⟨gb143, 3, none⟩ = some (.int .i64 x144003_2) := (blk_cell BK143.out 3).trans rfl
                      have hfz30_0 := blk_frozen BK143.out 0
                      have hfz30_1 := blk_frozen BK143.out 1
                      have hfz30_2 := blk_frozen BK143.out 2
                      have hfz30_3 := blk_frozen BK143.out 3
                      try go_wp2
                      have n0_ : Aside0 ((wr.setCell ⟨gb143, 2, none⟩ (.int .i64 (wrap64 (x144002_2 + 4)))).heap[gb141]? = some (.cells #[.slice (some ad144) l0_0.length c0_0, .slice A0_1 l0_1.length c0_1, .slice A0_2 l0_2.length c0_2] 26 (0, 0))) := ⟨by (with_reducible repeat (first | refine blk_drewN ?_ _ | refine blk_drew ?_ | refine blk_alloc ?_ _)); refine blk_far ?_ NB141_143.out _; (with_reducible repeat (first | refine blk_drewN ?_ _ | refine blk_drew ?_ | refine blk_alloc ?_ _)); exact BK141.out⟩
                      have n1_ : Aside0 ((wr.setCell ⟨gb143, 2, none⟩ (.int .i64 (wrap64 (x144002_2 + 4)))).heap[gb142]? = some (.cells #[.int .i64 0, .int .i64 0, .int .i64 0, .int .i64 0] 29 (0, 0))) := ⟨by (with_reducible repeat (first | refine blk_drewN ?_ _ | refine blk_drew ?_ | refine blk_alloc ?_ _)); refine blk_far ?_ NB142_143.out _; (with_reducible repeat (first | refine blk_drewN ?_ _ | refine blk_drew ?_ | refine blk_alloc ?_ _)); exact BK142.out⟩
                      have n2_ : Aside0 ((wr.setCell ⟨gb143, 2, none⟩ (.int .i64 (wrap64 (x144002_2 + 4)))).heap[gb143]? = some (.cells #[.int .i64 (wrap64 (x144000_1 + (((rd_T45 l0_0 x4_1).f6).length : Int))), .int .i64 (wrap64 (x144001_1 + (wrap64 (16 * (((rd_T45 l0_0 x4_1).f6).length : Int))))), .int .i64 (wrap64 (x144002_2 + 4)), .int .i64 x144003_2] 29 (0, 0))) := ⟨by (with_reducible repeat (first | refine blk_drewN ?_ _ | refine blk_drew ?_ | refine blk_alloc ?_ _)); refine blk_put (cs := #[.int .i64 (wrap64 (x144000_1 + (((rd_T45 l0_0 x4_1).f6).length : Int))), .int .i64 (wrap64 (x144001_1 + (wrap64 (16 * (((rd_T45 l0_0 x4_1).f6).length : Int))))), .int .i64 x144002_2, .int .i64 x144003_2]) ?_ 2 _ rfl; (with_reducible repeat (first | refine blk_drewN ?_ _ | refine blk_drew ?_ | refine blk_alloc ?_ _)); exact BK143.out⟩
                      have n3_ : Aside0 ((wr.setCell ⟨gb143, 2, none⟩ (.int .i64 (wrap64 (x144002_2 + 4)))).heap[gb145]? = some (.cells #[.int .i64 ((rd_T45 l0_0 x4_1).f0), .int .i64 ((rd_T45 l0_0 x4_1).f1), .int .i64 ((rd_T45 l0_0 x4_1).f2), .int .i64 ((rd_T45 l0_0 x4_1).f3), .int .i64 ((rd_T45 l0_0 x4_1).f4), .slice A144_5 ((rd_T45 l0_0 x4_1).f5).length c144_5, .slice A144_6 ((rd_T45 l0_0 x4_1).f6).length c144_6, .int .i64 ((rd_T45 l0_0 x4_1).f7), .int .i64 ((rd_T45 l0_0 x4_1).f8)] 45 (0, 0))) := ⟨by (with_reducible repeat (first | refine blk_drewN ?_ _ | refine blk_drew ?_ | refine blk_alloc ?_ _)); refine blk_far ?_ NB145_143.out _; (with_reducible repeat (first | refine blk_drewN ?_ _ | refine blk_drew ?_ | refine blk_alloc ?_ _)); exact BK145.out⟩
                      have n4_ : Aside0 (Below w.heap.size w (wr.setCell ⟨gb143, 2, none⟩ (.int .i64 (wrap64 (x144002_2 + 4))))) := ⟨by repeat (first | (with_reducible first | exact HB.out | apply below_alloc | apply pw_below_drewN | apply below_drew1 | refine below_set ?_ GE141.out | refine below_set ?_ GE142.out | refine below_set ?_ GE143.out | refine below_set ?_ GE145.out) | exact HB.out)⟩
                      (try clear BK141)
                      (try clear BK142)
                      (try clear BK143)
                      (try clear BK145)
                      (try clear HB)
                      generalize (wr.setCell ⟨gb143, 2, none⟩ (.int .i64 (wrap64 (x144002_2 + 4)))) = w31 at n0_ n1_ n2_ n3_ n4_ ⊢
                      have BK141 := n0_
                      have BK142 := n1_
                      have BK143 := n2_
                      have BK145 := n3_
                      have HB := n4_
                      clear n0_ n1_ n2_ n3_ n4_
                      have n0_ := Aside0.mk (blk_drew BK141.out)
                      have n1_ := Aside0.mk (blk_drew BK142.out)
                      have n2_ := Aside0.mk (blk_drew BK143.out)
                      have n3_ := Aside0.mk (blk_drew BK145.out)
                      have n4_ := Aside0.mk (below_drew1 HB.out)
                      clear BK141
                      clear BK142
                      clear BK143
                      clear BK145
                      clear HB
                      have BK141 := n0_
                      have BK142 := n1_
                      have BK143 := n2_
                      have BK145 := n3_
                      have HB := n4_
                      clear n0_ n1_ n2_ n3_ n4_
                      have p146 : 0 ≤ (x6_2 : Int) := of_decide_eq_true (by first | (with_reducible assumption) | assumption)
                      have q146 : x6_2 < (((rd_T45 l0_0 x4_1).f5).length : Int) := of_decide_eq_true (by first | (with_reducible assumption) | assumption)
                      obtain ⟨ad146, e146, hx146_0, hx146_1⟩ := at_T59 HR144_5.out x6_2 p146 q146
                      have hw146_1 := hx146_1
                      have hw146_0 := hx146_0
                      cases e146
                      replace hx146_0 := (HB.out.cell (World.block_lt_of_cell? w _ hx146_0)).trans hx146_0
                      replace hx146_1 := (HB.out.cell (World.block_lt_of_cell? w _ hx146_1)).trans hx146_1
                      replace p146 := eq_true p146
                      replace q146 := eq_true q146
                      refine start_ (n := 12) (S := fun w' => w'.cell? ⟨gb143, 0, none⟩ = some (.int .i64 (wrap64 (x144000_1 + (((rd_T45 l0_0 x4_1).f6).length : Int)))) ∧ w'.cell? ⟨gb143, 1, none⟩ = some (.int .i64 (wrap64 (x144001_1 + (wrap64 (16 * (((rd_T45 l0_0 x4_1).f6).length : Int)))))) ∧ w'.cell? ⟨gb143, 2, none⟩ = some (.int .i64 (wrap64 (x144002_2 + 4))) ∧ w'.cell? ⟨gb143, 3, none⟩ = some (.int .i64 x144003_2) ∧ w'.cell? ⟨gb145, 0, none⟩ = some (.int .i64 ((rd_T45 l0_0 x4_1).f0)) ∧ w'.cell? ⟨gb145, 1, none⟩ = some (.int .i64 ((rd_T45 l0_0 x4_1).f1)) ∧ w'.cell? ⟨gb145, 2, none⟩ = some (.int .i64 ((rd_T45 l0_0 x4_1).f2)) ∧ w'.cell? ⟨gb145, 3, none⟩ = some (.int .i64 ((rd_T45 l0_0 x4_1).f3)) ∧ w'.cell? ⟨gb145, 4, none⟩ = some (.int .i64 ((rd_T45 l0_0 x4_1).f4)) ∧ w'.cell? ⟨gb145, 5, none⟩ = some (.slice (some ad146) ((rd_T45 l0_0 x4_1).f5).length c144_5) ∧ w'.cell? ⟨gb145, 6, none⟩ = some (.slice A144_6 ((rd_T45 l0_0 x4_1).f6).length c144_6) ∧ w'.cell? ⟨gb145, 7, none⟩ = some (.int .i64 ((rd_T45 l0_0 x4_1).f7)) ∧ w'.cell? ⟨gb145, 8, none⟩ = some (.int .i64 ((rd_T45 l0_0 x4_1).f8)) ∧ w'.cell? (ad146.add ((x6_2).toNat * 2)) = some (.int .i64 ((rd_T59 ((rd_T45 l0_0 x4_1).f5) x6_2).f0)) ∧ w'.cell? ⟨(ad146.add ((x6_2).toNat * 2)).block, (ad146.add ((x6_2).toNat * 2)).off + 1, none⟩ = some (.int .i64 ((rd_T59 ((rd_T45 l0_0 x4_1).f5) x6_2).f1))) (ds := [11]) #[false, false, false, false, false, false, false, false, false, false, false, false] (by kernel_rfl) rfl rfl ⟨(blk_cell BK143.out 0).trans rfl, (blk_cell BK143.out 1).trans rfl, (blk_cell BK143.out 2).trans rfl, (blk_cell BK143.out 3).trans rfl, (blk_cell BK145.out 0).trans rfl, (blk_cell BK145.out 1).trans rfl, (blk_cell BK145.out 2).trans rfl, (blk_cell BK145.out 3).trans rfl, (blk_cell BK145.out 4).trans rfl, (blk_cell BK145.out 5).trans rfl, (blk_cell BK145.out 6).trans rfl, (blk_cell BK145.out 7).trans rfl, (blk_cell BK145.out 8).trans rfl, ((HB.out.cell (World.block_lt_of_cell? w _ hw146_0)).trans hw146_0), ((HB.out.cell (World.block_lt_of_cell? w _ hw146_1)).trans hw146_1)⟩ (fun hHeld => ?_); refine with_tabW hogsheadref19_Due.tab12 hogsheadref19_Due.bits12 (fun HT_ HW_ => ?_)
                      generalize w31.drew = w32 at BK141 BK142 BK143 BK145 HB hx146_0 hx146_1 hHeld ⊢
                      refine pure_ (i := 0) (N := some 56) (v := ?_) (a' := ?_) #[true, false, false, false, false, false, false, false, false, false, false, false] rfl rfl (any_of HT_.out (by kernel_rfl)) (fun _ _ _ h => h) (Or.inl ⟨by rfl, ?_⟩) ?_ ?_
                      rotate_left
                      · intro w'
                        go_simp
                        with_reducible rfl
                      rotate_left
                      · simp only [Act.put, List.setIfInBounds_toArray, List.set_cons_zero, List.set_cons_succ, i64_w, i32_w]
                        rfl
                      refine pure_ (i := 2) (N := some 58) (v := ?_) (a' := ?_) #[true, false, true, false, false, false, false, false, false, false, false, false] rfl rfl (any_of HT_.out (by kernel_rfl)) (fun _ _ _ h => h) (Or.inl ⟨by rfl, ?_⟩) ?_ ?_
                      rotate_left
                      · intro w'
                        go_simp
                        with_reducible rfl
                      rotate_left
                      · simp only [Act.put, List.setIfInBounds_toArray, List.set_cons_zero, List.set_cons_succ, i64_w, i32_w]
                        rfl
                      refine pure_ (i := 4) (N := some 60) (v := ?_) (a' := ?_) #[true, false, true, false, true, false, false, false, false, false, false, false] rfl rfl (any_of HT_.out (by kernel_rfl)) (fun _ _ _ h => h) (Or.inl ⟨by rfl, ?_⟩) ?_ ?_
                      rotate_left
                      · intro w'
                        go_simp
                        with_reducible rfl
                      rotate_left
                      · simp only [Act.put, List.setIfInBounds_toArray, List.set_cons_zero, List.set_cons_succ, i64_w, i32_w]
                        rfl
                      refine take_ (i := 1) (N := some 57) (v := ?_) (a' := ?_) #[true, true, true, false, true, false, false, false, false, false, false, false] rfl rfl (take_ofW HT_.out HW_.out (by kernel_rfl)) (fun _ _ _ h => h) (Or.inl ⟨by rfl, ?_⟩) hHeld ?_ ?_
                      rotate_left
                      · rintro w' ⟨s0, s1, s2, s3, s4, s5, s6, s7, s8, s9, s10, s11, s12, s13, s14⟩
                        go_simp
                        with_reducible rfl
                      rotate_left
                      · simp only [Act.put, List.setIfInBounds_toArray, List.set_cons_zero, List.set_cons_succ, i64_w, i32_w]
                        rfl
                      refine take_ (i := 3) (N := some 59) (v := ?_) (a' := ?_) #[true, true, true, true, true, false, false, false, false, false, false, false] rfl rfl (take_ofW HT_.out HW_.out (by kernel_rfl)) (fun _ _ _ h => h) (Or.inl ⟨by rfl, ?_⟩) hHeld ?_ ?_
                      rotate_left
                      · rintro w' ⟨s0, s1, s2, s3, s4, s5, s6, s7, s8, s9, s10, s11, s12, s13, s14⟩
                        go_simp
                        with_reducible rfl
                      rotate_left
                      · simp only [Act.put, List.setIfInBounds_toArray, List.set_cons_zero, List.set_cons_succ, i64_w, i32_w]
                        rfl
                      refine pure_ (i := 5) (N := some 61) (v := ?_) (a' := ?_) #[true, true, true, true, true, true, false, false, false, false, false, false] rfl rfl (any_of HT_.out (by kernel_rfl)) (fun _ _ _ h => h) (Or.inl ⟨by rfl, ?_⟩) ?_ ?_
                      rotate_left
                      · intro w'
                        go_simp
                        with_reducible rfl
                      rotate_left
                      · simp only [Act.put, List.setIfInBounds_toArray, List.set_cons_zero, List.set_cons_succ, i64_w, i32_w]
                        rfl
                      refine pure_ (i := 6) (N := some 62) (v := ?_) (a' := ?_) #[true, true, true, true, true, true, true, false, false, false, false, false] rfl rfl (any_of HT_.out (by kernel_rfl)) (fun _ _ _ h => h) (Or.inl ⟨by rfl, ?_⟩) ?_ ?_
                      rotate_left
                      · intro w'
                        go_simp
                        with_reducible rfl
                      rotate_left
                      · simp only [Act.put, List.setIfInBounds_toArray, List.set_cons_zero, List.set_cons_succ, i64_w, i32_w]
                        rfl
                      refine take_ (i := 7) (N := some 63) (v := ?_) (a' := ?_) #[true, true, true, true, true, true, true, true, false, false, false, false] rfl rfl (take_ofW HT_.out HW_.out (by kernel_rfl)) (fun _ _ _ h => h) (Or.inl ⟨by rfl, ?_⟩) hHeld ?_ ?_
                      rotate_left
                      · rintro w' ⟨s0, s1, s2, s3, s4, s5, s6, s7, s8, s9, s10, s11, s12, s13, s14⟩
                        go_simp
                        with_reducible rfl
                      rotate_left
                      · simp only [Act.put, List.setIfInBounds_toArray, List.set_cons_zero, List.set_cons_succ, i64_w, i32_w]
                        rfl
                      refine pure_ (i := 8) (N := some 64) (v := ?_) (a' := ?_) #[true, true, true, true, true, true, true, true, true, false, false, false] rfl rfl (any_of HT_.out (by kernel_rfl)) (fun _ _ _ h => h) (Or.inl ⟨by rfl, ?_⟩) ?_ ?_
                      rotate_left
                      · intro w'
                        go_simp
                        with_reducible rfl
                      rotate_left
                      · simp only [Act.put, List.setIfInBounds_toArray, List.set_cons_zero, List.set_cons_succ, i64_w, i32_w]
                        rfl
                      refine pure_ (i := 9) (N := some 65) (v := ?_) (a' := ?_) #[true, true, true, true, true, true, true, true, true, true, false, false] rfl rfl (any_of HT_.out (by kernel_rfl)) (fun _ _ _ h => h) (Or.inl ⟨by rfl, ?_⟩) ?_ ?_
                      rotate_left
                      · intro w'
                        go_simp
                        with_reducible rfl
                      rotate_left
                      · simp only [Act.put, List.setIfInBounds_toArray, List.set_cons_zero, List.set_cons_succ, i64_w, i32_w]
                        rfl
                      refine pure_ (i := 10) (N := some 66) (v := ?_) (a' := ?_) #[true, true, true, true, true, true, true, true, true, true, true, false] rfl rfl (any_of HT_.out (by kernel_rfl)) (fun _ _ _ h => h) (Or.inl ⟨by rfl, ?_⟩) ?_ ?_
                      rotate_left
                      · intro w'
                        go_simp
                        with_reducible rfl
                      rotate_left
                      · simp only [Act.put, List.setIfInBounds_toArray, List.set_cons_zero, List.set_cons_succ, i64_w, i32_w]
                        rfl
                      refine last_ (i := 11) (N := none) #[true, true, true, true, true, true, true, true, true, true, true, true] rfl rfl (one_of HT_.out (by kernel_rfl)) (by decide) (fun K hK => ?_)
                      have hs33 : w32.cell? ⟨gb143, 3, none⟩ = some (.int .i64 x144003_2) := (blk_cell BK143.out 3).trans rfl
                      have hfs33 := blk_frozen BK143.out 3
                      have hns33_0 := NB141_143.out
                      have hns33_1 := NB142_143.out
                      have hns33_3 := NB145_143.out
                      have hms33_0 := NB143_141.out
                      have hms33_1 := NB143_142.out
                      have hms33_3 := NB143_145.out
                      refine skip_ (w1 := ?_) (by rfl) rfl ?_ ?_
                      rotate_left
                      · go_simp
                        rfl
                      refine hK.out _ _ ?_
                      clear hK K
                      refine done_ (done_of HT_.out (by kernel_rfl)) ?_
                      try go_wp2
                      go_roundg k2
                      case measure => have := HK1.out; have := HK2.out; omega
                      case rel => exact ⟨(wrap64 (x6_2 + 1)), (wrap64 (x144002_2 + 4)), (wrap64 (x144003_2 + (wrap64 (4 * ((rd_T59 ((rd_T45 l0_0 x4_1).f5) x6_2).f1))))), (by first | rfl | (simp; done) | (simp [*]; done)), H', ⟨by have := HK1.out; have := HK2.out; omega⟩, ⟨by (with_reducible repeat (first | refine blk_drewN ?_ _ | refine blk_drew ?_ | refine blk_alloc ?_ _)); refine blk_far ?_ NB141_143.out _; (with_reducible repeat (first | refine blk_drewN ?_ _ | refine blk_drew ?_ | refine blk_alloc ?_ _)); exact BK141.out⟩, ⟨by (with_reducible repeat (first | refine blk_drewN ?_ _ | refine blk_drew ?_ | refine blk_alloc ?_ _)); refine blk_far ?_ NB142_143.out _; (with_reducible repeat (first | refine blk_drewN ?_ _ | refine blk_drew ?_ | refine blk_alloc ?_ _)); exact BK142.out⟩, ⟨by (with_reducible repeat (first | refine blk_drewN ?_ _ | refine blk_drew ?_ | refine blk_alloc ?_ _)); refine blk_put (cs := #[.int .i64 (wrap64 (x144000_1 + (((rd_T45 l0_0 x4_1).f6).length : Int))), .int .i64 (wrap64 (x144001_1 + (wrap64 (16 * (((rd_T45 l0_0 x4_1).f6).length : Int))))), .int .i64 (wrap64 (x144002_2 + 4)), .int .i64 x144003_2]) ?_ 3 _ rfl; (with_reducible repeat (first | refine blk_drewN ?_ _ | refine blk_drew ?_ | refine blk_alloc ?_ _)); exact BK143.out⟩, ⟨by (with_reducible repeat (first | refine blk_drewN ?_ _ | refine blk_drew ?_ | refine blk_alloc ?_ _)); refine blk_far ?_ NB145_143.out _; (with_reducible repeat (first | refine blk_drewN ?_ _ | refine blk_drew ?_ | refine blk_alloc ?_ _)); exact BK145.out⟩, ⟨by repeat (first | (with_reducible first | exact HB.out | apply below_alloc | apply pw_below_drewN | apply below_drew1 | refine below_set ?_ GE141.out | refine below_set ?_ GE142.out | refine below_set ?_ GE143.out | refine below_set ?_ GE145.out) | exact HB.out)⟩⟩
                    · rw [if_neg c23] at H
                      exact absurd H (by simp)
                  · rw [if_neg c22] at H
                    have c22b0 : decide (((rd_T45 l0_0 x4_1).f4) ≤ 3) = false := decide_eq_false c22
                    clear c22
                    have H' := Aside0.mk H
                    clear H
                    have hnb34 := NB145_141.out
                    have hnc34 := NB141_145.out
                    have hnb35 := NB145_142.out
                    have hnc35 := NB142_145.out
                    have hnb36 := NB145_143.out
                    have hnc36 := NB143_145.out
                    have hcz37_0 : wr.cell? ⟨gb145, 0, none⟩ = some (.int .i64 ((rd_T45 l0_0 x4_1).f0)) := (blk_cell BK145.out 0).trans rfl
                    have hcz37_1 : wr.cell? ⟨gb145, 1, none⟩ = some (.int .i64 ((rd_T45 l0_0 x4_1).f1)) := (blk_cell BK145.out 1).trans rfl
                    have hcz37_2 : wr.cell? ⟨gb145, 2, none⟩ = some (.int .i64 ((rd_T45 l0_0 x4_1).f2)) := (blk_cell BK145.out 2).trans rfl
                    have hcz37_3 : wr.cell? ⟨gb145, 3, none⟩ = some (.int .i64 ((rd_T45 l0_0 x4_1).f3)) := (blk_cell BK145.out 3).trans rfl
                    have hcz37_4 : wr.cell? ⟨gb145, 4, none⟩ = some (.int .i64 ((rd_T45 l0_0 x4_1).f4)) := (blk_cell BK145.out 4).trans rfl
                    have hcz37_5 : wr.cell? ⟨gb145, 5, none⟩ = some (.slice A144_5 ((rd_T45 l0_0 x4_1).f5).length c144_5) := (blk_cell BK145.out 5).trans rfl
                    have hcz37_6 : wr.cell? ⟨gb145, 6, none⟩ = some (.slice A144_6 ((rd_T45 l0_0 x4_1).f6).length c144_6) := (blk_cell BK145.out 6).trans rfl
                    have hcz37_7 : wr.cell? ⟨gb145, 7, none⟩ = some (.int .i64 ((rd_T45 l0_0 x4_1).f7)) := (blk_cell BK145.out 7).trans rfl
                    have hcz37_8 : wr.cell? ⟨gb145, 8, none⟩ = some (.int .i64 ((rd_T45 l0_0 x4_1).f8)) := (blk_cell BK145.out 8).trans rfl
                    have hfz37_0 := blk_frozen BK145.out 0
                    have hfz37_1 := blk_frozen BK145.out 1
                    have hfz37_2 := blk_frozen BK145.out 2
                    have hfz37_3 := blk_frozen BK145.out 3
                    have hfz37_4 := blk_frozen BK145.out 4
                    have hfz37_5 := blk_frozen BK145.out 5
                    have hfz37_6 := blk_frozen BK145.out 6
                    have hfz37_7 := blk_frozen BK145.out 7
                    have hfz37_8 := blk_frozen BK145.out 8
                    go_wp2
                    go_roundg k2
                    case measure => have := HK1.out; have := HK2.out; omega
                    case rel => exact ⟨(wrap64 (x4_1 + 1)), ((wrap64 (x144000_1 + (((rd_T45 l0_0 x4_1).f6).length : Int)))), ((wrap64 (x144001_1 + (wrap64 (16 * (((rd_T45 l0_0 x4_1).f6).length : Int)))))), (x144002_2), (x144003_2), (by first | rfl | (simp; done) | (simp [*]; done)), H', ⟨by have := HK1.out; have := HK2.out; omega⟩, ⟨by (with_reducible repeat (first | refine blk_drewN ?_ _ | refine blk_drew ?_ | refine blk_alloc ?_ _)); exact BK141.out⟩, ⟨by (with_reducible repeat (first | refine blk_drewN ?_ _ | refine blk_drew ?_ | refine blk_alloc ?_ _)); exact BK142.out⟩, ⟨by (with_reducible repeat (first | refine blk_drewN ?_ _ | refine blk_drew ?_ | refine blk_alloc ?_ _)); exact BK143.out⟩, ⟨by repeat (first | (with_reducible first | exact HB.out | apply below_alloc | apply pw_below_drewN | apply below_drew1 | refine below_set ?_ GE141.out | refine below_set ?_ GE142.out | refine below_set ?_ GE143.out | refine below_set ?_ GE145.out) | exact HB.out)⟩⟩
                · rw [if_neg c21] at H
                  have c21b0 : decide (1 ≤ ((rd_T45 l0_0 x4_1).f4)) = false := decide_eq_false c21
                  clear c21
                  have H' := Aside0.mk H
                  clear H
                  have hnb38 := NB145_141.out
                  have hnc38 := NB141_145.out
                  have hnb39 := NB145_142.out
                  have hnc39 := NB142_145.out
                  have hnb40 := NB145_143.out
                  have hnc40 := NB143_145.out
                  have hcz41_0 : wr.cell? ⟨gb145, 0, none⟩ = some (.int .i64 ((rd_T45 l0_0 x4_1).f0)) := (blk_cell BK145.out 0).trans rfl
                  have hcz41_1 : wr.cell? ⟨gb145, 1, none⟩ = some (.int .i64 ((rd_T45 l0_0 x4_1).f1)) := (blk_cell BK145.out 1).trans rfl
                  have hcz41_2 : wr.cell? ⟨gb145, 2, none⟩ = some (.int .i64 ((rd_T45 l0_0 x4_1).f2)) := (blk_cell BK145.out 2).trans rfl
                  have hcz41_3 : wr.cell? ⟨gb145, 3, none⟩ = some (.int .i64 ((rd_T45 l0_0 x4_1).f3)) := (blk_cell BK145.out 3).trans rfl
                  have hcz41_4 : wr.cell? ⟨gb145, 4, none⟩ = some (.int .i64 ((rd_T45 l0_0 x4_1).f4)) := (blk_cell BK145.out 4).trans rfl
                  have hcz41_5 : wr.cell? ⟨gb145, 5, none⟩ = some (.slice A144_5 ((rd_T45 l0_0 x4_1).f5).length c144_5) := (blk_cell BK145.out 5).trans rfl
                  have hcz41_6 : wr.cell? ⟨gb145, 6, none⟩ = some (.slice A144_6 ((rd_T45 l0_0 x4_1).f6).length c144_6) := (blk_cell BK145.out 6).trans rfl
                  have hcz41_7 : wr.cell? ⟨gb145, 7, none⟩ = some (.int .i64 ((rd_T45 l0_0 x4_1).f7)) := (blk_cell BK145.out 7).trans rfl
                  have hcz41_8 : wr.cell? ⟨gb145, 8, none⟩ = some (.int .i64 ((rd_T45 l0_0 x4_1).f8)) := (blk_cell BK145.out 8).trans rfl
                  have hfz41_0 := blk_frozen BK145.out 0
                  have hfz41_1 := blk_frozen BK145.out 1
                  have hfz41_2 := blk_frozen BK145.out 2
                  have hfz41_3 := blk_frozen BK145.out 3
                  have hfz41_4 := blk_frozen BK145.out 4
                  have hfz41_5 := blk_frozen BK145.out 5
                  have hfz41_6 := blk_frozen BK145.out 6
                  have hfz41_7 := blk_frozen BK145.out 7
                  have hfz41_8 := blk_frozen BK145.out 8
                  go_wp2
                  go_roundg k2
                  case measure => have := HK1.out; have := HK2.out; omega
                  case rel => exact ⟨(wrap64 (x4_1 + 1)), ((wrap64 (x144000_1 + (((rd_T45 l0_0 x4_1).f6).length : Int)))), ((wrap64 (x144001_1 + (wrap64 (16 * (((rd_T45 l0_0 x4_1).f6).length : Int)))))), (x144002_2), (x144003_2), (by first | rfl | (simp; done) | (simp [*]; done)), H', ⟨by have := HK1.out; have := HK2.out; omega⟩, ⟨by (with_reducible repeat (first | refine blk_drewN ?_ _ | refine blk_drew ?_ | refine blk_alloc ?_ _)); exact BK141.out⟩, ⟨by (with_reducible repeat (first | refine blk_drewN ?_ _ | refine blk_drew ?_ | refine blk_alloc ?_ _)); exact BK142.out⟩, ⟨by (with_reducible repeat (first | refine blk_drewN ?_ _ | refine blk_drew ?_ | refine blk_alloc ?_ _)); exact BK143.out⟩, ⟨by repeat (first | (with_reducible first | exact HB.out | apply below_alloc | apply pw_below_drewN | apply below_drew1 | refine below_set ?_ GE141.out | refine below_set ?_ GE142.out | refine below_set ?_ GE143.out | refine below_set ?_ GE145.out) | exact HB.out)⟩⟩
              · rw [if_neg c20] at H
                have c20b0 : decide (x6_2 < (((rd_T45 l0_0 x4_1).f5).length : Int)) = false := decide_eq_false c20
                clear c20
                have H' := Aside0.mk H
                clear H
                have hnb42 := NB145_141.out
                have hnc42 := NB141_145.out
                have hnb43 := NB145_142.out
                have hnc43 := NB142_145.out
                have hnb44 := NB145_143.out
                have hnc44 := NB143_145.out
                have hcz45_0 : wr.cell? ⟨gb145, 0, none⟩ = some (.int .i64 ((rd_T45 l0_0 x4_1).f0)) := (blk_cell BK145.out 0).trans rfl
                have hcz45_1 : wr.cell? ⟨gb145, 1, none⟩ = some (.int .i64 ((rd_T45 l0_0 x4_1).f1)) := (blk_cell BK145.out 1).trans rfl
                have hcz45_2 : wr.cell? ⟨gb145, 2, none⟩ = some (.int .i64 ((rd_T45 l0_0 x4_1).f2)) := (blk_cell BK145.out 2).trans rfl
                have hcz45_3 : wr.cell? ⟨gb145, 3, none⟩ = some (.int .i64 ((rd_T45 l0_0 x4_1).f3)) := (blk_cell BK145.out 3).trans rfl
                have hcz45_4 : wr.cell? ⟨gb145, 4, none⟩ = some (.int .i64 ((rd_T45 l0_0 x4_1).f4)) := (blk_cell BK145.out 4).trans rfl
                have hcz45_5 : wr.cell? ⟨gb145, 5, none⟩ = some (.slice A144_5 ((rd_T45 l0_0 x4_1).f5).length c144_5) := (blk_cell BK145.out 5).trans rfl
                have hcz45_6 : wr.cell? ⟨gb145, 6, none⟩ = some (.slice A144_6 ((rd_T45 l0_0 x4_1).f6).length c144_6) := (blk_cell BK145.out 6).trans rfl
                have hcz45_7 : wr.cell? ⟨gb145, 7, none⟩ = some (.int .i64 ((rd_T45 l0_0 x4_1).f7)) := (blk_cell BK145.out 7).trans rfl
                have hcz45_8 : wr.cell? ⟨gb145, 8, none⟩ = some (.int .i64 ((rd_T45 l0_0 x4_1).f8)) := (blk_cell BK145.out 8).trans rfl
                have hfz45_0 := blk_frozen BK145.out 0
                have hfz45_1 := blk_frozen BK145.out 1
                have hfz45_2 := blk_frozen BK145.out 2
                have hfz45_3 := blk_frozen BK145.out 3
                have hfz45_4 := blk_frozen BK145.out 4
                have hfz45_5 := blk_frozen BK145.out 5
                have hfz45_6 := blk_frozen BK145.out 6
                have hfz45_7 := blk_frozen BK145.out 7
                have hfz45_8 := blk_frozen BK145.out 8
                go_wp2
                go_roundg k2
                case measure => have := HK1.out; have := HK2.out; omega
                case rel => exact ⟨(wrap64 (x4_1 + 1)), ((wrap64 (x144000_1 + (((rd_T45 l0_0 x4_1).f6).length : Int)))), ((wrap64 (x144001_1 + (wrap64 (16 * (((rd_T45 l0_0 x4_1).f6).length : Int)))))), (x144002_2), (x144003_2), (by first | rfl | (simp; done) | (simp [*]; done)), H', ⟨by have := HK1.out; have := HK2.out; omega⟩, ⟨by (with_reducible repeat (first | refine blk_drewN ?_ _ | refine blk_drew ?_ | refine blk_alloc ?_ _)); exact BK141.out⟩, ⟨by (with_reducible repeat (first | refine blk_drewN ?_ _ | refine blk_drew ?_ | refine blk_alloc ?_ _)); exact BK142.out⟩, ⟨by (with_reducible repeat (first | refine blk_drewN ?_ _ | refine blk_drew ?_ | refine blk_alloc ?_ _)); exact BK143.out⟩, ⟨by repeat (first | (with_reducible first | exact HB.out | apply below_alloc | apply pw_below_drewN | apply below_drew1 | refine below_set ?_ GE141.out | refine below_set ?_ GE142.out | refine below_set ?_ GE143.out | refine below_set ?_ GE145.out) | exact HB.out)⟩⟩
        · rw [if_neg c9] at H
          exact absurd H (by simp)
      · rw [if_neg c8] at H
        have c8b0 : decide (x4_1 < (l0_0.length : Int)) = false := decide_eq_false c8
        clear c8
        simp only [Option.some.injEq, Prod.mk.injEq] at H
        obtain ⟨rfl, rfl, rfl, rfl⟩ := H
        have hnb46 := NB141_142.out
        have hnc46 := NB142_141.out
        have hnb47 := NB141_143.out
        have hnc47 := NB143_141.out
        have hcz48_0 : wr.cell? ⟨gb141, 0, none⟩ = some (.slice A0_0 l0_0.length c0_0) := (blk_cell BK141.out 0).trans rfl
        have hcz48_1 : wr.cell? ⟨gb141, 1, none⟩ = some (.slice A0_1 l0_1.length c0_1) := (blk_cell BK141.out 1).trans rfl
        have hcz48_2 : wr.cell? ⟨gb141, 2, none⟩ = some (.slice A0_2 l0_2.length c0_2) := (blk_cell BK141.out 2).trans rfl
        have hfz48_0 := blk_frozen BK141.out 0
        have hfz48_1 := blk_frozen BK141.out 1
        have hfz48_2 := blk_frozen BK141.out 2
        have hnb49 := NB143_142.out
        have hnc49 := NB142_143.out
        have hcz50_0 : wr.cell? ⟨gb143, 0, none⟩ = some (.int .i64 x144000_1) := (blk_cell BK143.out 0).trans rfl
        have hcz50_1 : wr.cell? ⟨gb143, 1, none⟩ = some (.int .i64 x144001_1) := (blk_cell BK143.out 1).trans rfl
        have hcz50_2 : wr.cell? ⟨gb143, 2, none⟩ = some (.int .i64 x144002_1) := (blk_cell BK143.out 2).trans rfl
        have hcz50_3 : wr.cell? ⟨gb143, 3, none⟩ = some (.int .i64 x144003_1) := (blk_cell BK143.out 3).trans rfl
        have hfz50_0 := blk_frozen BK143.out 0
        have hfz50_1 := blk_frozen BK143.out 1
        have hfz50_2 := blk_frozen BK143.out 2
        have hfz50_3 := blk_frozen BK143.out 3
        have hcz51_0 : wr.cell? ⟨gb142, 0, none⟩ = some (.int .i64 0) := (blk_cell BK142.out 0).trans rfl
        have hcz51_1 : wr.cell? ⟨gb142, 1, none⟩ = some (.int .i64 0) := (blk_cell BK142.out 1).trans rfl
        have hcz51_2 : wr.cell? ⟨gb142, 2, none⟩ = some (.int .i64 0) := (blk_cell BK142.out 2).trans rfl
        have hcz51_3 : wr.cell? ⟨gb142, 3, none⟩ = some (.int .i64 0) := (blk_cell BK142.out 3).trans rfl
        have hfz51_0 := blk_frozen BK142.out 0
        have hfz51_1 := blk_frozen BK142.out 1
        have hfz51_2 := blk_frozen BK142.out 2
        have hfz51_3 := blk_frozen BK142.out 3
        go_wp2
        refine bodyPost_ret (results_cell_row rfl _ _ gb142 29 #[.int .i64 x144000_1, .int .i64 x144001_1, .int .i64 x144002_1, .int .i64 x144003_1] (0, 0) _ rfl (by (with_reducible repeat (first | refine blk_drewN ?_ _ | refine blk_drew ?_ | refine blk_alloc ?_ _)); refine blk_put (cs := #[.int .i64 x144000_1, .int .i64 x144001_1, .int .i64 x144002_1, .int .i64 0]) ?_ 3 _ rfl; (with_reducible repeat (first | refine blk_drewN ?_ _ | refine blk_drew ?_ | refine blk_alloc ?_ _)); refine blk_put (cs := #[.int .i64 x144000_1, .int .i64 x144001_1, .int .i64 0, .int .i64 0]) ?_ 2 _ rfl; (with_reducible repeat (first | refine blk_drewN ?_ _ | refine blk_drew ?_ | refine blk_alloc ?_ _)); refine blk_put (cs := #[.int .i64 x144000_1, .int .i64 0, .int .i64 0, .int .i64 0]) ?_ 1 _ rfl; (with_reducible repeat (first | refine blk_drewN ?_ _ | refine blk_drew ?_ | refine blk_alloc ?_ _)); refine blk_put (cs := #[.int .i64 0, .int .i64 0, .int .i64 0, .int .i64 0]) ?_ 0 _ rfl; (with_reducible repeat (first | refine blk_drewN ?_ _ | refine blk_drew ?_ | refine blk_alloc ?_ _)); exact BK142.out) Try.underlying29 rfl (by kernel_rfl)) rfl ?_
        exact ⟨by first | rfl | (simp [errW_none, errW_some] <;> rfl) | (simp [*, errW_none, errW_some] <;> rfl), by repeat (first | (with_reducible first | exact HB.out | apply below_alloc | apply pw_below_drewN | apply below_drew1 | refine below_set ?_ GE141.out | refine below_set ?_ GE142.out | refine below_set ?_ GE143.out) | exact HB.out)⟩

end Go.Proofs.Ytlfonfceaiiinaa.PAll
