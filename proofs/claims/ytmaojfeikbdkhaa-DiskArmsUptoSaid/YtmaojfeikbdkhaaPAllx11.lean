/- Functions of the program as plain Lean functions, and that each call comes to what they say. Laid by a program of this session (hprint.py); Lean checks it. -/
import Derived.Test.YtmaojfeikbdkhaaPAllx0
import Derived.Test.YtmaojfeikbdkhaaPAllx2
import Derived.Test.YtmaojfeikbdkhaaPAllx3
import Derived.Test.YtmaojfeikbdkhaaPAllx10
namespace Go.Proofs.Ytmaojfeikbdkhaa.PAll
open Go.RowKit Go.Proofs.YtmaojfeikbdkhaaW.PrintWords Go.Proofs.YtmaojfeikbdkhaaW.PrintLast Go.Proofs.YtmaojfeikbdkhaaW.PrintMore
attribute [local go_sem] max2_int min2_int max_two min_two max_three min_three max_four min_four   -- for this text's walks alone
set_option linter.unusedVariables false
set_option linter.unusedSimpArgs false

/-! ### hogsheadlaw08_DiskArms: function 7 -/
mutual
def hogsheadlaw08_DiskArms.j0 : Nat → Int → List ByteArray → Bool → Bool → List ByteArray → List (S47) → Int → Bool → Option (Bool)
  | 0, _, _, _, _, _, _, _, _ => none
  | k + 1, x1, x2, x7, x23, x400000, x400001, x400002, x400003 => if x23 = true then (some x7) else ((disk_Arm.f x400000 x400001 x400002 x400003 x1).bind fun bt401 => (hogsheadlaw08_DiskArms.l0 k x1 x2 x7 0 bt401.1 bt401.2.1 bt401.2.2.1 bt401.2.2.2))
def hogsheadlaw08_DiskArms.l0 : Nat → Int → List ByteArray → Bool → Int → List ByteArray → List (S47) → Int → Bool → Option (Bool)
  | 0, _, _, _, _, _, _, _, _ => none
  | k + 1, x1, x2, x7, x8, x400000, x400001, x400002, x400003 => if x8 < (x2.length : Int) then (if 0 ≤ x8 then (if ((rdOf ByteArray.empty x2 x8).size : Int) > 1024 then (some x7) else (if (x400000.length : Int) = 0 then (some false) else ((disk_Put.f x400000 x400001 x400002 x400003 (Int.tmod x8 (x400000.length : Int)) (rdOf ByteArray.empty x2 x8)).bind fun bt411 => (if ((bt411.2.2.2.2 == 0) != (decide (x8 < x1))) = true then (hogsheadlaw08_DiskArms.j2 k x1 x2 x7 x8 true bt411.1 bt411.2.1 bt411.2.2.1 bt411.2.2.2.1) else (if x8 ≥ x1 then (if bt411.2.2.2.2 = 6 then (hogsheadlaw08_DiskArms.j2 k x1 x2 x7 x8 (!bt411.2.2.2.1) bt411.1 bt411.2.1 bt411.2.2.1 bt411.2.2.2.1) else (hogsheadlaw08_DiskArms.j2 k x1 x2 x7 x8 true bt411.1 bt411.2.1 bt411.2.2.1 bt411.2.2.2.1)) else (hogsheadlaw08_DiskArms.j2 k x1 x2 x7 x8 false bt411.1 bt411.2.1 bt411.2.2.1 bt411.2.2.2.1)))))) else (none)) else (some x7)
def hogsheadlaw08_DiskArms.j2 : Nat → Int → List ByteArray → Bool → Int → Bool → List ByteArray → List (S47) → Int → Bool → Option (Bool)
  | 0, _, _, _, _, _, _, _, _, _ => none
  | k + 1, x1, x2, x7, x8, x79, x400000, x400001, x400002, x400003 => if x79 = true then (some false) else (hogsheadlaw08_DiskArms.l0 k x1 x2 x7 (wrap64 (x8 + 1)) x400000 x400001 x400002 x400003)
end
def hogsheadlaw08_DiskArms.f (k : Nat) (l0_0 : List ByteArray) (l0_1 : List (S47)) (a0_2 : Int) (a0_3 : Bool) (a1 : Int) (l2 : List ByteArray) : Option (Bool) := (hogsheadlaw08_shown.f k).bind fun t400 => (if a0_3 = true then (hogsheadlaw08_DiskArms.j0 k a1 l2 t400 true l0_0 l0_1 a0_2 a0_3) else (if (l0_0.length : Int) = 0 then (hogsheadlaw08_DiskArms.j0 k a1 l2 t400 true l0_0 l0_1 a0_2 a0_3) else (hogsheadlaw08_DiskArms.j0 k a1 l2 t400 (decide (a1 < 0)) l0_0 l0_1 a0_2 a0_3)))
theorem hogsheadlaw08_DiskArms.mono_l : ∀ k, (∀ y0 y1 y2 y3 y4 y5 y6 y7, LeO (hogsheadlaw08_DiskArms.j0 k y0 y1 y2 y3 y4 y5 y6 y7) (hogsheadlaw08_DiskArms.j0 (k + 1) y0 y1 y2 y3 y4 y5 y6 y7)) ∧ (∀ y0 y1 y2 y3 y4 y5 y6 y7, LeO (hogsheadlaw08_DiskArms.l0 k y0 y1 y2 y3 y4 y5 y6 y7) (hogsheadlaw08_DiskArms.l0 (k + 1) y0 y1 y2 y3 y4 y5 y6 y7)) ∧ (∀ y0 y1 y2 y3 y4 y5 y6 y7 y8, LeO (hogsheadlaw08_DiskArms.j2 k y0 y1 y2 y3 y4 y5 y6 y7 y8) (hogsheadlaw08_DiskArms.j2 (k + 1) y0 y1 y2 y3 y4 y5 y6 y7 y8))
  | 0 => ⟨fun _ _ _ _ _ _ _ _ r h => by simp [hogsheadlaw08_DiskArms.j0] at h, fun _ _ _ _ _ _ _ _ r h => by simp [hogsheadlaw08_DiskArms.l0] at h, fun _ _ _ _ _ _ _ _ _ r h => by simp [hogsheadlaw08_DiskArms.j2] at h⟩
  | k + 1 => by
    obtain ⟨ih0, ih1, ih2⟩ := hogsheadlaw08_DiskArms.mono_l k
    refine ⟨?_, ?_, ?_⟩
    · intro y0 y1 y2 y3 y4 y5 y6 y7
      unfold hogsheadlaw08_DiskArms.j0
      repeat' first
      | (with_reducible exact ih0 _ _ _ _ _ _ _ _)
      | (with_reducible exact ih1 _ _ _ _ _ _ _ _)
      | (with_reducible exact ih2 _ _ _ _ _ _ _ _ _)
      | (with_reducible exact hogsheadlaw08_shown.mono _)
      | (with_reducible exact LeO.refl _)
      | (with_reducible exact LeO.none _)
      | (with_reducible refine LeO.ite ?_ ?_)
      | (with_reducible refine LeO.bind ?_ (fun _ => ?_))
      | exact ih0 _ _ _ _ _ _ _ _
      | exact ih1 _ _ _ _ _ _ _ _
      | exact ih2 _ _ _ _ _ _ _ _ _
      | exact hogsheadlaw08_shown.mono _
      | exact LeO.none _
      | refine LeO.ite ?_ ?_
      | refine LeO.bind ?_ (fun _ => ?_)
    · intro y0 y1 y2 y3 y4 y5 y6 y7
      unfold hogsheadlaw08_DiskArms.l0
      repeat' first
      | (with_reducible exact ih0 _ _ _ _ _ _ _ _)
      | (with_reducible exact ih1 _ _ _ _ _ _ _ _)
      | (with_reducible exact ih2 _ _ _ _ _ _ _ _ _)
      | (with_reducible exact hogsheadlaw08_shown.mono _)
      | (with_reducible exact LeO.refl _)
      | (with_reducible exact LeO.none _)
      | (with_reducible refine LeO.ite ?_ ?_)
      | (with_reducible refine LeO.bind ?_ (fun _ => ?_))
      | exact ih0 _ _ _ _ _ _ _ _
      | exact ih1 _ _ _ _ _ _ _ _
      | exact ih2 _ _ _ _ _ _ _ _ _
      | exact hogsheadlaw08_shown.mono _
      | exact LeO.none _
      | refine LeO.ite ?_ ?_
      | refine LeO.bind ?_ (fun _ => ?_)
    · intro y0 y1 y2 y3 y4 y5 y6 y7 y8
      unfold hogsheadlaw08_DiskArms.j2
      repeat' first
      | (with_reducible exact ih0 _ _ _ _ _ _ _ _)
      | (with_reducible exact ih1 _ _ _ _ _ _ _ _)
      | (with_reducible exact ih2 _ _ _ _ _ _ _ _ _)
      | (with_reducible exact hogsheadlaw08_shown.mono _)
      | (with_reducible exact LeO.refl _)
      | (with_reducible exact LeO.none _)
      | (with_reducible refine LeO.ite ?_ ?_)
      | (with_reducible refine LeO.bind ?_ (fun _ => ?_))
      | exact ih0 _ _ _ _ _ _ _ _
      | exact ih1 _ _ _ _ _ _ _ _
      | exact ih2 _ _ _ _ _ _ _ _ _
      | exact hogsheadlaw08_shown.mono _
      | exact LeO.none _
      | refine LeO.ite ?_ ?_
      | refine LeO.bind ?_ (fun _ => ?_)
theorem hogsheadlaw08_DiskArms.mono : ∀ a0 a1 a2 a3 a4 a5 k, LeO (hogsheadlaw08_DiskArms.f k a0 a1 a2 a3 a4 a5) (hogsheadlaw08_DiskArms.f (k + 1) a0 a1 a2 a3 a4 a5) := by
  intro a0 a1 a2 a3 a4 a5 k
  obtain ⟨ih0, ih1, ih2⟩ := hogsheadlaw08_DiskArms.mono_l k
  unfold hogsheadlaw08_DiskArms.f
  repeat' first
      | (with_reducible exact ih0 _ _ _ _ _ _ _ _)
      | (with_reducible exact ih1 _ _ _ _ _ _ _ _)
      | (with_reducible exact ih2 _ _ _ _ _ _ _ _ _)
      | (with_reducible exact hogsheadlaw08_shown.mono _)
      | (with_reducible exact LeO.refl _)
      | (with_reducible exact LeO.none _)
      | (with_reducible refine LeO.ite ?_ ?_)
      | (with_reducible refine LeO.bind ?_ (fun _ => ?_))
      | exact ih0 _ _ _ _ _ _ _ _
      | exact ih1 _ _ _ _ _ _ _ _
      | exact ih2 _ _ _ _ _ _ _ _ _
      | exact hogsheadlaw08_shown.mono _
      | exact LeO.none _
      | refine LeO.ite ?_ ?_
      | refine LeO.bind ?_ (fun _ => ?_)
def hogsheadlaw08_DiskArms.T12 : Bool × List (List Nat × List Nat) := (true, [([], []), ([], []), ([], []), ([2], [2]), ([3], [3]), ([1, 4], [1, 4]), ([], []), ([], []), ([6, 7], [6, 7]), ([8], [8]), ([0, 5, 9], [0, 5, 9]), ([10], [10]), ([11], [11]), ([11], [11]), ([], []), ([14, 12, 10, 0, 1, 2, 3, 4, 5, 6, 7, 8, 9, 10, 11, 12, 14], [12, 14]), ([13, 15, 0, 1, 2, 3, 4, 5, 6, 7, 8, 9, 10, 11, 12, 13, 14, 15], [13])])
def hogsheadlaw08_DiskArms.B12 : List Nat := [0, 0, 0, 4, 12, 30, 0, 0, 192, 448, 1023, 2047, 4095, 4095, 0, 24575, 65535]
theorem hogsheadlaw08_DiskArms.tab12 : rtab .any (opsOf Try.f7 12) = hogsheadlaw08_DiskArms.T12 := by kernel_rfl
theorem hogsheadlaw08_DiskArms.bits12 : waitsOk hogsheadlaw08_DiskArms.T12.2 hogsheadlaw08_DiskArms.B12 = true := by kernel_rfl
set_option maxHeartbeats 8000000 in
set_option maxRecDepth 100000 in
theorem hogsheadlaw08_DiskArms.calls (k : Nat) (A0_0 : Option Addr) (c0_0 : Nat) (l0_0 : List ByteArray) (A0_1 : Option Addr) (c0_1 : Nat) (l0_1 : List (S47)) (a0_2 : Int) (a0_3 : Bool) (a1 : Int) (A2 : Option Addr) (c2 : Nat) (l2 : List ByteArray) (r : Bool) (w : World) (hr0_0 : Kd.C Kd.string w A0_0 l0_0.length l0_0) (hc0_0 : l0_0.length ≤ c0_0) (hr0_1 : Kd.C k47 w A0_1 l0_1.length l0_1) (hc0_1 : l0_1.length ≤ c0_1) (hr2 : Kd.C Kd.string w A2 l2.length l2) (hc2 : l2.length ≤ c2) (h : hogsheadlaw08_DiskArms.f k l0_0 l0_1 a0_2 a0_3 a1 l2 = some r) :
    Calls Try.prog 7 #[.agg #[.slice A0_0 l0_0.length c0_0, .slice A0_1 l0_1.length c0_1, .int .i64 a0_2, .bool a0_3], .int .i64 a1, .slice A2 l2.length c2] w fun e w' => e = .returned (.bool r) ∧ Below w.heap.size w w' := by
  have hu25 := Try.underlying25
  have HR0_0 := Aside0.mk hr0_0
  have HC0_0 := Aside0.mk hc0_0
  clear hr0_0 hc0_0
  have HR0_1 := Aside0.mk hr0_1
  have HC0_1 := Aside0.mk hc0_1
  clear hr0_1 hc0_1
  have HR2 := Aside0.mk hr2
  have HC2 := Aside0.mk hc2
  clear hr2 hc2
  have HB := Aside0.mk (Below.refl w.heap.size w)
  have H : ((hogsheadlaw08_shown.f k).bind fun t400 => (if a0_3 = true then (hogsheadlaw08_DiskArms.j0 k a1 l2 t400 true l0_0 l0_1 a0_2 a0_3) else (if (l0_0.length : Int) = 0 then (hogsheadlaw08_DiskArms.j0 k a1 l2 t400 true l0_0 l0_1 a0_2 a0_3) else (hogsheadlaw08_DiskArms.j0 k a1 l2 t400 (decide (a1 < 0)) l0_0 l0_1 a0_2 a0_3)))) = some r := h
  clear h
  replace H := Option.bind_eq_some_iff.mp H
  obtain ⟨t400, A40, H⟩ := H
  replace H : (if a0_3 = true then (hogsheadlaw08_DiskArms.j0 k a1 l2 t400 true l0_0 l0_1 a0_2 a0_3) else (if (l0_0.length : Int) = 0 then (hogsheadlaw08_DiskArms.j0 k a1 l2 t400 true l0_0 l0_1 a0_2 a0_3) else (hogsheadlaw08_DiskArms.j0 k a1 l2 t400 (decide (a1 < 0)) l0_0 l0_1 a0_2 a0_3))) = some r := H
  have A4 := Aside0.mk A40
  clear A40
  have HC5 := Aside0.mk H
  clear H
  go_enter Try.func7, Try.ntmps7
  go_upto_region 2 with (first | ((with_reducible refine gate_dst (N := 3) rfl ?_); (try (refine gate_guard (by rfl) ?_; dsimp only)); refine box_event ?hg (N := 3) ?hd (cs := #[.slice A0_0 l0_0.length c0_0, .slice A0_1 l0_1.length c0_1, .int .i64 a0_2, .bool a0_3]) (t := 25) ?hr ?_; (case hd => rfl); (case hg => rfl); (case hr => first | (go_simp; done) | (go_simp; rfl)); intro gb399 hg w6 hbox hb; have n0_ := Aside0.mk (below_step (by repeat (first | (with_reducible first | exact HB.out | apply below_alloc | apply pw_below_drewN | apply below_drew1) | exact HB.out)) hb); have n1_ := Aside0.mk (hbox); have n2_ := Aside0.mk ((by rw [hg]; exact (below_size (by repeat (first | (with_reducible first | exact HB.out | apply below_alloc | apply pw_below_drewN | apply below_drew1) | exact HB.out))) : w.heap.size ≤ gb399)); have n3_ := Aside0.mk ((by rw [hg]; exact (below_size (by repeat (first | (with_reducible first | exact HB.out | apply below_alloc | apply pw_below_drewN | apply below_drew1) | exact HB.out))) : w.heap.size ≤ gb399)); clear HB; have HB := n0_; have BK399 := n1_; have GW399 := n2_; have GE399 := n3_; clear n0_ n1_ n2_ n3_; clear hb hbox hg) | ((with_reducible refine gate_callee (f := 10) rfl ?_); refine goesL_ (some 11) rfl rfl Try.func10 (by kernel_rfl) rfl #[] rfl (by (try simp only [List.map_toArray, List.map_cons, List.map_nil]); first | done | rfl | (simp only [List.length_drop, List.length_take]; rfl)) ?_; (with_reducible refine (hogsheadlaw08_shown.calls k  t400 _ A4.out).mono ?_); rintro e w7 ⟨rfl, hb⟩; refine ⟨_, rfl, ?_⟩; have n0_ := Aside0.mk (blk_below (g := gb399) (o := .cells #[.slice A0_0 l0_0.length c0_0, .slice A0_1 l0_1.length c0_1, .int .i64 a0_2, .bool a0_3] 25 (0, 0)) (by (with_reducible repeat (first | refine blk_drewN ?_ _ | refine blk_drew ?_ | refine blk_alloc ?_ _)); exact BK399.out) hb); have n1_ := Aside0.mk (below_step (by repeat (first | (with_reducible first | exact HB.out | apply below_alloc | apply pw_below_drewN | apply below_drew1 | refine below_set ?_ GE399.out) | exact HB.out)) hb); clear BK399; clear HB; have BK399 := n0_; have HB := n1_; clear n0_ n1_; (try clear hb); (try clear hb2); (try clear hk); (try clear hi)))
  (try simp only [Act.put, List.setIfInBounds_toArray, List.set_cons_zero, List.set_cons_succ])
  go_cut [23] (fun v23 wc => ∃ (kq : Nat) (x23_4 : Bool), v23 = .bool x23_4 ∧ Aside0 (hogsheadlaw08_DiskArms.j0 kq a1 l2 t400 x23_4 l0_0 l0_1 a0_2 a0_3 = some r) ∧ Aside0 (kq ≤ k) ∧ Aside0 (wc.heap[gb399]? = some (.cells #[(.slice A0_0 l0_0.length c0_0), (.slice A0_1 l0_1.length c0_1), .int .i64 a0_2, .bool a0_3] 25 (0, 0))) ∧ Aside0 (Below w.heap.size w wc))
  case first =>
    have H := HC5.out
    clear HC5
    by_cases c8 : a0_3 = true
    · subst c8
      have H1 : (hogsheadlaw08_DiskArms.j0 k a1 l2 t400 true l0_0 l0_1 a0_2 true) = some r := by rw [if_pos rfl] at H; exact H
      clear H
      have H := H1
      clear H1
      have H' := Aside0.mk H
      clear H
      have hcz9_0 : w7.cell? ⟨gb399, 0, none⟩ = some (.slice A0_0 l0_0.length c0_0) := (blk_cell BK399.out 0).trans rfl
      have hcz9_1 : w7.cell? ⟨gb399, 1, none⟩ = some (.slice A0_1 l0_1.length c0_1) := (blk_cell BK399.out 1).trans rfl
      have hcz9_2 : w7.cell? ⟨gb399, 2, none⟩ = some (.int .i64 a0_2) := (blk_cell BK399.out 2).trans rfl
      have hcz9_3 : w7.cell? ⟨gb399, 3, none⟩ = some (.bool true) := (blk_cell BK399.out 3).trans rfl
      have hfz9_0 := blk_frozen BK399.out 0
      have hfz9_1 := blk_frozen BK399.out 1
      have hfz9_2 := blk_frozen BK399.out 2
      have hfz9_3 := blk_frozen BK399.out 3
      go_wp2
      go_meet
      case rel => exact ⟨_, (true), (by first | rfl | (simp; done) | (simp [*]; done)), H', ⟨by first | omega | exact Nat.le_refl _⟩, ⟨by (with_reducible repeat (first | refine blk_drewN ?_ _ | refine blk_drew ?_ | refine blk_alloc ?_ _)); exact BK399.out⟩, ⟨by repeat (first | (with_reducible first | exact HB.out | apply below_alloc | apply pw_below_drewN | apply below_drew1 | refine below_set ?_ GE399.out) | exact HB.out)⟩⟩
    · replace c8 := Bool.eq_false_iff.mpr c8
      subst c8
      have H1 : (if (l0_0.length : Int) = 0 then (hogsheadlaw08_DiskArms.j0 k a1 l2 t400 true l0_0 l0_1 a0_2 false) else (hogsheadlaw08_DiskArms.j0 k a1 l2 t400 (decide (a1 < 0)) l0_0 l0_1 a0_2 false)) = some r := by rw [if_neg (show ¬ (false = true) by decide)] at H; exact H
      clear H
      have H := H1
      clear H1
      by_cases c10 : (l0_0.length : Int) = 0
      · rw [if_pos c10] at H
        have c10b0 : ((l0_0.length : Int) == 0) = true := beq_iff_eq.mpr c10
        have c10b1 : ((l0_0.length : Int) != 0) = false := bne_eq_false_iff_eq.mpr c10
        clear c10
        (first | rw [c10b0] | (simp only [i64_w, i32_w]; rw [c10b0]) | skip)
        have H' := Aside0.mk H
        clear H
        have hcz11_0 : w7.cell? ⟨gb399, 0, none⟩ = some (.slice A0_0 l0_0.length c0_0) := (blk_cell BK399.out 0).trans rfl
        have hcz11_1 : w7.cell? ⟨gb399, 1, none⟩ = some (.slice A0_1 l0_1.length c0_1) := (blk_cell BK399.out 1).trans rfl
        have hcz11_2 : w7.cell? ⟨gb399, 2, none⟩ = some (.int .i64 a0_2) := (blk_cell BK399.out 2).trans rfl
        have hcz11_3 : w7.cell? ⟨gb399, 3, none⟩ = some (.bool false) := (blk_cell BK399.out 3).trans rfl
        have hfz11_0 := blk_frozen BK399.out 0
        have hfz11_1 := blk_frozen BK399.out 1
        have hfz11_2 := blk_frozen BK399.out 2
        have hfz11_3 := blk_frozen BK399.out 3
        go_wp2
        go_meet
        case rel => exact ⟨_, (true), (by first | rfl | (simp; done) | (simp [*]; done)), H', ⟨by first | omega | exact Nat.le_refl _⟩, ⟨by (with_reducible repeat (first | refine blk_drewN ?_ _ | refine blk_drew ?_ | refine blk_alloc ?_ _)); exact BK399.out⟩, ⟨by repeat (first | (with_reducible first | exact HB.out | apply below_alloc | apply pw_below_drewN | apply below_drew1 | refine below_set ?_ GE399.out) | exact HB.out)⟩⟩
      · rw [if_neg c10] at H
        have c10b0 : ((l0_0.length : Int) == 0) = false := beq_eq_false_iff_ne.mpr c10
        have c10b1 : ((l0_0.length : Int) != 0) = true := bne_iff_ne.mpr c10
        have c10b2 : ¬ (l0_0 = []) := fun h_ => c10 (by rw [h_]; rfl)
        (first | rw [c10b0] | (simp only [i64_w, i32_w]; rw [c10b0]) | skip)
        have H' := Aside0.mk H
        clear H
        have hcz12_0 : w7.cell? ⟨gb399, 0, none⟩ = some (.slice A0_0 l0_0.length c0_0) := (blk_cell BK399.out 0).trans rfl
        have hcz12_1 : w7.cell? ⟨gb399, 1, none⟩ = some (.slice A0_1 l0_1.length c0_1) := (blk_cell BK399.out 1).trans rfl
        have hcz12_2 : w7.cell? ⟨gb399, 2, none⟩ = some (.int .i64 a0_2) := (blk_cell BK399.out 2).trans rfl
        have hcz12_3 : w7.cell? ⟨gb399, 3, none⟩ = some (.bool false) := (blk_cell BK399.out 3).trans rfl
        have hfz12_0 := blk_frozen BK399.out 0
        have hfz12_1 := blk_frozen BK399.out 1
        have hfz12_2 := blk_frozen BK399.out 2
        have hfz12_3 := blk_frozen BK399.out 3
        go_wp2
        go_meet
        case rel => exact ⟨_, (decide (a1 < 0)), (by first | rfl | (simp; done) | (simp [*]; done)), H', ⟨by first | omega | exact Nat.le_refl _⟩, ⟨by (with_reducible repeat (first | refine blk_drewN ?_ _ | refine blk_drew ?_ | refine blk_alloc ?_ _)); exact BK399.out⟩, ⟨by repeat (first | (with_reducible first | exact HB.out | apply below_alloc | apply pw_below_drewN | apply below_drew1 | refine below_set ?_ GE399.out) | exact HB.out)⟩⟩
  case rest =>
    clear HC5
    try clear c1
    try clear c2
    try clear p2
    try clear c7
    try clear c8
    try clear c10
    try clear c10b0
    try clear c10b1
    try clear c10b2
    try clear hcz11_0
    try clear hcz11_1
    try clear hcz11_2
    try clear hcz11_3
    try clear hcz12_0
    try clear hcz12_1
    try clear hcz12_2
    try clear hcz12_3
    try clear hcz9_0
    try clear hcz9_1
    try clear hcz9_2
    try clear hcz9_3
    try clear hfz11_0
    try clear hfz11_1
    try clear hfz11_2
    try clear hfz11_3
    try clear hfz12_0
    try clear hfz12_1
    try clear hfz12_2
    try clear hfz12_3
    try clear hfz9_0
    try clear hfz9_1
    try clear hfz9_2
    try clear hfz9_3
    obtain ⟨kq, x23_4, rfl, HA, HJ4, BK399, HB⟩ := hcut
    cases kq with
    | zero => exact absurd HA.out (by simp [hogsheadlaw08_DiskArms.j0])
    | succ kj4 =>
      have H := HA.out
      clear HA
      simp only [hogsheadlaw08_DiskArms.j0] at H
      by_cases c13 : x23_4 = true
      · subst c13
        have H1 : (some t400) = some r := by rw [if_pos rfl] at H; exact H
        clear H
        have H := H1
        clear H1
        obtain rfl := Option.some.inj H
        go_wp2
        go_ret
        exact ⟨by first | rfl | (simp [errW_none, errW_some] <;> rfl) | (simp [*, errW_none, errW_some] <;> rfl), by repeat (first | (with_reducible first | exact HB.out | apply below_alloc | apply pw_below_drewN | apply below_drew1 | refine below_set ?_ GE399.out) | exact HB.out)⟩
      · replace c13 := Bool.eq_false_iff.mpr c13
        subst c13
        have H1 : ((disk_Arm.f l0_0 l0_1 a0_2 a0_3 a1).bind fun bt401 => (hogsheadlaw08_DiskArms.l0 kj4 a1 l2 t400 0 bt401.1 bt401.2.1 bt401.2.2.1 bt401.2.2.2)) = some r := by rw [if_neg (show ¬ (false = true) by decide)] at H; exact H
        clear H
        have H := H1
        clear H1
        replace H := Option.bind_eq_some_iff.mp H
        obtain ⟨⟨t401, t404, t407, t408⟩, A140, H⟩ := H
        replace H : (hogsheadlaw08_DiskArms.l0 kj4 a1 l2 t400 0 t401 t404 t407 t408) = some r := H
        have A14 := Aside0.mk A140
        clear A140
        have H' := Aside0.mk H
        clear H
        have hcz15_0 : wc.cell? ⟨gb399, 0, none⟩ = some (.slice A0_0 l0_0.length c0_0) := (blk_cell BK399.out 0).trans rfl
        have hcz15_1 : wc.cell? ⟨gb399, 1, none⟩ = some (.slice A0_1 l0_1.length c0_1) := (blk_cell BK399.out 1).trans rfl
        have hcz15_2 : wc.cell? ⟨gb399, 2, none⟩ = some (.int .i64 a0_2) := (blk_cell BK399.out 2).trans rfl
        have hcz15_3 : wc.cell? ⟨gb399, 3, none⟩ = some (.bool a0_3) := (blk_cell BK399.out 3).trans rfl
        have hfz15_0 := blk_frozen BK399.out 0
        have hfz15_1 := blk_frozen BK399.out 1
        have hfz15_2 := blk_frozen BK399.out 2
        have hfz15_3 := blk_frozen BK399.out 3
        go_wp2_with (first | ((with_reducible refine gate_callee (f := 21) rfl ?_); refine goesL_ (some 27) rfl rfl Try.func21 (by kernel_rfl) rfl #[.agg #[.slice A0_0 l0_0.length c0_0, .slice A0_1 l0_1.length c0_1, .int .i64 a0_2, .bool a0_3], .int .i64 a1] rfl (by (try simp only [List.map_toArray, List.map_cons, List.map_nil]); first | done | rfl | (simp only [List.length_drop, List.length_take]; rfl)) ?_; (with_reducible refine (disk_Arm.calls (fun k_ => k_ < w.heap.size) _ _ l0_0 (fun k_ => k_ < w.heap.size) _ _ l0_1 a0_2 a0_3 a1 t401 t404 t407 t408 _ ?side1 ?side2 A14.out).mono ?_); (case side1 => exact Kd.V_mk HC0_0.out (Kd.F_below (Kd.C_F Kd.heap_string HR0_0.out) (by repeat (first | (with_reducible first | exact HB.out | apply below_alloc | apply pw_below_drewN | apply below_drew1 | refine below_set ?_ GE399.out) | exact HB.out)))); (case side2 => exact Kd.V_mk HC0_1.out (Kd.F_below (Kd.C_F k47_heap HR0_1.out) (by repeat (first | (with_reducible first | exact HB.out | apply below_alloc | apply pw_below_drewN | apply below_drew1 | refine below_set ?_ GE399.out) | exact HB.out)))); rintro e w16 ⟨v402, v405, rfl, ho0, ho1, hb⟩; refine ⟨_, rfl, ?_⟩; have n0_ := Aside0.mk (Kd.V_lower (Kd.V_mono (ok' := fun k_ => k_ ≠ gb399) ho0 (fun k_ hk_ => Or.elim hk_ (fun hs_ => Or.elim hs_ (fun hs_ => fun e_ => Nat.not_le.2 hs_ (by rw [e_]; exact GW399.out)) (fun hs_ => fun e_ => Nat.not_le.2 hs_ (by rw [e_]; exact GW399.out))) (fun hn_ => (Kd.freshB (g := gb399) (o := .cells #[.slice A0_0 l0_0.length c0_0, .slice A0_1 l0_1.length c0_1, .int .i64 a0_2, .bool a0_3] 25 (0, 0)) (by (with_reducible repeat (first | refine blk_drewN ?_ _ | refine blk_drew ?_ | refine blk_alloc ?_ _)); exact BK399.out) k_ hn_)))) (below_size (by repeat (first | (with_reducible first | exact HB.out | apply below_alloc | apply pw_below_drewN | apply below_drew1 | refine below_set ?_ GE399.out) | exact HB.out)))); have n1_ := Aside0.mk (Kd.V_lower (Kd.V_mono (ok' := fun k_ => k_ ≠ gb399) ho1 (fun k_ hk_ => Or.elim hk_ (fun hs_ => Or.elim hs_ (fun hs_ => fun e_ => Nat.not_le.2 hs_ (by rw [e_]; exact GW399.out)) (fun hs_ => fun e_ => Nat.not_le.2 hs_ (by rw [e_]; exact GW399.out))) (fun hn_ => (Kd.freshB (g := gb399) (o := .cells #[.slice A0_0 l0_0.length c0_0, .slice A0_1 l0_1.length c0_1, .int .i64 a0_2, .bool a0_3] 25 (0, 0)) (by (with_reducible repeat (first | refine blk_drewN ?_ _ | refine blk_drew ?_ | refine blk_alloc ?_ _)); exact BK399.out) k_ hn_)))) (below_size (by repeat (first | (with_reducible first | exact HB.out | apply below_alloc | apply pw_below_drewN | apply below_drew1 | refine below_set ?_ GE399.out) | exact HB.out)))); have n2_ := Aside0.mk (blk_below (g := gb399) (o := .cells #[.slice A0_0 l0_0.length c0_0, .slice A0_1 l0_1.length c0_1, .int .i64 a0_2, .bool a0_3] 25 (0, 0)) (by (with_reducible repeat (first | refine blk_drewN ?_ _ | refine blk_drew ?_ | refine blk_alloc ?_ _)); exact BK399.out) hb); have n3_ := Aside0.mk (below_step (by repeat (first | (with_reducible first | exact HB.out | apply below_alloc | apply pw_below_drewN | apply below_drew1 | refine below_set ?_ GE399.out) | exact HB.out)) hb); clear BK399; clear HB; have HO403 := n0_; have HO406 := n1_; have BK399 := n2_; have HB := n3_; clear n0_ n1_ n2_ n3_; (try clear hb); (try clear hb2); (try clear hk); (try clear hi); (try clear ho0); (try clear ho1); obtain ⟨Ao17, co17, eo17⟩ := Kd.V_slice HO403.out; subst eo17; have hcz18_0 : w16.cell? ⟨gb399, 0, none⟩ = some (.slice A0_0 l0_0.length c0_0) := (blk_cell BK399.out 0).trans rfl; have hcz18_1 : w16.cell? ⟨gb399, 1, none⟩ = some (.slice A0_1 l0_1.length c0_1) := (blk_cell BK399.out 1).trans rfl; have hcz18_2 : w16.cell? ⟨gb399, 2, none⟩ = some (.int .i64 a0_2) := (blk_cell BK399.out 2).trans rfl; have hcz18_3 : w16.cell? ⟨gb399, 3, none⟩ = some (.bool a0_3) := (blk_cell BK399.out 3).trans rfl; have hfz18_0 := blk_frozen BK399.out 0; have hfz18_1 := blk_frozen BK399.out 1; have hfz18_2 := blk_frozen BK399.out 2; have hfz18_3 := blk_frozen BK399.out 3; obtain ⟨Ao19, co19, eo19⟩ := Kd.V_slice HO406.out; subst eo19))
        go_loopg [8] kj4 (fun kq v8 w' => ∃ (x8_2 : Int) (x400000_2 : List ByteArray) (x400001_2 : List (S47)) (x400002_2 : Int) (x400003_2 : Bool) (u400000 : Value) (u400001 : Value), v8 = .int .i64 x8_2 ∧ Aside0 (hogsheadlaw08_DiskArms.l0 kq a1 l2 t400 x8_2 x400000_2 x400001_2 x400002_2 x400003_2 = some r) ∧ Aside0 (kq ≤ kj4) ∧ Aside0 (Kd.V Kd.string 9 w' w.heap.size (fun k_ => k_ ≠ gb399) u400000 x400000_2) ∧ Aside0 (Kd.V k47 47 w' w.heap.size (fun k_ => k_ ≠ gb399) u400001 x400001_2) ∧ Aside0 (w'.heap[gb399]? = some (.cells #[u400000, u400001, .int .i64 x400002_2, .bool x400003_2] 25 (0, 0))) ∧ Aside0 (Below w.heap.size w w'))
        case atStart => exact ⟨(0), (t401), (t404), (t407), (t408), (.slice Ao17 t401.length co17), (.slice Ao19 t404.length co19), (by first | rfl | (simp; done) | (simp [*]; done)), H', ⟨Nat.le_refl _⟩, ⟨by (with_reducible repeat (first | apply Kd.V_alloc | apply Kd.V_drewN | apply Kd.V_drew)); exact Kd.V_mono (Kd.V_far (p := ⟨gb399, 3, none⟩) (Kd.V_far (p := ⟨gb399, 2, none⟩) (Kd.V_far (p := ⟨gb399, 1, none⟩) (Kd.V_far (p := ⟨gb399, 0, none⟩) (Kd.V_mono HO403.out (fun k_ hk => (⟨hk, hk⟩ : _ ∧ k_ ≠ gb399))) (fun _ hk => hk.2) (.slice Ao17 t401.length co17)) (fun _ hk => hk.2) (.slice Ao19 t404.length co19)) (fun _ hk => hk.2) (.int .i64 t407)) (fun _ hk => hk.2) (.bool t408)) (fun _ hk => hk.1)⟩, ⟨by (with_reducible repeat (first | apply Kd.V_alloc | apply Kd.V_drewN | apply Kd.V_drew)); exact Kd.V_mono (Kd.V_far (p := ⟨gb399, 3, none⟩) (Kd.V_far (p := ⟨gb399, 2, none⟩) (Kd.V_far (p := ⟨gb399, 1, none⟩) (Kd.V_far (p := ⟨gb399, 0, none⟩) (Kd.V_mono HO406.out (fun k_ hk => (⟨hk, hk⟩ : _ ∧ k_ ≠ gb399))) (fun _ hk => hk.2) (.slice Ao17 t401.length co17)) (fun _ hk => hk.2) (.slice Ao19 t404.length co19)) (fun _ hk => hk.2) (.int .i64 t407)) (fun _ hk => hk.2) (.bool t408)) (fun _ hk => hk.1)⟩, ⟨by (with_reducible repeat (first | refine blk_drewN ?_ _ | refine blk_drew ?_ | refine blk_alloc ?_ _)); refine blk_put (cs := #[.slice Ao17 t401.length co17, .slice Ao19 t404.length co19, .int .i64 t407, .bool a0_3]) ?_ 3 _ rfl; (with_reducible repeat (first | refine blk_drewN ?_ _ | refine blk_drew ?_ | refine blk_alloc ?_ _)); refine blk_put (cs := #[.slice Ao17 t401.length co17, .slice Ao19 t404.length co19, .int .i64 a0_2, .bool a0_3]) ?_ 2 _ rfl; (with_reducible repeat (first | refine blk_drewN ?_ _ | refine blk_drew ?_ | refine blk_alloc ?_ _)); refine blk_put (cs := #[.slice Ao17 t401.length co17, .slice A0_1 l0_1.length c0_1, .int .i64 a0_2, .bool a0_3]) ?_ 1 _ rfl; (with_reducible repeat (first | refine blk_drewN ?_ _ | refine blk_drew ?_ | refine blk_alloc ?_ _)); refine blk_put (cs := #[.slice A0_0 l0_0.length c0_0, .slice A0_1 l0_1.length c0_1, .int .i64 a0_2, .bool a0_3]) ?_ 0 _ rfl; (with_reducible repeat (first | refine blk_drewN ?_ _ | refine blk_drew ?_ | refine blk_alloc ?_ _)); exact BK399.out⟩, ⟨by repeat (first | (with_reducible first | exact HB.out | apply below_alloc | apply pw_below_drewN | apply below_drew1 | refine below_set ?_ GE399.out) | exact HB.out)⟩⟩
        case round =>
          clear H'
          try clear c1
          try clear c2
          try clear p2
          try clear c7
          try clear c8
          try clear c10
          try clear c10b0
          try clear c10b1
          try clear c10b2
          try clear c13
          try clear hcz11_0
          try clear hcz11_1
          try clear hcz11_2
          try clear hcz11_3
          try clear hcz12_0
          try clear hcz12_1
          try clear hcz12_2
          try clear hcz12_3
          try clear hcz15_0
          try clear hcz15_1
          try clear hcz15_2
          try clear hcz15_3
          try clear hcz18_0
          try clear hcz18_1
          try clear hcz18_2
          try clear hcz18_3
          try clear hcz9_0
          try clear hcz9_1
          try clear hcz9_2
          try clear hcz9_3
          try clear hfz11_0
          try clear hfz11_1
          try clear hfz11_2
          try clear hfz11_3
          try clear hfz12_0
          try clear hfz12_1
          try clear hfz12_2
          try clear hfz12_3
          try clear hfz15_0
          try clear hfz15_1
          try clear hfz15_2
          try clear hfz15_3
          try clear hfz18_0
          try clear hfz18_1
          try clear hfz18_2
          try clear hfz18_3
          try clear hfz9_0
          try clear hfz9_1
          try clear hfz9_2
          try clear hfz9_3
          try clear p2
          obtain ⟨x8_2, x400000_2, x400001_2, x400002_2, x400003_2, u400000, u400001, rfl, HA, HK2, HO_400000, HO_400001, BK399, HB⟩ := hrel
          cases gk with
          | zero => exact absurd HA.out (by simp [hogsheadlaw08_DiskArms.l0])
          | succ k2 =>
            have H := HA.out
            clear HA
            simp only [hogsheadlaw08_DiskArms.l0] at H
            by_cases c20 : x8_2 < (l2.length : Int)
            · rw [if_pos c20] at H
              have c20b0 : decide (x8_2 < (l2.length : Int)) = true := decide_eq_true c20
              clear c20
              by_cases c21 : 0 ≤ x8_2
              · rw [if_pos c21] at H
                have c21b0 : decide (0 ≤ x8_2) = true := decide_eq_true c21
                clear c21
                by_cases c22 : ((rdOf ByteArray.empty l2 x8_2).size : Int) > 1024
                · rw [if_pos c22] at H
                  have c22b0 : decide (1024 < ((rdOf ByteArray.empty l2 x8_2).size : Int)) = true := decide_eq_true c22
                  have c22b1 : decide (1024 < (rdOf ByteArray.empty l2 x8_2).size) = true := decide_eq_true (by omega)
                  clear c22
                  obtain rfl := Option.some.inj H
                  have p409 : 0 ≤ (x8_2 : Int) := of_decide_eq_true (by first | (with_reducible assumption) | assumption)
                  have q409 : x8_2 < (l2.length : Int) := of_decide_eq_true (by first | (with_reducible assumption) | assumption)
                  obtain ⟨ad409, e409, hx409_0⟩ := Kd.at_string HR2.out x8_2 p409 q409
                  cases e409
                  replace hx409_0 := (HB.out.cell (World.block_lt_of_cell? w _ hx409_0)).trans hx409_0
                  replace p409 := eq_true p409
                  replace q409 := eq_true q409
                  go_wp2
                  go_ret
                  exact ⟨by first | rfl | (simp [errW_none, errW_some] <;> rfl) | (simp [*, errW_none, errW_some] <;> rfl), by repeat (first | (with_reducible first | exact HB.out | apply below_alloc | apply pw_below_drewN | apply below_drew1 | refine below_set ?_ GE399.out) | exact HB.out)⟩
                · rw [if_neg c22] at H
                  have c22b0 : decide (1024 < ((rdOf ByteArray.empty l2 x8_2).size : Int)) = false := decide_eq_false c22
                  have c22b1 : decide (1024 < (rdOf ByteArray.empty l2 x8_2).size) = false := decide_eq_false (by omega)
                  clear c22
                  by_cases c23 : (x400000_2.length : Int) = 0
                  · rw [if_pos c23] at H
                    have c23b0 : ((x400000_2.length : Int) == 0) = true := beq_iff_eq.mpr c23
                    have c23b1 : ((x400000_2.length : Int) != 0) = false := bne_eq_false_iff_eq.mpr c23
                    clear c23
                    obtain rfl := Option.some.inj H
                    have p409 : 0 ≤ (x8_2 : Int) := of_decide_eq_true (by first | (with_reducible assumption) | assumption)
                    have q409 : x8_2 < (l2.length : Int) := of_decide_eq_true (by first | (with_reducible assumption) | assumption)
                    obtain ⟨ad409, e409, hx409_0⟩ := Kd.at_string HR2.out x8_2 p409 q409
                    cases e409
                    replace hx409_0 := (HB.out.cell (World.block_lt_of_cell? w _ hx409_0)).trans hx409_0
                    replace p409 := eq_true p409
                    replace q409 := eq_true q409
                    have hcz24_0 : wr.cell? ⟨gb399, 0, none⟩ = some (u400000) := (blk_cell BK399.out 0).trans rfl
                    have hcz24_1 : wr.cell? ⟨gb399, 1, none⟩ = some (u400001) := (blk_cell BK399.out 1).trans rfl
                    have hcz24_2 : wr.cell? ⟨gb399, 2, none⟩ = some (.int .i64 x400002_2) := (blk_cell BK399.out 2).trans rfl
                    have hcz24_3 : wr.cell? ⟨gb399, 3, none⟩ = some (.bool x400003_2) := (blk_cell BK399.out 3).trans rfl
                    have hfz24_0 := blk_frozen BK399.out 0
                    have hfz24_1 := blk_frozen BK399.out 1
                    have hfz24_2 := blk_frozen BK399.out 2
                    have hfz24_3 := blk_frozen BK399.out 3
                    obtain ⟨Ao25, co25, eo25⟩ := Kd.V_slice HO_400000.out
                    subst eo25
                    go_wp2
                    go_ret
                    exact ⟨by first | rfl | (simp [errW_none, errW_some] <;> rfl) | (simp [*, errW_none, errW_some] <;> rfl), by repeat (first | (with_reducible first | exact HB.out | apply below_alloc | apply pw_below_drewN | apply below_drew1 | refine below_set ?_ GE399.out) | exact HB.out)⟩
                  · rw [if_neg c23] at H
                    have c23b0 : ((x400000_2.length : Int) == 0) = false := beq_eq_false_iff_ne.mpr c23
                    have c23b1 : ((x400000_2.length : Int) != 0) = true := bne_iff_ne.mpr c23
                    have c23b2 : ¬ (x400000_2 = []) := fun h_ => c23 (by rw [h_]; rfl)
                    replace H := Option.bind_eq_some_iff.mp H
                    obtain ⟨⟨t411, t414, t417, t418, t419⟩, A260, H⟩ := H
                    replace H : (if ((t419 == 0) != (decide (x8_2 < a1))) = true then (hogsheadlaw08_DiskArms.j2 k2 a1 l2 t400 x8_2 true t411 t414 t417 t418) else (if x8_2 ≥ a1 then (if t419 = 6 then (hogsheadlaw08_DiskArms.j2 k2 a1 l2 t400 x8_2 (!t418) t411 t414 t417 t418) else (hogsheadlaw08_DiskArms.j2 k2 a1 l2 t400 x8_2 true t411 t414 t417 t418)) else (hogsheadlaw08_DiskArms.j2 k2 a1 l2 t400 x8_2 false t411 t414 t417 t418))) = some r := H
                    have A26 := Aside0.mk A260
                    clear A260
                    have HC27 := Aside0.mk H
                    clear H
                    have p409 : 0 ≤ (x8_2 : Int) := of_decide_eq_true (by first | (with_reducible assumption) | assumption)
                    have q409 : x8_2 < (l2.length : Int) := of_decide_eq_true (by first | (with_reducible assumption) | assumption)
                    obtain ⟨ad409, e409, hx409_0⟩ := Kd.at_string HR2.out x8_2 p409 q409
                    cases e409
                    replace hx409_0 := (HB.out.cell (World.block_lt_of_cell? w _ hx409_0)).trans hx409_0
                    replace p409 := eq_true p409
                    replace q409 := eq_true q409
                    have hcz28_0 : wr.cell? ⟨gb399, 0, none⟩ = some (u400000) := (blk_cell BK399.out 0).trans rfl
                    have hcz28_1 : wr.cell? ⟨gb399, 1, none⟩ = some (u400001) := (blk_cell BK399.out 1).trans rfl
                    have hcz28_2 : wr.cell? ⟨gb399, 2, none⟩ = some (.int .i64 x400002_2) := (blk_cell BK399.out 2).trans rfl
                    have hcz28_3 : wr.cell? ⟨gb399, 3, none⟩ = some (.bool x400003_2) := (blk_cell BK399.out 3).trans rfl
                    have hfz28_0 := blk_frozen BK399.out 0
                    have hfz28_1 := blk_frozen BK399.out 1
                    have hfz28_2 := blk_frozen BK399.out 2
                    have hfz28_3 := blk_frozen BK399.out 3
                    obtain ⟨Ao29, co29, eo29⟩ := Kd.V_slice HO_400000.out
                    subst eo29
                    obtain ⟨Ao30, co30, eo30⟩ := Kd.V_slice HO_400001.out
                    subst eo30
                    try go_wp2
                    have n0_ := Aside0.mk (Kd.V_drew HO_400000.out)
                    have n1_ := Aside0.mk (Kd.V_drew HO_400001.out)
                    have n2_ := Aside0.mk (blk_drew BK399.out)
                    have n3_ := Aside0.mk (below_drew1 HB.out)
                    clear HO_400000
                    clear HO_400001
                    clear BK399
                    clear HB
                    have HO_400000 := n0_
                    have HO_400001 := n1_
                    have BK399 := n2_
                    have HB := n3_
                    clear n0_ n1_ n2_ n3_
                    have p410 : 0 ≤ (x8_2 : Int) := of_decide_eq_true (by first | (with_reducible assumption) | assumption)
                    have q410 : x8_2 < (l2.length : Int) := of_decide_eq_true (by first | (with_reducible assumption) | assumption)
                    obtain ⟨ad410, e410, hx410_0⟩ := Kd.at_string HR2.out x8_2 p410 q410
                    have hw410_0 := hx410_0
                    obtain rfl : ad409 = ad410 := (by injection e410)
                    replace hx410_0 := (HB.out.cell (World.block_lt_of_cell? w _ hx410_0)).trans hx410_0
                    replace p410 := eq_true p410
                    replace q410 := eq_true q410
                    refine start_ (n := 17) (S := fun w' => w'.cell? ⟨gb399, 0, none⟩ = some (.slice Ao29 x400000_2.length co29) ∧ w'.cell? ⟨gb399, 1, none⟩ = some (.slice Ao30 x400001_2.length co30) ∧ w'.cell? ⟨gb399, 2, none⟩ = some (.int .i64 x400002_2) ∧ w'.cell? ⟨gb399, 3, none⟩ = some (.bool x400003_2) ∧ w'.cell? (ad409.add (x8_2).toNat) = some (.string (rdOf ByteArray.empty l2 x8_2))) (ds := []) #[false, false, false, false, false, false, false, false, false, false, false, false, false, false, false, false, false] (by kernel_rfl) rfl rfl ⟨(blk_cell BK399.out 0).trans rfl, (blk_cell BK399.out 1).trans rfl, (blk_cell BK399.out 2).trans rfl, (blk_cell BK399.out 3).trans rfl, ((HB.out.cell (World.block_lt_of_cell? w _ hw410_0)).trans hw410_0)⟩ (fun hHeld => ?_); refine with_tabW hogsheadlaw08_DiskArms.tab12 hogsheadlaw08_DiskArms.bits12 (fun HT_ HW_ => ?_)
                    generalize wr.drew = w31 at HO_400000 HO_400001 BK399 HB hx410_0 hHeld ⊢
                    refine pure_ (i := 1) (N := some 47) (v := ?_) (a' := ?_) #[false, true, false, false, false, false, false, false, false, false, false, false, false, false, false, false, false] rfl rfl (any_of HT_.out (by kernel_rfl)) (fun _ _ _ h => h) (Or.inl ⟨by rfl, ?_⟩) ?_ ?_
                    rotate_left
                    · intro w'
                      go_simp
                      with_reducible rfl
                    rotate_left
                    · simp only [Act.put, List.setIfInBounds_toArray, List.set_cons_zero, List.set_cons_succ, i64_w, i32_w]
                      rfl
                    refine pure_ (i := 2) (N := some 48) (v := ?_) (a' := ?_) #[false, true, true, false, false, false, false, false, false, false, false, false, false, false, false, false, false] rfl rfl (any_of HT_.out (by kernel_rfl)) (fun _ _ _ h => h) (Or.inl ⟨by rfl, ?_⟩) ?_ ?_
                    rotate_left
                    · intro w'
                      go_simp
                      with_reducible rfl
                    rotate_left
                    · simp only [Act.put, List.setIfInBounds_toArray, List.set_cons_zero, List.set_cons_succ, i64_w, i32_w]
                      rfl
                    refine pure_ (i := 6) (N := some 52) (v := ?_) (a' := ?_) #[false, true, true, false, false, false, true, false, false, false, false, false, false, false, false, false, false] rfl rfl (any_of HT_.out (by kernel_rfl)) (fun _ _ _ h => h) (Or.inl ⟨by rfl, ?_⟩) ?_ ?_
                    rotate_left
                    · intro w'
                      go_simp
                      with_reducible rfl
                    rotate_left
                    · simp only [Act.put, List.setIfInBounds_toArray, List.set_cons_zero, List.set_cons_succ, i64_w, i32_w]
                      rfl
                    refine pure_ (i := 7) (N := some 53) (v := ?_) (a' := ?_) #[false, true, true, false, false, false, true, true, false, false, false, false, false, false, false, false, false] rfl rfl (any_of HT_.out (by kernel_rfl)) (fun _ _ _ h => h) (Or.inl ⟨by rfl, ?_⟩) ?_ ?_
                    rotate_left
                    · intro w'
                      go_simp
                      with_reducible rfl
                    rotate_left
                    · simp only [Act.put, List.setIfInBounds_toArray, List.set_cons_zero, List.set_cons_succ, i64_w, i32_w]
                      rfl
                    refine pure_ (i := 8) (N := some 54) (v := ?_) (a' := ?_) #[false, true, true, false, false, false, true, true, true, false, false, false, false, false, false, false, false] rfl rfl (any_of HT_.out (by kernel_rfl)) (fun _ _ _ h => h) (Or.inl ⟨by rfl, ?_⟩) ?_ ?_
                    rotate_left
                    · intro w'
                      go_simp
                      with_reducible rfl
                    rotate_left
                    · simp only [Act.put, List.setIfInBounds_toArray, List.set_cons_zero, List.set_cons_succ, i64_w, i32_w]
                      rfl
                    refine take_ (i := 0) (N := some 46) (v := ?_) (a' := ?_) #[true, true, true, false, false, false, true, true, true, false, false, false, false, false, false, false, false] rfl rfl (take_ofW HT_.out HW_.out (by kernel_rfl)) (fun _ _ _ h => h) (Or.inl ⟨by rfl, ?_⟩) hHeld ?_ ?_
                    rotate_left
                    · rintro w' ⟨s0, s1, s2, s3, s4⟩
                      go_simp
                      with_reducible rfl
                    rotate_left
                    · simp only [Act.put, List.setIfInBounds_toArray, List.set_cons_zero, List.set_cons_succ, i64_w, i32_w]
                      rfl
                    refine take_ (i := 3) (N := some 49) (v := ?_) (a' := ?_) #[true, true, true, true, false, false, true, true, true, false, false, false, false, false, false, false, false] rfl rfl (take_ofW HT_.out HW_.out (by kernel_rfl)) (fun _ _ _ h => h) (Or.inl ⟨by rfl, ?_⟩) hHeld ?_ ?_
                    rotate_left
                    · rintro w' ⟨s0, s1, s2, s3, s4⟩
                      go_simp
                      with_reducible rfl
                    rotate_left
                    · simp only [Act.put, List.setIfInBounds_toArray, List.set_cons_zero, List.set_cons_succ, i64_w, i32_w]
                      rfl
                    refine pure_ (i := 4) (N := some 50) (v := ?_) (a' := ?_) #[true, true, true, true, true, false, true, true, true, false, false, false, false, false, false, false, false] rfl rfl (any_of HT_.out (by kernel_rfl)) (fun _ _ _ h => h) (Or.inl ⟨by rfl, ?_⟩) ?_ ?_
                    rotate_left
                    · intro w'
                      go_simp
                      with_reducible rfl
                    rotate_left
                    · simp only [Act.put, List.setIfInBounds_toArray, List.set_cons_zero, List.set_cons_succ, i64_w, i32_w]
                      rfl
                    refine pure_ (i := 5) (N := some 51) (v := ?_) (a' := ?_) #[true, true, true, true, true, true, true, true, true, false, false, false, false, false, false, false, false] rfl rfl (any_of HT_.out (by kernel_rfl)) (fun _ _ _ h => h) (Or.inl ⟨by rfl, ?_⟩) ?_ ?_
                    rotate_left
                    · intro w'
                      go_simp
                      with_reducible rfl
                    rotate_left
                    · simp only [Act.put, List.setIfInBounds_toArray, List.set_cons_zero, List.set_cons_succ, i64_w, i32_w]
                      rfl
                    refine take_ (i := 9) (N := some 55) (v := ?_) (a' := ?_) #[true, true, true, true, true, true, true, true, true, true, false, false, false, false, false, false, false] rfl rfl (take_ofW HT_.out HW_.out (by kernel_rfl)) (fun _ _ _ h => h) (Or.inl ⟨by rfl, ?_⟩) hHeld ?_ ?_
                    rotate_left
                    · rintro w' ⟨s0, s1, s2, s3, s4⟩
                      go_simp
                      with_reducible rfl
                    rotate_left
                    · simp only [Act.put, List.setIfInBounds_toArray, List.set_cons_zero, List.set_cons_succ, i64_w, i32_w]
                      rfl
                    refine join_ (σ := Value × Value × Nat) 2 #[true, true, true, true, true, true, true, true, true, true, true, true, true, true, true, false, false] (fun s_ => [(56, .tuple #[.agg #[s_.1, s_.2.1, .int .i64 t417, .bool t418], .int .i64 t419]), (9, .pointer (some ⟨s_.2.2, 0, none⟩)), (45, .tuple #[.agg #[s_.1, s_.2.1, .int .i64 t417, .bool t418], .int .i64 t419]), (57, .agg #[s_.1, s_.2.1, .int .i64 t417, .bool t418]), (58, .int .i64 t419)]) (fun s_ w' => (w'.cell? ⟨gb399, 0, none⟩ = some (.slice Ao29 x400000_2.length co29) ∧ w'.cell? ⟨gb399, 1, none⟩ = some (.slice Ao30 x400001_2.length co30) ∧ w'.cell? ⟨gb399, 2, none⟩ = some (.int .i64 x400002_2) ∧ w'.cell? ⟨gb399, 3, none⟩ = some (.bool x400003_2) ∧ w'.cell? (ad409.add (x8_2).toNat) = some (.string (rdOf ByteArray.empty l2 x8_2))) ∧ (Kd.V Kd.string 9 w' w.heap.size (fun k_ => k_ ≠ gb399 ∧ k_ ≠ s_.2.2) s_.1 t411) ∧ (Kd.V k47 47 w' w.heap.size (fun k_ => k_ ≠ gb399 ∧ k_ ≠ s_.2.2) s_.2.1 t414) ∧ (Kd.V Kd.string 9 w' w.heap.size (fun k_ => k_ ≠ gb399 ∧ k_ ≠ s_.2.2) (.slice Ao29 x400000_2.length co29) x400000_2) ∧ (Kd.V k47 47 w' w.heap.size (fun k_ => k_ ≠ gb399 ∧ k_ ≠ s_.2.2) (.slice Ao30 x400001_2.length co30) x400001_2) ∧ (w'.heap[gb399]? = some (.cells #[.slice Ao29 x400000_2.length co29, .slice Ao30 x400001_2.length co30, .int .i64 x400002_2, .bool x400003_2] 25 (0, 0))) ∧ (w'.heap[s_.2.2]? = some (.cells #[.slice none 0 0, .slice none 0 0, .int .i64 0, .bool false] 25 (0, 0))) ∧ (w.heap.size ≤ s_.2.2) ∧ (w.heap.size ≤ s_.2.2) ∧ (gb399 ≠ s_.2.2) ∧ (s_.2.2 ≠ gb399) ∧ (Below w.heap.size w w')) ?_ ?_
                    rotate_left
                    · intro hCont
                      refine two_ (i := 10) (j := 14) (Ni := some 56) (Nj := some 9) #[true, true, true, true, true, true, true, true, true, true, true, false, false, false, false, false, false] #[true, true, true, true, true, true, true, true, true, true, false, false, false, false, true, false, false] rfl rfl rfl rfl (two_of HT_.out (by kernel_rfl)) (by decide) (by decide) (fun K hK => ?_) (fun K hK => ?_)
                      · skip
                        refine goes_ Try.func11 (by kernel_rfl) rfl #[.agg #[.slice Ao29 x400000_2.length co29, .slice Ao30 x400001_2.length co30, .int .i64 x400002_2, .bool x400003_2], .int .i64 (Int.tmod x8_2 (x400000_2.length : Int)), .string (rdOf ByteArray.empty l2 x8_2)] (by rfl) rfl rfl (by (try simp only [List.map_toArray, List.map_cons, List.map_nil]); first | done | rfl | (simp only [List.length_drop, List.length_take]; rfl)) ?_
                        with_reducible refine (disk_Put.calls (fun k_ => k_ ≠ gb399) _ _ x400000_2 (fun k_ => k_ ≠ gb399) _ _ x400001_2 x400002_2 x400003_2 (Int.tmod x8_2 (x400000_2.length : Int)) (rdOf ByteArray.empty l2 x8_2) t411 t414 t417 t418 t419 _ ?side1 ?side2 A26.out).mono ?_
                        (case side1 => exact HO_400000.out)
                        (case side2 => exact HO_400001.out)
                        rintro e w32 ⟨v412, v415, rfl, ho0, ho1, hb⟩
                        refine ⟨_, rfl, ?_⟩
                        have n0_ := Aside0.mk (Kd.V_below (by (with_reducible repeat (first | apply Kd.V_alloc | apply Kd.V_drewN | apply Kd.V_drew)); exact HO_400000.out) hb)
                        have n1_ := Aside0.mk (Kd.V_below (by (with_reducible repeat (first | apply Kd.V_alloc | apply Kd.V_drewN | apply Kd.V_drew)); exact HO_400001.out) hb)
                        have n2_ := Aside0.mk (Kd.V_lower (Kd.V_mono (ok' := fun k_ => k_ ≠ gb399) ho0 (fun k_ hk_ => Or.elim hk_ (fun hs_ => Or.elim hs_ (fun hs_ => hs_) (fun hs_ => hs_)) (fun hn_ => (Kd.freshB (g := gb399) (o := .cells #[.slice Ao29 x400000_2.length co29, .slice Ao30 x400001_2.length co30, .int .i64 x400002_2, .bool x400003_2] 25 (0, 0)) (by (with_reducible repeat (first | refine blk_drewN ?_ _ | refine blk_drew ?_ | refine blk_alloc ?_ _)); exact BK399.out) k_ hn_)))) (below_size (by repeat (first | (with_reducible first | exact HB.out | apply below_alloc | apply pw_below_drewN | apply below_drew1 | refine below_set ?_ GE399.out) | exact HB.out))))
                        have n3_ := Aside0.mk (Kd.V_lower (Kd.V_mono (ok' := fun k_ => k_ ≠ gb399) ho1 (fun k_ hk_ => Or.elim hk_ (fun hs_ => Or.elim hs_ (fun hs_ => hs_) (fun hs_ => hs_)) (fun hn_ => (Kd.freshB (g := gb399) (o := .cells #[.slice Ao29 x400000_2.length co29, .slice Ao30 x400001_2.length co30, .int .i64 x400002_2, .bool x400003_2] 25 (0, 0)) (by (with_reducible repeat (first | refine blk_drewN ?_ _ | refine blk_drew ?_ | refine blk_alloc ?_ _)); exact BK399.out) k_ hn_)))) (below_size (by repeat (first | (with_reducible first | exact HB.out | apply below_alloc | apply pw_below_drewN | apply below_drew1 | refine below_set ?_ GE399.out) | exact HB.out))))
                        have n4_ := Aside0.mk (blk_below (g := gb399) (o := .cells #[.slice Ao29 x400000_2.length co29, .slice Ao30 x400001_2.length co30, .int .i64 x400002_2, .bool x400003_2] 25 (0, 0)) (by (with_reducible repeat (first | refine blk_drewN ?_ _ | refine blk_drew ?_ | refine blk_alloc ?_ _)); exact BK399.out) hb)
                        have n5_ := Aside0.mk (below_step (by repeat (first | (with_reducible first | exact HB.out | apply below_alloc | apply pw_below_drewN | apply below_drew1 | refine below_set ?_ GE399.out) | exact HB.out)) hb)
                        clear HO_400000
                        clear HO_400001
                        clear BK399
                        clear HB
                        have HO_400000 := n0_
                        have HO_400001 := n1_
                        have HO413 := n2_
                        have HO416 := n3_
                        have BK399 := n4_
                        have HB := n5_
                        clear n0_ n1_ n2_ n3_ n4_ n5_
                        (try clear hb)
                        (try clear hb2)
                        (try clear hk)
                        (try clear hi)
                        (try clear ho0)
                        (try clear ho1)
                        refine hK.out _ _ ⟨(blk_cell BK399.out 0).trans rfl, (blk_cell BK399.out 1).trans rfl, (blk_cell BK399.out 2).trans rfl, (blk_cell BK399.out 3).trans rfl, ((HB.out.cell (World.block_lt_of_cell? w _ hw410_0)).trans hw410_0)⟩ (fun hHeld => ?_)
                        clear hK K
                        refine norm_ (a' := ?_) ?_ ?_
                        rotate_left
                        · show Act.put _ (some 56) _ = _
                          simp only [Act.put, List.setIfInBounds_toArray, List.set_cons_zero, List.set_cons_succ, i64_w, i32_w]
                          rfl
                        refine pure_ (i := 11) (N := some 45) (v := ?_) (a' := ?_) #[true, true, true, true, true, true, true, true, true, true, true, true, false, false, false, false, false] rfl rfl (any_of HT_.out (by kernel_rfl)) (fun _ _ _ h => h) (Or.inl ⟨by rfl, ?_⟩) ?_ ?_
                        rotate_left
                        · intro w'
                          go_simp
                          with_reducible rfl
                        rotate_left
                        · simp only [Act.put, List.setIfInBounds_toArray, List.set_cons_zero, List.set_cons_succ, i64_w, i32_w]
                          rfl
                        refine pure_ (i := 12) (N := some 57) (v := ?_) (a' := ?_) #[true, true, true, true, true, true, true, true, true, true, true, true, true, false, false, false, false] rfl rfl (any_of HT_.out (by kernel_rfl)) (fun _ _ _ h => h) (Or.inl ⟨by rfl, ?_⟩) ?_ ?_
                        rotate_left
                        · intro w'
                          go_simp
                          with_reducible rfl
                        rotate_left
                        · simp only [Act.put, List.setIfInBounds_toArray, List.set_cons_zero, List.set_cons_succ, i64_w, i32_w]
                          rfl
                        refine pure_ (i := 13) (N := some 58) (v := ?_) (a' := ?_) #[true, true, true, true, true, true, true, true, true, true, true, true, true, true, false, false, false] rfl rfl (any_of HT_.out (by kernel_rfl)) (fun _ _ _ h => h) (Or.inl ⟨by rfl, ?_⟩) ?_ ?_
                        rotate_left
                        · intro w'
                          go_simp
                          with_reducible rfl
                        rotate_left
                        · simp only [Act.put, List.setIfInBounds_toArray, List.set_cons_zero, List.set_cons_succ, i64_w, i32_w]
                          rfl
                        refine one_ (i := 14) (N := some 9) #[true, true, true, true, true, true, true, true, true, true, true, true, true, true, true, false, false] rfl rfl (one_of HT_.out (by kernel_rfl)) (by decide) (fun K hK => ?_)
                        refine box_step ?hg (N := 9) ?hd (cs := #[.slice none 0 0, .slice none 0 0, .int .i64 0, .bool false]) (t := 25) ?hr ?_; (case hd => rfl); (case hg => rfl); (case hr => first | (go_simp; done) | (go_simp; rfl))
                        intro gb420 hg w33 hbox hb
                        have n0_ := Aside0.mk (Kd.V_below (Kd.V_elderB (by (with_reducible repeat (first | apply Kd.V_alloc | apply Kd.V_drewN | apply Kd.V_drew)); exact HO_400000.out) gb420 (Nat.le_of_eq hg.symm)) hb)
                        have n1_ := Aside0.mk (Kd.V_below (Kd.V_elderB (by (with_reducible repeat (first | apply Kd.V_alloc | apply Kd.V_drewN | apply Kd.V_drew)); exact HO_400001.out) gb420 (Nat.le_of_eq hg.symm)) hb)
                        have n2_ := Aside0.mk (Kd.V_below (Kd.V_elderB (by (with_reducible repeat (first | apply Kd.V_alloc | apply Kd.V_drewN | apply Kd.V_drew)); exact HO413.out) gb420 (Nat.le_of_eq hg.symm)) hb)
                        have n3_ := Aside0.mk (Kd.V_below (Kd.V_elderB (by (with_reducible repeat (first | apply Kd.V_alloc | apply Kd.V_drewN | apply Kd.V_drew)); exact HO416.out) gb420 (Nat.le_of_eq hg.symm)) hb)
                        have n4_ := Aside0.mk (blk_below (g := gb399) (o := .cells #[.slice Ao29 x400000_2.length co29, .slice Ao30 x400001_2.length co30, .int .i64 x400002_2, .bool x400003_2] 25 (0, 0)) (by (with_reducible repeat (first | refine blk_drewN ?_ _ | refine blk_drew ?_ | refine blk_alloc ?_ _)); exact BK399.out) hb)
                        have n5_ := Aside0.mk (below_step (by repeat (first | (with_reducible first | exact HB.out | apply below_alloc | apply pw_below_drewN | apply below_drew1 | refine below_set ?_ GE399.out) | exact HB.out)) hb)
                        have n6_ := Aside0.mk (hbox)
                        have n7_ := Aside0.mk ((by rw [hg]; exact (below_size (by repeat (first | (with_reducible first | exact HB.out | apply below_alloc | apply pw_below_drewN | apply below_drew1 | refine below_set ?_ GE399.out) | exact HB.out))) : w.heap.size ≤ gb420))
                        have n8_ := Aside0.mk ((by rw [hg]; exact (below_size (by repeat (first | (with_reducible first | exact HB.out | apply below_alloc | apply pw_below_drewN | apply below_drew1 | refine below_set ?_ GE399.out) | exact HB.out))) : w.heap.size ≤ gb420))
                        have n9_ := Aside0.mk ((by rw [hg]; exact Nat.ne_of_lt (blk_lt (g := gb399) (o := .cells #[.slice Ao29 x400000_2.length co29, .slice Ao30 x400001_2.length co30, .int .i64 x400002_2, .bool x400003_2] 25 (0, 0)) (by (with_reducible repeat (first | refine blk_drewN ?_ _ | refine blk_drew ?_ | refine blk_alloc ?_ _)); exact BK399.out)) : gb399 ≠ gb420))
                        have n10_ := Aside0.mk ((by rw [hg]; exact Nat.ne_of_gt (blk_lt (g := gb399) (o := .cells #[.slice Ao29 x400000_2.length co29, .slice Ao30 x400001_2.length co30, .int .i64 x400002_2, .bool x400003_2] 25 (0, 0)) (by (with_reducible repeat (first | refine blk_drewN ?_ _ | refine blk_drew ?_ | refine blk_alloc ?_ _)); exact BK399.out)) : gb420 ≠ gb399))
                        clear HO_400000
                        clear HO_400001
                        clear HO413
                        clear HO416
                        clear BK399
                        clear HB
                        have HO_400000 := n0_
                        have HO_400001 := n1_
                        have HO413 := n2_
                        have HO416 := n3_
                        have BK399 := n4_
                        have HB := n5_
                        have BK420 := n6_
                        have GW420 := n7_
                        have GE420 := n8_
                        have NB399_420 := n9_
                        have NB420_399 := n10_
                        clear n0_ n1_ n2_ n3_ n4_ n5_ n6_ n7_ n8_ n9_ n10_
                        clear hb hbox hg
                        refine hK.out _ _ ⟨(blk_cell BK399.out 0).trans rfl, (blk_cell BK399.out 1).trans rfl, (blk_cell BK399.out 2).trans rfl, (blk_cell BK399.out 3).trans rfl, ((HB.out.cell (World.block_lt_of_cell? w _ hw410_0)).trans hw410_0)⟩ (fun hHeld => ?_)
                        clear hK K
                        refine norm_ (a' := ?_) ?_ ?_
                        rotate_left
                        · show Act.put _ (some 9) _ = _
                          simp only [Act.put, List.setIfInBounds_toArray, List.set_cons_zero, List.set_cons_succ, i64_w, i32_w]
                          rfl
                        exact norm_ (by simp only [putAll, Act.put, List.setIfInBounds_toArray, List.set_cons_zero, List.set_cons_succ]) (hCont (v412, v415, gb420) _ ⟨hHeld, (by (with_reducible repeat (first | apply Kd.V_alloc | apply Kd.V_drewN | apply Kd.V_drew)); exact HO413.out), (by (with_reducible repeat (first | apply Kd.V_alloc | apply Kd.V_drewN | apply Kd.V_drew)); exact HO416.out), (by (with_reducible repeat (first | apply Kd.V_alloc | apply Kd.V_drewN | apply Kd.V_drew)); exact HO_400000.out), (by (with_reducible repeat (first | apply Kd.V_alloc | apply Kd.V_drewN | apply Kd.V_drew)); exact HO_400001.out), (by (with_reducible repeat (first | refine blk_drewN ?_ _ | refine blk_drew ?_ | refine blk_alloc ?_ _)); exact BK399.out), (by (with_reducible repeat (first | refine blk_drewN ?_ _ | refine blk_drew ?_ | refine blk_alloc ?_ _)); exact BK420.out), GW420.out, GE420.out, NB399_420.out, NB420_399.out, (by repeat (first | (with_reducible first | exact HB.out | apply below_alloc | apply pw_below_drewN | apply below_drew1 | refine below_set ?_ GE399.out | refine below_set ?_ GE420.out) | exact HB.out))⟩)
                      · skip
                        refine box_step ?hg (N := 9) ?hd (cs := #[.slice none 0 0, .slice none 0 0, .int .i64 0, .bool false]) (t := 25) ?hr ?_; (case hd => rfl); (case hg => rfl); (case hr => first | (go_simp; done) | (go_simp; rfl))
                        intro gb420 hg w32 hbox hb
                        have n0_ := Aside0.mk (Kd.V_below (Kd.V_elderB (by (with_reducible repeat (first | apply Kd.V_alloc | apply Kd.V_drewN | apply Kd.V_drew)); exact HO_400000.out) gb420 (Nat.le_of_eq hg.symm)) hb)
                        have n1_ := Aside0.mk (Kd.V_below (Kd.V_elderB (by (with_reducible repeat (first | apply Kd.V_alloc | apply Kd.V_drewN | apply Kd.V_drew)); exact HO_400001.out) gb420 (Nat.le_of_eq hg.symm)) hb)
                        have n2_ := Aside0.mk (blk_below (g := gb399) (o := .cells #[.slice Ao29 x400000_2.length co29, .slice Ao30 x400001_2.length co30, .int .i64 x400002_2, .bool x400003_2] 25 (0, 0)) (by (with_reducible repeat (first | refine blk_drewN ?_ _ | refine blk_drew ?_ | refine blk_alloc ?_ _)); exact BK399.out) hb)
                        have n3_ := Aside0.mk (below_step (by repeat (first | (with_reducible first | exact HB.out | apply below_alloc | apply pw_below_drewN | apply below_drew1 | refine below_set ?_ GE399.out) | exact HB.out)) hb)
                        have n4_ := Aside0.mk (hbox)
                        have n5_ := Aside0.mk ((by rw [hg]; exact (below_size (by repeat (first | (with_reducible first | exact HB.out | apply below_alloc | apply pw_below_drewN | apply below_drew1 | refine below_set ?_ GE399.out) | exact HB.out))) : w.heap.size ≤ gb420))
                        have n6_ := Aside0.mk ((by rw [hg]; exact (below_size (by repeat (first | (with_reducible first | exact HB.out | apply below_alloc | apply pw_below_drewN | apply below_drew1 | refine below_set ?_ GE399.out) | exact HB.out))) : w.heap.size ≤ gb420))
                        have n7_ := Aside0.mk ((by rw [hg]; exact Nat.ne_of_lt (blk_lt (g := gb399) (o := .cells #[.slice Ao29 x400000_2.length co29, .slice Ao30 x400001_2.length co30, .int .i64 x400002_2, .bool x400003_2] 25 (0, 0)) (by (with_reducible repeat (first | refine blk_drewN ?_ _ | refine blk_drew ?_ | refine blk_alloc ?_ _)); exact BK399.out)) : gb399 ≠ gb420))
                        have n8_ := Aside0.mk ((by rw [hg]; exact Nat.ne_of_gt (blk_lt (g := gb399) (o := .cells #[.slice Ao29 x400000_2.length co29, .slice Ao30 x400001_2.length co30, .int .i64 x400002_2, .bool x400003_2] 25 (0, 0)) (by (with_reducible repeat (first | refine blk_drewN ?_ _ | refine blk_drew ?_ | refine blk_alloc ?_ _)); exact BK399.out)) : gb420 ≠ gb399))
                        clear HO_400000
                        clear HO_400001
                        clear BK399
                        clear HB
                        have HO_400000 := n0_
                        have HO_400001 := n1_
                        have BK399 := n2_
                        have HB := n3_
                        have BK420 := n4_
                        have GW420 := n5_
                        have GE420 := n6_
                        have NB399_420 := n7_
                        have NB420_399 := n8_
                        clear n0_ n1_ n2_ n3_ n4_ n5_ n6_ n7_ n8_
                        clear hb hbox hg
                        refine hK.out _ _ ⟨(blk_cell BK399.out 0).trans rfl, (blk_cell BK399.out 1).trans rfl, (blk_cell BK399.out 2).trans rfl, (blk_cell BK399.out 3).trans rfl, ((HB.out.cell (World.block_lt_of_cell? w _ hw410_0)).trans hw410_0)⟩ (fun hHeld => ?_)
                        clear hK K
                        refine norm_ (a' := ?_) ?_ ?_
                        rotate_left
                        · show Act.put _ (some 9) _ = _
                          simp only [Act.put, List.setIfInBounds_toArray, List.set_cons_zero, List.set_cons_succ, i64_w, i32_w]
                          rfl
                        refine one_ (i := 10) (N := some 56) #[true, true, true, true, true, true, true, true, true, true, true, false, false, false, true, false, false] rfl rfl (one_of HT_.out (by kernel_rfl)) (by decide) (fun K hK => ?_)
                        refine goes_ Try.func11 (by kernel_rfl) rfl #[.agg #[.slice Ao29 x400000_2.length co29, .slice Ao30 x400001_2.length co30, .int .i64 x400002_2, .bool x400003_2], .int .i64 (Int.tmod x8_2 (x400000_2.length : Int)), .string (rdOf ByteArray.empty l2 x8_2)] (by rfl) rfl rfl (by (try simp only [List.map_toArray, List.map_cons, List.map_nil]); first | done | rfl | (simp only [List.length_drop, List.length_take]; rfl)) ?_
                        with_reducible refine (disk_Put.calls (fun k_ => (k_ ≠ gb399 ∧ k_ ≠ gb420)) _ _ x400000_2 (fun k_ => (k_ ≠ gb399 ∧ k_ ≠ gb420)) _ _ x400001_2 x400002_2 x400003_2 (Int.tmod x8_2 (x400000_2.length : Int)) (rdOf ByteArray.empty l2 x8_2) t411 t414 t417 t418 t419 _ ?side1 ?side2 A26.out).mono ?_
                        (case side1 => exact HO_400000.out)
                        (case side2 => exact HO_400001.out)
                        rintro e w33 ⟨v412, v415, rfl, ho0, ho1, hb⟩
                        refine ⟨_, rfl, ?_⟩
                        have n0_ := Aside0.mk (Kd.V_below (by (with_reducible repeat (first | apply Kd.V_alloc | apply Kd.V_drewN | apply Kd.V_drew)); exact HO_400000.out) hb)
                        have n1_ := Aside0.mk (Kd.V_below (by (with_reducible repeat (first | apply Kd.V_alloc | apply Kd.V_drewN | apply Kd.V_drew)); exact HO_400001.out) hb)
                        have n2_ := Aside0.mk (Kd.V_lower (Kd.V_mono (ok' := fun k_ => k_ ≠ gb399 ∧ k_ ≠ gb420) ho0 (fun k_ hk_ => ⟨Or.elim hk_ (fun hs_ => Or.elim hs_ (fun hs_ => hs_.1) (fun hs_ => hs_.1)) (fun hn_ => (Kd.freshB (g := gb399) (o := .cells #[.slice Ao29 x400000_2.length co29, .slice Ao30 x400001_2.length co30, .int .i64 x400002_2, .bool x400003_2] 25 (0, 0)) (by (with_reducible repeat (first | refine blk_drewN ?_ _ | refine blk_drew ?_ | refine blk_alloc ?_ _)); exact BK399.out) k_ hn_)), Or.elim hk_ (fun hs_ => Or.elim hs_ (fun hs_ => hs_.2) (fun hs_ => hs_.2)) (fun hn_ => (Kd.freshB (g := gb420) (o := .cells #[.slice none 0 0, .slice none 0 0, .int .i64 0, .bool false] 25 (0, 0)) (by (with_reducible repeat (first | refine blk_drewN ?_ _ | refine blk_drew ?_ | refine blk_alloc ?_ _)); exact BK420.out) k_ hn_))⟩)) (below_size (by repeat (first | (with_reducible first | exact HB.out | apply below_alloc | apply pw_below_drewN | apply below_drew1 | refine below_set ?_ GE399.out | refine below_set ?_ GE420.out) | exact HB.out))))
                        have n3_ := Aside0.mk (Kd.V_lower (Kd.V_mono (ok' := fun k_ => k_ ≠ gb399 ∧ k_ ≠ gb420) ho1 (fun k_ hk_ => ⟨Or.elim hk_ (fun hs_ => Or.elim hs_ (fun hs_ => hs_.1) (fun hs_ => hs_.1)) (fun hn_ => (Kd.freshB (g := gb399) (o := .cells #[.slice Ao29 x400000_2.length co29, .slice Ao30 x400001_2.length co30, .int .i64 x400002_2, .bool x400003_2] 25 (0, 0)) (by (with_reducible repeat (first | refine blk_drewN ?_ _ | refine blk_drew ?_ | refine blk_alloc ?_ _)); exact BK399.out) k_ hn_)), Or.elim hk_ (fun hs_ => Or.elim hs_ (fun hs_ => hs_.2) (fun hs_ => hs_.2)) (fun hn_ => (Kd.freshB (g := gb420) (o := .cells #[.slice none 0 0, .slice none 0 0, .int .i64 0, .bool false] 25 (0, 0)) (by (with_reducible repeat (first | refine blk_drewN ?_ _ | refine blk_drew ?_ | refine blk_alloc ?_ _)); exact BK420.out) k_ hn_))⟩)) (below_size (by repeat (first | (with_reducible first | exact HB.out | apply below_alloc | apply pw_below_drewN | apply below_drew1 | refine below_set ?_ GE399.out | refine below_set ?_ GE420.out) | exact HB.out))))
                        have n4_ := Aside0.mk (blk_below (g := gb399) (o := .cells #[.slice Ao29 x400000_2.length co29, .slice Ao30 x400001_2.length co30, .int .i64 x400002_2, .bool x400003_2] 25 (0, 0)) (by (with_reducible repeat (first | refine blk_drewN ?_ _ | refine blk_drew ?_ | refine blk_alloc ?_ _)); exact BK399.out) hb)
                        have n5_ := Aside0.mk (blk_below (g := gb420) (o := .cells #[.slice none 0 0, .slice none 0 0, .int .i64 0, .bool false] 25 (0, 0)) (by (with_reducible repeat (first | refine blk_drewN ?_ _ | refine blk_drew ?_ | refine blk_alloc ?_ _)); exact BK420.out) hb)
                        have n6_ := Aside0.mk (below_step (by repeat (first | (with_reducible first | exact HB.out | apply below_alloc | apply pw_below_drewN | apply below_drew1 | refine below_set ?_ GE399.out | refine below_set ?_ GE420.out) | exact HB.out)) hb)
                        clear HO_400000
                        clear HO_400001
                        clear BK399
                        clear BK420
                        clear HB
                        have HO_400000 := n0_
                        have HO_400001 := n1_
                        have HO413 := n2_
                        have HO416 := n3_
                        have BK399 := n4_
                        have BK420 := n5_
                        have HB := n6_
                        clear n0_ n1_ n2_ n3_ n4_ n5_ n6_
                        (try clear hb)
                        (try clear hb2)
                        (try clear hk)
                        (try clear hi)
                        (try clear ho0)
                        (try clear ho1)
                        refine hK.out _ _ ⟨(blk_cell BK399.out 0).trans rfl, (blk_cell BK399.out 1).trans rfl, (blk_cell BK399.out 2).trans rfl, (blk_cell BK399.out 3).trans rfl, ((HB.out.cell (World.block_lt_of_cell? w _ hw410_0)).trans hw410_0)⟩ (fun hHeld => ?_)
                        clear hK K
                        refine norm_ (a' := ?_) ?_ ?_
                        rotate_left
                        · show Act.put _ (some 56) _ = _
                          simp only [Act.put, List.setIfInBounds_toArray, List.set_cons_zero, List.set_cons_succ, i64_w, i32_w]
                          rfl
                        refine pure_ (i := 11) (N := some 45) (v := ?_) (a' := ?_) #[true, true, true, true, true, true, true, true, true, true, true, true, false, false, true, false, false] rfl rfl (any_of HT_.out (by kernel_rfl)) (fun _ _ _ h => h) (Or.inl ⟨by rfl, ?_⟩) ?_ ?_
                        rotate_left
                        · intro w'
                          go_simp
                          with_reducible rfl
                        rotate_left
                        · simp only [Act.put, List.setIfInBounds_toArray, List.set_cons_zero, List.set_cons_succ, i64_w, i32_w]
                          rfl
                        refine pure_ (i := 12) (N := some 57) (v := ?_) (a' := ?_) #[true, true, true, true, true, true, true, true, true, true, true, true, true, false, true, false, false] rfl rfl (any_of HT_.out (by kernel_rfl)) (fun _ _ _ h => h) (Or.inl ⟨by rfl, ?_⟩) ?_ ?_
                        rotate_left
                        · intro w'
                          go_simp
                          with_reducible rfl
                        rotate_left
                        · simp only [Act.put, List.setIfInBounds_toArray, List.set_cons_zero, List.set_cons_succ, i64_w, i32_w]
                          rfl
                        refine pure_ (i := 13) (N := some 58) (v := ?_) (a' := ?_) #[true, true, true, true, true, true, true, true, true, true, true, true, true, true, true, false, false] rfl rfl (any_of HT_.out (by kernel_rfl)) (fun _ _ _ h => h) (Or.inl ⟨by rfl, ?_⟩) ?_ ?_
                        rotate_left
                        · intro w'
                          go_simp
                          with_reducible rfl
                        rotate_left
                        · simp only [Act.put, List.setIfInBounds_toArray, List.set_cons_zero, List.set_cons_succ, i64_w, i32_w]
                          rfl
                        exact norm_ (by simp only [putAll, Act.put, List.setIfInBounds_toArray, List.set_cons_zero, List.set_cons_succ]) (hCont (v412, v415, gb420) _ ⟨hHeld, (by (with_reducible repeat (first | apply Kd.V_alloc | apply Kd.V_drewN | apply Kd.V_drew)); exact HO413.out), (by (with_reducible repeat (first | apply Kd.V_alloc | apply Kd.V_drewN | apply Kd.V_drew)); exact HO416.out), (by (with_reducible repeat (first | apply Kd.V_alloc | apply Kd.V_drewN | apply Kd.V_drew)); exact HO_400000.out), (by (with_reducible repeat (first | apply Kd.V_alloc | apply Kd.V_drewN | apply Kd.V_drew)); exact HO_400001.out), (by (with_reducible repeat (first | refine blk_drewN ?_ _ | refine blk_drew ?_ | refine blk_alloc ?_ _)); exact BK399.out), (by (with_reducible repeat (first | refine blk_drewN ?_ _ | refine blk_drew ?_ | refine blk_alloc ?_ _)); exact BK420.out), GW420.out, GE420.out, NB399_420.out, NB420_399.out, (by repeat (first | (with_reducible first | exact HB.out | apply below_alloc | apply pw_below_drewN | apply below_drew1 | refine below_set ?_ GE399.out | refine below_set ?_ GE420.out) | exact HB.out))⟩)
                    rintro ⟨v412, v415, gb420⟩ w34 ⟨hS_, h0_, h1_, h2_, h3_, h4_, h5_, h6_, h7_, h8_, h9_, h10_⟩
                    have n0_ : Aside0 (Kd.V Kd.string 9 w34 w.heap.size (fun k_ => k_ ≠ gb399 ∧ k_ ≠ gb420) v412 t411) := ⟨h0_⟩
                    have n1_ : Aside0 (Kd.V k47 47 w34 w.heap.size (fun k_ => k_ ≠ gb399 ∧ k_ ≠ gb420) v415 t414) := ⟨h1_⟩
                    have n2_ : Aside0 (Kd.V Kd.string 9 w34 w.heap.size (fun k_ => k_ ≠ gb399 ∧ k_ ≠ gb420) (.slice Ao29 x400000_2.length co29) x400000_2) := ⟨h2_⟩
                    have n3_ : Aside0 (Kd.V k47 47 w34 w.heap.size (fun k_ => k_ ≠ gb399 ∧ k_ ≠ gb420) (.slice Ao30 x400001_2.length co30) x400001_2) := ⟨h3_⟩
                    have n4_ : Aside0 (w34.heap[gb399]? = some (.cells #[.slice Ao29 x400000_2.length co29, .slice Ao30 x400001_2.length co30, .int .i64 x400002_2, .bool x400003_2] 25 (0, 0))) := ⟨h4_⟩
                    have n5_ : Aside0 (w34.heap[gb420]? = some (.cells #[.slice none 0 0, .slice none 0 0, .int .i64 0, .bool false] 25 (0, 0))) := ⟨h5_⟩
                    have n6_ : Aside0 (w.heap.size ≤ gb420) := ⟨h6_⟩
                    have n7_ : Aside0 (w.heap.size ≤ gb420) := ⟨h7_⟩
                    have n8_ : Aside0 (gb399 ≠ gb420) := ⟨h8_⟩
                    have n9_ : Aside0 (gb420 ≠ gb399) := ⟨h9_⟩
                    have n10_ : Aside0 (Below w.heap.size w w34) := ⟨h10_⟩
                    clear HO_400000
                    clear HO_400001
                    clear BK399
                    clear HB
                    clear h0_ h1_ h2_ h3_ h4_ h5_ h6_ h7_ h8_ h9_ h10_
                    have HO413 := n0_
                    have HO416 := n1_
                    have HO_400000 := n2_
                    have HO_400001 := n3_
                    have BK399 := n4_
                    have BK420 := n5_
                    have GW420 := n6_
                    have GE420 := n7_
                    have NB399_420 := n8_
                    have NB420_399 := n9_
                    have HB := n10_
                    clear n0_ n1_ n2_ n3_ n4_ n5_ n6_ n7_ n8_ n9_ n10_
                    have hHeld : w34.cell? ⟨gb399, 0, none⟩ = some (.slice Ao29 x400000_2.length co29) ∧ w34.cell? ⟨gb399, 1, none⟩ = some (.slice Ao30 x400001_2.length co30) ∧ w34.cell? ⟨gb399, 2, none⟩ = some (.int .i64 x400002_2) ∧ w34.cell? ⟨gb399, 3, none⟩ = some (.bool x400003_2) ∧ w34.cell? (ad409.add (x8_2).toNat) = some (.string (rdOf ByteArray.empty l2 x8_2)) := hS_
                    obtain ⟨Ao35, co35, eo35⟩ := Kd.V_slice HO413.out
                    (first | subst eo35 | (injection eo35 with f1_ f2_ f3_; have f4_ := f1_.symm; have f5_ := f3_.symm; clear f1_ f2_ f3_; subst f4_; subst f5_))
                    obtain ⟨Ao37, co37, eo37⟩ := Kd.V_slice HO416.out
                    (first | subst eo37 | (injection eo37 with f1_ f2_ f3_; have f4_ := f1_.symm; have f5_ := f3_.symm; clear f1_ f2_ f3_; subst f4_; subst f5_))
                    refine norm_ (a' := ?_) ?_ ?_
                    rotate_left
                    · simp only [putAll, Act.put, List.setIfInBounds_toArray, List.set_cons_zero, List.set_cons_succ]
                      rfl
                    refine one_ (i := 15) (N := none) #[true, true, true, true, true, true, true, true, true, true, true, true, true, true, true, true, false] rfl rfl (one_of HT_.out (by kernel_rfl)) (by decide) (fun K hK => ?_)
                    have hs36 : w34.cell? ⟨gb420, 0, none⟩ = some (.slice none 0 0) := (blk_cell BK420.out 0).trans rfl
                    have hfs36 := blk_frozen BK420.out 0
                    have hns36_0 := NB399_420.out
                    have hms36_0 := NB420_399.out
                    have hs38 : w34.cell? ⟨gb420, 1, none⟩ = some (.slice none 0 0) := (blk_cell BK420.out 1).trans rfl
                    have hfs38 := blk_frozen BK420.out 1
                    have hns38_0 := NB399_420.out
                    have hms38_0 := NB420_399.out
                    have hs39 : w34.cell? ⟨gb420, 2, none⟩ = some (.int .i64 0) := (blk_cell BK420.out 2).trans rfl
                    have hfs39 := blk_frozen BK420.out 2
                    have hns39_0 := NB399_420.out
                    have hms39_0 := NB420_399.out
                    have hs40 : w34.cell? ⟨gb420, 3, none⟩ = some (.bool false) := (blk_cell BK420.out 3).trans rfl
                    have hfs40 := blk_frozen BK420.out 3
                    have hns40_0 := NB399_420.out
                    have hms40_0 := NB420_399.out
                    refine skip_ (w1 := ?_) (by rfl) rfl ?_ ?_
                    rotate_left
                    · go_simp
                      rfl
                    refine hK.out _ _ ⟨((cell_far (p := ⟨gb420, _, none⟩) NB399_420.out _).trans (((cell_far (p := ⟨gb420, _, none⟩) NB399_420.out _).trans (((cell_far (p := ⟨gb420, _, none⟩) NB399_420.out _).trans (((cell_far (p := ⟨gb420, _, none⟩) NB399_420.out _).trans (hHeld.1)))))))), ((cell_far (p := ⟨gb420, _, none⟩) NB399_420.out _).trans (((cell_far (p := ⟨gb420, _, none⟩) NB399_420.out _).trans (((cell_far (p := ⟨gb420, _, none⟩) NB399_420.out _).trans (((cell_far (p := ⟨gb420, _, none⟩) NB399_420.out _).trans (hHeld.2.1)))))))), ((cell_far (p := ⟨gb420, _, none⟩) NB399_420.out _).trans (((cell_far (p := ⟨gb420, _, none⟩) NB399_420.out _).trans (((cell_far (p := ⟨gb420, _, none⟩) NB399_420.out _).trans (((cell_far (p := ⟨gb420, _, none⟩) NB399_420.out _).trans (hHeld.2.2.1)))))))), ((cell_far (p := ⟨gb420, _, none⟩) NB399_420.out _).trans (((cell_far (p := ⟨gb420, _, none⟩) NB399_420.out _).trans (((cell_far (p := ⟨gb420, _, none⟩) NB399_420.out _).trans (((cell_far (p := ⟨gb420, _, none⟩) NB399_420.out _).trans (hHeld.2.2.2.1)))))))), ((cell_far (p := ⟨gb420, _, none⟩) (by first | exact Nat.ne_of_lt (Nat.lt_of_lt_of_le (by have := World.block_lt_of_cell? _ _ hw410_0; first | rwa [add_block] at this | exact this) GW420.out) | (rw [add_block]; exact Nat.ne_of_lt (Nat.lt_of_lt_of_le (by have := World.block_lt_of_cell? _ _ hw410_0; first | rwa [add_block] at this | exact this) GW420.out)) | (show (Addr.add _ _).block ≠ _; rw [add_block]; exact Nat.ne_of_lt (Nat.lt_of_lt_of_le (by have := World.block_lt_of_cell? _ _ hw410_0; first | rwa [add_block] at this | exact this) GW420.out)) | (dsimp only; exact Nat.ne_of_lt (Nat.lt_of_lt_of_le (by have := World.block_lt_of_cell? _ _ hw410_0; first | rwa [add_block] at this | exact this) GW420.out))) _).trans (((cell_far (p := ⟨gb420, _, none⟩) (by first | exact Nat.ne_of_lt (Nat.lt_of_lt_of_le (by have := World.block_lt_of_cell? _ _ hw410_0; first | rwa [add_block] at this | exact this) GW420.out) | (rw [add_block]; exact Nat.ne_of_lt (Nat.lt_of_lt_of_le (by have := World.block_lt_of_cell? _ _ hw410_0; first | rwa [add_block] at this | exact this) GW420.out)) | (show (Addr.add _ _).block ≠ _; rw [add_block]; exact Nat.ne_of_lt (Nat.lt_of_lt_of_le (by have := World.block_lt_of_cell? _ _ hw410_0; first | rwa [add_block] at this | exact this) GW420.out)) | (dsimp only; exact Nat.ne_of_lt (Nat.lt_of_lt_of_le (by have := World.block_lt_of_cell? _ _ hw410_0; first | rwa [add_block] at this | exact this) GW420.out))) _).trans (((cell_far (p := ⟨gb420, _, none⟩) (by first | exact Nat.ne_of_lt (Nat.lt_of_lt_of_le (by have := World.block_lt_of_cell? _ _ hw410_0; first | rwa [add_block] at this | exact this) GW420.out) | (rw [add_block]; exact Nat.ne_of_lt (Nat.lt_of_lt_of_le (by have := World.block_lt_of_cell? _ _ hw410_0; first | rwa [add_block] at this | exact this) GW420.out)) | (show (Addr.add _ _).block ≠ _; rw [add_block]; exact Nat.ne_of_lt (Nat.lt_of_lt_of_le (by have := World.block_lt_of_cell? _ _ hw410_0; first | rwa [add_block] at this | exact this) GW420.out)) | (dsimp only; exact Nat.ne_of_lt (Nat.lt_of_lt_of_le (by have := World.block_lt_of_cell? _ _ hw410_0; first | rwa [add_block] at this | exact this) GW420.out))) _).trans (((cell_far (p := ⟨gb420, _, none⟩) (by first | exact Nat.ne_of_lt (Nat.lt_of_lt_of_le (by have := World.block_lt_of_cell? _ _ hw410_0; first | rwa [add_block] at this | exact this) GW420.out) | (rw [add_block]; exact Nat.ne_of_lt (Nat.lt_of_lt_of_le (by have := World.block_lt_of_cell? _ _ hw410_0; first | rwa [add_block] at this | exact this) GW420.out)) | (show (Addr.add _ _).block ≠ _; rw [add_block]; exact Nat.ne_of_lt (Nat.lt_of_lt_of_le (by have := World.block_lt_of_cell? _ _ hw410_0; first | rwa [add_block] at this | exact this) GW420.out)) | (dsimp only; exact Nat.ne_of_lt (Nat.lt_of_lt_of_le (by have := World.block_lt_of_cell? _ _ hw410_0; first | rwa [add_block] at this | exact this) GW420.out))) _).trans (hHeld.2.2.2.2))))))))⟩ (fun hHeld => ?_)
                    clear hK K
                    refine pure_ (i := 16) (N := some 10) (v := ?_) (a' := ?_) #[true, true, true, true, true, true, true, true, true, true, true, true, true, true, true, true, true] rfl rfl (any_of HT_.out (by kernel_rfl)) (fun _ _ _ h => h) (Or.inl ⟨by rfl, ?_⟩) ?_ ?_
                    rotate_left
                    · intro w'
                      go_simp
                      with_reducible rfl
                    rotate_left
                    · simp only [Act.put, List.setIfInBounds_toArray, List.set_cons_zero, List.set_cons_succ, i64_w, i32_w]
                      rfl
                    refine done_ (done_of HT_.out (by kernel_rfl)) ?_
                    have hnb41 := NB420_399.out
                    have hnc41 := NB399_420.out
                    have hcz42_0 : w34.cell? ⟨gb420, 0, none⟩ = some (.slice none 0 0) := (blk_cell BK420.out 0).trans rfl
                    have hcz42_1 : w34.cell? ⟨gb420, 1, none⟩ = some (.slice none 0 0) := (blk_cell BK420.out 1).trans rfl
                    have hcz42_2 : w34.cell? ⟨gb420, 2, none⟩ = some (.int .i64 0) := (blk_cell BK420.out 2).trans rfl
                    have hcz42_3 : w34.cell? ⟨gb420, 3, none⟩ = some (.bool false) := (blk_cell BK420.out 3).trans rfl
                    have hfz42_0 := blk_frozen BK420.out 0
                    have hfz42_1 := blk_frozen BK420.out 1
                    have hfz42_2 := blk_frozen BK420.out 2
                    have hfz42_3 := blk_frozen BK420.out 3
                    have hcz43_0 : w34.cell? ⟨gb399, 0, none⟩ = some (.slice Ao29 x400000_2.length co29) := (blk_cell BK399.out 0).trans rfl
                    have hcz43_1 : w34.cell? ⟨gb399, 1, none⟩ = some (.slice Ao30 x400001_2.length co30) := (blk_cell BK399.out 1).trans rfl
                    have hcz43_2 : w34.cell? ⟨gb399, 2, none⟩ = some (.int .i64 x400002_2) := (blk_cell BK399.out 2).trans rfl
                    have hcz43_3 : w34.cell? ⟨gb399, 3, none⟩ = some (.bool x400003_2) := (blk_cell BK399.out 3).trans rfl
                    have hfz43_0 := blk_frozen BK399.out 0
                    have hfz43_1 := blk_frozen BK399.out 1
                    have hfz43_2 := blk_frozen BK399.out 2
                    have hfz43_3 := blk_frozen BK399.out 3
                    go_upto_region 14 with (fail)
                    go_cut [79] (fun v79 wc => ∃ (kq : Nat) (x79_26 : Bool), v79 = .bool x79_26 ∧ Aside0 (hogsheadlaw08_DiskArms.j2 kq a1 l2 t400 x8_2 x79_26 t411 t414 t417 t418 = some r) ∧ Aside0 (kq ≤ k2) ∧ Aside0 (Kd.V Kd.string 9 wc w.heap.size (fun k_ => k_ ≠ gb399 ∧ k_ ≠ gb420) (.slice Ao35 t411.length co35) t411) ∧ Aside0 (Kd.V k47 47 wc w.heap.size (fun k_ => k_ ≠ gb399 ∧ k_ ≠ gb420) (.slice Ao37 t414.length co37) t414) ∧ Aside0 (Kd.V Kd.string 9 wc w.heap.size (fun k_ => k_ ≠ gb399 ∧ k_ ≠ gb420) (.slice Ao35 t411.length co35) t411) ∧ Aside0 (Kd.V k47 47 wc w.heap.size (fun k_ => k_ ≠ gb399 ∧ k_ ≠ gb420) (.slice Ao37 t414.length co37) t414) ∧ Aside0 (wc.heap[gb399]? = some (.cells #[(.slice Ao35 t411.length co35), (.slice Ao37 t414.length co37), .int .i64 t417, .bool t418] 25 (0, 0))) ∧ Aside0 (wc.heap[gb420]? = some (.cells #[(.slice Ao35 t411.length co35), (.slice Ao37 t414.length co37), .int .i64 t417, .bool t418] 25 (0, 0))) ∧ Aside0 (Below w.heap.size w wc))
                    case first =>
                      have H := HC27.out
                      clear HC27
                      by_cases c44 : ((t419 == 0) != (decide (x8_2 < a1))) = true
                      · rw [if_pos c44] at H
                        have c44b0 : ((t419 == 0) != (decide (x8_2 < a1))) = true := c44
                        (try (have c44b1 : decide ((t419 == 0) = (decide (x8_2 < a1))) = false := by simpa using c44))
                        (try (have c44b2 : ((t419 == 0) == (decide (x8_2 < a1))) = false := by simpa using c44))
                        (try (have c44b3 : ¬ ((t419 == 0) = (decide (x8_2 < a1))) := by simpa using c44))
                        clear c44
                        (first | rw [c44b0] | (simp only [i64_w, i32_w]; rw [c44b0]) | skip)
                        have H' := Aside0.mk H
                        clear H
                        go_wp2
                        go_meet
                        case rel => exact ⟨_, (true), (by first | rfl | (simp; done) | (simp [*]; done)), H', ⟨by have := HJ4.out; have := HK2.out; first | omega | exact Nat.le_refl _⟩, ⟨by (with_reducible repeat (first | apply Kd.V_alloc | apply Kd.V_drewN | apply Kd.V_drew)); exact Kd.V_mono (Kd.V_far (p := ⟨gb399, 3, none⟩) (Kd.V_far (p := ⟨gb399, 2, none⟩) (Kd.V_far (p := ⟨gb399, 1, none⟩) (Kd.V_far (p := ⟨gb399, 0, none⟩) (Kd.V_far (p := ⟨gb420, 3, none⟩) (Kd.V_far (p := ⟨gb420, 2, none⟩) (Kd.V_far (p := ⟨gb420, 1, none⟩) (Kd.V_far (p := ⟨gb420, 0, none⟩) (Kd.V_mono (Kd.V_mono HO413.out (fun k_ hk => (⟨hk, hk.2⟩ : _ ∧ k_ ≠ gb420))) (fun k_ hk => (⟨hk, hk.1.1⟩ : _ ∧ k_ ≠ gb399))) (fun _ hk => hk.1.2) (.slice Ao35 t411.length co35)) (fun _ hk => hk.1.2) (.slice Ao37 t414.length co37)) (fun _ hk => hk.1.2) (.int .i64 t417)) (fun _ hk => hk.1.2) (.bool t418)) (fun _ hk => hk.2) (.slice Ao35 t411.length co35)) (fun _ hk => hk.2) (.slice Ao37 t414.length co37)) (fun _ hk => hk.2) (.int .i64 t417)) (fun _ hk => hk.2) (.bool t418)) (fun _ hk => ⟨hk.1.1.1, hk.1.1.2⟩)⟩, ⟨by (with_reducible repeat (first | apply Kd.V_alloc | apply Kd.V_drewN | apply Kd.V_drew)); exact Kd.V_mono (Kd.V_far (p := ⟨gb399, 3, none⟩) (Kd.V_far (p := ⟨gb399, 2, none⟩) (Kd.V_far (p := ⟨gb399, 1, none⟩) (Kd.V_far (p := ⟨gb399, 0, none⟩) (Kd.V_far (p := ⟨gb420, 3, none⟩) (Kd.V_far (p := ⟨gb420, 2, none⟩) (Kd.V_far (p := ⟨gb420, 1, none⟩) (Kd.V_far (p := ⟨gb420, 0, none⟩) (Kd.V_mono (Kd.V_mono HO416.out (fun k_ hk => (⟨hk, hk.2⟩ : _ ∧ k_ ≠ gb420))) (fun k_ hk => (⟨hk, hk.1.1⟩ : _ ∧ k_ ≠ gb399))) (fun _ hk => hk.1.2) (.slice Ao35 t411.length co35)) (fun _ hk => hk.1.2) (.slice Ao37 t414.length co37)) (fun _ hk => hk.1.2) (.int .i64 t417)) (fun _ hk => hk.1.2) (.bool t418)) (fun _ hk => hk.2) (.slice Ao35 t411.length co35)) (fun _ hk => hk.2) (.slice Ao37 t414.length co37)) (fun _ hk => hk.2) (.int .i64 t417)) (fun _ hk => hk.2) (.bool t418)) (fun _ hk => ⟨hk.1.1.1, hk.1.1.2⟩)⟩, ⟨by (with_reducible repeat (first | apply Kd.V_alloc | apply Kd.V_drewN | apply Kd.V_drew)); exact Kd.V_mono (Kd.V_far (p := ⟨gb399, 3, none⟩) (Kd.V_far (p := ⟨gb399, 2, none⟩) (Kd.V_far (p := ⟨gb399, 1, none⟩) (Kd.V_far (p := ⟨gb399, 0, none⟩) (Kd.V_far (p := ⟨gb420, 3, none⟩) (Kd.V_far (p := ⟨gb420, 2, none⟩) (Kd.V_far (p := ⟨gb420, 1, none⟩) (Kd.V_far (p := ⟨gb420, 0, none⟩) (Kd.V_mono (Kd.V_mono HO413.out (fun k_ hk => (⟨hk, hk.2⟩ : _ ∧ k_ ≠ gb420))) (fun k_ hk => (⟨hk, hk.1.1⟩ : _ ∧ k_ ≠ gb399))) (fun _ hk => hk.1.2) (.slice Ao35 t411.length co35)) (fun _ hk => hk.1.2) (.slice Ao37 t414.length co37)) (fun _ hk => hk.1.2) (.int .i64 t417)) (fun _ hk => hk.1.2) (.bool t418)) (fun _ hk => hk.2) (.slice Ao35 t411.length co35)) (fun _ hk => hk.2) (.slice Ao37 t414.length co37)) (fun _ hk => hk.2) (.int .i64 t417)) (fun _ hk => hk.2) (.bool t418)) (fun _ hk => ⟨hk.1.1.1, hk.1.1.2⟩)⟩, ⟨by (with_reducible repeat (first | apply Kd.V_alloc | apply Kd.V_drewN | apply Kd.V_drew)); exact Kd.V_mono (Kd.V_far (p := ⟨gb399, 3, none⟩) (Kd.V_far (p := ⟨gb399, 2, none⟩) (Kd.V_far (p := ⟨gb399, 1, none⟩) (Kd.V_far (p := ⟨gb399, 0, none⟩) (Kd.V_far (p := ⟨gb420, 3, none⟩) (Kd.V_far (p := ⟨gb420, 2, none⟩) (Kd.V_far (p := ⟨gb420, 1, none⟩) (Kd.V_far (p := ⟨gb420, 0, none⟩) (Kd.V_mono (Kd.V_mono HO416.out (fun k_ hk => (⟨hk, hk.2⟩ : _ ∧ k_ ≠ gb420))) (fun k_ hk => (⟨hk, hk.1.1⟩ : _ ∧ k_ ≠ gb399))) (fun _ hk => hk.1.2) (.slice Ao35 t411.length co35)) (fun _ hk => hk.1.2) (.slice Ao37 t414.length co37)) (fun _ hk => hk.1.2) (.int .i64 t417)) (fun _ hk => hk.1.2) (.bool t418)) (fun _ hk => hk.2) (.slice Ao35 t411.length co35)) (fun _ hk => hk.2) (.slice Ao37 t414.length co37)) (fun _ hk => hk.2) (.int .i64 t417)) (fun _ hk => hk.2) (.bool t418)) (fun _ hk => ⟨hk.1.1.1, hk.1.1.2⟩)⟩, ⟨by (with_reducible repeat (first | refine blk_drewN ?_ _ | refine blk_drew ?_ | refine blk_alloc ?_ _)); refine blk_put (cs := #[.slice Ao35 t411.length co35, .slice Ao37 t414.length co37, .int .i64 t417, .bool x400003_2]) ?_ 3 _ rfl; (with_reducible repeat (first | refine blk_drewN ?_ _ | refine blk_drew ?_ | refine blk_alloc ?_ _)); refine blk_put (cs := #[.slice Ao35 t411.length co35, .slice Ao37 t414.length co37, .int .i64 x400002_2, .bool x400003_2]) ?_ 2 _ rfl; (with_reducible repeat (first | refine blk_drewN ?_ _ | refine blk_drew ?_ | refine blk_alloc ?_ _)); refine blk_put (cs := #[.slice Ao35 t411.length co35, .slice Ao30 x400001_2.length co30, .int .i64 x400002_2, .bool x400003_2]) ?_ 1 _ rfl; (with_reducible repeat (first | refine blk_drewN ?_ _ | refine blk_drew ?_ | refine blk_alloc ?_ _)); refine blk_put (cs := #[.slice Ao29 x400000_2.length co29, .slice Ao30 x400001_2.length co30, .int .i64 x400002_2, .bool x400003_2]) ?_ 0 _ rfl; (with_reducible repeat (first | refine blk_drewN ?_ _ | refine blk_drew ?_ | refine blk_alloc ?_ _)); refine blk_far ?_ NB399_420.out _; (with_reducible repeat (first | refine blk_drewN ?_ _ | refine blk_drew ?_ | refine blk_alloc ?_ _)); refine blk_far ?_ NB399_420.out _; (with_reducible repeat (first | refine blk_drewN ?_ _ | refine blk_drew ?_ | refine blk_alloc ?_ _)); refine blk_far ?_ NB399_420.out _; (with_reducible repeat (first | refine blk_drewN ?_ _ | refine blk_drew ?_ | refine blk_alloc ?_ _)); refine blk_far ?_ NB399_420.out _; (with_reducible repeat (first | refine blk_drewN ?_ _ | refine blk_drew ?_ | refine blk_alloc ?_ _)); exact BK399.out⟩, ⟨by (with_reducible repeat (first | refine blk_drewN ?_ _ | refine blk_drew ?_ | refine blk_alloc ?_ _)); refine blk_far ?_ NB420_399.out _; (with_reducible repeat (first | refine blk_drewN ?_ _ | refine blk_drew ?_ | refine blk_alloc ?_ _)); refine blk_far ?_ NB420_399.out _; (with_reducible repeat (first | refine blk_drewN ?_ _ | refine blk_drew ?_ | refine blk_alloc ?_ _)); refine blk_far ?_ NB420_399.out _; (with_reducible repeat (first | refine blk_drewN ?_ _ | refine blk_drew ?_ | refine blk_alloc ?_ _)); refine blk_far ?_ NB420_399.out _; (with_reducible repeat (first | refine blk_drewN ?_ _ | refine blk_drew ?_ | refine blk_alloc ?_ _)); refine blk_put (cs := #[.slice Ao35 t411.length co35, .slice Ao37 t414.length co37, .int .i64 t417, .bool false]) ?_ 3 _ rfl; (with_reducible repeat (first | refine blk_drewN ?_ _ | refine blk_drew ?_ | refine blk_alloc ?_ _)); refine blk_put (cs := #[.slice Ao35 t411.length co35, .slice Ao37 t414.length co37, .int .i64 0, .bool false]) ?_ 2 _ rfl; (with_reducible repeat (first | refine blk_drewN ?_ _ | refine blk_drew ?_ | refine blk_alloc ?_ _)); refine blk_put (cs := #[.slice Ao35 t411.length co35, .slice none 0 0, .int .i64 0, .bool false]) ?_ 1 _ rfl; (with_reducible repeat (first | refine blk_drewN ?_ _ | refine blk_drew ?_ | refine blk_alloc ?_ _)); refine blk_put (cs := #[.slice none 0 0, .slice none 0 0, .int .i64 0, .bool false]) ?_ 0 _ rfl; (with_reducible repeat (first | refine blk_drewN ?_ _ | refine blk_drew ?_ | refine blk_alloc ?_ _)); exact BK420.out⟩, ⟨by repeat (first | (with_reducible first | exact HB.out | apply below_alloc | apply pw_below_drewN | apply below_drew1 | refine below_set ?_ GE399.out | refine below_set ?_ GE420.out) | exact HB.out)⟩⟩
                      · rw [if_neg c44] at H
                        have c44b0 : ((t419 == 0) != (decide (x8_2 < a1))) = false := by simpa using c44
                        (try (have c44b1 : decide ((t419 == 0) = (decide (x8_2 < a1))) = true := by simpa using c44))
                        (try (have c44b2 : ((t419 == 0) == (decide (x8_2 < a1))) = true := by simpa using c44))
                        clear c44
                        (first | rw [c44b0] | (simp only [i64_w, i32_w]; rw [c44b0]) | skip)
                        by_cases c45 : x8_2 ≥ a1
                        · rw [if_pos c45] at H
                          have c45b0 : decide (a1 ≤ x8_2) = true := decide_eq_true c45
                          clear c45
                          by_cases c46 : t419 = 6
                          · rw [if_pos c46] at H
                            have c46b0 : (t419 == 6) = true := beq_iff_eq.mpr c46
                            have c46b1 : (t419 != 6) = false := bne_eq_false_iff_eq.mpr c46
                            clear c46
                            have H' := Aside0.mk H
                            clear H
                            have hnb47 := NB399_420.out
                            have hnc47 := NB420_399.out
                            have hcz48_0 : w34.cell? ⟨gb399, 0, none⟩ = some (.slice Ao29 x400000_2.length co29) := (blk_cell BK399.out 0).trans rfl
                            have hcz48_1 : w34.cell? ⟨gb399, 1, none⟩ = some (.slice Ao30 x400001_2.length co30) := (blk_cell BK399.out 1).trans rfl
                            have hcz48_2 : w34.cell? ⟨gb399, 2, none⟩ = some (.int .i64 x400002_2) := (blk_cell BK399.out 2).trans rfl
                            have hcz48_3 : w34.cell? ⟨gb399, 3, none⟩ = some (.bool x400003_2) := (blk_cell BK399.out 3).trans rfl
                            have hfz48_0 := blk_frozen BK399.out 0
                            have hfz48_1 := blk_frozen BK399.out 1
                            have hfz48_2 := blk_frozen BK399.out 2
                            have hfz48_3 := blk_frozen BK399.out 3
                            go_wp2
                            go_meet
                            case rel => exact ⟨_, (!t418), (by first | rfl | (simp; done) | (simp [*]; done)), H', ⟨by have := HJ4.out; have := HK2.out; first | omega | exact Nat.le_refl _⟩, ⟨by (with_reducible repeat (first | apply Kd.V_alloc | apply Kd.V_drewN | apply Kd.V_drew)); exact Kd.V_mono (Kd.V_far (p := ⟨gb399, 3, none⟩) (Kd.V_far (p := ⟨gb399, 2, none⟩) (Kd.V_far (p := ⟨gb399, 1, none⟩) (Kd.V_far (p := ⟨gb399, 0, none⟩) (Kd.V_far (p := ⟨gb420, 3, none⟩) (Kd.V_far (p := ⟨gb420, 2, none⟩) (Kd.V_far (p := ⟨gb420, 1, none⟩) (Kd.V_far (p := ⟨gb420, 0, none⟩) (Kd.V_mono (Kd.V_mono HO413.out (fun k_ hk => (⟨hk, hk.2⟩ : _ ∧ k_ ≠ gb420))) (fun k_ hk => (⟨hk, hk.1.1⟩ : _ ∧ k_ ≠ gb399))) (fun _ hk => hk.1.2) (.slice Ao35 t411.length co35)) (fun _ hk => hk.1.2) (.slice Ao37 t414.length co37)) (fun _ hk => hk.1.2) (.int .i64 t417)) (fun _ hk => hk.1.2) (.bool t418)) (fun _ hk => hk.2) (.slice Ao35 t411.length co35)) (fun _ hk => hk.2) (.slice Ao37 t414.length co37)) (fun _ hk => hk.2) (.int .i64 t417)) (fun _ hk => hk.2) (.bool t418)) (fun _ hk => ⟨hk.1.1.1, hk.1.1.2⟩)⟩, ⟨by (with_reducible repeat (first | apply Kd.V_alloc | apply Kd.V_drewN | apply Kd.V_drew)); exact Kd.V_mono (Kd.V_far (p := ⟨gb399, 3, none⟩) (Kd.V_far (p := ⟨gb399, 2, none⟩) (Kd.V_far (p := ⟨gb399, 1, none⟩) (Kd.V_far (p := ⟨gb399, 0, none⟩) (Kd.V_far (p := ⟨gb420, 3, none⟩) (Kd.V_far (p := ⟨gb420, 2, none⟩) (Kd.V_far (p := ⟨gb420, 1, none⟩) (Kd.V_far (p := ⟨gb420, 0, none⟩) (Kd.V_mono (Kd.V_mono HO416.out (fun k_ hk => (⟨hk, hk.2⟩ : _ ∧ k_ ≠ gb420))) (fun k_ hk => (⟨hk, hk.1.1⟩ : _ ∧ k_ ≠ gb399))) (fun _ hk => hk.1.2) (.slice Ao35 t411.length co35)) (fun _ hk => hk.1.2) (.slice Ao37 t414.length co37)) (fun _ hk => hk.1.2) (.int .i64 t417)) (fun _ hk => hk.1.2) (.bool t418)) (fun _ hk => hk.2) (.slice Ao35 t411.length co35)) (fun _ hk => hk.2) (.slice Ao37 t414.length co37)) (fun _ hk => hk.2) (.int .i64 t417)) (fun _ hk => hk.2) (.bool t418)) (fun _ hk => ⟨hk.1.1.1, hk.1.1.2⟩)⟩, ⟨by (with_reducible repeat (first | apply Kd.V_alloc | apply Kd.V_drewN | apply Kd.V_drew)); exact Kd.V_mono (Kd.V_far (p := ⟨gb399, 3, none⟩) (Kd.V_far (p := ⟨gb399, 2, none⟩) (Kd.V_far (p := ⟨gb399, 1, none⟩) (Kd.V_far (p := ⟨gb399, 0, none⟩) (Kd.V_far (p := ⟨gb420, 3, none⟩) (Kd.V_far (p := ⟨gb420, 2, none⟩) (Kd.V_far (p := ⟨gb420, 1, none⟩) (Kd.V_far (p := ⟨gb420, 0, none⟩) (Kd.V_mono (Kd.V_mono HO413.out (fun k_ hk => (⟨hk, hk.2⟩ : _ ∧ k_ ≠ gb420))) (fun k_ hk => (⟨hk, hk.1.1⟩ : _ ∧ k_ ≠ gb399))) (fun _ hk => hk.1.2) (.slice Ao35 t411.length co35)) (fun _ hk => hk.1.2) (.slice Ao37 t414.length co37)) (fun _ hk => hk.1.2) (.int .i64 t417)) (fun _ hk => hk.1.2) (.bool t418)) (fun _ hk => hk.2) (.slice Ao35 t411.length co35)) (fun _ hk => hk.2) (.slice Ao37 t414.length co37)) (fun _ hk => hk.2) (.int .i64 t417)) (fun _ hk => hk.2) (.bool t418)) (fun _ hk => ⟨hk.1.1.1, hk.1.1.2⟩)⟩, ⟨by (with_reducible repeat (first | apply Kd.V_alloc | apply Kd.V_drewN | apply Kd.V_drew)); exact Kd.V_mono (Kd.V_far (p := ⟨gb399, 3, none⟩) (Kd.V_far (p := ⟨gb399, 2, none⟩) (Kd.V_far (p := ⟨gb399, 1, none⟩) (Kd.V_far (p := ⟨gb399, 0, none⟩) (Kd.V_far (p := ⟨gb420, 3, none⟩) (Kd.V_far (p := ⟨gb420, 2, none⟩) (Kd.V_far (p := ⟨gb420, 1, none⟩) (Kd.V_far (p := ⟨gb420, 0, none⟩) (Kd.V_mono (Kd.V_mono HO416.out (fun k_ hk => (⟨hk, hk.2⟩ : _ ∧ k_ ≠ gb420))) (fun k_ hk => (⟨hk, hk.1.1⟩ : _ ∧ k_ ≠ gb399))) (fun _ hk => hk.1.2) (.slice Ao35 t411.length co35)) (fun _ hk => hk.1.2) (.slice Ao37 t414.length co37)) (fun _ hk => hk.1.2) (.int .i64 t417)) (fun _ hk => hk.1.2) (.bool t418)) (fun _ hk => hk.2) (.slice Ao35 t411.length co35)) (fun _ hk => hk.2) (.slice Ao37 t414.length co37)) (fun _ hk => hk.2) (.int .i64 t417)) (fun _ hk => hk.2) (.bool t418)) (fun _ hk => ⟨hk.1.1.1, hk.1.1.2⟩)⟩, ⟨by (with_reducible repeat (first | refine blk_drewN ?_ _ | refine blk_drew ?_ | refine blk_alloc ?_ _)); refine blk_put (cs := #[.slice Ao35 t411.length co35, .slice Ao37 t414.length co37, .int .i64 t417, .bool x400003_2]) ?_ 3 _ rfl; (with_reducible repeat (first | refine blk_drewN ?_ _ | refine blk_drew ?_ | refine blk_alloc ?_ _)); refine blk_put (cs := #[.slice Ao35 t411.length co35, .slice Ao37 t414.length co37, .int .i64 x400002_2, .bool x400003_2]) ?_ 2 _ rfl; (with_reducible repeat (first | refine blk_drewN ?_ _ | refine blk_drew ?_ | refine blk_alloc ?_ _)); refine blk_put (cs := #[.slice Ao35 t411.length co35, .slice Ao30 x400001_2.length co30, .int .i64 x400002_2, .bool x400003_2]) ?_ 1 _ rfl; (with_reducible repeat (first | refine blk_drewN ?_ _ | refine blk_drew ?_ | refine blk_alloc ?_ _)); refine blk_put (cs := #[.slice Ao29 x400000_2.length co29, .slice Ao30 x400001_2.length co30, .int .i64 x400002_2, .bool x400003_2]) ?_ 0 _ rfl; (with_reducible repeat (first | refine blk_drewN ?_ _ | refine blk_drew ?_ | refine blk_alloc ?_ _)); refine blk_far ?_ NB399_420.out _; (with_reducible repeat (first | refine blk_drewN ?_ _ | refine blk_drew ?_ | refine blk_alloc ?_ _)); refine blk_far ?_ NB399_420.out _; (with_reducible repeat (first | refine blk_drewN ?_ _ | refine blk_drew ?_ | refine blk_alloc ?_ _)); refine blk_far ?_ NB399_420.out _; (with_reducible repeat (first | refine blk_drewN ?_ _ | refine blk_drew ?_ | refine blk_alloc ?_ _)); refine blk_far ?_ NB399_420.out _; (with_reducible repeat (first | refine blk_drewN ?_ _ | refine blk_drew ?_ | refine blk_alloc ?_ _)); exact BK399.out⟩, ⟨by (with_reducible repeat (first | refine blk_drewN ?_ _ | refine blk_drew ?_ | refine blk_alloc ?_ _)); refine blk_far ?_ NB420_399.out _; (with_reducible repeat (first | refine blk_drewN ?_ _ | refine blk_drew ?_ | refine blk_alloc ?_ _)); refine blk_far ?_ NB420_399.out _; (with_reducible repeat (first | refine blk_drewN ?_ _ | refine blk_drew ?_ | refine blk_alloc ?_ _)); refine blk_far ?_ NB420_399.out _; (with_reducible repeat (first | refine blk_drewN ?_ _ | refine blk_drew ?_ | refine blk_alloc ?_ _)); refine blk_far ?_ NB420_399.out _; (with_reducible repeat (first | refine blk_drewN ?_ _ | refine blk_drew ?_ | refine blk_alloc ?_ _)); refine blk_put (cs := #[.slice Ao35 t411.length co35, .slice Ao37 t414.length co37, .int .i64 t417, .bool false]) ?_ 3 _ rfl; (with_reducible repeat (first | refine blk_drewN ?_ _ | refine blk_drew ?_ | refine blk_alloc ?_ _)); refine blk_put (cs := #[.slice Ao35 t411.length co35, .slice Ao37 t414.length co37, .int .i64 0, .bool false]) ?_ 2 _ rfl; (with_reducible repeat (first | refine blk_drewN ?_ _ | refine blk_drew ?_ | refine blk_alloc ?_ _)); refine blk_put (cs := #[.slice Ao35 t411.length co35, .slice none 0 0, .int .i64 0, .bool false]) ?_ 1 _ rfl; (with_reducible repeat (first | refine blk_drewN ?_ _ | refine blk_drew ?_ | refine blk_alloc ?_ _)); refine blk_put (cs := #[.slice none 0 0, .slice none 0 0, .int .i64 0, .bool false]) ?_ 0 _ rfl; (with_reducible repeat (first | refine blk_drewN ?_ _ | refine blk_drew ?_ | refine blk_alloc ?_ _)); exact BK420.out⟩, ⟨by repeat (first | (with_reducible first | exact HB.out | apply below_alloc | apply pw_below_drewN | apply below_drew1 | refine below_set ?_ GE399.out | refine below_set ?_ GE420.out) | exact HB.out)⟩⟩
                          · rw [if_neg c46] at H
                            have c46b0 : (t419 == 6) = false := beq_eq_false_iff_ne.mpr c46
                            have c46b1 : (t419 != 6) = true := bne_iff_ne.mpr c46
                            have H' := Aside0.mk H
                            clear H
                            go_wp2
                            go_meet
                            case rel => exact ⟨_, (true), (by first | rfl | (simp; done) | (simp [*]; done)), H', ⟨by have := HJ4.out; have := HK2.out; first | omega | exact Nat.le_refl _⟩, ⟨by (with_reducible repeat (first | apply Kd.V_alloc | apply Kd.V_drewN | apply Kd.V_drew)); exact Kd.V_mono (Kd.V_far (p := ⟨gb399, 3, none⟩) (Kd.V_far (p := ⟨gb399, 2, none⟩) (Kd.V_far (p := ⟨gb399, 1, none⟩) (Kd.V_far (p := ⟨gb399, 0, none⟩) (Kd.V_far (p := ⟨gb420, 3, none⟩) (Kd.V_far (p := ⟨gb420, 2, none⟩) (Kd.V_far (p := ⟨gb420, 1, none⟩) (Kd.V_far (p := ⟨gb420, 0, none⟩) (Kd.V_mono (Kd.V_mono HO413.out (fun k_ hk => (⟨hk, hk.2⟩ : _ ∧ k_ ≠ gb420))) (fun k_ hk => (⟨hk, hk.1.1⟩ : _ ∧ k_ ≠ gb399))) (fun _ hk => hk.1.2) (.slice Ao35 t411.length co35)) (fun _ hk => hk.1.2) (.slice Ao37 t414.length co37)) (fun _ hk => hk.1.2) (.int .i64 t417)) (fun _ hk => hk.1.2) (.bool t418)) (fun _ hk => hk.2) (.slice Ao35 t411.length co35)) (fun _ hk => hk.2) (.slice Ao37 t414.length co37)) (fun _ hk => hk.2) (.int .i64 t417)) (fun _ hk => hk.2) (.bool t418)) (fun _ hk => ⟨hk.1.1.1, hk.1.1.2⟩)⟩, ⟨by (with_reducible repeat (first | apply Kd.V_alloc | apply Kd.V_drewN | apply Kd.V_drew)); exact Kd.V_mono (Kd.V_far (p := ⟨gb399, 3, none⟩) (Kd.V_far (p := ⟨gb399, 2, none⟩) (Kd.V_far (p := ⟨gb399, 1, none⟩) (Kd.V_far (p := ⟨gb399, 0, none⟩) (Kd.V_far (p := ⟨gb420, 3, none⟩) (Kd.V_far (p := ⟨gb420, 2, none⟩) (Kd.V_far (p := ⟨gb420, 1, none⟩) (Kd.V_far (p := ⟨gb420, 0, none⟩) (Kd.V_mono (Kd.V_mono HO416.out (fun k_ hk => (⟨hk, hk.2⟩ : _ ∧ k_ ≠ gb420))) (fun k_ hk => (⟨hk, hk.1.1⟩ : _ ∧ k_ ≠ gb399))) (fun _ hk => hk.1.2) (.slice Ao35 t411.length co35)) (fun _ hk => hk.1.2) (.slice Ao37 t414.length co37)) (fun _ hk => hk.1.2) (.int .i64 t417)) (fun _ hk => hk.1.2) (.bool t418)) (fun _ hk => hk.2) (.slice Ao35 t411.length co35)) (fun _ hk => hk.2) (.slice Ao37 t414.length co37)) (fun _ hk => hk.2) (.int .i64 t417)) (fun _ hk => hk.2) (.bool t418)) (fun _ hk => ⟨hk.1.1.1, hk.1.1.2⟩)⟩, ⟨by (with_reducible repeat (first | apply Kd.V_alloc | apply Kd.V_drewN | apply Kd.V_drew)); exact Kd.V_mono (Kd.V_far (p := ⟨gb399, 3, none⟩) (Kd.V_far (p := ⟨gb399, 2, none⟩) (Kd.V_far (p := ⟨gb399, 1, none⟩) (Kd.V_far (p := ⟨gb399, 0, none⟩) (Kd.V_far (p := ⟨gb420, 3, none⟩) (Kd.V_far (p := ⟨gb420, 2, none⟩) (Kd.V_far (p := ⟨gb420, 1, none⟩) (Kd.V_far (p := ⟨gb420, 0, none⟩) (Kd.V_mono (Kd.V_mono HO413.out (fun k_ hk => (⟨hk, hk.2⟩ : _ ∧ k_ ≠ gb420))) (fun k_ hk => (⟨hk, hk.1.1⟩ : _ ∧ k_ ≠ gb399))) (fun _ hk => hk.1.2) (.slice Ao35 t411.length co35)) (fun _ hk => hk.1.2) (.slice Ao37 t414.length co37)) (fun _ hk => hk.1.2) (.int .i64 t417)) (fun _ hk => hk.1.2) (.bool t418)) (fun _ hk => hk.2) (.slice Ao35 t411.length co35)) (fun _ hk => hk.2) (.slice Ao37 t414.length co37)) (fun _ hk => hk.2) (.int .i64 t417)) (fun _ hk => hk.2) (.bool t418)) (fun _ hk => ⟨hk.1.1.1, hk.1.1.2⟩)⟩, ⟨by (with_reducible repeat (first | apply Kd.V_alloc | apply Kd.V_drewN | apply Kd.V_drew)); exact Kd.V_mono (Kd.V_far (p := ⟨gb399, 3, none⟩) (Kd.V_far (p := ⟨gb399, 2, none⟩) (Kd.V_far (p := ⟨gb399, 1, none⟩) (Kd.V_far (p := ⟨gb399, 0, none⟩) (Kd.V_far (p := ⟨gb420, 3, none⟩) (Kd.V_far (p := ⟨gb420, 2, none⟩) (Kd.V_far (p := ⟨gb420, 1, none⟩) (Kd.V_far (p := ⟨gb420, 0, none⟩) (Kd.V_mono (Kd.V_mono HO416.out (fun k_ hk => (⟨hk, hk.2⟩ : _ ∧ k_ ≠ gb420))) (fun k_ hk => (⟨hk, hk.1.1⟩ : _ ∧ k_ ≠ gb399))) (fun _ hk => hk.1.2) (.slice Ao35 t411.length co35)) (fun _ hk => hk.1.2) (.slice Ao37 t414.length co37)) (fun _ hk => hk.1.2) (.int .i64 t417)) (fun _ hk => hk.1.2) (.bool t418)) (fun _ hk => hk.2) (.slice Ao35 t411.length co35)) (fun _ hk => hk.2) (.slice Ao37 t414.length co37)) (fun _ hk => hk.2) (.int .i64 t417)) (fun _ hk => hk.2) (.bool t418)) (fun _ hk => ⟨hk.1.1.1, hk.1.1.2⟩)⟩, ⟨by (with_reducible repeat (first | refine blk_drewN ?_ _ | refine blk_drew ?_ | refine blk_alloc ?_ _)); refine blk_put (cs := #[.slice Ao35 t411.length co35, .slice Ao37 t414.length co37, .int .i64 t417, .bool x400003_2]) ?_ 3 _ rfl; (with_reducible repeat (first | refine blk_drewN ?_ _ | refine blk_drew ?_ | refine blk_alloc ?_ _)); refine blk_put (cs := #[.slice Ao35 t411.length co35, .slice Ao37 t414.length co37, .int .i64 x400002_2, .bool x400003_2]) ?_ 2 _ rfl; (with_reducible repeat (first | refine blk_drewN ?_ _ | refine blk_drew ?_ | refine blk_alloc ?_ _)); refine blk_put (cs := #[.slice Ao35 t411.length co35, .slice Ao30 x400001_2.length co30, .int .i64 x400002_2, .bool x400003_2]) ?_ 1 _ rfl; (with_reducible repeat (first | refine blk_drewN ?_ _ | refine blk_drew ?_ | refine blk_alloc ?_ _)); refine blk_put (cs := #[.slice Ao29 x400000_2.length co29, .slice Ao30 x400001_2.length co30, .int .i64 x400002_2, .bool x400003_2]) ?_ 0 _ rfl; (with_reducible repeat (first | refine blk_drewN ?_ _ | refine blk_drew ?_ | refine blk_alloc ?_ _)); refine blk_far ?_ NB399_420.out _; (with_reducible repeat (first | refine blk_drewN ?_ _ | refine blk_drew ?_ | refine blk_alloc ?_ _)); refine blk_far ?_ NB399_420.out _; (with_reducible repeat (first | refine blk_drewN ?_ _ | refine blk_drew ?_ | refine blk_alloc ?_ _)); refine blk_far ?_ NB399_420.out _; (with_reducible repeat (first | refine blk_drewN ?_ _ | refine blk_drew ?_ | refine blk_alloc ?_ _)); refine blk_far ?_ NB399_420.out _; (with_reducible repeat (first | refine blk_drewN ?_ _ | refine blk_drew ?_ | refine blk_alloc ?_ _)); exact BK399.out⟩, ⟨by (with_reducible repeat (first | refine blk_drewN ?_ _ | refine blk_drew ?_ | refine blk_alloc ?_ _)); refine blk_far ?_ NB420_399.out _; (with_reducible repeat (first | refine blk_drewN ?_ _ | refine blk_drew ?_ | refine blk_alloc ?_ _)); refine blk_far ?_ NB420_399.out _; (with_reducible repeat (first | refine blk_drewN ?_ _ | refine blk_drew ?_ | refine blk_alloc ?_ _)); refine blk_far ?_ NB420_399.out _; (with_reducible repeat (first | refine blk_drewN ?_ _ | refine blk_drew ?_ | refine blk_alloc ?_ _)); refine blk_far ?_ NB420_399.out _; (with_reducible repeat (first | refine blk_drewN ?_ _ | refine blk_drew ?_ | refine blk_alloc ?_ _)); refine blk_put (cs := #[.slice Ao35 t411.length co35, .slice Ao37 t414.length co37, .int .i64 t417, .bool false]) ?_ 3 _ rfl; (with_reducible repeat (first | refine blk_drewN ?_ _ | refine blk_drew ?_ | refine blk_alloc ?_ _)); refine blk_put (cs := #[.slice Ao35 t411.length co35, .slice Ao37 t414.length co37, .int .i64 0, .bool false]) ?_ 2 _ rfl; (with_reducible repeat (first | refine blk_drewN ?_ _ | refine blk_drew ?_ | refine blk_alloc ?_ _)); refine blk_put (cs := #[.slice Ao35 t411.length co35, .slice none 0 0, .int .i64 0, .bool false]) ?_ 1 _ rfl; (with_reducible repeat (first | refine blk_drewN ?_ _ | refine blk_drew ?_ | refine blk_alloc ?_ _)); refine blk_put (cs := #[.slice none 0 0, .slice none 0 0, .int .i64 0, .bool false]) ?_ 0 _ rfl; (with_reducible repeat (first | refine blk_drewN ?_ _ | refine blk_drew ?_ | refine blk_alloc ?_ _)); exact BK420.out⟩, ⟨by repeat (first | (with_reducible first | exact HB.out | apply below_alloc | apply pw_below_drewN | apply below_drew1 | refine below_set ?_ GE399.out | refine below_set ?_ GE420.out) | exact HB.out)⟩⟩
                        · rw [if_neg c45] at H
                          have c45b0 : decide (a1 ≤ x8_2) = false := decide_eq_false c45
                          clear c45
                          have H' := Aside0.mk H
                          clear H
                          go_wp2
                          go_meet
                          case rel => exact ⟨_, (false), (by first | rfl | (simp; done) | (simp [*]; done)), H', ⟨by have := HJ4.out; have := HK2.out; first | omega | exact Nat.le_refl _⟩, ⟨by (with_reducible repeat (first | apply Kd.V_alloc | apply Kd.V_drewN | apply Kd.V_drew)); exact Kd.V_mono (Kd.V_far (p := ⟨gb399, 3, none⟩) (Kd.V_far (p := ⟨gb399, 2, none⟩) (Kd.V_far (p := ⟨gb399, 1, none⟩) (Kd.V_far (p := ⟨gb399, 0, none⟩) (Kd.V_far (p := ⟨gb420, 3, none⟩) (Kd.V_far (p := ⟨gb420, 2, none⟩) (Kd.V_far (p := ⟨gb420, 1, none⟩) (Kd.V_far (p := ⟨gb420, 0, none⟩) (Kd.V_mono (Kd.V_mono HO413.out (fun k_ hk => (⟨hk, hk.2⟩ : _ ∧ k_ ≠ gb420))) (fun k_ hk => (⟨hk, hk.1.1⟩ : _ ∧ k_ ≠ gb399))) (fun _ hk => hk.1.2) (.slice Ao35 t411.length co35)) (fun _ hk => hk.1.2) (.slice Ao37 t414.length co37)) (fun _ hk => hk.1.2) (.int .i64 t417)) (fun _ hk => hk.1.2) (.bool t418)) (fun _ hk => hk.2) (.slice Ao35 t411.length co35)) (fun _ hk => hk.2) (.slice Ao37 t414.length co37)) (fun _ hk => hk.2) (.int .i64 t417)) (fun _ hk => hk.2) (.bool t418)) (fun _ hk => ⟨hk.1.1.1, hk.1.1.2⟩)⟩, ⟨by (with_reducible repeat (first | apply Kd.V_alloc | apply Kd.V_drewN | apply Kd.V_drew)); exact Kd.V_mono (Kd.V_far (p := ⟨gb399, 3, none⟩) (Kd.V_far (p := ⟨gb399, 2, none⟩) (Kd.V_far (p := ⟨gb399, 1, none⟩) (Kd.V_far (p := ⟨gb399, 0, none⟩) (Kd.V_far (p := ⟨gb420, 3, none⟩) (Kd.V_far (p := ⟨gb420, 2, none⟩) (Kd.V_far (p := ⟨gb420, 1, none⟩) (Kd.V_far (p := ⟨gb420, 0, none⟩) (Kd.V_mono (Kd.V_mono HO416.out (fun k_ hk => (⟨hk, hk.2⟩ : _ ∧ k_ ≠ gb420))) (fun k_ hk => (⟨hk, hk.1.1⟩ : _ ∧ k_ ≠ gb399))) (fun _ hk => hk.1.2) (.slice Ao35 t411.length co35)) (fun _ hk => hk.1.2) (.slice Ao37 t414.length co37)) (fun _ hk => hk.1.2) (.int .i64 t417)) (fun _ hk => hk.1.2) (.bool t418)) (fun _ hk => hk.2) (.slice Ao35 t411.length co35)) (fun _ hk => hk.2) (.slice Ao37 t414.length co37)) (fun _ hk => hk.2) (.int .i64 t417)) (fun _ hk => hk.2) (.bool t418)) (fun _ hk => ⟨hk.1.1.1, hk.1.1.2⟩)⟩, ⟨by (with_reducible repeat (first | apply Kd.V_alloc | apply Kd.V_drewN | apply Kd.V_drew)); exact Kd.V_mono (Kd.V_far (p := ⟨gb399, 3, none⟩) (Kd.V_far (p := ⟨gb399, 2, none⟩) (Kd.V_far (p := ⟨gb399, 1, none⟩) (Kd.V_far (p := ⟨gb399, 0, none⟩) (Kd.V_far (p := ⟨gb420, 3, none⟩) (Kd.V_far (p := ⟨gb420, 2, none⟩) (Kd.V_far (p := ⟨gb420, 1, none⟩) (Kd.V_far (p := ⟨gb420, 0, none⟩) (Kd.V_mono (Kd.V_mono HO413.out (fun k_ hk => (⟨hk, hk.2⟩ : _ ∧ k_ ≠ gb420))) (fun k_ hk => (⟨hk, hk.1.1⟩ : _ ∧ k_ ≠ gb399))) (fun _ hk => hk.1.2) (.slice Ao35 t411.length co35)) (fun _ hk => hk.1.2) (.slice Ao37 t414.length co37)) (fun _ hk => hk.1.2) (.int .i64 t417)) (fun _ hk => hk.1.2) (.bool t418)) (fun _ hk => hk.2) (.slice Ao35 t411.length co35)) (fun _ hk => hk.2) (.slice Ao37 t414.length co37)) (fun _ hk => hk.2) (.int .i64 t417)) (fun _ hk => hk.2) (.bool t418)) (fun _ hk => ⟨hk.1.1.1, hk.1.1.2⟩)⟩, ⟨by (with_reducible repeat (first | apply Kd.V_alloc | apply Kd.V_drewN | apply Kd.V_drew)); exact Kd.V_mono (Kd.V_far (p := ⟨gb399, 3, none⟩) (Kd.V_far (p := ⟨gb399, 2, none⟩) (Kd.V_far (p := ⟨gb399, 1, none⟩) (Kd.V_far (p := ⟨gb399, 0, none⟩) (Kd.V_far (p := ⟨gb420, 3, none⟩) (Kd.V_far (p := ⟨gb420, 2, none⟩) (Kd.V_far (p := ⟨gb420, 1, none⟩) (Kd.V_far (p := ⟨gb420, 0, none⟩) (Kd.V_mono (Kd.V_mono HO416.out (fun k_ hk => (⟨hk, hk.2⟩ : _ ∧ k_ ≠ gb420))) (fun k_ hk => (⟨hk, hk.1.1⟩ : _ ∧ k_ ≠ gb399))) (fun _ hk => hk.1.2) (.slice Ao35 t411.length co35)) (fun _ hk => hk.1.2) (.slice Ao37 t414.length co37)) (fun _ hk => hk.1.2) (.int .i64 t417)) (fun _ hk => hk.1.2) (.bool t418)) (fun _ hk => hk.2) (.slice Ao35 t411.length co35)) (fun _ hk => hk.2) (.slice Ao37 t414.length co37)) (fun _ hk => hk.2) (.int .i64 t417)) (fun _ hk => hk.2) (.bool t418)) (fun _ hk => ⟨hk.1.1.1, hk.1.1.2⟩)⟩, ⟨by (with_reducible repeat (first | refine blk_drewN ?_ _ | refine blk_drew ?_ | refine blk_alloc ?_ _)); refine blk_put (cs := #[.slice Ao35 t411.length co35, .slice Ao37 t414.length co37, .int .i64 t417, .bool x400003_2]) ?_ 3 _ rfl; (with_reducible repeat (first | refine blk_drewN ?_ _ | refine blk_drew ?_ | refine blk_alloc ?_ _)); refine blk_put (cs := #[.slice Ao35 t411.length co35, .slice Ao37 t414.length co37, .int .i64 x400002_2, .bool x400003_2]) ?_ 2 _ rfl; (with_reducible repeat (first | refine blk_drewN ?_ _ | refine blk_drew ?_ | refine blk_alloc ?_ _)); refine blk_put (cs := #[.slice Ao35 t411.length co35, .slice Ao30 x400001_2.length co30, .int .i64 x400002_2, .bool x400003_2]) ?_ 1 _ rfl; (with_reducible repeat (first | refine blk_drewN ?_ _ | refine blk_drew ?_ | refine blk_alloc ?_ _)); refine blk_put (cs := #[.slice Ao29 x400000_2.length co29, .slice Ao30 x400001_2.length co30, .int .i64 x400002_2, .bool x400003_2]) ?_ 0 _ rfl; (with_reducible repeat (first | refine blk_drewN ?_ _ | refine blk_drew ?_ | refine blk_alloc ?_ _)); refine blk_far ?_ NB399_420.out _; (with_reducible repeat (first | refine blk_drewN ?_ _ | refine blk_drew ?_ | refine blk_alloc ?_ _)); refine blk_far ?_ NB399_420.out _; (with_reducible repeat (first | refine blk_drewN ?_ _ | refine blk_drew ?_ | refine blk_alloc ?_ _)); refine blk_far ?_ NB399_420.out _; (with_reducible repeat (first | refine blk_drewN ?_ _ | refine blk_drew ?_ | refine blk_alloc ?_ _)); refine blk_far ?_ NB399_420.out _; (with_reducible repeat (first | refine blk_drewN ?_ _ | refine blk_drew ?_ | refine blk_alloc ?_ _)); exact BK399.out⟩, ⟨by (with_reducible repeat (first | refine blk_drewN ?_ _ | refine blk_drew ?_ | refine blk_alloc ?_ _)); refine blk_far ?_ NB420_399.out _; (with_reducible repeat (first | refine blk_drewN ?_ _ | refine blk_drew ?_ | refine blk_alloc ?_ _)); refine blk_far ?_ NB420_399.out _; (with_reducible repeat (first | refine blk_drewN ?_ _ | refine blk_drew ?_ | refine blk_alloc ?_ _)); refine blk_far ?_ NB420_399.out _; (with_reducible repeat (first | refine blk_drewN ?_ _ | refine blk_drew ?_ | refine blk_alloc ?_ _)); refine blk_far ?_ NB420_399.out _; (with_reducible repeat (first | refine blk_drewN ?_ _ | refine blk_drew ?_ | refine blk_alloc ?_ _)); refine blk_put (cs := #[.slice Ao35 t411.length co35, .slice Ao37 t414.length co37, .int .i64 t417, .bool false]) ?_ 3 _ rfl; (with_reducible repeat (first | refine blk_drewN ?_ _ | refine blk_drew ?_ | refine blk_alloc ?_ _)); refine blk_put (cs := #[.slice Ao35 t411.length co35, .slice Ao37 t414.length co37, .int .i64 0, .bool false]) ?_ 2 _ rfl; (with_reducible repeat (first | refine blk_drewN ?_ _ | refine blk_drew ?_ | refine blk_alloc ?_ _)); refine blk_put (cs := #[.slice Ao35 t411.length co35, .slice none 0 0, .int .i64 0, .bool false]) ?_ 1 _ rfl; (with_reducible repeat (first | refine blk_drewN ?_ _ | refine blk_drew ?_ | refine blk_alloc ?_ _)); refine blk_put (cs := #[.slice none 0 0, .slice none 0 0, .int .i64 0, .bool false]) ?_ 0 _ rfl; (with_reducible repeat (first | refine blk_drewN ?_ _ | refine blk_drew ?_ | refine blk_alloc ?_ _)); exact BK420.out⟩, ⟨by repeat (first | (with_reducible first | exact HB.out | apply below_alloc | apply pw_below_drewN | apply below_drew1 | refine below_set ?_ GE399.out | refine below_set ?_ GE420.out) | exact HB.out)⟩⟩
                    case rest =>
                      clear HC27
                      try clear c1
                      try clear c2
                      try clear p2
                      try clear c4
                      try clear p4
                      try clear q4
                      try clear hx4
                      try clear c10
                      try clear c10b0
                      try clear c10b1
                      try clear c10b2
                      try clear c11
                      try clear c13
                      try clear c20
                      try clear c20b0
                      try clear c21
                      try clear c21b0
                      try clear c22
                      try clear c22b0
                      try clear c22b1
                      try clear c23
                      try clear c23b0
                      try clear c23b1
                      try clear c23b2
                      try clear p40
                      try clear q40
                      try clear hx40
                      try clear c41
                      try clear p41
                      try clear q41
                      try clear hx41
                      try clear c44
                      try clear c44b0
                      try clear c44b1
                      try clear c44b2
                      try clear c45
                      try clear c45b0
                      try clear c46
                      try clear c46b0
                      try clear c46b1
                      try clear c47
                      try clear hcz11_0
                      try clear hcz11_1
                      try clear hcz11_2
                      try clear hcz11_3
                      try clear hcz12_0
                      try clear hcz12_1
                      try clear hcz12_2
                      try clear hcz12_3
                      try clear hcz15_0
                      try clear hcz15_1
                      try clear hcz15_2
                      try clear hcz15_3
                      try clear hcz18_0
                      try clear hcz18_1
                      try clear hcz18_2
                      try clear hcz18_3
                      try clear hcz24_0
                      try clear hcz24_1
                      try clear hcz24_2
                      try clear hcz24_3
                      try clear hcz28_0
                      try clear hcz28_1
                      try clear hcz28_2
                      try clear hcz28_3
                      try clear hcz42_0
                      try clear hcz42_1
                      try clear hcz42_2
                      try clear hcz42_3
                      try clear hcz43_0
                      try clear hcz43_1
                      try clear hcz43_2
                      try clear hcz43_3
                      try clear hcz48_0
                      try clear hcz48_1
                      try clear hcz48_2
                      try clear hcz48_3
                      try clear hcz9_0
                      try clear hcz9_1
                      try clear hcz9_2
                      try clear hcz9_3
                      try clear hfz11_0
                      try clear hfz11_1
                      try clear hfz11_2
                      try clear hfz11_3
                      try clear hfz12_0
                      try clear hfz12_1
                      try clear hfz12_2
                      try clear hfz12_3
                      try clear hfz15_0
                      try clear hfz15_1
                      try clear hfz15_2
                      try clear hfz15_3
                      try clear hfz18_0
                      try clear hfz18_1
                      try clear hfz18_2
                      try clear hfz18_3
                      try clear hfz24_0
                      try clear hfz24_1
                      try clear hfz24_2
                      try clear hfz24_3
                      try clear hfz28_0
                      try clear hfz28_1
                      try clear hfz28_2
                      try clear hfz28_3
                      try clear hfz42_0
                      try clear hfz42_1
                      try clear hfz42_2
                      try clear hfz42_3
                      try clear hfz43_0
                      try clear hfz43_1
                      try clear hfz43_2
                      try clear hfz43_3
                      try clear hfz48_0
                      try clear hfz48_1
                      try clear hfz48_2
                      try clear hfz48_3
                      try clear hfz9_0
                      try clear hfz9_1
                      try clear hfz9_2
                      try clear hfz9_3
                      try clear hx409_0
                      try clear hx410_0
                      try clear p2
                      try clear p409
                      try clear p410
                      try clear q409
                      try clear q410
                      obtain ⟨kq, x79_26, rfl, HA, HJ26, HO_400000, HO_400001, HO_421000, HO_421001, BK399, BK420, HB⟩ := hcut
                      cases kq with
                      | zero => exact absurd HA.out (by simp [hogsheadlaw08_DiskArms.j2])
                      | succ kj26 =>
                        have H := HA.out
                        clear HA
                        simp only [hogsheadlaw08_DiskArms.j2] at H
                        by_cases c49 : x79_26 = true
                        · subst c49
                          have H1 : (some false) = some r := by rw [if_pos rfl] at H; exact H
                          clear H
                          have H := H1
                          clear H1
                          obtain rfl := Option.some.inj H
                          go_wp2
                          go_ret
                          exact ⟨by first | rfl | (simp [errW_none, errW_some] <;> rfl) | (simp [*, errW_none, errW_some] <;> rfl), by repeat (first | (with_reducible first | exact HB.out | apply below_alloc | apply pw_below_drewN | apply below_drew1 | refine below_set ?_ GE399.out | refine below_set ?_ GE420.out) | exact HB.out)⟩
                        · replace c49 := Bool.eq_false_iff.mpr c49
                          subst c49
                          have H1 : (hogsheadlaw08_DiskArms.l0 kj26 a1 l2 t400 (wrap64 (x8_2 + 1)) t411 t414 t417 t418) = some r := by rw [if_neg (show ¬ (false = true) by decide)] at H; exact H
                          clear H
                          have H := H1
                          clear H1
                          have H' := Aside0.mk H
                          clear H
                          go_wp2
                          go_roundg kj26
                          case measure => have := HJ4.out; have := HK2.out; have := HJ26.out; omega
                          case rel => exact ⟨(wrap64 (x8_2 + 1)), (t411), (t414), (t417), (t418), (.slice Ao35 t411.length co35), (.slice Ao37 t414.length co37), (by first | rfl | (simp; done) | (simp [*]; done)), H', ⟨by have := HJ4.out; have := HK2.out; have := HJ26.out; omega⟩, ⟨by (with_reducible repeat (first | apply Kd.V_alloc | apply Kd.V_drewN | apply Kd.V_drew)); exact Kd.V_mono HO_400000.out (fun _ hk => hk.1)⟩, ⟨by (with_reducible repeat (first | apply Kd.V_alloc | apply Kd.V_drewN | apply Kd.V_drew)); exact Kd.V_mono HO_400001.out (fun _ hk => hk.1)⟩, ⟨by (with_reducible repeat (first | refine blk_drewN ?_ _ | refine blk_drew ?_ | refine blk_alloc ?_ _)); exact BK399.out⟩, ⟨by repeat (first | (with_reducible first | exact HB.out | apply below_alloc | apply pw_below_drewN | apply below_drew1 | refine below_set ?_ GE399.out | refine below_set ?_ GE420.out) | exact HB.out)⟩⟩
              · rw [if_neg c21] at H
                exact absurd H (by simp)
            · rw [if_neg c20] at H
              have c20b0 : decide (x8_2 < (l2.length : Int)) = false := decide_eq_false c20
              clear c20
              obtain rfl := Option.some.inj H
              go_wp2
              go_ret
              exact ⟨by first | rfl | (simp [errW_none, errW_some] <;> rfl) | (simp [*, errW_none, errW_some] <;> rfl), by repeat (first | (with_reducible first | exact HB.out | apply below_alloc | apply pw_below_drewN | apply below_drew1 | refine below_set ?_ GE399.out) | exact HB.out)⟩

end Go.Proofs.Ytmaojfeikbdkhaa.PAll
