/- Functions of the program as plain Lean functions, and that each call comes to what they say. Laid by a program of this session (hprint.py); Lean checks it. -/
import Derived.Test.YtffjbbedjddpmaaPAllx0
import Derived.Test.YtffjbbedjddpmaaPAllx13
import Derived.Test.YtffjbbedjddpmaaPAllx17
import Derived.Test.YtffjbbedjddpmaaPAllx19
import Derived.Test.YtffjbbedjddpmaaPAllx45
import Derived.Test.YtffjbbedjddpmaaPAllx46
namespace Go.Proofs.Ytffjbbedjddpmaa.PAll
open Go.RowKit Go.Proofs.YtffjbbedjddpmaaW.PrintWords Go.Proofs.YtffjbbedjddpmaaW.PrintLast Go.Proofs.YtffjbbedjddpmaaW.PrintMore
attribute [local go_sem] max2_int min2_int max_two min_two max_three min_three max_four min_four   -- for this text's walks alone
set_option linter.unusedVariables false
set_option linter.unusedSimpArgs false
attribute [local irreducible] World.setCell

/-! ### hogsheadlaw10_ShelfLasts: function 6 -/
mutual
def hogsheadlaw10_ShelfLasts.j0 : Nat → List (S43) → Int → Int → Bool → Int → Bool → List ByteArray → List (S94) → Int → Bool → Int → Int → ByteArray → Int → Int → Option (Bool)
 | 0, _, _, _, _, _, _, _, _, _, _, _, _, _, _, _ => none
 | k + 1, x5, x6, x7, x8, x13, x60, x440000, x440001, x440002, x440003, x441000, x441001, x441002, x443000, x443001 => if x60 = true then (some false) else (if x13 = 0 then (hogsheadlaw10_ShelfLasts.l0 k x5 x6 x7 x8 0 x440000 x440001 x440002 x440003 x441000 x441001 x441002 x443000 x443001) else (some x8))
def hogsheadlaw10_ShelfLasts.l0 : Nat → List (S43) → Int → Int → Bool → Int → List ByteArray → List (S94) → Int → Bool → Int → Int → ByteArray → Int → Int → Option (Bool)
 | 0, _, _, _, _, _, _, _, _, _, _, _, _, _, _ => none
 | k + 1, x5, x6, x7, x8, x14, x440000, x440001, x440002, x440003, x441000, x441001, x441002, x443000, x443001 => if x14 < (x5.length : Int) then (if 0 ≤ x14 then ((shelf_Put.f k x440000 x440001 x440002 x440003 ((rd_T43 x5 x14).f0) ((rd_T43 x5 x14).f1) ((rd_T43 x5 x14).f2)).bind fun bt464 => (hogsheadlaw10_ShelfLasts.l0 k x5 x6 x7 x8 (wrap64 (x14 + 1)) bt464.1 bt464.2.1 bt464.2.2.1 bt464.2.2.2.1 x441000 x441001 x441002 x443000 x443001)) else (none)) else ((hogsheadref08_Crash.f k x440000 x440001 x440002 x440003 x6 x7).bind fun bt473 => ((shelf_Find.f k bt473.1 bt473.2.1 bt473.2.2.1 bt473.2.2.2 x443000 x443001).bind fun bt481 => (if x8 = true then (if bt481.1.toList = x441002.toList then (hogsheadlaw10_ShelfLasts.j2 k (bt481.2 == 0)) else (hogsheadlaw10_ShelfLasts.j2 k false)) else (hogsheadlaw10_ShelfLasts.j2 k false))))
def hogsheadlaw10_ShelfLasts.j2 : Nat → Bool → Option (Bool)
 | 0, _ => none
 | k + 1, x2 => some x2
end
def hogsheadlaw10_ShelfLasts.f (k : Nat) (l0_0 : List ByteArray) (l0_1 : List (S94)) (a0_2 : Int) (a0_3 : Bool) (a0_4 : Int) (a0_5 : Int) (a0_6 : ByteArray) (l0_7 : List (S43)) (a0_8 : Int) (a0_9 : Int) : Option (Bool) := (hogsheadlaw10_shown.f k).bind fun t441 => ((shelf_Put.f k l0_0 l0_1 a0_2 a0_3 a0_4 a0_5 a0_6).bind fun bt443 => (if bt443.2.2.2.2 = 0 then ((shelf_Find.f k bt443.1 bt443.2.1 bt443.2.2.1 bt443.2.2.2.1 a0_4 a0_5).bind fun bt452 => ((hogsheadref08_Flush.f k bt443.1 bt443.2.1 bt443.2.2.1 bt443.2.2.2.1).bind fun bt454 => (if bt452.1.toList = a0_6.toList then (hogsheadlaw10_ShelfLasts.j0 k l0_7 a0_8 a0_9 t441 bt454.2.2.2.2 (bt452.2 != 0) bt454.1 bt454.2.1 bt454.2.2.1 bt454.2.2.2.1 a0_4 a0_5 a0_6 a0_4 a0_5) else (hogsheadlaw10_ShelfLasts.j0 k l0_7 a0_8 a0_9 t441 bt454.2.2.2.2 true bt454.1 bt454.2.1 bt454.2.2.1 bt454.2.2.2.1 a0_4 a0_5 a0_6 a0_4 a0_5)))) else (some t441)))
theorem hogsheadlaw10_ShelfLasts.mono_l : ∀ k, (∀ y0 y1 y2 y3 y4 y5 y6 y7 y8 y9 y10 y11 y12 y13 y14, LeO (hogsheadlaw10_ShelfLasts.j0 k y0 y1 y2 y3 y4 y5 y6 y7 y8 y9 y10 y11 y12 y13 y14) (hogsheadlaw10_ShelfLasts.j0 (k + 1) y0 y1 y2 y3 y4 y5 y6 y7 y8 y9 y10 y11 y12 y13 y14)) ∧ (∀ y0 y1 y2 y3 y4 y5 y6 y7 y8 y9 y10 y11 y12 y13, LeO (hogsheadlaw10_ShelfLasts.l0 k y0 y1 y2 y3 y4 y5 y6 y7 y8 y9 y10 y11 y12 y13) (hogsheadlaw10_ShelfLasts.l0 (k + 1) y0 y1 y2 y3 y4 y5 y6 y7 y8 y9 y10 y11 y12 y13)) ∧ (∀ y0, LeO (hogsheadlaw10_ShelfLasts.j2 k y0) (hogsheadlaw10_ShelfLasts.j2 (k + 1) y0))
 | 0 => ⟨fun _ _ _ _ _ _ _ _ _ _ _ _ _ _ _ r h => by simp [hogsheadlaw10_ShelfLasts.j0] at h, fun _ _ _ _ _ _ _ _ _ _ _ _ _ _ r h => by simp [hogsheadlaw10_ShelfLasts.l0] at h, fun _ r h => by simp [hogsheadlaw10_ShelfLasts.j2] at h⟩
 | k + 1 => by
  obtain ⟨ih0, ih1, ih2⟩ := hogsheadlaw10_ShelfLasts.mono_l k
  refine ⟨?_, ?_, ?_⟩
  ·intro y0 y1 y2 y3 y4 y5 y6 y7 y8 y9 y10 y11 y12 y13 y14
   unfold hogsheadlaw10_ShelfLasts.j0
   repeat' first
   | (with_reducible exact ih0 _ _ _ _ _ _ _ _ _ _ _ _ _ _ _)
   | (with_reducible exact ih1 _ _ _ _ _ _ _ _ _ _ _ _ _ _)
   | (with_reducible exact ih2 _)
   | (with_reducible exact hogsheadlaw10_shown.mono _)
   | (with_reducible exact hogsheadref08_Crash.mono _ _ _ _ _ _ _)
   | (with_reducible exact hogsheadref08_Flush.mono _ _ _ _ _)
   | (with_reducible exact shelf_Find.mono _ _ _ _ _ _ _)
   | (with_reducible exact shelf_Put.mono _ _ _ _ _ _ _ _)
   | (with_reducible exact LeO.refl _)
   | (with_reducible exact LeO.none _)
   | (with_reducible refine LeO.ite ?_ ?_)
   | (with_reducible refine LeO.bind ?_ (fun _ => ?_))
   | exact ih0 _ _ _ _ _ _ _ _ _ _ _ _ _ _ _
   | exact ih1 _ _ _ _ _ _ _ _ _ _ _ _ _ _
   | exact ih2 _
   | exact hogsheadlaw10_shown.mono _
   | exact hogsheadref08_Crash.mono _ _ _ _ _ _ _
   | exact hogsheadref08_Flush.mono _ _ _ _ _
   | exact shelf_Find.mono _ _ _ _ _ _ _
   | exact shelf_Put.mono _ _ _ _ _ _ _ _
   | exact LeO.none _
   | refine LeO.ite ?_ ?_
   | refine LeO.bind ?_ (fun _ => ?_)
  ·intro y0 y1 y2 y3 y4 y5 y6 y7 y8 y9 y10 y11 y12 y13
   unfold hogsheadlaw10_ShelfLasts.l0
   repeat' first
   | (with_reducible exact ih0 _ _ _ _ _ _ _ _ _ _ _ _ _ _ _)
   | (with_reducible exact ih1 _ _ _ _ _ _ _ _ _ _ _ _ _ _)
   | (with_reducible exact ih2 _)
   | (with_reducible exact hogsheadlaw10_shown.mono _)
   | (with_reducible exact hogsheadref08_Crash.mono _ _ _ _ _ _ _)
   | (with_reducible exact hogsheadref08_Flush.mono _ _ _ _ _)
   | (with_reducible exact shelf_Find.mono _ _ _ _ _ _ _)
   | (with_reducible exact shelf_Put.mono _ _ _ _ _ _ _ _)
   | (with_reducible exact LeO.refl _)
   | (with_reducible exact LeO.none _)
   | (with_reducible refine LeO.ite ?_ ?_)
   | (with_reducible refine LeO.bind ?_ (fun _ => ?_))
   | exact ih0 _ _ _ _ _ _ _ _ _ _ _ _ _ _ _
   | exact ih1 _ _ _ _ _ _ _ _ _ _ _ _ _ _
   | exact ih2 _
   | exact hogsheadlaw10_shown.mono _
   | exact hogsheadref08_Crash.mono _ _ _ _ _ _ _
   | exact hogsheadref08_Flush.mono _ _ _ _ _
   | exact shelf_Find.mono _ _ _ _ _ _ _
   | exact shelf_Put.mono _ _ _ _ _ _ _ _
   | exact LeO.none _
   | refine LeO.ite ?_ ?_
   | refine LeO.bind ?_ (fun _ => ?_)
  ·intro y0
   unfold hogsheadlaw10_ShelfLasts.j2
   repeat' first
   | (with_reducible exact ih0 _ _ _ _ _ _ _ _ _ _ _ _ _ _ _)
   | (with_reducible exact ih1 _ _ _ _ _ _ _ _ _ _ _ _ _ _)
   | (with_reducible exact ih2 _)
   | (with_reducible exact hogsheadlaw10_shown.mono _)
   | (with_reducible exact hogsheadref08_Crash.mono _ _ _ _ _ _ _)
   | (with_reducible exact hogsheadref08_Flush.mono _ _ _ _ _)
   | (with_reducible exact shelf_Find.mono _ _ _ _ _ _ _)
   | (with_reducible exact shelf_Put.mono _ _ _ _ _ _ _ _)
   | (with_reducible exact LeO.refl _)
   | (with_reducible exact LeO.none _)
   | (with_reducible refine LeO.ite ?_ ?_)
   | (with_reducible refine LeO.bind ?_ (fun _ => ?_))
   | exact ih0 _ _ _ _ _ _ _ _ _ _ _ _ _ _ _
   | exact ih1 _ _ _ _ _ _ _ _ _ _ _ _ _ _
   | exact ih2 _
   | exact hogsheadlaw10_shown.mono _
   | exact hogsheadref08_Crash.mono _ _ _ _ _ _ _
   | exact hogsheadref08_Flush.mono _ _ _ _ _
   | exact shelf_Find.mono _ _ _ _ _ _ _
   | exact shelf_Put.mono _ _ _ _ _ _ _ _
   | exact LeO.none _
   | refine LeO.ite ?_ ?_
   | refine LeO.bind ?_ (fun _ => ?_)
theorem hogsheadlaw10_ShelfLasts.mono : ∀ a0 a1 a2 a3 a4 a5 a6 a7 a8 a9 k, LeO (hogsheadlaw10_ShelfLasts.f k a0 a1 a2 a3 a4 a5 a6 a7 a8 a9) (hogsheadlaw10_ShelfLasts.f (k + 1) a0 a1 a2 a3 a4 a5 a6 a7 a8 a9) := by
 intro a0 a1 a2 a3 a4 a5 a6 a7 a8 a9 k
 obtain ⟨ih0, ih1, ih2⟩ := hogsheadlaw10_ShelfLasts.mono_l k
 unfold hogsheadlaw10_ShelfLasts.f
 repeat' first
   | (with_reducible exact ih0 _ _ _ _ _ _ _ _ _ _ _ _ _ _ _)
   | (with_reducible exact ih1 _ _ _ _ _ _ _ _ _ _ _ _ _ _)
   | (with_reducible exact ih2 _)
   | (with_reducible exact hogsheadlaw10_shown.mono _)
   | (with_reducible exact hogsheadref08_Crash.mono _ _ _ _ _ _ _)
   | (with_reducible exact hogsheadref08_Flush.mono _ _ _ _ _)
   | (with_reducible exact shelf_Find.mono _ _ _ _ _ _ _)
   | (with_reducible exact shelf_Put.mono _ _ _ _ _ _ _ _)
   | (with_reducible exact LeO.refl _)
   | (with_reducible exact LeO.none _)
   | (with_reducible refine LeO.ite ?_ ?_)
   | (with_reducible refine LeO.bind ?_ (fun _ => ?_))
   | exact ih0 _ _ _ _ _ _ _ _ _ _ _ _ _ _ _
   | exact ih1 _ _ _ _ _ _ _ _ _ _ _ _ _ _
   | exact ih2 _
   | exact hogsheadlaw10_shown.mono _
   | exact hogsheadref08_Crash.mono _ _ _ _ _ _ _
   | exact hogsheadref08_Flush.mono _ _ _ _ _
   | exact shelf_Find.mono _ _ _ _ _ _ _
   | exact shelf_Put.mono _ _ _ _ _ _ _ _
   | exact LeO.none _
   | refine LeO.ite ?_ ?_
   | refine LeO.bind ?_ (fun _ => ?_)
def hogsheadlaw10_ShelfLasts.T20 : Bool × List (List Nat × List Nat) := (true, [([], []), ([], []), ([], []), ([1, 2], [1, 2]), ([3], [3]), ([0, 4], [0, 4]), ([5], [5]), ([6], [6]), ([6], [6]), ([7, 5, 0, 1, 2, 3, 4, 5, 6, 7], [7])])
def hogsheadlaw10_ShelfLasts.B20 : List Nat := [0, 0, 0, 6, 14, 31, 63, 127, 127, 255]
theorem hogsheadlaw10_ShelfLasts.tab20 : rtab .any (opsOf Try.f6 20) = hogsheadlaw10_ShelfLasts.T20 := by kernel_rfl
theorem hogsheadlaw10_ShelfLasts.bits20 : waitsOk hogsheadlaw10_ShelfLasts.T20.2 hogsheadlaw10_ShelfLasts.B20 = true := by kernel_rfl
def hogsheadlaw10_ShelfLasts.T21 : Bool × List (List Nat × List Nat) := (true, [([], []), ([], []), ([], []), ([0, 1, 2], [0, 1, 2]), ([], []), ([3, 4, 3], [3, 4]), ([5], [5]), ([6], [6]), ([6], [6]), ([7, 5, 0, 1, 2, 3, 4, 5, 6, 7], [7]), ([8, 9, 0, 1, 2, 3, 4, 5, 6, 7, 8, 9], [8])])
def hogsheadlaw10_ShelfLasts.B21 : List Nat := [0, 0, 0, 7, 0, 31, 63, 127, 127, 255, 1023]
theorem hogsheadlaw10_ShelfLasts.tab21 : rtab .any (opsOf Try.f6 21) = hogsheadlaw10_ShelfLasts.T21 := by kernel_rfl
theorem hogsheadlaw10_ShelfLasts.bits21 : waitsOk hogsheadlaw10_ShelfLasts.T21.2 hogsheadlaw10_ShelfLasts.B21 = true := by kernel_rfl
set_option maxHeartbeats 40000000 in
set_option maxRecDepth 100000 in
theorem hogsheadlaw10_ShelfLasts.calls (k : Nat) (A0_0 : Option Addr) (c0_0 : Nat) (l0_0 : List ByteArray) (A0_1 : Option Addr) (c0_1 : Nat) (l0_1 : List (S94)) (a0_2 : Int) (a0_3 : Bool) (a0_4 : Int) (a0_5 : Int) (a0_6 : ByteArray) (A0_7 : Option Addr) (c0_7 : Nat) (l0_7 : List (S43)) (a0_8 : Int) (a0_9 : Int) (r : Bool) (w : World) (hr0_0 : Kd.C Kd.string w A0_0 l0_0.length l0_0) (hc0_0 : l0_0.length ≤ c0_0) (hr0_1 : Kd.C k94 w A0_1 l0_1.length l0_1) (hc0_1 : l0_1.length ≤ c0_1) (hr0_7 : Kd.C k43 w A0_7 l0_7.length l0_7) (hc0_7 : l0_7.length ≤ c0_7) (h : hogsheadlaw10_ShelfLasts.f k l0_0 l0_1 a0_2 a0_3 a0_4 a0_5 a0_6 l0_7 a0_8 a0_9 = some r) :
  Calls Try.prog 6 #[.agg #[.slice A0_0 l0_0.length c0_0, .slice A0_1 l0_1.length c0_1, .int .i64 a0_2, .bool a0_3, .int .i64 a0_4, .int .i64 a0_5, .string a0_6, .slice A0_7 l0_7.length c0_7, .int .i64 a0_8, .int .i64 a0_9]] w fun e w' => e = .returned (.bool r) ∧ Below w.heap.size w w' := by
 have hu57 := Try.underlying57
 have hu25 := Try.underlying25
 have hu43 := Try.underlying43
 have hu27 := Try.underlying27
 have HR0_0 := qM hr0_0
 have HC0_0 := qM hc0_0
 clear hr0_0 hc0_0
 have HR0_1 := qM hr0_1
 have HC0_1 := qM hc0_1
 clear hr0_1 hc0_1
 have HR0_7 := qM hr0_7
 have HC0_7 := qM hc0_7
 clear hr0_7 hc0_7
 have HB := qM (Below.refl w.heap.size w)
 have H : ((hogsheadlaw10_shown.f k).bind fun t441 => ((shelf_Put.f k l0_0 l0_1 a0_2 a0_3 a0_4 a0_5 a0_6).bind fun bt443 => (if bt443.2.2.2.2 = 0 then ((shelf_Find.f k bt443.1 bt443.2.1 bt443.2.2.1 bt443.2.2.2.1 a0_4 a0_5).bind fun bt452 => ((hogsheadref08_Flush.f k bt443.1 bt443.2.1 bt443.2.2.1 bt443.2.2.2.1).bind fun bt454 => (if bt452.1.toList = a0_6.toList then (hogsheadlaw10_ShelfLasts.j0 k l0_7 a0_8 a0_9 t441 bt454.2.2.2.2 (bt452.2 != 0) bt454.1 bt454.2.1 bt454.2.2.1 bt454.2.2.2.1 a0_4 a0_5 a0_6 a0_4 a0_5) else (hogsheadlaw10_ShelfLasts.j0 k l0_7 a0_8 a0_9 t441 bt454.2.2.2.2 true bt454.1 bt454.2.1 bt454.2.2.1 bt454.2.2.2.1 a0_4 a0_5 a0_6 a0_4 a0_5)))) else (some t441)))) = some r := h
 clear h
 replace H := Option.bind_eq_some_iff.mp H
 obtain ⟨t441, A20, H⟩ := H
 replace H : ((shelf_Put.f k l0_0 l0_1 a0_2 a0_3 a0_4 a0_5 a0_6).bind fun bt443 => (if bt443.2.2.2.2 = 0 then ((shelf_Find.f k bt443.1 bt443.2.1 bt443.2.2.1 bt443.2.2.2.1 a0_4 a0_5).bind fun bt452 => ((hogsheadref08_Flush.f k bt443.1 bt443.2.1 bt443.2.2.1 bt443.2.2.2.1).bind fun bt454 => (if bt452.1.toList = a0_6.toList then (hogsheadlaw10_ShelfLasts.j0 k l0_7 a0_8 a0_9 t441 bt454.2.2.2.2 (bt452.2 != 0) bt454.1 bt454.2.1 bt454.2.2.1 bt454.2.2.2.1 a0_4 a0_5 a0_6 a0_4 a0_5) else (hogsheadlaw10_ShelfLasts.j0 k l0_7 a0_8 a0_9 t441 bt454.2.2.2.2 true bt454.1 bt454.2.1 bt454.2.2.1 bt454.2.2.2.1 a0_4 a0_5 a0_6 a0_4 a0_5)))) else (some t441))) = some r := H
 have A2 := qM A20
 clear A20
 replace H := Option.bind_eq_some_iff.mp H
 obtain ⟨⟨t443, t446, t449, t450, t451⟩, A30, H⟩ := H
 replace H : (if t451 = 0 then ((shelf_Find.f k t443 t446 t449 t450 a0_4 a0_5).bind fun bt452 => ((hogsheadref08_Flush.f k t443 t446 t449 t450).bind fun bt454 => (if bt452.1.toList = a0_6.toList then (hogsheadlaw10_ShelfLasts.j0 k l0_7 a0_8 a0_9 t441 bt454.2.2.2.2 (bt452.2 != 0) bt454.1 bt454.2.1 bt454.2.2.1 bt454.2.2.2.1 a0_4 a0_5 a0_6 a0_4 a0_5) else (hogsheadlaw10_ShelfLasts.j0 k l0_7 a0_8 a0_9 t441 bt454.2.2.2.2 true bt454.1 bt454.2.1 bt454.2.2.1 bt454.2.2.2.1 a0_4 a0_5 a0_6 a0_4 a0_5)))) else (some t441)) = some r := H
 have A3 := qM A30
 clear A30
 by_cases c4 : t451 = 0
 ·rw [if_pos c4] at H
  have c4b0 : (t451 == 0) = true := beq_iff_eq.mpr c4
  have c4b1 : (t451 != 0) = false := bne_eq_false_iff_eq.mpr c4
  clear c4
  replace H := Option.bind_eq_some_iff.mp H
  obtain ⟨⟨t452, t453⟩, A50, H⟩ := H
  replace H : ((hogsheadref08_Flush.f k t443 t446 t449 t450).bind fun bt454 => (if t452.toList = a0_6.toList then (hogsheadlaw10_ShelfLasts.j0 k l0_7 a0_8 a0_9 t441 bt454.2.2.2.2 (t453 != 0) bt454.1 bt454.2.1 bt454.2.2.1 bt454.2.2.2.1 a0_4 a0_5 a0_6 a0_4 a0_5) else (hogsheadlaw10_ShelfLasts.j0 k l0_7 a0_8 a0_9 t441 bt454.2.2.2.2 true bt454.1 bt454.2.1 bt454.2.2.1 bt454.2.2.2.1 a0_4 a0_5 a0_6 a0_4 a0_5))) = some r := H
  have A5 := qM A50
  clear A50
  replace H := Option.bind_eq_some_iff.mp H
  obtain ⟨⟨t454, t457, t460, t461, t462⟩, A60, H⟩ := H
  replace H : (if t452.toList = a0_6.toList then (hogsheadlaw10_ShelfLasts.j0 k l0_7 a0_8 a0_9 t441 t462 (t453 != 0) t454 t457 t460 t461 a0_4 a0_5 a0_6 a0_4 a0_5) else (hogsheadlaw10_ShelfLasts.j0 k l0_7 a0_8 a0_9 t441 t462 true t454 t457 t460 t461 a0_4 a0_5 a0_6 a0_4 a0_5)) = some r := H
  have A6 := qM A60
  clear A60
  have HC7 := qM H
  clear H
  go_enter Try.func6, Try.ntmps6
  go_upto_region 13 with (first | ((with_reducible refine gate_dst (N := 1) rfl ?_); refine box_event ?hg (N := 1) ?hd (cs := #[.slice A0_0 l0_0.length c0_0, .slice A0_1 l0_1.length c0_1, .int .i64 a0_2, .bool a0_3, .int .i64 a0_4, .int .i64 a0_5, .string a0_6, .slice A0_7 l0_7.length c0_7, .int .i64 a0_8, .int .i64 a0_9]) (t := 57) ?hr ?_; (case hd => rfl); (case hg => rfl); (case hr => first | (go_simp; done) | (go_simp; rfl)); intro g438 hg w8 hbox hb; have n0_ := qM (eT (by repeat (first | (with_reducible first | exact HB.out | apply eA | apply eN | apply eD) | exact HB.out)) hb); have n1_ := qM (hbox); have n2_ := qM ((by rw [hg]; exact (eZ (by repeat (first | (with_reducible first | exact HB.out | apply eA | apply eN | apply eD) | exact HB.out))) : w.heap.size ≤ g438)); have n3_ := n2_; clear HB; have HB := n0_; have B438 := n1_; have GW438 := n2_; have GE438 := n3_; clear n0_ n1_ n2_ n3_; clear hb hbox hg; obtain ⟨z9_0, z9_1, z9_2, z9_3, z9_4, z9_5, z9_6, z9_7, z9_8, z9_9, f9_0, f9_1, f9_2, f9_3, f9_4, f9_5, f9_6, f9_7, f9_8, f9_9⟩ := cells10 B438.out) | ((with_reducible refine gate_dst (N := 3) rfl ?_); refine box_event ?hg (N := 3) ?hd (cs := #[.slice none 0 0, .slice none 0 0, .int .i64 0, .bool false]) (t := 25) ?hr ?_; (case hd => rfl); (case hg => rfl); (case hr => first | (go_simp; done) | (go_simp; rfl)); intro g439 hg w10 hbox hb; have n0_ := qM (qB (g := g438) (by (with_reducible repeat first | refine qN ?_ _ | refine qD ?_ | refine qA ?_ _); exact B438.out) hb); have n1_ := qM (eT (by repeat (first | (with_reducible first | exact HB.out | apply eA | apply eN | apply eD | refine eU ?_ (by assumption)) | exact HB.out)) hb); have n2_ := qM (hbox); have n3_ := qM ((by rw [hg]; exact (eZ (by repeat (first | (with_reducible first | exact HB.out | apply eA | apply eN | apply eD | refine eU ?_ (by assumption)) | exact HB.out))) : w.heap.size ≤ g439)); have n4_ := n3_; have n5_ := qM ((by rw [hg]; exact Nat.ne_of_lt (qL (g := g438) (by (with_reducible repeat first | refine qN ?_ _ | refine qD ?_ | refine qA ?_ _); exact B438.out)) : g438 ≠ g439)); have n6_ := qM (Ne.symm n5_.out); clear B438 HB; have B438 := n0_; have HB := n1_; have B439 := n2_; have GW439 := n3_; have GE439 := n4_; have NB438_439 := n5_; have NB439_438 := n6_; clear n0_ n1_ n2_ n3_ n4_ n5_ n6_; clear hb hbox hg; have hnb11 := NB439_438.out; have hnc11 := NB438_439.out; obtain ⟨z12_0, z12_1, z12_2, z12_3, f12_0, f12_1, f12_2, f12_3⟩ := cells4 B439.out; obtain ⟨z13_0, z13_1, z13_2, z13_3, z13_4, z13_5, z13_6, z13_7, z13_8, z13_9, f13_0, f13_1, f13_2, f13_3, f13_4, f13_5, f13_6, f13_7, f13_8, f13_9⟩ := cells10 B438.out) | ((with_reducible refine gate_dst (N := 4) rfl ?_); refine box_event ?hg (N := 4) ?hd (cs := #[.int .i64 0, .int .i64 0, .string (⟨#[]⟩ : ByteArray)]) (t := 43) ?hr ?_; (case hd => rfl); (case hg => rfl); (case hr => first | (go_simp; done) | (go_simp; rfl)); intro g440 hg w14 hbox hb; have n0_ := qM (qB (g := g438) (o := .cells #[.slice A0_0 l0_0.length c0_0, .slice A0_1 l0_1.length c0_1, .int .i64 a0_2, .bool a0_3, .int .i64 a0_4, .int .i64 a0_5, .string a0_6, .slice A0_7 l0_7.length c0_7, .int .i64 a0_8, .int .i64 a0_9] 57 (0, 0)) (by (with_reducible repeat first | refine qN ?_ _ | refine qD ?_ | refine qA ?_ _); (iterate 4 (refine qR ?_ NB438_439.out _; (with_reducible repeat first | refine qN ?_ _ | refine qD ?_ | refine qA ?_ _))); exact B438.out) hb); have n1_ := qM (qB (g := g439) (by (with_reducible repeat first | refine qN ?_ _ | refine qD ?_ | refine qA ?_ _); apply puts4; (with_reducible repeat first | refine qN ?_ _ | refine qD ?_ | refine qA ?_ _); exact B439.out) hb); have n2_ := qM (eT (by repeat (first | (with_reducible first | exact HB.out | apply eA | apply eN | apply eD | refine eU ?_ (by assumption)) | exact HB.out)) hb); have n3_ := qM (hbox); have n4_ := qM ((by rw [hg]; exact (eZ (by repeat (first | (with_reducible first | exact HB.out | apply eA | apply eN | apply eD | refine eU ?_ (by assumption)) | exact HB.out))) : w.heap.size ≤ g440)); have n5_ := n4_; have n6_ := qM ((by rw [hg]; exact Nat.ne_of_lt (by (with_reducible repeat first | refine Nat.lt_of_lt_of_le ?_ ((Below.refl 0 _).setCell (Nat.zero_le _) _).size | refine Nat.lt_of_lt_of_le ?_ ((Below.refl 0 _).alloc (Nat.zero_le _) _).size); exact qL B438.out) : g438 ≠ g440)); have n7_ := qM ((by rw [hg]; exact Nat.ne_of_gt (by (with_reducible repeat first | refine Nat.lt_of_lt_of_le ?_ ((Below.refl 0 _).setCell (Nat.zero_le _) _).size | refine Nat.lt_of_lt_of_le ?_ ((Below.refl 0 _).alloc (Nat.zero_le _) _).size); exact qL B438.out) : g440 ≠ g438)); have n8_ := qM ((by rw [hg]; exact Nat.ne_of_lt (qL (g := g439) (by (with_reducible repeat first | refine qN ?_ _ | refine qD ?_ | refine qA ?_ _); apply puts4; (with_reducible repeat first | refine qN ?_ _ | refine qD ?_ | refine qA ?_ _); exact B439.out)) : g439 ≠ g440)); have n9_ := qM ((by rw [hg]; exact Nat.ne_of_gt (qL (g := g439) (by (with_reducible repeat first | refine qN ?_ _ | refine qD ?_ | refine qA ?_ _); apply puts4; (with_reducible repeat first | refine qN ?_ _ | refine qD ?_ | refine qA ?_ _); exact B439.out)) : g440 ≠ g439)); clear B438 B439 HB; have B438 := n0_; have B439 := n1_; have HB := n2_; have B440 := n3_; have GW440 := n4_; have GE440 := n5_; have NB438_440 := n6_; have NB440_438 := n7_; have NB439_440 := n8_; have NB440_439 := n9_; clear n0_ n1_ n2_ n3_ n4_ n5_ n6_ n7_ n8_ n9_; clear hb hbox hg; have hnb15 := NB440_438.out; have hnc15 := NB438_440.out; have hnb16 := NB440_439.out; have hnc16 := NB439_440.out; obtain ⟨z17_0, z17_1, z17_2, f17_0, f17_1, f17_2⟩ := cells3 B440.out; obtain ⟨z18_0, z18_1, z18_2, z18_3, z18_4, z18_5, z18_6, z18_7, z18_8, z18_9, f18_0, f18_1, f18_2, f18_3, f18_4, f18_5, f18_6, f18_7, f18_8, f18_9⟩ := cells10 B438.out) | ((with_reducible refine gate_callee (f := 11) rfl ?_); refine goesL_ (some 27) rfl rfl Try.func11 (by kernel_rfl) rfl #[] rfl (by (try simp only [List.map_toArray, List.map_cons, List.map_nil]); first | done | rfl | (simp only [List.length_drop, List.length_take]; rfl)) ?_; (with_reducible refine (hogsheadlaw10_shown.calls k  t441 _ A2.out).mono ?_); rintro e w19 ⟨rfl, hb⟩; refine ⟨_, rfl, ?_⟩; have n0_ := qM (qB (g := g438) (o := .cells #[.slice A0_0 l0_0.length c0_0, .slice A0_1 l0_1.length c0_1, .int .i64 a0_2, .bool a0_3, .int .i64 a0_4, .int .i64 a0_5, .string a0_6, .slice A0_7 l0_7.length c0_7, .int .i64 a0_8, .int .i64 a0_9] 57 (0, 0)) (by (with_reducible repeat first | refine qN ?_ _ | refine qD ?_ | refine qA ?_ _); (iterate 3 (refine qR ?_ NB438_440.out _; (with_reducible repeat first | refine qN ?_ _ | refine qD ?_ | refine qA ?_ _))); exact B438.out) hb); have n1_ := qM (qB (g := g439) (o := .cells #[.slice A0_0 l0_0.length c0_0, .slice A0_1 l0_1.length c0_1, .int .i64 a0_2, .bool a0_3] 25 (0, 0)) (by (with_reducible repeat first | refine qN ?_ _ | refine qD ?_ | refine qA ?_ _); (iterate 3 (refine qR ?_ NB439_440.out _; (with_reducible repeat first | refine qN ?_ _ | refine qD ?_ | refine qA ?_ _))); exact B439.out) hb); have n2_ := qM (qB (g := g440) (by (with_reducible repeat first | refine qN ?_ _ | refine qD ?_ | refine qA ?_ _); apply puts3; (with_reducible repeat first | refine qN ?_ _ | refine qD ?_ | refine qA ?_ _); exact B440.out) hb); have n3_ := qM (eT (by repeat (first | (with_reducible first | exact HB.out | apply eA | apply eN | apply eD | refine eU ?_ (by assumption)) | exact HB.out)) hb); clear B438 B439 B440 HB; have B438 := n0_; have B439 := n1_; have B440 := n2_; have HB := n3_; clear n0_ n1_ n2_ n3_; (try clear hb); (try clear hb2); (try clear hk); (try clear hi); obtain ⟨z20_0, z20_1, z20_2, f20_0, f20_1, f20_2⟩ := cells3 B440.out) | ((with_reducible refine gate_dst (N := 9) rfl ?_); refine box_event ?hg (N := 9) ?hd (cs := #[.int .i64 0, .int .i64 0]) (t := 27) ?hr ?_; (case hd => rfl); (case hg => rfl); (case hr => first | (go_simp; done) | (go_simp; rfl)); intro g442 hg w21 hbox hb; have n0_ := qM (qB (g := g438) (by (with_reducible repeat first | refine qN ?_ _ | refine qD ?_ | refine qA ?_ _); exact B438.out) hb); have n1_ := qM (qB (g := g439) (by (with_reducible repeat first | refine qN ?_ _ | refine qD ?_ | refine qA ?_ _); exact B439.out) hb); have n2_ := qM (qB (g := g440) (by (with_reducible repeat first | refine qN ?_ _ | refine qD ?_ | refine qA ?_ _); exact B440.out) hb); have n3_ := qM (eT (by repeat (first | (with_reducible first | exact HB.out | apply eA | apply eN | apply eD | refine eU ?_ (by assumption)) | exact HB.out)) hb); have n4_ := qM (hbox); have n5_ := qM ((by rw [hg]; exact (eZ (by repeat (first | (with_reducible first | exact HB.out | apply eA | apply eN | apply eD | refine eU ?_ (by assumption)) | exact HB.out))) : w.heap.size ≤ g442)); have n6_ := n5_; have n7_ := qM ((by rw [hg]; exact Nat.ne_of_lt (qL (g := g438) (by (with_reducible repeat first | refine qN ?_ _ | refine qD ?_ | refine qA ?_ _); exact B438.out)) : g438 ≠ g442)); have n8_ := qM (Ne.symm n7_.out); have n9_ := qM ((by rw [hg]; exact Nat.ne_of_lt (qL (g := g439) (by (with_reducible repeat first | refine qN ?_ _ | refine qD ?_ | refine qA ?_ _); exact B439.out)) : g439 ≠ g442)); have n10_ := qM (Ne.symm n9_.out); have n11_ := qM ((by rw [hg]; exact Nat.ne_of_lt (qL (g := g440) (by (with_reducible repeat first | refine qN ?_ _ | refine qD ?_ | refine qA ?_ _); exact B440.out)) : g440 ≠ g442)); have n12_ := qM (Ne.symm n11_.out); clear B438 B439 B440 HB; have B438 := n0_; have B439 := n1_; have B440 := n2_; have HB := n3_; have B442 := n4_; have GW442 := n5_; have GE442 := n6_; have NB438_442 := n7_; have NB442_438 := n8_; have NB439_442 := n9_; have NB442_439 := n10_; have NB440_442 := n11_; have NB442_440 := n12_; clear n0_ n1_ n2_ n3_ n4_ n5_ n6_ n7_ n8_ n9_ n10_ n11_ n12_; clear hb hbox hg; have hnb22 := NB442_438.out; have hnc22 := NB438_442.out; have hnb23 := NB442_439.out; have hnc23 := NB439_442.out; have hnb24 := NB442_440.out; have hnc24 := NB440_442.out; have z25_0 : w21.cell? ⟨g442, 0, none⟩ = some (.int .i64 0) := (qC B442.out 0).trans rfl; have z25_1 : w21.cell? ⟨g442, 1, none⟩ = some (.int .i64 0) := (qC B442.out 1).trans rfl; have f25_0 := qF B442.out 0; have f25_1 := qF B442.out 1) | ((with_reducible refine gate_store (t := 27) (p := 9) rfl ?_); refine store_event (t := 27) (p := 9) (v := ?vo_w26) (w1 := ((w21.setCell ⟨g442, 0, none⟩ (.int .i64 a0_4)).setCell ⟨g442, 1, none⟩ (.int .i64 a0_5))) ?hg ?ho ?hn ?hr ?_; (case ho => rfl); (case hg => rfl); (case hn => rfl); (case hr => first | (go_simp; done) | (go_simp; rfl)); intro w26 hw; have n0_ : Aside0 (w26.heap[g438]? = some (.cells #[.slice A0_0 l0_0.length c0_0, .slice A0_1 l0_1.length c0_1, .int .i64 a0_2, .bool a0_3, .int .i64 a0_4, .int .i64 a0_5, .string a0_6, .slice A0_7 l0_7.length c0_7, .int .i64 a0_8, .int .i64 a0_9] 57 (0, 0))) := ⟨(by rw [hw]; exact (by (with_reducible repeat first | refine qN ?_ _ | refine qD ?_ | refine qA ?_ _); (iterate 2 (refine qR ?_ NB438_442.out _; (with_reducible repeat first | refine qN ?_ _ | refine qD ?_ | refine qA ?_ _))); exact B438.out))⟩; have n1_ : Aside0 (w26.heap[g439]? = some (.cells #[.slice A0_0 l0_0.length c0_0, .slice A0_1 l0_1.length c0_1, .int .i64 a0_2, .bool a0_3] 25 (0, 0))) := ⟨(by rw [hw]; exact (by (with_reducible repeat first | refine qN ?_ _ | refine qD ?_ | refine qA ?_ _); (iterate 2 (refine qR ?_ NB439_442.out _; (with_reducible repeat first | refine qN ?_ _ | refine qD ?_ | refine qA ?_ _))); exact B439.out))⟩; have n2_ : Aside0 (w26.heap[g440]? = some (.cells #[.int .i64 a0_4, .int .i64 a0_5, .string a0_6] 43 (0, 0))) := ⟨(by rw [hw]; exact (by (with_reducible repeat first | refine qN ?_ _ | refine qD ?_ | refine qA ?_ _); (iterate 2 (refine qR ?_ NB440_442.out _; (with_reducible repeat first | refine qN ?_ _ | refine qD ?_ | refine qA ?_ _))); exact B440.out))⟩; have n3_ : Aside0 (w26.heap[g442]? = some (.cells #[.int .i64 a0_4, .int .i64 a0_5] 27 (0, 0))) := ⟨(by rw [hw]; exact (by (with_reducible repeat first | refine qN ?_ _ | refine qD ?_ | refine qA ?_ _); refine qP (cs := #[.int .i64 a0_4, .int .i64 0]) ?_ 1 _ rfl; (with_reducible repeat first | refine qN ?_ _ | refine qD ?_ | refine qA ?_ _); refine qP (cs := #[.int .i64 0, .int .i64 0]) ?_ 0 _ rfl; (with_reducible repeat first | refine qN ?_ _ | refine qD ?_ | refine qA ?_ _); exact B442.out))⟩; have n4_ : Aside0 (Below w.heap.size w w26) := ⟨(by rw [hw]; exact (by repeat (first | (with_reducible first | exact HB.out | apply eA | apply eN | apply eD | refine eU ?_ (by assumption)) | exact HB.out)))⟩; clear hw B438 B439 B440 B442 HB; have B438 := n0_; have B439 := n1_; have B440 := n2_; have B442 := n3_; have HB := n4_; clear n0_ n1_ n2_ n3_ n4_; obtain ⟨z27_0, z27_1, z27_2, z27_3, f27_0, f27_1, f27_2, f27_3⟩ := cells4 B439.out; obtain ⟨z28_0, z28_1, z28_2, f28_0, f28_1, f28_2⟩ := cells3 B440.out) | ((with_reducible refine gate_callee (f := 22) rfl ?_); refine goesL_ (some 36) rfl rfl Try.func22 (by kernel_rfl) rfl #[.agg #[.slice A0_0 l0_0.length c0_0, .slice A0_1 l0_1.length c0_1, .int .i64 a0_2, .bool a0_3], .agg #[.int .i64 a0_4, .int .i64 a0_5, .string a0_6]] rfl (by (try simp only [List.map_toArray, List.map_cons, List.map_nil]); first | done | rfl | (simp only [List.length_drop, List.length_take]; rfl)) ?_; (with_reducible refine (shelf_Put.calls k (fun k_ => k_ < w.heap.size) _ _ l0_0 (fun k_ => k_ < w.heap.size) _ _ l0_1 a0_2 a0_3 a0_4 a0_5 a0_6 t443 t446 t449 t450 t451 _ ?side1 ?side2 A3.out).mono ?_); (case side1 => exact Kd.V_mk HC0_0.out (Kd.F_below (Kd.C_F Kd.heap_string HR0_0.out) (by repeat (first | (with_reducible first | exact HB.out | apply eA | apply eN | apply eD | refine eU ?_ (by assumption)) | exact HB.out)))); (case side2 => exact Kd.V_mk HC0_1.out (Kd.F_below (Kd.C_F k94_heap HR0_1.out) (by repeat (first | (with_reducible first | exact HB.out | apply eA | apply eN | apply eD | refine eU ?_ (by assumption)) | exact HB.out)))); rintro e w29 ⟨v444, v447, rfl, ho0, ho1, hb⟩; refine ⟨_, rfl, ?_⟩; have n0_ := qM (Vl (Vm (ok' := fun k_ => k_ ≠ g438 ∧ k_ ≠ g439 ∧ k_ ≠ g440 ∧ k_ ≠ g442) ho0 (fun k_ hk_ => ⟨Or.elim hk_ (fun hs_ => Or.elim hs_ (nL GW438) (nL GW438)) (fun hn_ => (Fb (g := g438) (by (with_reducible repeat first | refine qN ?_ _ | refine qD ?_ | refine qA ?_ _); exact B438.out) k_ hn_)), Or.elim hk_ (fun hs_ => Or.elim hs_ (nL GW439) (nL GW439)) (fun hn_ => (Fb (g := g439) (by (with_reducible repeat first | refine qN ?_ _ | refine qD ?_ | refine qA ?_ _); exact B439.out) k_ hn_)), Or.elim hk_ (fun hs_ => Or.elim hs_ (nL GW440) (nL GW440)) (fun hn_ => (Fb (g := g440) (by (with_reducible repeat first | refine qN ?_ _ | refine qD ?_ | refine qA ?_ _); exact B440.out) k_ hn_)), Or.elim hk_ (fun hs_ => Or.elim hs_ (nL GW442) (nL GW442)) (fun hn_ => (Fb (g := g442) (by (with_reducible repeat first | refine qN ?_ _ | refine qD ?_ | refine qA ?_ _); exact B442.out) k_ hn_))⟩)) (eZ (by repeat (first | (with_reducible first | exact HB.out | apply eA | apply eN | apply eD | refine eU ?_ (by assumption)) | exact HB.out)))); have n1_ := qM (Vl (Vm (ok' := fun k_ => k_ ≠ g438 ∧ k_ ≠ g439 ∧ k_ ≠ g440 ∧ k_ ≠ g442) ho1 (fun k_ hk_ => ⟨Or.elim hk_ (fun hs_ => Or.elim hs_ (nL GW438) (nL GW438)) (fun hn_ => (Fb (g := g438) (by (with_reducible repeat first | refine qN ?_ _ | refine qD ?_ | refine qA ?_ _); exact B438.out) k_ hn_)), Or.elim hk_ (fun hs_ => Or.elim hs_ (nL GW439) (nL GW439)) (fun hn_ => (Fb (g := g439) (by (with_reducible repeat first | refine qN ?_ _ | refine qD ?_ | refine qA ?_ _); exact B439.out) k_ hn_)), Or.elim hk_ (fun hs_ => Or.elim hs_ (nL GW440) (nL GW440)) (fun hn_ => (Fb (g := g440) (by (with_reducible repeat first | refine qN ?_ _ | refine qD ?_ | refine qA ?_ _); exact B440.out) k_ hn_)), Or.elim hk_ (fun hs_ => Or.elim hs_ (nL GW442) (nL GW442)) (fun hn_ => (Fb (g := g442) (by (with_reducible repeat first | refine qN ?_ _ | refine qD ?_ | refine qA ?_ _); exact B442.out) k_ hn_))⟩)) (eZ (by repeat (first | (with_reducible first | exact HB.out | apply eA | apply eN | apply eD | refine eU ?_ (by assumption)) | exact HB.out)))); have n2_ := qM (qB (g := g438) (by (with_reducible repeat first | refine qN ?_ _ | refine qD ?_ | refine qA ?_ _); exact B438.out) hb); have n3_ := qM (qB (g := g439) (by (with_reducible repeat first | refine qN ?_ _ | refine qD ?_ | refine qA ?_ _); exact B439.out) hb); have n4_ := qM (qB (g := g440) (by (with_reducible repeat first | refine qN ?_ _ | refine qD ?_ | refine qA ?_ _); exact B440.out) hb); have n5_ := qM (qB (g := g442) (by (with_reducible repeat first | refine qN ?_ _ | refine qD ?_ | refine qA ?_ _); exact B442.out) hb); have n6_ := qM (eT (by repeat (first | (with_reducible first | exact HB.out | apply eA | apply eN | apply eD | refine eU ?_ (by assumption)) | exact HB.out)) hb); clear B438 B439 B440 B442 HB; have HO445 := n0_; have HO448 := n1_; have B438 := n2_; have B439 := n3_; have B440 := n4_; have B442 := n5_; have HB := n6_; clear n0_ n1_ n2_ n3_ n4_ n5_ n6_; (try clear hb); (try clear hb2); (try clear hk); (try clear hi); (try clear ho0); (try clear ho1); obtain ⟨Ao30, co30, eo30⟩ := Kd.V_slice HO445.out; subst eo30; obtain ⟨z31_0, z31_1, z31_2, z31_3, f31_0, f31_1, f31_2, f31_3⟩ := cells4 B439.out; obtain ⟨Ao32, co32, eo32⟩ := Kd.V_slice HO448.out; subst eo32; have z33_0 : w29.cell? ⟨g442, 0, none⟩ = some (.int .i64 a0_4) := (qC B442.out 0).trans rfl; have z33_1 : w29.cell? ⟨g442, 1, none⟩ = some (.int .i64 a0_5) := (qC B442.out 1).trans rfl; have f33_0 := qF B442.out 0; have f33_1 := qF B442.out 1) | ((with_reducible refine gate_callee (f := 18) rfl ?_); refine goesL_ (some 45) rfl rfl Try.func18 (by kernel_rfl) rfl #[.agg #[.slice Ao30 t443.length co30, .slice Ao32 t446.length co32, .int .i64 t449, .bool t450], .agg #[.int .i64 a0_4, .int .i64 a0_5]] rfl (by (try simp only [List.map_toArray, List.map_cons, List.map_nil]); first | done | rfl | (simp only [List.length_drop, List.length_take]; rfl)) ?_; (with_reducible refine (shelf_Find.calls k _ _ t443 _ _ t446 t449 t450 a0_4 a0_5 t452 t453 _ ?side1 ?side2 ?side3 ?side4 A5.out).mono ?_); (case side1 => refine (Kd.V_reads' (e := 9) (base := w.heap.size) (ok := fun k_ => (k_ ≠ g438 ∧ (k_ ≠ g439 ∧ (k_ ≠ g440 ∧ k_ ≠ g442)))) (n := t443.length) (c := co30) ?_).2.2; exact (by (with_reducible repeat first | apply VA | apply VN | apply VD); exact (Vm (Vf (p := ⟨g439, 3, none⟩) (Vf (p := ⟨g439, 2, none⟩) (Vf (p := ⟨g439, 1, none⟩) (Vf (p := ⟨g439, 0, none⟩) (Vm HO445.out (fun k_ hk => (⟨hk, hk.2.1⟩ : _ ∧ k_ ≠ g439))) (fun _ hk => hk.2) (.slice Ao30 t443.length co30)) (fun _ hk => hk.2) (.slice Ao32 t446.length co32)) (fun _ hk => hk.2) (.int .i64 t449)) (fun _ hk => hk.2) (.bool t450)) (fun _ h_ => h_.1)))); (case side2 => exact (Kd.V_reads' HO445.out).2.1); (case side3 => refine (Kd.V_reads' (e := 94) (base := w.heap.size) (ok := fun k_ => (k_ ≠ g438 ∧ (k_ ≠ g439 ∧ (k_ ≠ g440 ∧ k_ ≠ g442)))) (n := t446.length) (c := co32) ?_).2.2; exact (by (with_reducible repeat first | apply VA | apply VN | apply VD); exact (Vm (Vf (p := ⟨g439, 3, none⟩) (Vf (p := ⟨g439, 2, none⟩) (Vf (p := ⟨g439, 1, none⟩) (Vf (p := ⟨g439, 0, none⟩) (Vm HO448.out (fun k_ hk => (⟨hk, hk.2.1⟩ : _ ∧ k_ ≠ g439))) (fun _ hk => hk.2) (.slice Ao30 t443.length co30)) (fun _ hk => hk.2) (.slice Ao32 t446.length co32)) (fun _ hk => hk.2) (.int .i64 t449)) (fun _ hk => hk.2) (.bool t450)) (fun _ h_ => h_.1)))); (case side4 => exact (Kd.V_reads' HO448.out).2.1); rintro e w34 ⟨rfl, hb⟩; refine ⟨_, rfl, ?_⟩; have n0_ := qM (Vb (by (with_reducible repeat first | apply VA | apply VN | apply VD); exact (Vm (Vf (p := ⟨g439, 3, none⟩) (Vf (p := ⟨g439, 2, none⟩) (Vf (p := ⟨g439, 1, none⟩) (Vf (p := ⟨g439, 0, none⟩) (Vm HO445.out (fun k_ hk => (⟨hk, hk.2.1⟩ : _ ∧ k_ ≠ g439))) (fun _ hk => hk.2) (.slice Ao30 t443.length co30)) (fun _ hk => hk.2) (.slice Ao32 t446.length co32)) (fun _ hk => hk.2) (.int .i64 t449)) (fun _ hk => hk.2) (.bool t450)) (fun _ h_ => h_.1))) hb); have n1_ := qM (Vb (by (with_reducible repeat first | apply VA | apply VN | apply VD); exact (Vm (Vf (p := ⟨g439, 3, none⟩) (Vf (p := ⟨g439, 2, none⟩) (Vf (p := ⟨g439, 1, none⟩) (Vf (p := ⟨g439, 0, none⟩) (Vm HO448.out (fun k_ hk => (⟨hk, hk.2.1⟩ : _ ∧ k_ ≠ g439))) (fun _ hk => hk.2) (.slice Ao30 t443.length co30)) (fun _ hk => hk.2) (.slice Ao32 t446.length co32)) (fun _ hk => hk.2) (.int .i64 t449)) (fun _ hk => hk.2) (.bool t450)) (fun _ h_ => h_.1))) hb); have n2_ := qM (qB (g := g438) (o := .cells #[.slice A0_0 l0_0.length c0_0, .slice A0_1 l0_1.length c0_1, .int .i64 a0_2, .bool a0_3, .int .i64 a0_4, .int .i64 a0_5, .string a0_6, .slice A0_7 l0_7.length c0_7, .int .i64 a0_8, .int .i64 a0_9] 57 (0, 0)) (by (with_reducible repeat first | refine qN ?_ _ | refine qD ?_ | refine qA ?_ _); (iterate 4 (refine qR ?_ NB438_439.out _; (with_reducible repeat first | refine qN ?_ _ | refine qD ?_ | refine qA ?_ _))); exact B438.out) hb); have n3_ := qM (qB (g := g439) (by (with_reducible repeat first | refine qN ?_ _ | refine qD ?_ | refine qA ?_ _); apply puts4; (with_reducible repeat first | refine qN ?_ _ | refine qD ?_ | refine qA ?_ _); exact B439.out) hb); have n4_ := qM (qB (g := g440) (o := .cells #[.int .i64 a0_4, .int .i64 a0_5, .string a0_6] 43 (0, 0)) (by (with_reducible repeat first | refine qN ?_ _ | refine qD ?_ | refine qA ?_ _); (iterate 4 (refine qR ?_ NB440_439.out _; (with_reducible repeat first | refine qN ?_ _ | refine qD ?_ | refine qA ?_ _))); exact B440.out) hb); have n5_ := qM (qB (g := g442) (o := .cells #[.int .i64 a0_4, .int .i64 a0_5] 27 (0, 0)) (by (with_reducible repeat first | refine qN ?_ _ | refine qD ?_ | refine qA ?_ _); (iterate 4 (refine qR ?_ NB442_439.out _; (with_reducible repeat first | refine qN ?_ _ | refine qD ?_ | refine qA ?_ _))); exact B442.out) hb); have n6_ := qM (eT (by repeat (first | (with_reducible first | exact HB.out | apply eA | apply eN | apply eD | refine eU ?_ (by assumption)) | exact HB.out)) hb); clear HO445 HO448 B438 B439 B440 B442 HB; have HO445 := n0_; have HO448 := n1_; have B438 := n2_; have B439 := n3_; have B440 := n4_; have B442 := n5_; have HB := n6_; clear n0_ n1_ n2_ n3_ n4_ n5_ n6_; (try clear hb); (try clear hb2); (try clear hk); (try clear hi); obtain ⟨z35_0, z35_1, z35_2, z35_3, f35_0, f35_1, f35_2, f35_3⟩ := cells4 B439.out) | ((with_reducible refine gate_callee (f := 29) rfl ?_); refine goesL_ (some 50) rfl rfl Try.func29 (by kernel_rfl) rfl #[.agg #[.slice Ao30 t443.length co30, .slice Ao32 t446.length co32, .int .i64 t449, .bool t450]] rfl (by (try simp only [List.map_toArray, List.map_cons, List.map_nil]); first | done | rfl | (simp only [List.length_drop, List.length_take]; rfl)) ?_; (with_reducible refine (hogsheadref08_Flush.calls k (fun k_ => (k_ ≠ g438 ∧ (k_ ≠ g439 ∧ (k_ ≠ g440 ∧ k_ ≠ g442)))) _ _ t443 (fun k_ => (k_ ≠ g438 ∧ (k_ ≠ g439 ∧ (k_ ≠ g440 ∧ k_ ≠ g442)))) _ _ t446 t449 t450 t454 t457 t460 t461 t462 _ ?side1 ?side2 A6.out).mono ?_); (case side1 => exact HO445.out); (case side2 => exact HO448.out); rintro e w36 ⟨v455, v458, rfl, ho0, ho1, hb⟩; refine ⟨_, rfl, ?_⟩; have n0_ := qM (Vb (by (with_reducible repeat first | apply VA | apply VN | apply VD); exact HO445.out) hb); have n1_ := qM (Vb (by (with_reducible repeat first | apply VA | apply VN | apply VD); exact HO448.out) hb); have n2_ := qM (Vl (Vm (ok' := fun k_ => k_ ≠ g438 ∧ k_ ≠ g439 ∧ k_ ≠ g440 ∧ k_ ≠ g442) ho0 (fun k_ hk_ => ⟨Or.elim hk_ (fun hs_ => Or.elim hs_ (fun hs_ => hs_.1) (fun hs_ => hs_.1)) (fun hn_ => (Fb (g := g438) (by (with_reducible repeat first | refine qN ?_ _ | refine qD ?_ | refine qA ?_ _); exact B438.out) k_ hn_)), Or.elim hk_ (fun hs_ => Or.elim hs_ (fun hs_ => hs_.2.1) (fun hs_ => hs_.2.1)) (fun hn_ => (Fb (g := g439) (by (with_reducible repeat first | refine qN ?_ _ | refine qD ?_ | refine qA ?_ _); exact B439.out) k_ hn_)), Or.elim hk_ (fun hs_ => Or.elim hs_ (fun hs_ => hs_.2.2.1) (fun hs_ => hs_.2.2.1)) (fun hn_ => (Fb (g := g440) (by (with_reducible repeat first | refine qN ?_ _ | refine qD ?_ | refine qA ?_ _); exact B440.out) k_ hn_)), Or.elim hk_ (fun hs_ => Or.elim hs_ (fun hs_ => hs_.2.2.2) (fun hs_ => hs_.2.2.2)) (fun hn_ => (Fb (g := g442) (by (with_reducible repeat first | refine qN ?_ _ | refine qD ?_ | refine qA ?_ _); exact B442.out) k_ hn_))⟩)) (eZ (by repeat (first | (with_reducible first | exact HB.out | apply eA | apply eN | apply eD | refine eU ?_ (by assumption)) | exact HB.out)))); have n3_ := qM (Vl (Vm (ok' := fun k_ => k_ ≠ g438 ∧ k_ ≠ g439 ∧ k_ ≠ g440 ∧ k_ ≠ g442) ho1 (fun k_ hk_ => ⟨Or.elim hk_ (fun hs_ => Or.elim hs_ (fun hs_ => hs_.1) (fun hs_ => hs_.1)) (fun hn_ => (Fb (g := g438) (by (with_reducible repeat first | refine qN ?_ _ | refine qD ?_ | refine qA ?_ _); exact B438.out) k_ hn_)), Or.elim hk_ (fun hs_ => Or.elim hs_ (fun hs_ => hs_.2.1) (fun hs_ => hs_.2.1)) (fun hn_ => (Fb (g := g439) (by (with_reducible repeat first | refine qN ?_ _ | refine qD ?_ | refine qA ?_ _); exact B439.out) k_ hn_)), Or.elim hk_ (fun hs_ => Or.elim hs_ (fun hs_ => hs_.2.2.1) (fun hs_ => hs_.2.2.1)) (fun hn_ => (Fb (g := g440) (by (with_reducible repeat first | refine qN ?_ _ | refine qD ?_ | refine qA ?_ _); exact B440.out) k_ hn_)), Or.elim hk_ (fun hs_ => Or.elim hs_ (fun hs_ => hs_.2.2.2) (fun hs_ => hs_.2.2.2)) (fun hn_ => (Fb (g := g442) (by (with_reducible repeat first | refine qN ?_ _ | refine qD ?_ | refine qA ?_ _); exact B442.out) k_ hn_))⟩)) (eZ (by repeat (first | (with_reducible first | exact HB.out | apply eA | apply eN | apply eD | refine eU ?_ (by assumption)) | exact HB.out)))); have n4_ := qM (qB (g := g438) (by (with_reducible repeat first | refine qN ?_ _ | refine qD ?_ | refine qA ?_ _); exact B438.out) hb); have n5_ := qM (qB (g := g439) (by (with_reducible repeat first | refine qN ?_ _ | refine qD ?_ | refine qA ?_ _); exact B439.out) hb); have n6_ := qM (qB (g := g440) (by (with_reducible repeat first | refine qN ?_ _ | refine qD ?_ | refine qA ?_ _); exact B440.out) hb); have n7_ := qM (qB (g := g442) (by (with_reducible repeat first | refine qN ?_ _ | refine qD ?_ | refine qA ?_ _); exact B442.out) hb); have n8_ := qM (eT (by repeat (first | (with_reducible first | exact HB.out | apply eA | apply eN | apply eD | refine eU ?_ (by assumption)) | exact HB.out)) hb); clear HO445 HO448 B438 B439 B440 B442 HB; have HO445 := n0_; have HO448 := n1_; have HO456 := n2_; have HO459 := n3_; have B438 := n4_; have B439 := n5_; have B440 := n6_; have B442 := n7_; have HB := n8_; clear n0_ n1_ n2_ n3_ n4_ n5_ n6_ n7_ n8_; (try clear hb); (try clear hb2); (try clear hk); (try clear hi); (try clear ho0); (try clear ho1); obtain ⟨Ao37, co37, eo37⟩ := Kd.V_slice HO456.out; subst eo37; obtain ⟨z38_0, z38_1, z38_2, z38_3, f38_0, f38_1, f38_2, f38_3⟩ := cells4 B439.out; obtain ⟨Ao39, co39, eo39⟩ := Kd.V_slice HO459.out; subst eo39))
  (try simp only [Act.put, List.setIfInBounds_toArray, List.set_cons_zero, List.set_cons_succ])
  go_cut [60] (fun v60 wc => ∃ (kq : Nat) (x60_6 : Bool), v60 = .bool x60_6 ∧ Aside0 (hogsheadlaw10_ShelfLasts.j0 kq l0_7 a0_8 a0_9 t441 t462 x60_6 t454 t457 t460 t461 a0_4 a0_5 a0_6 a0_4 a0_5 = some r) ∧ Aside0 (kq ≤ k) ∧ Aside0 (Kd.V Kd.string 9 wc w.heap.size (fun k_ => k_ ≠ g438 ∧ k_ ≠ g439 ∧ k_ ≠ g440 ∧ k_ ≠ g442) (.slice Ao37 t454.length co37) t454) ∧ Aside0 (Kd.V k94 94 wc w.heap.size (fun k_ => k_ ≠ g438 ∧ k_ ≠ g439 ∧ k_ ≠ g440 ∧ k_ ≠ g442) (.slice Ao39 t457.length co39) t457) ∧ Aside0 (wc.heap[g438]? = some (.cells #[(.slice A0_0 l0_0.length c0_0), (.slice A0_1 l0_1.length c0_1), .int .i64 a0_2, .bool a0_3, .int .i64 a0_4, .int .i64 a0_5, .string a0_6, (.slice A0_7 l0_7.length c0_7), .int .i64 a0_8, .int .i64 a0_9] 57 (0, 0))) ∧ Aside0 (wc.heap[g439]? = some (.cells #[(.slice Ao37 t454.length co37), (.slice Ao39 t457.length co39), .int .i64 t460, .bool t461] 25 (0, 0))) ∧ Aside0 (wc.heap[g440]? = some (.cells #[.int .i64 a0_4, .int .i64 a0_5, .string a0_6] 43 (0, 0))) ∧ Aside0 (wc.heap[g442]? = some (.cells #[.int .i64 a0_4, .int .i64 a0_5] 27 (0, 0))) ∧ Aside0 (Below w.heap.size w wc))
  case first =>
   have H := HC7.out
   clear HC7
   by_cases c40 : t452.toList = a0_6.toList
   ·rw [if_pos c40] at H
    have c40b0 : (t452.toList == a0_6.toList) = true := beq_iff_eq.mpr c40
    have c40b1 : (t452.toList != a0_6.toList) = false := bne_eq_false_iff_eq.mpr c40
    clear c40
    (first | rw [c40b0] | (simp only [i64_w, i32_w]; rw [c40b0]) | skip)
    have H' := qM H
    clear H
    have hnb41 := NB440_438.out
    have hnc41 := NB438_440.out
    have hnb42 := NB440_439.out
    have hnc42 := NB439_440.out
    have hnb43 := NB440_442.out
    have hnc43 := NB442_440.out
    obtain ⟨z44_0, z44_1, z44_2, f44_0, f44_1, f44_2⟩ := cells3 B440.out
    go_wp2
    go_meet
    case rel => exact ⟨_, ((t453 != 0)), (by first | rfl | (simp; done) | (simp [*]; done)), H', ⟨by first | omega | exact Nat.le_refl _⟩, ⟨by (with_reducible repeat first | apply VA | apply VN | apply VD); exact Vm (Vf (p := ⟨g439, 3, none⟩) (Vf (p := ⟨g439, 2, none⟩) (Vf (p := ⟨g439, 1, none⟩) (Vf (p := ⟨g439, 0, none⟩) (Vm HO456.out (fun k_ hk => (⟨hk, hk.2.1⟩ : _ ∧ k_ ≠ g439))) (fun _ hk => hk.2) (.slice Ao37 t454.length co37)) (fun _ hk => hk.2) (.slice Ao39 t457.length co39)) (fun _ hk => hk.2) (.int .i64 t460)) (fun _ hk => hk.2) (.bool t461)) (fun _ hk => ⟨hk.1.1, ⟨hk.1.2.1, ⟨hk.1.2.2.1, hk.1.2.2.2⟩⟩⟩)⟩, ⟨by (with_reducible repeat first | apply VA | apply VN | apply VD); exact Vm (Vf (p := ⟨g439, 3, none⟩) (Vf (p := ⟨g439, 2, none⟩) (Vf (p := ⟨g439, 1, none⟩) (Vf (p := ⟨g439, 0, none⟩) (Vm HO459.out (fun k_ hk => (⟨hk, hk.2.1⟩ : _ ∧ k_ ≠ g439))) (fun _ hk => hk.2) (.slice Ao37 t454.length co37)) (fun _ hk => hk.2) (.slice Ao39 t457.length co39)) (fun _ hk => hk.2) (.int .i64 t460)) (fun _ hk => hk.2) (.bool t461)) (fun _ hk => ⟨hk.1.1, ⟨hk.1.2.1, ⟨hk.1.2.2.1, hk.1.2.2.2⟩⟩⟩)⟩, ⟨by (with_reducible repeat first | refine qN ?_ _ | refine qD ?_ | refine qA ?_ _); (iterate 4 (refine qR ?_ NB438_439.out _; (with_reducible repeat first | refine qN ?_ _ | refine qD ?_ | refine qA ?_ _))); exact B438.out⟩, ⟨by (with_reducible repeat first | refine qN ?_ _ | refine qD ?_ | refine qA ?_ _); apply puts4; (with_reducible repeat first | refine qN ?_ _ | refine qD ?_ | refine qA ?_ _); exact B439.out⟩, ⟨by (with_reducible repeat first | refine qN ?_ _ | refine qD ?_ | refine qA ?_ _); (iterate 4 (refine qR ?_ NB440_439.out _; (with_reducible repeat first | refine qN ?_ _ | refine qD ?_ | refine qA ?_ _))); exact B440.out⟩, ⟨by (with_reducible repeat first | refine qN ?_ _ | refine qD ?_ | refine qA ?_ _); (iterate 4 (refine qR ?_ NB442_439.out _; (with_reducible repeat first | refine qN ?_ _ | refine qD ?_ | refine qA ?_ _))); exact B442.out⟩, ⟨by repeat (first | (with_reducible first | exact HB.out | apply eA | apply eN | apply eD | refine eS ?_ GE438.out | refine eS ?_ GE439.out | refine eS ?_ GE440.out | refine eS ?_ GE442.out) | exact HB.out)⟩⟩
   ·rw [if_neg c40] at H
    have c40b0 : (t452.toList == a0_6.toList) = false := beq_eq_false_iff_ne.mpr c40
    have c40b1 : (t452.toList != a0_6.toList) = true := bne_iff_ne.mpr c40
    (first | rw [c40b0] | (simp only [i64_w, i32_w]; rw [c40b0]) | skip)
    have H' := qM H
    clear H
    have hnb45 := NB440_438.out
    have hnc45 := NB438_440.out
    have hnb46 := NB440_439.out
    have hnc46 := NB439_440.out
    have hnb47 := NB440_442.out
    have hnc47 := NB442_440.out
    obtain ⟨z48_0, z48_1, z48_2, f48_0, f48_1, f48_2⟩ := cells3 B440.out
    go_wp2
    go_meet
    case rel => exact ⟨_, (true), (by first | rfl | (simp; done) | (simp [*]; done)), H', ⟨by first | omega | exact Nat.le_refl _⟩, ⟨by (with_reducible repeat first | apply VA | apply VN | apply VD); exact Vm (Vf (p := ⟨g439, 3, none⟩) (Vf (p := ⟨g439, 2, none⟩) (Vf (p := ⟨g439, 1, none⟩) (Vf (p := ⟨g439, 0, none⟩) (Vm HO456.out (fun k_ hk => (⟨hk, hk.2.1⟩ : _ ∧ k_ ≠ g439))) (fun _ hk => hk.2) (.slice Ao37 t454.length co37)) (fun _ hk => hk.2) (.slice Ao39 t457.length co39)) (fun _ hk => hk.2) (.int .i64 t460)) (fun _ hk => hk.2) (.bool t461)) (fun _ hk => ⟨hk.1.1, ⟨hk.1.2.1, ⟨hk.1.2.2.1, hk.1.2.2.2⟩⟩⟩)⟩, ⟨by (with_reducible repeat first | apply VA | apply VN | apply VD); exact Vm (Vf (p := ⟨g439, 3, none⟩) (Vf (p := ⟨g439, 2, none⟩) (Vf (p := ⟨g439, 1, none⟩) (Vf (p := ⟨g439, 0, none⟩) (Vm HO459.out (fun k_ hk => (⟨hk, hk.2.1⟩ : _ ∧ k_ ≠ g439))) (fun _ hk => hk.2) (.slice Ao37 t454.length co37)) (fun _ hk => hk.2) (.slice Ao39 t457.length co39)) (fun _ hk => hk.2) (.int .i64 t460)) (fun _ hk => hk.2) (.bool t461)) (fun _ hk => ⟨hk.1.1, ⟨hk.1.2.1, ⟨hk.1.2.2.1, hk.1.2.2.2⟩⟩⟩)⟩, ⟨by (with_reducible repeat first | refine qN ?_ _ | refine qD ?_ | refine qA ?_ _); (iterate 4 (refine qR ?_ NB438_439.out _; (with_reducible repeat first | refine qN ?_ _ | refine qD ?_ | refine qA ?_ _))); exact B438.out⟩, ⟨by (with_reducible repeat first | refine qN ?_ _ | refine qD ?_ | refine qA ?_ _); apply puts4; (with_reducible repeat first | refine qN ?_ _ | refine qD ?_ | refine qA ?_ _); exact B439.out⟩, ⟨by (with_reducible repeat first | refine qN ?_ _ | refine qD ?_ | refine qA ?_ _); (iterate 4 (refine qR ?_ NB440_439.out _; (with_reducible repeat first | refine qN ?_ _ | refine qD ?_ | refine qA ?_ _))); exact B440.out⟩, ⟨by (with_reducible repeat first | refine qN ?_ _ | refine qD ?_ | refine qA ?_ _); (iterate 4 (refine qR ?_ NB442_439.out _; (with_reducible repeat first | refine qN ?_ _ | refine qD ?_ | refine qA ?_ _))); exact B442.out⟩, ⟨by repeat (first | (with_reducible first | exact HB.out | apply eA | apply eN | apply eD | refine eS ?_ GE438.out | refine eS ?_ GE439.out | refine eS ?_ GE440.out | refine eS ?_ GE442.out) | exact HB.out)⟩⟩
  case rest =>
   clear HC7
   try clear c1
   try clear c2
   try clear p2
   try clear c4
   try clear c4b0
   try clear c4b1
   try clear c6
   try clear c11
   try clear c15
   try clear c16
   try clear c18
   try clear c22
   try clear c23
   try clear c24
   try clear c29
   try clear c40
   try clear c40b0
   try clear c40b1
   try clear c41
   try clear c42
   try clear c43
   try clear c45
   try clear c46
   try clear c47
   try clear z12_0
   try clear z12_1
   try clear z12_2
   try clear z12_3
   try clear z13_0
   try clear z13_1
   try clear z13_2
   try clear z13_3
   try clear z13_4
   try clear z13_5
   try clear z13_6
   try clear z13_7
   try clear z13_8
   try clear z13_9
   try clear z17_0
   try clear z17_1
   try clear z17_2
   try clear z18_0
   try clear z18_1
   try clear z18_2
   try clear z18_3
   try clear z18_4
   try clear z18_5
   try clear z18_6
   try clear z18_7
   try clear z18_8
   try clear z18_9
   try clear z20_0
   try clear z20_1
   try clear z20_2
   try clear z25_0
   try clear z25_1
   try clear z27_0
   try clear z27_1
   try clear z27_2
   try clear z27_3
   try clear z28_0
   try clear z28_1
   try clear z28_2
   try clear z31_0
   try clear z31_1
   try clear z31_2
   try clear z31_3
   try clear z33_0
   try clear z33_1
   try clear z35_0
   try clear z35_1
   try clear z35_2
   try clear z35_3
   try clear z38_0
   try clear z38_1
   try clear z38_2
   try clear z38_3
   try clear z44_0
   try clear z44_1
   try clear z44_2
   try clear z48_0
   try clear z48_1
   try clear z48_2
   try clear z9_0
   try clear z9_1
   try clear z9_2
   try clear z9_3
   try clear z9_4
   try clear z9_5
   try clear z9_6
   try clear z9_7
   try clear z9_8
   try clear z9_9
   try clear f12_0
   try clear f12_1
   try clear f12_2
   try clear f12_3
   try clear f13_0
   try clear f13_1
   try clear f13_2
   try clear f13_3
   try clear f13_4
   try clear f13_5
   try clear f13_6
   try clear f13_7
   try clear f13_8
   try clear f13_9
   try clear f17_0
   try clear f17_1
   try clear f17_2
   try clear f18_0
   try clear f18_1
   try clear f18_2
   try clear f18_3
   try clear f18_4
   try clear f18_5
   try clear f18_6
   try clear f18_7
   try clear f18_8
   try clear f18_9
   try clear f20_0
   try clear f20_1
   try clear f20_2
   try clear f25_0
   try clear f25_1
   try clear f27_0
   try clear f27_1
   try clear f27_2
   try clear f27_3
   try clear f28_0
   try clear f28_1
   try clear f28_2
   try clear f31_0
   try clear f31_1
   try clear f31_2
   try clear f31_3
   try clear f33_0
   try clear f33_1
   try clear f35_0
   try clear f35_1
   try clear f35_2
   try clear f35_3
   try clear f38_0
   try clear f38_1
   try clear f38_2
   try clear f38_3
   try clear f44_0
   try clear f44_1
   try clear f44_2
   try clear f48_0
   try clear f48_1
   try clear f48_2
   try clear f9_0
   try clear f9_1
   try clear f9_2
   try clear f9_3
   try clear f9_4
   try clear f9_5
   try clear f9_6
   try clear f9_7
   try clear f9_8
   try clear f9_9
   obtain ⟨kq, x60_6, rfl, HA, HJ6, HO_440000, HO_440001, B438, B439, B440, B442, HB⟩ := hcut
   cases kq with
   | zero => exact absurd HA.out (by simp [hogsheadlaw10_ShelfLasts.j0])
   | succ kj6 =>
    have H := HA.out
    clear HA
    simp only [hogsheadlaw10_ShelfLasts.j0] at H
    by_cases c49 : x60_6 = true
    ·subst c49
     have H1 : (some false) = some r := by rw [if_pos rfl] at H; exact H
     clear H
     have H := H1
     clear H1
     obtain rfl := Option.some.inj H
     go_wp2
     go_ret
     exact ⟨by first | rfl | (simp [errW_none, errW_some] <;> rfl) | (simp [*, errW_none, errW_some] <;> rfl), by repeat (first | (with_reducible first | exact HB.out | apply eA | apply eN | apply eD | refine eS ?_ GE438.out | refine eS ?_ GE439.out | refine eS ?_ GE440.out | refine eS ?_ GE442.out) | exact HB.out)⟩
    ·replace c49 := Bool.eq_false_iff.mpr c49
     subst c49
     have H1 : (if t462 = 0 then (hogsheadlaw10_ShelfLasts.l0 kj6 l0_7 a0_8 a0_9 t441 0 t454 t457 t460 t461 a0_4 a0_5 a0_6 a0_4 a0_5) else (some t441)) = some r := by rw [if_neg (show ¬ (false = true) by decide)] at H; exact H
     clear H
     have H := H1
     clear H1
     by_cases c50 : t462 = 0
     ·rw [if_pos c50] at H
      have c50b0 : (t462 == 0) = true := beq_iff_eq.mpr c50
      have c50b1 : (t462 != 0) = false := bne_eq_false_iff_eq.mpr c50
      clear c50
      have H' := qM H
      clear H
      go_wp2
      go_loopg [14] kj6 (fun kq v14 w' => ∃ (x14_2 : Int) (x440000_2 : List ByteArray) (x440001_2 : List (S94)) (x440002_2 : Int) (x440003_2 : Bool) (u440000 : Value) (u440001 : Value), v14 = .int .i64 x14_2 ∧ Aside0 (hogsheadlaw10_ShelfLasts.l0 kq l0_7 a0_8 a0_9 t441 x14_2 x440000_2 x440001_2 x440002_2 x440003_2 a0_4 a0_5 a0_6 a0_4 a0_5 = some r) ∧ Aside0 (kq ≤ kj6) ∧ Aside0 (Kd.V Kd.string 9 w' w.heap.size (fun k_ => k_ ≠ g438 ∧ k_ ≠ g439 ∧ k_ ≠ g440 ∧ k_ ≠ g442) u440000 x440000_2) ∧ Aside0 (Kd.V k94 94 w' w.heap.size (fun k_ => k_ ≠ g438 ∧ k_ ≠ g439 ∧ k_ ≠ g440 ∧ k_ ≠ g442) u440001 x440001_2) ∧ Aside0 (w'.heap[g438]? = some (.cells #[(.slice A0_0 l0_0.length c0_0), (.slice A0_1 l0_1.length c0_1), .int .i64 a0_2, .bool a0_3, .int .i64 a0_4, .int .i64 a0_5, .string a0_6, (.slice A0_7 l0_7.length c0_7), .int .i64 a0_8, .int .i64 a0_9] 57 (0, 0))) ∧ Aside0 (w'.heap[g439]? = some (.cells #[u440000, u440001, .int .i64 x440002_2, .bool x440003_2] 25 (0, 0))) ∧ Aside0 (w'.heap[g440]? = some (.cells #[.int .i64 a0_4, .int .i64 a0_5, .string a0_6] 43 (0, 0))) ∧ Aside0 (w'.heap[g442]? = some (.cells #[.int .i64 a0_4, .int .i64 a0_5] 27 (0, 0))) ∧ Aside0 (Below w.heap.size w w'))
      case atStart => exact ⟨(0), (t454), (t457), (t460), (t461), (.slice Ao37 t454.length co37), (.slice Ao39 t457.length co39), (by first | rfl | (simp; done) | (simp [*]; done)), H', ⟨Nat.le_refl _⟩, ⟨by (with_reducible repeat first | apply VA | apply VN | apply VD); exact HO_440000.out⟩, ⟨by (with_reducible repeat first | apply VA | apply VN | apply VD); exact HO_440001.out⟩, ⟨by (with_reducible repeat first | refine qN ?_ _ | refine qD ?_ | refine qA ?_ _); exact B438.out⟩, ⟨by (with_reducible repeat first | refine qN ?_ _ | refine qD ?_ | refine qA ?_ _); exact B439.out⟩, ⟨by (with_reducible repeat first | refine qN ?_ _ | refine qD ?_ | refine qA ?_ _); exact B440.out⟩, ⟨by (with_reducible repeat first | refine qN ?_ _ | refine qD ?_ | refine qA ?_ _); exact B442.out⟩, ⟨by repeat (first | (with_reducible first | exact HB.out | apply eA | apply eN | apply eD | refine eS ?_ GE438.out | refine eS ?_ GE439.out | refine eS ?_ GE440.out | refine eS ?_ GE442.out) | exact HB.out)⟩⟩
      case round =>
       clear H'
       try clear c1
       try clear c2
       try clear p2
       try clear c4
       try clear c4b0
       try clear c4b1
       try clear c5
       try clear c6
       try clear c11
       try clear c15
       try clear c16
       try clear c18
       try clear c22
       try clear c23
       try clear c24
       try clear c29
       try clear c40
       try clear c40b0
       try clear c40b1
       try clear c41
       try clear c42
       try clear c43
       try clear c45
       try clear c46
       try clear c47
       try clear c49
       try clear c50
       try clear c50b0
       try clear c50b1
       try clear z12_0
       try clear z12_1
       try clear z12_2
       try clear z12_3
       try clear z13_0
       try clear z13_1
       try clear z13_2
       try clear z13_3
       try clear z13_4
       try clear z13_5
       try clear z13_6
       try clear z13_7
       try clear z13_8
       try clear z13_9
       try clear z17_0
       try clear z17_1
       try clear z17_2
       try clear z18_0
       try clear z18_1
       try clear z18_2
       try clear z18_3
       try clear z18_4
       try clear z18_5
       try clear z18_6
       try clear z18_7
       try clear z18_8
       try clear z18_9
       try clear z20_0
       try clear z20_1
       try clear z20_2
       try clear z25_0
       try clear z25_1
       try clear z27_0
       try clear z27_1
       try clear z27_2
       try clear z27_3
       try clear z28_0
       try clear z28_1
       try clear z28_2
       try clear z31_0
       try clear z31_1
       try clear z31_2
       try clear z31_3
       try clear z33_0
       try clear z33_1
       try clear z35_0
       try clear z35_1
       try clear z35_2
       try clear z35_3
       try clear z38_0
       try clear z38_1
       try clear z38_2
       try clear z38_3
       try clear z44_0
       try clear z44_1
       try clear z44_2
       try clear z48_0
       try clear z48_1
       try clear z48_2
       try clear z9_0
       try clear z9_1
       try clear z9_2
       try clear z9_3
       try clear z9_4
       try clear z9_5
       try clear z9_6
       try clear z9_7
       try clear z9_8
       try clear z9_9
       try clear f12_0
       try clear f12_1
       try clear f12_2
       try clear f12_3
       try clear f13_0
       try clear f13_1
       try clear f13_2
       try clear f13_3
       try clear f13_4
       try clear f13_5
       try clear f13_6
       try clear f13_7
       try clear f13_8
       try clear f13_9
       try clear f17_0
       try clear f17_1
       try clear f17_2
       try clear f18_0
       try clear f18_1
       try clear f18_2
       try clear f18_3
       try clear f18_4
       try clear f18_5
       try clear f18_6
       try clear f18_7
       try clear f18_8
       try clear f18_9
       try clear f20_0
       try clear f20_1
       try clear f20_2
       try clear f25_0
       try clear f25_1
       try clear f27_0
       try clear f27_1
       try clear f27_2
       try clear f27_3
       try clear f28_0
       try clear f28_1
       try clear f28_2
       try clear f31_0
       try clear f31_1
       try clear f31_2
       try clear f31_3
       try clear f33_0
       try clear f33_1
       try clear f35_0
       try clear f35_1
       try clear f35_2
       try clear f35_3
       try clear f38_0
       try clear f38_1
       try clear f38_2
       try clear f38_3
       try clear f44_0
       try clear f44_1
       try clear f44_2
       try clear f48_0
       try clear f48_1
       try clear f48_2
       try clear f9_0
       try clear f9_1
       try clear f9_2
       try clear f9_3
       try clear f9_4
       try clear f9_5
       try clear f9_6
       try clear f9_7
       try clear f9_8
       try clear f9_9
       try clear p2
       obtain ⟨x14_2, x440000_2, x440001_2, x440002_2, x440003_2, u440000, u440001, rfl, HA, HK2, HO_440000, HO_440001, B438, B439, B440, B442, HB⟩ := hrel
       cases gk with
       | zero => exact absurd HA.out (by simp [hogsheadlaw10_ShelfLasts.l0])
       | succ k2 =>
        have H := HA.out
        clear HA
        simp only [hogsheadlaw10_ShelfLasts.l0] at H
        by_cases c51 : x14_2 < (l0_7.length : Int)
        ·rw [if_pos c51] at H
         have c51b0 : decide (x14_2 < (l0_7.length : Int)) = true := decide_eq_true c51
         clear c51
         by_cases c52 : 0 ≤ x14_2
         ·rw [if_pos c52] at H
          have c52b0 : decide (0 ≤ x14_2) = true := decide_eq_true c52
          clear c52
          replace H := Option.bind_eq_some_iff.mp H
          obtain ⟨⟨t464, t467, t470, t471, t472⟩, A530, H⟩ := H
          replace H : (hogsheadlaw10_ShelfLasts.l0 k2 l0_7 a0_8 a0_9 t441 (wrap64 (x14_2 + 1)) t464 t467 t470 t471 a0_4 a0_5 a0_6 a0_4 a0_5) = some r := H
          have A53 := qM A530
          clear A530
          have H' := qM H
          clear H
          try go_wp2
          have n0_ := qM (Kd.V_drew HO_440000.out)
          have n1_ := qM (Kd.V_drew HO_440001.out)
          have n2_ := qM (blk_drew B438.out)
          have n3_ := qM (blk_drew B439.out)
          have n4_ := qM (blk_drew B440.out)
          have n5_ := qM (blk_drew B442.out)
          have n6_ := qM (below_drew1 HB.out)
          clear HO_440000
          clear HO_440001
          clear B438
          clear B439
          clear B440
          clear B442
          clear HB
          have HO_440000 := n0_
          have HO_440001 := n1_
          have B438 := n2_
          have B439 := n3_
          have B440 := n4_
          have B442 := n5_
          have HB := n6_
          clear n0_ n1_ n2_ n3_ n4_ n5_ n6_
          have p463 : 0 ≤ (x14_2 : Int) := of_decide_eq_true (by first | (with_reducible assumption) | assumption)
          have q463 : x14_2 < (l0_7.length : Int) := of_decide_eq_true (by first | (with_reducible assumption) | assumption)
          obtain ⟨ad463, e463, hx463_0, hx463_1, hx463_2⟩ := at_T43 HR0_7.out x14_2 p463 q463
          have hw463_2 := hx463_2
          have hw463_1 := hx463_1
          have hw463_0 := hx463_0
          cases e463
          replace hx463_0 := (HB.out.cell (World.block_lt_of_cell? w _ hx463_0)).trans hx463_0
          replace hx463_1 := (HB.out.cell (World.block_lt_of_cell? w _ hx463_1)).trans hx463_1
          replace hx463_2 := (HB.out.cell (World.block_lt_of_cell? w _ hx463_2)).trans hx463_2
          replace p463 := eq_true p463
          replace q463 := eq_true q463
          obtain ⟨Ao55, co55, eo55⟩ := Kd.V_slice HO_440000.out
          (first | subst eo55 | (injection eo55 with f1_ f2_ f3_; have f4_ := f1_.symm; have f5_ := f3_.symm; clear f1_ f2_ f3_; subst f4_; subst f5_))
          obtain ⟨Ao56, co56, eo56⟩ := Kd.V_slice HO_440001.out
          (first | subst eo56 | (injection eo56 with f1_ f2_ f3_; have f4_ := f1_.symm; have f5_ := f3_.symm; clear f1_ f2_ f3_; subst f4_; subst f5_))
          refine start_ (n := 10) (S := fun w' => w'.cell? ⟨g439, 0, none⟩ = some (.slice Ao55 x440000_2.length co55) ∧ w'.cell? ⟨g439, 1, none⟩ = some (.slice Ao56 x440001_2.length co56) ∧ w'.cell? ⟨g439, 2, none⟩ = some (.int .i64 x440002_2) ∧ w'.cell? ⟨g439, 3, none⟩ = some (.bool x440003_2) ∧ w'.cell? (ad463.add ((x14_2).toNat * 3)) = some (.int .i64 ((rd_T43 l0_7 x14_2).f0)) ∧ w'.cell? ⟨(ad463.add ((x14_2).toNat * 3)).block, (ad463.add ((x14_2).toNat * 3)).off + 1, none⟩ = some (.int .i64 ((rd_T43 l0_7 x14_2).f1)) ∧ w'.cell? ⟨(ad463.add ((x14_2).toNat * 3)).block, (ad463.add ((x14_2).toNat * 3)).off + 2, none⟩ = some (.string ((rd_T43 l0_7 x14_2).f2))) (ds := [9]) #[false, false, false, false, false, false, false, false, false, false] (by kernel_rfl) rfl rfl ⟨(qC B439.out 0).trans rfl, (qC B439.out 1).trans rfl, (qC B439.out 2).trans rfl, (qC B439.out 3).trans rfl, ((HB.out.cell (World.block_lt_of_cell? w _ hw463_0)).trans hw463_0), ((HB.out.cell (World.block_lt_of_cell? w _ hw463_1)).trans hw463_1), ((HB.out.cell (World.block_lt_of_cell? w _ hw463_2)).trans hw463_2)⟩ (fun hHeld => ?_); refine with_tabW hogsheadlaw10_ShelfLasts.tab20 hogsheadlaw10_ShelfLasts.bits20 (fun HT_ HW_ => ?_)
          generalize wr.drew = w54 at HO_440000 HO_440001 B438 B439 B440 B442 HB hx463_0 hx463_1 hx463_2 hHeld ⊢
          refine pure_ (i := 1) (N := some 72) (v := ?_) (a' := ?_) #[false, true, false, false, false, false, false, false, false, false] rfl rfl (any_of HT_.out (by kernel_rfl)) (fun _ _ _ h => h) (Or.inl ⟨by rfl, ?_⟩) ?_ ?_
          rotate_left
          ·intro w'; go_simp; with_reducible rfl
          rotate_left
          ·simp only [Act.put, xA, xZ, xS, i64_w, i32_w]; rfl
          refine pure_ (i := 2) (N := some 73) (v := ?_) (a' := ?_) #[false, true, true, false, false, false, false, false, false, false] rfl rfl (any_of HT_.out (by kernel_rfl)) (fun _ _ _ h => h) (Or.inl ⟨by rfl, ?_⟩) ?_ ?_
          rotate_left
          ·intro w'; go_simp; with_reducible rfl
          rotate_left
          ·simp only [Act.put, xA, xZ, xS, i64_w, i32_w]; rfl
          refine pure_ (i := 3) (N := some 74) (v := ?_) (a' := ?_) #[false, true, true, true, false, false, false, false, false, false] rfl rfl (any_of HT_.out (by kernel_rfl)) (fun _ _ _ h => h) (Or.inl ⟨by rfl, ?_⟩) ?_ ?_
          rotate_left
          ·intro w'; go_simp; with_reducible rfl
          rotate_left
          ·simp only [Act.put, xA, xZ, xS, i64_w, i32_w]; rfl
          refine take_ (i := 0) (N := some 71) (v := ?_) (a' := ?_) #[true, true, true, true, false, false, false, false, false, false] rfl rfl (take_ofW HT_.out HW_.out (by kernel_rfl)) (fun _ _ _ h => h) (Or.inl ⟨by rfl, ?_⟩) hHeld ?_ ?_
          rotate_left
          ·rintro w' ⟨s0, s1, s2, s3, s4, s5, s6⟩; go_simp; with_reducible rfl
          rotate_left
          ·simp only [Act.put, xA, xZ, xS, i64_w, i32_w]; rfl
          refine take_ (i := 4) (N := some 75) (v := ?_) (a' := ?_) #[true, true, true, true, true, false, false, false, false, false] rfl rfl (take_ofW HT_.out HW_.out (by kernel_rfl)) (fun _ _ _ h => h) (Or.inl ⟨by rfl, ?_⟩) hHeld ?_ ?_
          rotate_left
          ·rintro w' ⟨s0, s1, s2, s3, s4, s5, s6⟩; go_simp; with_reducible rfl
          rotate_left
          ·simp only [Act.put, xA, xZ, xS, i64_w, i32_w]; rfl
          refine one_ (i := 5) (N := some 76) #[true, true, true, true, true, true, false, false, false, false] rfl rfl (one_of HT_.out (by kernel_rfl)) (by decide) (fun K hK => ?_)
          refine goes_ Try.func22 (by kernel_rfl) rfl #[.agg #[.slice Ao55 x440000_2.length co55, .slice Ao56 x440001_2.length co56, .int .i64 x440002_2, .bool x440003_2], .agg #[.int .i64 ((rd_T43 l0_7 x14_2).f0), .int .i64 ((rd_T43 l0_7 x14_2).f1), .string ((rd_T43 l0_7 x14_2).f2)]] (by rfl) rfl rfl (by (try simp only [List.map_toArray, List.map_cons, List.map_nil]); first | done | rfl | (simp only [List.length_drop, List.length_take]; rfl)) ?_
          with_reducible refine (shelf_Put.calls k2 (fun k_ => (k_ ≠ g438 ∧ (k_ ≠ g439 ∧ (k_ ≠ g440 ∧ k_ ≠ g442)))) _ _ x440000_2 (fun k_ => (k_ ≠ g438 ∧ (k_ ≠ g439 ∧ (k_ ≠ g440 ∧ k_ ≠ g442)))) _ _ x440001_2 x440002_2 x440003_2 ((rd_T43 l0_7 x14_2).f0) ((rd_T43 l0_7 x14_2).f1) ((rd_T43 l0_7 x14_2).f2) t464 t467 t470 t471 t472 _ ?side1 ?side2 A53.out).mono ?_
          (case side1 => exact HO_440000.out)
          (case side2 => exact HO_440001.out)
          rintro e w57 ⟨v465, v468, rfl, ho0, ho1, hb⟩
          refine ⟨_, rfl, ?_⟩
          have n0_ := qM (Vb (by (with_reducible repeat first | apply VA | apply VN | apply VD); exact HO_440000.out) hb)
          have n1_ := qM (Vb (by (with_reducible repeat first | apply VA | apply VN | apply VD); exact HO_440001.out) hb)
          have n2_ := qM (Vl (Vm (ok' := fun k_ => k_ ≠ g438 ∧ k_ ≠ g439 ∧ k_ ≠ g440 ∧ k_ ≠ g442) ho0 (fun k_ hk_ => ⟨Or.elim hk_ (fun hs_ => Or.elim hs_ (fun hs_ => hs_.1) (fun hs_ => hs_.1)) (fun hn_ => (Fb (g := g438) (by (with_reducible repeat first | refine qN ?_ _ | refine qD ?_ | refine qA ?_ _); exact B438.out) k_ hn_)), Or.elim hk_ (fun hs_ => Or.elim hs_ (fun hs_ => hs_.2.1) (fun hs_ => hs_.2.1)) (fun hn_ => (Fb (g := g439) (by (with_reducible repeat first | refine qN ?_ _ | refine qD ?_ | refine qA ?_ _); exact B439.out) k_ hn_)), Or.elim hk_ (fun hs_ => Or.elim hs_ (fun hs_ => hs_.2.2.1) (fun hs_ => hs_.2.2.1)) (fun hn_ => (Fb (g := g440) (by (with_reducible repeat first | refine qN ?_ _ | refine qD ?_ | refine qA ?_ _); exact B440.out) k_ hn_)), Or.elim hk_ (fun hs_ => Or.elim hs_ (fun hs_ => hs_.2.2.2) (fun hs_ => hs_.2.2.2)) (fun hn_ => (Fb (g := g442) (by (with_reducible repeat first | refine qN ?_ _ | refine qD ?_ | refine qA ?_ _); exact B442.out) k_ hn_))⟩)) (eZ (by repeat (first | (with_reducible first | exact HB.out | apply eA | apply eN | apply eD | refine eU ?_ (by assumption)) | exact HB.out))))
          have n3_ := qM (Vl (Vm (ok' := fun k_ => k_ ≠ g438 ∧ k_ ≠ g439 ∧ k_ ≠ g440 ∧ k_ ≠ g442) ho1 (fun k_ hk_ => ⟨Or.elim hk_ (fun hs_ => Or.elim hs_ (fun hs_ => hs_.1) (fun hs_ => hs_.1)) (fun hn_ => (Fb (g := g438) (by (with_reducible repeat first | refine qN ?_ _ | refine qD ?_ | refine qA ?_ _); exact B438.out) k_ hn_)), Or.elim hk_ (fun hs_ => Or.elim hs_ (fun hs_ => hs_.2.1) (fun hs_ => hs_.2.1)) (fun hn_ => (Fb (g := g439) (by (with_reducible repeat first | refine qN ?_ _ | refine qD ?_ | refine qA ?_ _); exact B439.out) k_ hn_)), Or.elim hk_ (fun hs_ => Or.elim hs_ (fun hs_ => hs_.2.2.1) (fun hs_ => hs_.2.2.1)) (fun hn_ => (Fb (g := g440) (by (with_reducible repeat first | refine qN ?_ _ | refine qD ?_ | refine qA ?_ _); exact B440.out) k_ hn_)), Or.elim hk_ (fun hs_ => Or.elim hs_ (fun hs_ => hs_.2.2.2) (fun hs_ => hs_.2.2.2)) (fun hn_ => (Fb (g := g442) (by (with_reducible repeat first | refine qN ?_ _ | refine qD ?_ | refine qA ?_ _); exact B442.out) k_ hn_))⟩)) (eZ (by repeat (first | (with_reducible first | exact HB.out | apply eA | apply eN | apply eD | refine eU ?_ (by assumption)) | exact HB.out))))
          have n4_ := qM (qB (g := g438) (by (with_reducible repeat first | refine qN ?_ _ | refine qD ?_ | refine qA ?_ _); exact B438.out) hb)
          have n5_ := qM (qB (g := g439) (by (with_reducible repeat first | refine qN ?_ _ | refine qD ?_ | refine qA ?_ _); exact B439.out) hb)
          have n6_ := qM (qB (g := g440) (by (with_reducible repeat first | refine qN ?_ _ | refine qD ?_ | refine qA ?_ _); exact B440.out) hb)
          have n7_ := qM (qB (g := g442) (by (with_reducible repeat first | refine qN ?_ _ | refine qD ?_ | refine qA ?_ _); exact B442.out) hb)
          have n8_ := qM (eT (by repeat (first | (with_reducible first | exact HB.out | apply eA | apply eN | apply eD | refine eU ?_ (by assumption)) | exact HB.out)) hb)
          clear HO_440000
          clear HO_440001
          clear B438
          clear B439
          clear B440
          clear B442
          clear HB
          have HO_440000 := n0_
          have HO_440001 := n1_
          have HO466 := n2_
          have HO469 := n3_
          have B438 := n4_
          have B439 := n5_
          have B440 := n6_
          have B442 := n7_
          have HB := n8_
          clear n0_ n1_ n2_ n3_ n4_ n5_ n6_ n7_ n8_
          (try clear hb)
          (try clear hb2)
          (try clear hk)
          (try clear hi)
          (try clear ho0)
          (try clear ho1)
          obtain ⟨Ao58, co58, eo58⟩ := Kd.V_slice HO466.out
          (first | subst eo58 | (injection eo58 with f1_ f2_ f3_; have f4_ := f1_.symm; have f5_ := f3_.symm; clear f1_ f2_ f3_; subst f4_; subst f5_))
          obtain ⟨Ao60, co60, eo60⟩ := Kd.V_slice HO469.out
          (first | subst eo60 | (injection eo60 with f1_ f2_ f3_; have f4_ := f1_.symm; have f5_ := f3_.symm; clear f1_ f2_ f3_; subst f4_; subst f5_))
          refine hK.out _ _ ⟨(qC B439.out 0).trans rfl, (qC B439.out 1).trans rfl, (qC B439.out 2).trans rfl, (qC B439.out 3).trans rfl, ((HB.out.cell (World.block_lt_of_cell? w _ hw463_0)).trans hw463_0), ((HB.out.cell (World.block_lt_of_cell? w _ hw463_1)).trans hw463_1), ((HB.out.cell (World.block_lt_of_cell? w _ hw463_2)).trans hw463_2)⟩ (fun hHeld => ?_)
          clear hK K
          refine norm_ (a' := ?_) ?_ ?_
          rotate_left
          ·show Act.put _ (some 76) _ = _
           simp only [Act.put, xA, xZ, xS, i64_w, i32_w]
           rfl
          refine pure_ (i := 6) (N := some 70) (v := ?_) (a' := ?_) #[true, true, true, true, true, true, true, false, false, false] rfl rfl (any_of HT_.out (by kernel_rfl)) (fun _ _ _ h => h) (Or.inl ⟨by rfl, ?_⟩) ?_ ?_
          rotate_left
          ·intro w'; go_simp; with_reducible rfl
          rotate_left
          ·simp only [Act.put, xA, xZ, xS, i64_w, i32_w]; rfl
          refine pure_ (i := 7) (N := some 77) (v := ?_) (a' := ?_) #[true, true, true, true, true, true, true, true, false, false] rfl rfl (any_of HT_.out (by kernel_rfl)) (fun _ _ _ h => h) (Or.inl ⟨by rfl, ?_⟩) ?_ ?_
          rotate_left
          ·intro w'; go_simp; with_reducible rfl
          rotate_left
          ·simp only [Act.put, xA, xZ, xS, i64_w, i32_w]; rfl
          refine pure_ (i := 8) (N := some 78) (v := ?_) (a' := ?_) #[true, true, true, true, true, true, true, true, true, false] rfl rfl (any_of HT_.out (by kernel_rfl)) (fun _ _ _ h => h) (Or.inl ⟨by rfl, ?_⟩) ?_ ?_
          rotate_left
          ·intro w'; go_simp; with_reducible rfl
          rotate_left
          ·simp only [Act.put, xA, xZ, xS, i64_w, i32_w]; rfl
          refine last_ (i := 9) (N := none) #[true, true, true, true, true, true, true, true, true, true] rfl rfl (one_of HT_.out (by kernel_rfl)) (by decide) (fun K hK => ?_)
          have hs59 : w57.cell? ⟨g439, 0, none⟩ = some (.slice Ao55 x440000_2.length co55) := (qC B439.out 0).trans rfl
          have hfs59 := qF B439.out 0
          have hns59_0 := NB438_439.out
          have hns59_2 := NB440_439.out
          have hns59_3 := NB442_439.out
          have hms59_0 := NB439_438.out
          have hms59_2 := NB439_440.out
          have hms59_3 := NB439_442.out
          have hs61 : w57.cell? ⟨g439, 1, none⟩ = some (.slice Ao56 x440001_2.length co56) := (qC B439.out 1).trans rfl
          have hfs61 := qF B439.out 1
          have hns61_0 := NB438_439.out
          have hns61_2 := NB440_439.out
          have hns61_3 := NB442_439.out
          have hms61_0 := NB439_438.out
          have hms61_2 := NB439_440.out
          have hms61_3 := NB439_442.out
          have hs62 : w57.cell? ⟨g439, 2, none⟩ = some (.int .i64 x440002_2) := (qC B439.out 2).trans rfl
          have hfs62 := qF B439.out 2
          have hns62_0 := NB438_439.out
          have hns62_2 := NB440_439.out
          have hns62_3 := NB442_439.out
          have hms62_0 := NB439_438.out
          have hms62_2 := NB439_440.out
          have hms62_3 := NB439_442.out
          have hs63 : w57.cell? ⟨g439, 3, none⟩ = some (.bool x440003_2) := (qC B439.out 3).trans rfl
          have hfs63 := qF B439.out 3
          have hns63_0 := NB438_439.out
          have hns63_2 := NB440_439.out
          have hns63_3 := NB442_439.out
          have hms63_0 := NB439_438.out
          have hms63_2 := NB439_440.out
          have hms63_3 := NB439_442.out
          refine skip_ (w1 := ?_) (by rfl) rfl ?_ ?_
          rotate_left
          ·go_simp; rfl
          refine hK.out _ _ ?_
          clear hK K
          refine done_ (done_of HT_.out (by kernel_rfl)) ?_
          try go_wp2
          go_roundg k2
          case measure => have := HJ6.out; have := HK2.out; omega
          case rel => exact ⟨(wrap64 (x14_2 + 1)), (t464), (t467), (t470), (t471), (.slice Ao58 t464.length co58), (.slice Ao60 t467.length co60), (by first | rfl | (simp; done) | (simp [*]; done)), H', ⟨by have := HJ6.out; have := HK2.out; omega⟩, ⟨by (with_reducible repeat first | apply VA | apply VN | apply VD); exact Vm (Vf (p := ⟨g439, 3, none⟩) (Vf (p := ⟨g439, 2, none⟩) (Vf (p := ⟨g439, 1, none⟩) (Vf (p := ⟨g439, 0, none⟩) (Vm HO466.out (fun k_ hk => (⟨hk, hk.2.1⟩ : _ ∧ k_ ≠ g439))) (fun _ hk => hk.2) (.slice Ao58 t464.length co58)) (fun _ hk => hk.2) (.slice Ao60 t467.length co60)) (fun _ hk => hk.2) (.int .i64 t470)) (fun _ hk => hk.2) (.bool t471)) (fun _ hk => ⟨hk.1.1, ⟨hk.1.2.1, ⟨hk.1.2.2.1, hk.1.2.2.2⟩⟩⟩)⟩, ⟨by (with_reducible repeat first | apply VA | apply VN | apply VD); exact Vm (Vf (p := ⟨g439, 3, none⟩) (Vf (p := ⟨g439, 2, none⟩) (Vf (p := ⟨g439, 1, none⟩) (Vf (p := ⟨g439, 0, none⟩) (Vm HO469.out (fun k_ hk => (⟨hk, hk.2.1⟩ : _ ∧ k_ ≠ g439))) (fun _ hk => hk.2) (.slice Ao58 t464.length co58)) (fun _ hk => hk.2) (.slice Ao60 t467.length co60)) (fun _ hk => hk.2) (.int .i64 t470)) (fun _ hk => hk.2) (.bool t471)) (fun _ hk => ⟨hk.1.1, ⟨hk.1.2.1, ⟨hk.1.2.2.1, hk.1.2.2.2⟩⟩⟩)⟩, ⟨by (with_reducible repeat first | refine qN ?_ _ | refine qD ?_ | refine qA ?_ _); (iterate 4 (refine qR ?_ NB438_439.out _; (with_reducible repeat first | refine qN ?_ _ | refine qD ?_ | refine qA ?_ _))); exact B438.out⟩, ⟨by (with_reducible repeat first | refine qN ?_ _ | refine qD ?_ | refine qA ?_ _); apply puts4; (with_reducible repeat first | refine qN ?_ _ | refine qD ?_ | refine qA ?_ _); exact B439.out⟩, ⟨by (with_reducible repeat first | refine qN ?_ _ | refine qD ?_ | refine qA ?_ _); (iterate 4 (refine qR ?_ NB440_439.out _; (with_reducible repeat first | refine qN ?_ _ | refine qD ?_ | refine qA ?_ _))); exact B440.out⟩, ⟨by (with_reducible repeat first | refine qN ?_ _ | refine qD ?_ | refine qA ?_ _); (iterate 4 (refine qR ?_ NB442_439.out _; (with_reducible repeat first | refine qN ?_ _ | refine qD ?_ | refine qA ?_ _))); exact B442.out⟩, ⟨by repeat (first | (with_reducible first | exact HB.out | apply eA | apply eN | apply eD | refine eS ?_ GE438.out | refine eS ?_ GE439.out | refine eS ?_ GE440.out | refine eS ?_ GE442.out) | exact HB.out)⟩⟩
         ·rw [if_neg c52] at H
          exact absurd H (by simp)
        ·rw [if_neg c51] at H
         have c51b0 : decide (x14_2 < (l0_7.length : Int)) = false := decide_eq_false c51
         clear c51
         replace H := Option.bind_eq_some_iff.mp H
         obtain ⟨⟨t473, t476, t479, t480⟩, A640, H⟩ := H
         replace H : ((shelf_Find.f k2 t473 t476 t479 t480 a0_4 a0_5).bind fun bt481 => (if t441 = true then (if bt481.1.toList = a0_6.toList then (hogsheadlaw10_ShelfLasts.j2 k2 (bt481.2 == 0)) else (hogsheadlaw10_ShelfLasts.j2 k2 false)) else (hogsheadlaw10_ShelfLasts.j2 k2 false))) = some r := H
         have A64 := qM A640
         clear A640
         replace H := Option.bind_eq_some_iff.mp H
         obtain ⟨⟨t481, t482⟩, A650, H⟩ := H
         replace H : (if t441 = true then (if t481.toList = a0_6.toList then (hogsheadlaw10_ShelfLasts.j2 k2 (t482 == 0)) else (hogsheadlaw10_ShelfLasts.j2 k2 false)) else (hogsheadlaw10_ShelfLasts.j2 k2 false)) = some r := H
         have A65 := qM A650
         clear A650
         have HC66 := qM H
         clear H
         try go_wp2
         have n0_ := qM (Kd.V_drew HO_440000.out)
         have n1_ := qM (Kd.V_drew HO_440001.out)
         have n2_ := qM (blk_drew B438.out)
         have n3_ := qM (blk_drew B439.out)
         have n4_ := qM (blk_drew B440.out)
         have n5_ := qM (blk_drew B442.out)
         have n6_ := qM (below_drew1 HB.out)
         clear HO_440000
         clear HO_440001
         clear B438
         clear B439
         clear B440
         clear B442
         clear HB
         have HO_440000 := n0_
         have HO_440001 := n1_
         have B438 := n2_
         have B439 := n3_
         have B440 := n4_
         have B442 := n5_
         have HB := n6_
         clear n0_ n1_ n2_ n3_ n4_ n5_ n6_
         obtain ⟨Ao68, co68, eo68⟩ := Kd.V_slice HO_440000.out
         (first | subst eo68 | (injection eo68 with f1_ f2_ f3_; have f4_ := f1_.symm; have f5_ := f3_.symm; clear f1_ f2_ f3_; subst f4_; subst f5_))
         obtain ⟨Ao69, co69, eo69⟩ := Kd.V_slice HO_440001.out
         (first | subst eo69 | (injection eo69 with f1_ f2_ f3_; have f4_ := f1_.symm; have f5_ := f3_.symm; clear f1_ f2_ f3_; subst f4_; subst f5_))
         refine start_ (n := 11) (S := fun w' => w'.cell? ⟨g439, 0, none⟩ = some (.slice Ao68 x440000_2.length co68) ∧ w'.cell? ⟨g439, 1, none⟩ = some (.slice Ao69 x440001_2.length co69) ∧ w'.cell? ⟨g439, 2, none⟩ = some (.int .i64 x440002_2) ∧ w'.cell? ⟨g439, 3, none⟩ = some (.bool x440003_2) ∧ w'.cell? ⟨g442, 0, none⟩ = some (.int .i64 a0_4) ∧ w'.cell? ⟨g442, 1, none⟩ = some (.int .i64 a0_5)) (ds := []) #[false, false, false, false, false, false, false, false, false, false, false] (by kernel_rfl) rfl rfl ⟨(qC B439.out 0).trans rfl, (qC B439.out 1).trans rfl, (qC B439.out 2).trans rfl, (qC B439.out 3).trans rfl, (qC B442.out 0).trans rfl, (qC B442.out 1).trans rfl⟩ (fun hHeld => ?_); refine with_tabW hogsheadlaw10_ShelfLasts.tab21 hogsheadlaw10_ShelfLasts.bits21 (fun HT_ HW_ => ?_)
         generalize wr.drew = w67 at HO_440000 HO_440001 B438 B439 B440 B442 HB hHeld ⊢
         refine pure_ (i := 1) (N := some 81) (v := ?_) (a' := ?_) #[false, true, false, false, false, false, false, false, false, false, false] rfl rfl (any_of HT_.out (by kernel_rfl)) (fun _ _ _ h => h) (Or.inl ⟨by rfl, ?_⟩) ?_ ?_
         rotate_left
         ·intro w'; go_simp; with_reducible rfl
         rotate_left
         ·simp only [Act.put, xA, xZ, xS, i64_w, i32_w]; rfl
         refine pure_ (i := 2) (N := some 82) (v := ?_) (a' := ?_) #[false, true, true, false, false, false, false, false, false, false, false] rfl rfl (any_of HT_.out (by kernel_rfl)) (fun _ _ _ h => h) (Or.inl ⟨by rfl, ?_⟩) ?_ ?_
         rotate_left
         ·intro w'; go_simp; with_reducible rfl
         rotate_left
         ·simp only [Act.put, xA, xZ, xS, i64_w, i32_w]; rfl
         refine take_ (i := 0) (N := some 80) (v := ?_) (a' := ?_) #[true, true, true, false, false, false, false, false, false, false, false] rfl rfl (take_ofW HT_.out HW_.out (by kernel_rfl)) (fun _ _ _ h => h) (Or.inl ⟨by rfl, ?_⟩) hHeld ?_ ?_
         rotate_left
         ·rintro w' ⟨s0, s1, s2, s3, s4, s5⟩; go_simp; with_reducible rfl
         rotate_left
         ·simp only [Act.put, xA, xZ, xS, i64_w, i32_w]; rfl
         refine take_ (i := 4) (N := some 84) (v := ?_) (a' := ?_) #[true, true, true, false, true, false, false, false, false, false, false] rfl rfl (take_ofW HT_.out HW_.out (by kernel_rfl)) (fun _ _ _ h => h) (Or.inl ⟨by rfl, ?_⟩) hHeld ?_ ?_
         rotate_left
         ·rintro w' ⟨s0, s1, s2, s3, s4, s5⟩; go_simp; with_reducible rfl
         rotate_left
         ·simp only [Act.put, xA, xZ, xS, i64_w, i32_w]; rfl
         refine one_ (i := 3) (N := some 83) #[true, true, true, true, true, false, false, false, false, false, false] rfl rfl (one_of HT_.out (by kernel_rfl)) (by decide) (fun K hK => ?_)
         refine goes_ Try.func30 (by kernel_rfl) rfl #[.agg #[.slice Ao68 x440000_2.length co68, .slice Ao69 x440001_2.length co69, .int .i64 x440002_2, .bool x440003_2], .int .i64 a0_8, .int .i64 a0_9] (by rfl) rfl rfl (by (try simp only [List.map_toArray, List.map_cons, List.map_nil]); first | done | rfl | (simp only [List.length_drop, List.length_take]; rfl)) ?_
         with_reducible refine (hogsheadref08_Crash.calls k2 _ _ x440000_2 _ _ x440001_2 x440002_2 x440003_2 a0_8 a0_9 t473 t476 t479 t480 _ ?side1 ?side2 ?side3 ?side4 A64.out).mono ?_
         (case side1 => repeat (first | exact (Kd.V_reads' HO_440000.out).2.2 | (with_reducible refine Kd.C_alloc ?_ _) | (with_reducible refine Kd.C_drewN ?_ _) | (with_reducible refine Kd.C_drew ?_)))
         (case side2 => exact (Kd.V_reads' HO_440000.out).2.1)
         (case side3 => repeat (first | exact (Kd.V_reads' HO_440001.out).2.2 | (with_reducible refine Kd.C_alloc ?_ _) | (with_reducible refine Kd.C_drewN ?_ _) | (with_reducible refine Kd.C_drew ?_)))
         (case side4 => exact (Kd.V_reads' HO_440001.out).2.1)
         rintro e w70 ⟨v474, v477, rfl, ho0, ho1, hb⟩
         refine ⟨_, rfl, ?_⟩
         have n0_ := qM (Vm (Kd.V_told (Kd.V_told (Kd.V_old (by (with_reducible repeat first | apply VA | apply VN | apply VD); exact HO_440000.out) hb) (Kd.R_base ho0)) (Kd.R_base ho1)) (fun _ h_ => h_.1))
         have n1_ := qM (Vm (Kd.V_told (Kd.V_told (Kd.V_old (by (with_reducible repeat first | apply VA | apply VN | apply VD); exact HO_440001.out) hb) (Kd.R_base ho0)) (Kd.R_base ho1)) (fun _ h_ => h_.1))
         have n2_ := qM (Kd.R_lower ho0 (eZ (by repeat (first | (with_reducible first | exact HB.out | apply eA | apply eN | apply eD | refine eU ?_ (by assumption)) | exact HB.out))))
         have n3_ := qM (Kd.R_lower ho1 (eZ (by repeat (first | (with_reducible first | exact HB.out | apply eA | apply eN | apply eD | refine eU ?_ (by assumption)) | exact HB.out))))
         have n4_ := qM (qB (g := g438) (by (with_reducible repeat first | refine qN ?_ _ | refine qD ?_ | refine qA ?_ _); exact B438.out) hb)
         have n5_ := qM (qB (g := g439) (by (with_reducible repeat first | refine qN ?_ _ | refine qD ?_ | refine qA ?_ _); exact B439.out) hb)
         have n6_ := qM (qB (g := g440) (by (with_reducible repeat first | refine qN ?_ _ | refine qD ?_ | refine qA ?_ _); exact B440.out) hb)
         have n7_ := qM (qB (g := g442) (by (with_reducible repeat first | refine qN ?_ _ | refine qD ?_ | refine qA ?_ _); exact B442.out) hb)
         have n8_ := qM (eT (by repeat (first | (with_reducible first | exact HB.out | apply eA | apply eN | apply eD | refine eU ?_ (by assumption)) | exact HB.out)) hb)
         clear HO_440000
         clear HO_440001
         clear B438
         clear B439
         clear B440
         clear B442
         clear HB
         have HO_440000 := n0_
         have HO_440001 := n1_
         have HO475 := n2_
         have HO478 := n3_
         have B438 := n4_
         have B439 := n5_
         have B440 := n6_
         have B442 := n7_
         have HB := n8_
         clear n0_ n1_ n2_ n3_ n4_ n5_ n6_ n7_ n8_
         (try clear hb)
         (try clear hb2)
         (try clear hk)
         (try clear hi)
         (try clear ho0)
         (try clear ho1)
         obtain ⟨Ao71, co71, eo71⟩ := Kd.R_slice HO475.out
         (first | subst eo71 | (injection eo71 with f1_ f2_ f3_; have f4_ := f1_.symm; have f5_ := f3_.symm; clear f1_ f2_ f3_; subst f4_; subst f5_))
         obtain ⟨Ao72, co72, eo72⟩ := Kd.R_slice HO478.out
         (first | subst eo72 | (injection eo72 with f1_ f2_ f3_; have f4_ := f1_.symm; have f5_ := f3_.symm; clear f1_ f2_ f3_; subst f4_; subst f5_))
         refine hK.out _ _ ⟨(qC B439.out 0).trans rfl, (qC B439.out 1).trans rfl, (qC B439.out 2).trans rfl, (qC B439.out 3).trans rfl, (qC B442.out 0).trans rfl, (qC B442.out 1).trans rfl⟩ (fun hHeld => ?_)
         clear hK K
         refine norm_ (a' := ?_) ?_ ?_
         rotate_left
         ·show Act.put _ (some 83) _ = _
          simp only [Act.put, xA, xZ, xS, i64_w, i32_w]
          rfl
         refine one_ (i := 5) (N := some 85) #[true, true, true, true, true, true, false, false, false, false, false] rfl rfl (one_of HT_.out (by kernel_rfl)) (by decide) (fun K hK => ?_)
         refine goes_ Try.func18 (by kernel_rfl) rfl #[.agg #[.slice Ao71 t473.length co71, .slice Ao72 t476.length co72, .int .i64 t479, .bool t480], .agg #[.int .i64 a0_4, .int .i64 a0_5]] (by rfl) rfl rfl (by (try simp only [List.map_toArray, List.map_cons, List.map_nil]); first | done | rfl | (simp only [List.length_drop, List.length_take]; rfl)) ?_
         with_reducible refine (shelf_Find.calls k2 _ _ t473 _ _ t476 t479 t480 a0_4 a0_5 t481 t482 _ ?side1 ?side2 ?side3 ?side4 A65.out).mono ?_
         (case side1 => repeat (first | exact (Kd.R_reads' HO475.out).2.2 | (with_reducible refine Kd.C_alloc ?_ _) | (with_reducible refine Kd.C_drewN ?_ _) | (with_reducible refine Kd.C_drew ?_)))
         (case side2 => exact (Kd.R_reads' HO475.out).2.1)
         (case side3 => repeat (first | exact (Kd.R_reads' HO478.out).2.2 | (with_reducible refine Kd.C_alloc ?_ _) | (with_reducible refine Kd.C_drewN ?_ _) | (with_reducible refine Kd.C_drew ?_)))
         (case side4 => exact (Kd.R_reads' HO478.out).2.1)
         rintro e w73 ⟨rfl, hb⟩
         refine ⟨_, rfl, ?_⟩
         have n0_ := qM (Vb (by (with_reducible repeat first | apply VA | apply VN | apply VD); exact HO_440000.out) hb)
         have n1_ := qM (Vb (by (with_reducible repeat first | apply VA | apply VN | apply VD); exact HO_440001.out) hb)
         have n2_ := qM (Kd.R_below (by (with_reducible repeat first | apply RA | apply RN | apply RD); exact HO475.out) hb)
         have n3_ := qM (Kd.R_below (by (with_reducible repeat first | apply RA | apply RN | apply RD); exact HO478.out) hb)
         have n4_ := qM (qB (g := g438) (by (with_reducible repeat first | refine qN ?_ _ | refine qD ?_ | refine qA ?_ _); exact B438.out) hb)
         have n5_ := qM (qB (g := g439) (by (with_reducible repeat first | refine qN ?_ _ | refine qD ?_ | refine qA ?_ _); exact B439.out) hb)
         have n6_ := qM (qB (g := g440) (by (with_reducible repeat first | refine qN ?_ _ | refine qD ?_ | refine qA ?_ _); exact B440.out) hb)
         have n7_ := qM (qB (g := g442) (by (with_reducible repeat first | refine qN ?_ _ | refine qD ?_ | refine qA ?_ _); exact B442.out) hb)
         have n8_ := qM (eT (by repeat (first | (with_reducible first | exact HB.out | apply eA | apply eN | apply eD | refine eU ?_ (by assumption)) | exact HB.out)) hb)
         clear HO_440000
         clear HO_440001
         clear HO475
         clear HO478
         clear B438
         clear B439
         clear B440
         clear B442
         clear HB
         have HO_440000 := n0_
         have HO_440001 := n1_
         have HO475 := n2_
         have HO478 := n3_
         have B438 := n4_
         have B439 := n5_
         have B440 := n6_
         have B442 := n7_
         have HB := n8_
         clear n0_ n1_ n2_ n3_ n4_ n5_ n6_ n7_ n8_
         (try clear hb)
         (try clear hb2)
         (try clear hk)
         (try clear hi)
         refine hK.out _ _ ⟨(qC B439.out 0).trans rfl, (qC B439.out 1).trans rfl, (qC B439.out 2).trans rfl, (qC B439.out 3).trans rfl, (qC B442.out 0).trans rfl, (qC B442.out 1).trans rfl⟩ (fun hHeld => ?_)
         clear hK K
         refine norm_ (a' := ?_) ?_ ?_
         rotate_left
         ·show Act.put _ (some 85) _ = _
          simp only [Act.put, xA, xZ, xS, i64_w, i32_w]
          rfl
         refine pure_ (i := 6) (N := some 79) (v := ?_) (a' := ?_) #[true, true, true, true, true, true, true, false, false, false, false] rfl rfl (any_of HT_.out (by kernel_rfl)) (fun _ _ _ h => h) (Or.inl ⟨by rfl, ?_⟩) ?_ ?_
         rotate_left
         ·intro w'; go_simp; with_reducible rfl
         rotate_left
         ·simp only [Act.put, xA, xZ, xS, i64_w, i32_w]; rfl
         refine pure_ (i := 7) (N := some 86) (v := ?_) (a' := ?_) #[true, true, true, true, true, true, true, true, false, false, false] rfl rfl (any_of HT_.out (by kernel_rfl)) (fun _ _ _ h => h) (Or.inl ⟨by rfl, ?_⟩) ?_ ?_
         rotate_left
         ·intro w'; go_simp; with_reducible rfl
         rotate_left
         ·simp only [Act.put, xA, xZ, xS, i64_w, i32_w]; rfl
         refine pure_ (i := 8) (N := some 87) (v := ?_) (a' := ?_) #[true, true, true, true, true, true, true, true, true, false, false] rfl rfl (any_of HT_.out (by kernel_rfl)) (fun _ _ _ h => h) (Or.inl ⟨by rfl, ?_⟩) ?_ ?_
         rotate_left
         ·intro w'; go_simp; with_reducible rfl
         rotate_left
         ·simp only [Act.put, xA, xZ, xS, i64_w, i32_w]; rfl
         refine pure_ (i := 9) (N := some 15) (v := ?_) (a' := ?_) #[true, true, true, true, true, true, true, true, true, true, false] rfl rfl (any_of HT_.out (by kernel_rfl)) (fun _ _ _ h => h) (Or.inl ⟨by rfl, ?_⟩) ?_ ?_
         rotate_left
         ·intro w'; go_simp; with_reducible rfl
         rotate_left
         ·simp only [Act.put, xA, xZ, xS, i64_w, i32_w]; rfl
         refine pure_ (i := 10) (N := some 16) (v := ?_) (a' := ?_) #[true, true, true, true, true, true, true, true, true, true, true] rfl rfl (any_of HT_.out (by kernel_rfl)) (fun _ _ _ h => h) (Or.inl ⟨by rfl, ?_⟩) ?_ ?_
         rotate_left
         ·intro w'; go_simp; with_reducible rfl
         rotate_left
         ·simp only [Act.put, xA, xZ, xS, i64_w, i32_w]; rfl
         refine done_ (done_of HT_.out (by kernel_rfl)) ?_
         go_upto_region 22 with (fail)
         go_cut [2] (fun v2 wc => ∃ (kq : Nat) (x2_65 : Bool), v2 = .bool x2_65 ∧ Aside0 (hogsheadlaw10_ShelfLasts.j2 kq x2_65 = some r) ∧ Aside0 (kq ≤ k2) ∧ Aside0 (Kd.V Kd.string 9 wc w.heap.size (fun k_ => k_ ≠ g438 ∧ k_ ≠ g439 ∧ k_ ≠ g440 ∧ k_ ≠ g442) (.slice Ao68 x440000_2.length co68) x440000_2) ∧ Aside0 (Kd.V k94 94 wc w.heap.size (fun k_ => k_ ≠ g438 ∧ k_ ≠ g439 ∧ k_ ≠ g440 ∧ k_ ≠ g442) (.slice Ao69 x440001_2.length co69) x440001_2) ∧ Aside0 (wc.heap[g438]? = some (.cells #[(.slice A0_0 l0_0.length c0_0), (.slice A0_1 l0_1.length c0_1), .int .i64 a0_2, .bool a0_3, .int .i64 a0_4, .int .i64 a0_5, .string a0_6, (.slice A0_7 l0_7.length c0_7), .int .i64 a0_8, .int .i64 a0_9] 57 (0, 0))) ∧ Aside0 (wc.heap[g439]? = some (.cells #[(.slice Ao68 x440000_2.length co68), (.slice Ao69 x440001_2.length co69), .int .i64 x440002_2, .bool x440003_2] 25 (0, 0))) ∧ Aside0 (wc.heap[g440]? = some (.cells #[.int .i64 a0_4, .int .i64 a0_5, .string a0_6] 43 (0, 0))) ∧ Aside0 (wc.heap[g442]? = some (.cells #[.int .i64 a0_4, .int .i64 a0_5] 27 (0, 0))) ∧ Aside0 (Below w.heap.size w wc))
         case first =>
          have H := HC66.out
          clear HC66
          by_cases c74 : t441 = true
          ·subst c74
           have H1 : (if t481.toList = a0_6.toList then (hogsheadlaw10_ShelfLasts.j2 k2 (t482 == 0)) else (hogsheadlaw10_ShelfLasts.j2 k2 false)) = some r := by rw [if_pos rfl] at H; exact H
           clear H
           have H := H1
           clear H1
           by_cases c75 : t481.toList = a0_6.toList
           ·rw [if_pos c75] at H
            have c75b0 : (t481.toList == a0_6.toList) = true := beq_iff_eq.mpr c75
            have c75b1 : (t481.toList != a0_6.toList) = false := bne_eq_false_iff_eq.mpr c75
            clear c75
            (first | rw [c75b0] | (simp only [i64_w, i32_w]; rw [c75b0]) | skip)
            have H' := qM H
            clear H
            have hnb76 := NB440_438.out
            have hnc76 := NB438_440.out
            have hnb77 := NB440_439.out
            have hnc77 := NB439_440.out
            have hnb78 := NB440_442.out
            have hnc78 := NB442_440.out
            obtain ⟨z79_0, z79_1, z79_2, f79_0, f79_1, f79_2⟩ := cells3 B440.out
            go_wp2
            go_meet
            case rel => exact ⟨_, ((t482 == 0)), (by first | rfl | (simp; done) | (simp [*]; done)), H', ⟨by have := HJ6.out; have := HK2.out; first | omega | exact Nat.le_refl _⟩, ⟨by (with_reducible repeat first | apply VA | apply VN | apply VD); exact Vm HO_440000.out (fun _ hk => ⟨hk.1.1.1, ⟨hk.1.1.2.1, ⟨hk.1.1.2.2.1, hk.1.1.2.2.2⟩⟩⟩)⟩, ⟨by (with_reducible repeat first | apply VA | apply VN | apply VD); exact Vm HO_440001.out (fun _ hk => ⟨hk.1.1.1, ⟨hk.1.1.2.1, ⟨hk.1.1.2.2.1, hk.1.1.2.2.2⟩⟩⟩)⟩, ⟨by (with_reducible repeat first | refine qN ?_ _ | refine qD ?_ | refine qA ?_ _); exact B438.out⟩, ⟨by (with_reducible repeat first | refine qN ?_ _ | refine qD ?_ | refine qA ?_ _); exact B439.out⟩, ⟨by (with_reducible repeat first | refine qN ?_ _ | refine qD ?_ | refine qA ?_ _); exact B440.out⟩, ⟨by (with_reducible repeat first | refine qN ?_ _ | refine qD ?_ | refine qA ?_ _); exact B442.out⟩, ⟨by repeat (first | (with_reducible first | exact HB.out | apply eA | apply eN | apply eD | refine eS ?_ GE438.out | refine eS ?_ GE439.out | refine eS ?_ GE440.out | refine eS ?_ GE442.out) | exact HB.out)⟩⟩
           ·rw [if_neg c75] at H
            have c75b0 : (t481.toList == a0_6.toList) = false := beq_eq_false_iff_ne.mpr c75
            have c75b1 : (t481.toList != a0_6.toList) = true := bne_iff_ne.mpr c75
            (first | rw [c75b0] | (simp only [i64_w, i32_w]; rw [c75b0]) | skip)
            have H' := qM H
            clear H
            have hnb80 := NB440_438.out
            have hnc80 := NB438_440.out
            have hnb81 := NB440_439.out
            have hnc81 := NB439_440.out
            have hnb82 := NB440_442.out
            have hnc82 := NB442_440.out
            obtain ⟨z83_0, z83_1, z83_2, f83_0, f83_1, f83_2⟩ := cells3 B440.out
            go_wp2
            go_meet
            case rel => exact ⟨_, (false), (by first | rfl | (simp; done) | (simp [*]; done)), H', ⟨by have := HJ6.out; have := HK2.out; first | omega | exact Nat.le_refl _⟩, ⟨by (with_reducible repeat first | apply VA | apply VN | apply VD); exact Vm HO_440000.out (fun _ hk => ⟨hk.1.1.1, ⟨hk.1.1.2.1, ⟨hk.1.1.2.2.1, hk.1.1.2.2.2⟩⟩⟩)⟩, ⟨by (with_reducible repeat first | apply VA | apply VN | apply VD); exact Vm HO_440001.out (fun _ hk => ⟨hk.1.1.1, ⟨hk.1.1.2.1, ⟨hk.1.1.2.2.1, hk.1.1.2.2.2⟩⟩⟩)⟩, ⟨by (with_reducible repeat first | refine qN ?_ _ | refine qD ?_ | refine qA ?_ _); exact B438.out⟩, ⟨by (with_reducible repeat first | refine qN ?_ _ | refine qD ?_ | refine qA ?_ _); exact B439.out⟩, ⟨by (with_reducible repeat first | refine qN ?_ _ | refine qD ?_ | refine qA ?_ _); exact B440.out⟩, ⟨by (with_reducible repeat first | refine qN ?_ _ | refine qD ?_ | refine qA ?_ _); exact B442.out⟩, ⟨by repeat (first | (with_reducible first | exact HB.out | apply eA | apply eN | apply eD | refine eS ?_ GE438.out | refine eS ?_ GE439.out | refine eS ?_ GE440.out | refine eS ?_ GE442.out) | exact HB.out)⟩⟩
          ·replace c74 := Bool.eq_false_iff.mpr c74
           subst c74
           have H1 : (hogsheadlaw10_ShelfLasts.j2 k2 false) = some r := by rw [if_neg (show ¬ (false = true) by decide)] at H; exact H
           clear H
           have H := H1
           clear H1
           have H' := qM H
           clear H
           go_wp2
           go_meet
           case rel => exact ⟨_, (false), (by first | rfl | (simp; done) | (simp [*]; done)), H', ⟨by have := HJ6.out; have := HK2.out; first | omega | exact Nat.le_refl _⟩, ⟨by (with_reducible repeat first | apply VA | apply VN | apply VD); exact Vm HO_440000.out (fun _ hk => ⟨hk.1.1.1, ⟨hk.1.1.2.1, ⟨hk.1.1.2.2.1, hk.1.1.2.2.2⟩⟩⟩)⟩, ⟨by (with_reducible repeat first | apply VA | apply VN | apply VD); exact Vm HO_440001.out (fun _ hk => ⟨hk.1.1.1, ⟨hk.1.1.2.1, ⟨hk.1.1.2.2.1, hk.1.1.2.2.2⟩⟩⟩)⟩, ⟨by (with_reducible repeat first | refine qN ?_ _ | refine qD ?_ | refine qA ?_ _); exact B438.out⟩, ⟨by (with_reducible repeat first | refine qN ?_ _ | refine qD ?_ | refine qA ?_ _); exact B439.out⟩, ⟨by (with_reducible repeat first | refine qN ?_ _ | refine qD ?_ | refine qA ?_ _); exact B440.out⟩, ⟨by (with_reducible repeat first | refine qN ?_ _ | refine qD ?_ | refine qA ?_ _); exact B442.out⟩, ⟨by repeat (first | (with_reducible first | exact HB.out | apply eA | apply eN | apply eD | refine eS ?_ GE438.out | refine eS ?_ GE439.out | refine eS ?_ GE440.out | refine eS ?_ GE442.out) | exact HB.out)⟩⟩
         case rest =>
          clear HC66
          try clear c1
          try clear c2
          try clear p2
          try clear c3
          try clear p4
          try clear q4
          try clear hx4
          try clear c5
          try clear p6
          try clear c7
          try clear c8
          try clear c18
          try clear c22
          try clear c30
          try clear p46
          try clear q46
          try clear hx46
          try clear c51
          try clear c51b0
          try clear c52
          try clear c52b0
          try clear p64
          try clear c74
          try clear c75
          try clear c75b0
          try clear c75b1
          try clear c76
          try clear c77
          try clear c78
          try clear c80
          try clear c81
          try clear c82
          try clear z35_2
          try clear z35_3
          try clear z38_0
          try clear z38_1
          try clear z38_2
          try clear z38_3
          try clear z44_0
          try clear z44_1
          try clear z44_2
          try clear z48_0
          try clear z48_1
          try clear z48_2
          try clear z79_0
          try clear z79_1
          try clear z79_2
          try clear z83_0
          try clear z83_1
          try clear z83_2
          try clear z9_0
          try clear z9_1
          try clear z9_2
          try clear z9_3
          try clear z9_4
          try clear z9_5
          try clear z9_6
          try clear z9_7
          try clear z9_8
          try clear z9_9
          try clear f12_0
          try clear f12_1
          try clear f12_2
          try clear f12_3
          try clear f13_0
          try clear f13_1
          try clear f13_2
          try clear f13_3
          try clear f13_4
          try clear f13_5
          try clear f13_6
          try clear f13_7
          try clear f13_8
          try clear f13_9
          try clear f17_0
          try clear f17_1
          try clear f17_2
          try clear f18_0
          try clear f18_1
          try clear f18_2
          try clear f18_3
          try clear f18_4
          try clear f18_5
          try clear f18_6
          try clear f18_7
          try clear f18_8
          try clear f18_9
          try clear f20_0
          try clear f20_1
          try clear f20_2
          try clear f25_0
          try clear f25_1
          try clear f27_0
          try clear f27_1
          try clear f27_2
          try clear f27_3
          try clear f28_0
          try clear f28_1
          try clear f28_2
          try clear f31_0
          try clear f31_1
          try clear f31_2
          try clear f31_3
          try clear f33_0
          try clear f33_1
          try clear f35_0
          try clear f35_1
          try clear f35_2
          try clear f35_3
          try clear f38_0
          try clear f38_1
          try clear f38_2
          try clear f38_3
          try clear f44_0
          try clear f44_1
          try clear f44_2
          try clear f48_0
          try clear f48_1
          try clear f48_2
          try clear f79_0
          try clear f79_1
          try clear f79_2
          try clear f83_0
          try clear f83_1
          try clear f83_2
          try clear f9_0
          try clear f9_1
          try clear f9_2
          try clear f9_3
          try clear f9_4
          try clear f9_5
          try clear f9_6
          try clear f9_7
          try clear f9_8
          try clear f9_9
          try clear hx463_0
          try clear hx463_1
          try clear hx463_2
          try clear p2
          try clear p463
          try clear q463
          obtain ⟨kq, x2_65, rfl, HA, HJ65, HO_440000, HO_440001, B438, B439, B440, B442, HB⟩ := hcut
          cases kq with
          | zero => exact absurd HA.out (by simp [hogsheadlaw10_ShelfLasts.j2])
          | succ kj65 =>
           have H := HA.out
           clear HA
           simp only [hogsheadlaw10_ShelfLasts.j2] at H
           obtain rfl := Option.some.inj H
           go_wp2
           go_ret
           exact ⟨by first | rfl | (simp [errW_none, errW_some] <;> rfl) | (simp [*, errW_none, errW_some] <;> rfl), by repeat (first | (with_reducible first | exact HB.out | apply eA | apply eN | apply eD | refine eS ?_ GE438.out | refine eS ?_ GE439.out | refine eS ?_ GE440.out | refine eS ?_ GE442.out) | exact HB.out)⟩
     ·rw [if_neg c50] at H
      have c50b0 : (t462 == 0) = false := beq_eq_false_iff_ne.mpr c50
      have c50b1 : (t462 != 0) = true := bne_iff_ne.mpr c50
      obtain rfl := Option.some.inj H
      go_wp2
      go_ret
      exact ⟨by first | rfl | (simp [errW_none, errW_some] <;> rfl) | (simp [*, errW_none, errW_some] <;> rfl), by repeat (first | (with_reducible first | exact HB.out | apply eA | apply eN | apply eD | refine eS ?_ GE438.out | refine eS ?_ GE439.out | refine eS ?_ GE440.out | refine eS ?_ GE442.out) | exact HB.out)⟩
 ·rw [if_neg c4] at H
  have c4b0 : (t451 == 0) = false := beq_eq_false_iff_ne.mpr c4
  have c4b1 : (t451 != 0) = true := bne_iff_ne.mpr c4
  obtain rfl := Option.some.inj H
  go_enter Try.func6, Try.ntmps6
  go_wp2_with (first | ((with_reducible refine gate_dst (N := 1) rfl ?_); refine box_event ?hg (N := 1) ?hd (cs := #[.slice A0_0 l0_0.length c0_0, .slice A0_1 l0_1.length c0_1, .int .i64 a0_2, .bool a0_3, .int .i64 a0_4, .int .i64 a0_5, .string a0_6, .slice A0_7 l0_7.length c0_7, .int .i64 a0_8, .int .i64 a0_9]) (t := 57) ?hr ?_; (case hd => rfl); (case hg => rfl); (case hr => first | (go_simp; done) | (go_simp; rfl)); intro g438 hg w84 hbox hb; have n0_ := qM (eT (by repeat (first | (with_reducible first | exact HB.out | apply eA | apply eN | apply eD) | exact HB.out)) hb); have n1_ := qM (hbox); have n2_ := qM ((by rw [hg]; exact (eZ (by repeat (first | (with_reducible first | exact HB.out | apply eA | apply eN | apply eD) | exact HB.out))) : w.heap.size ≤ g438)); have n3_ := n2_; clear HB; have HB := n0_; have B438 := n1_; have GW438 := n2_; have GE438 := n3_; clear n0_ n1_ n2_ n3_; clear hb hbox hg; obtain ⟨z85_0, z85_1, z85_2, z85_3, z85_4, z85_5, z85_6, z85_7, z85_8, z85_9, f85_0, f85_1, f85_2, f85_3, f85_4, f85_5, f85_6, f85_7, f85_8, f85_9⟩ := cells10 B438.out) | ((with_reducible refine gate_dst (N := 3) rfl ?_); refine box_event ?hg (N := 3) ?hd (cs := #[.slice none 0 0, .slice none 0 0, .int .i64 0, .bool false]) (t := 25) ?hr ?_; (case hd => rfl); (case hg => rfl); (case hr => first | (go_simp; done) | (go_simp; rfl)); intro g439 hg w86 hbox hb; have n0_ := qM (qB (g := g438) (by (with_reducible repeat first | refine qN ?_ _ | refine qD ?_ | refine qA ?_ _); exact B438.out) hb); have n1_ := qM (eT (by repeat (first | (with_reducible first | exact HB.out | apply eA | apply eN | apply eD | refine eU ?_ (by assumption)) | exact HB.out)) hb); have n2_ := qM (hbox); have n3_ := qM ((by rw [hg]; exact (eZ (by repeat (first | (with_reducible first | exact HB.out | apply eA | apply eN | apply eD | refine eU ?_ (by assumption)) | exact HB.out))) : w.heap.size ≤ g439)); have n4_ := n3_; have n5_ := qM ((by rw [hg]; exact Nat.ne_of_lt (qL (g := g438) (by (with_reducible repeat first | refine qN ?_ _ | refine qD ?_ | refine qA ?_ _); exact B438.out)) : g438 ≠ g439)); have n6_ := qM (Ne.symm n5_.out); clear B438 HB; have B438 := n0_; have HB := n1_; have B439 := n2_; have GW439 := n3_; have GE439 := n4_; have NB438_439 := n5_; have NB439_438 := n6_; clear n0_ n1_ n2_ n3_ n4_ n5_ n6_; clear hb hbox hg; have hnb87 := NB439_438.out; have hnc87 := NB438_439.out; obtain ⟨z88_0, z88_1, z88_2, z88_3, f88_0, f88_1, f88_2, f88_3⟩ := cells4 B439.out; obtain ⟨z89_0, z89_1, z89_2, z89_3, z89_4, z89_5, z89_6, z89_7, z89_8, z89_9, f89_0, f89_1, f89_2, f89_3, f89_4, f89_5, f89_6, f89_7, f89_8, f89_9⟩ := cells10 B438.out) | ((with_reducible refine gate_dst (N := 4) rfl ?_); refine box_event ?hg (N := 4) ?hd (cs := #[.int .i64 0, .int .i64 0, .string (⟨#[]⟩ : ByteArray)]) (t := 43) ?hr ?_; (case hd => rfl); (case hg => rfl); (case hr => first | (go_simp; done) | (go_simp; rfl)); intro g440 hg w90 hbox hb; have n0_ := qM (qB (g := g438) (o := .cells #[.slice A0_0 l0_0.length c0_0, .slice A0_1 l0_1.length c0_1, .int .i64 a0_2, .bool a0_3, .int .i64 a0_4, .int .i64 a0_5, .string a0_6, .slice A0_7 l0_7.length c0_7, .int .i64 a0_8, .int .i64 a0_9] 57 (0, 0)) (by (with_reducible repeat first | refine qN ?_ _ | refine qD ?_ | refine qA ?_ _); (iterate 4 (refine qR ?_ NB438_439.out _; (with_reducible repeat first | refine qN ?_ _ | refine qD ?_ | refine qA ?_ _))); exact B438.out) hb); have n1_ := qM (qB (g := g439) (by (with_reducible repeat first | refine qN ?_ _ | refine qD ?_ | refine qA ?_ _); apply puts4; (with_reducible repeat first | refine qN ?_ _ | refine qD ?_ | refine qA ?_ _); exact B439.out) hb); have n2_ := qM (eT (by repeat (first | (with_reducible first | exact HB.out | apply eA | apply eN | apply eD | refine eU ?_ (by assumption)) | exact HB.out)) hb); have n3_ := qM (hbox); have n4_ := qM ((by rw [hg]; exact (eZ (by repeat (first | (with_reducible first | exact HB.out | apply eA | apply eN | apply eD | refine eU ?_ (by assumption)) | exact HB.out))) : w.heap.size ≤ g440)); have n5_ := n4_; have n6_ := qM ((by rw [hg]; exact Nat.ne_of_lt (by (with_reducible repeat first | refine Nat.lt_of_lt_of_le ?_ ((Below.refl 0 _).setCell (Nat.zero_le _) _).size | refine Nat.lt_of_lt_of_le ?_ ((Below.refl 0 _).alloc (Nat.zero_le _) _).size); exact qL B438.out) : g438 ≠ g440)); have n7_ := qM ((by rw [hg]; exact Nat.ne_of_gt (by (with_reducible repeat first | refine Nat.lt_of_lt_of_le ?_ ((Below.refl 0 _).setCell (Nat.zero_le _) _).size | refine Nat.lt_of_lt_of_le ?_ ((Below.refl 0 _).alloc (Nat.zero_le _) _).size); exact qL B438.out) : g440 ≠ g438)); have n8_ := qM ((by rw [hg]; exact Nat.ne_of_lt (qL (g := g439) (by (with_reducible repeat first | refine qN ?_ _ | refine qD ?_ | refine qA ?_ _); apply puts4; (with_reducible repeat first | refine qN ?_ _ | refine qD ?_ | refine qA ?_ _); exact B439.out)) : g439 ≠ g440)); have n9_ := qM ((by rw [hg]; exact Nat.ne_of_gt (qL (g := g439) (by (with_reducible repeat first | refine qN ?_ _ | refine qD ?_ | refine qA ?_ _); apply puts4; (with_reducible repeat first | refine qN ?_ _ | refine qD ?_ | refine qA ?_ _); exact B439.out)) : g440 ≠ g439)); clear B438 B439 HB; have B438 := n0_; have B439 := n1_; have HB := n2_; have B440 := n3_; have GW440 := n4_; have GE440 := n5_; have NB438_440 := n6_; have NB440_438 := n7_; have NB439_440 := n8_; have NB440_439 := n9_; clear n0_ n1_ n2_ n3_ n4_ n5_ n6_ n7_ n8_ n9_; clear hb hbox hg; have hnb91 := NB440_438.out; have hnc91 := NB438_440.out; have hnb92 := NB440_439.out; have hnc92 := NB439_440.out; obtain ⟨z93_0, z93_1, z93_2, f93_0, f93_1, f93_2⟩ := cells3 B440.out; obtain ⟨z94_0, z94_1, z94_2, z94_3, z94_4, z94_5, z94_6, z94_7, z94_8, z94_9, f94_0, f94_1, f94_2, f94_3, f94_4, f94_5, f94_6, f94_7, f94_8, f94_9⟩ := cells10 B438.out) | ((with_reducible refine gate_callee (f := 11) rfl ?_); refine goesL_ (some 27) rfl rfl Try.func11 (by kernel_rfl) rfl #[] rfl (by (try simp only [List.map_toArray, List.map_cons, List.map_nil]); first | done | rfl | (simp only [List.length_drop, List.length_take]; rfl)) ?_; (with_reducible refine (hogsheadlaw10_shown.calls k  t441 _ A2.out).mono ?_); rintro e w95 ⟨rfl, hb⟩; refine ⟨_, rfl, ?_⟩; have n0_ := qM (qB (g := g438) (o := .cells #[.slice A0_0 l0_0.length c0_0, .slice A0_1 l0_1.length c0_1, .int .i64 a0_2, .bool a0_3, .int .i64 a0_4, .int .i64 a0_5, .string a0_6, .slice A0_7 l0_7.length c0_7, .int .i64 a0_8, .int .i64 a0_9] 57 (0, 0)) (by (with_reducible repeat first | refine qN ?_ _ | refine qD ?_ | refine qA ?_ _); (iterate 3 (refine qR ?_ NB438_440.out _; (with_reducible repeat first | refine qN ?_ _ | refine qD ?_ | refine qA ?_ _))); exact B438.out) hb); have n1_ := qM (qB (g := g439) (o := .cells #[.slice A0_0 l0_0.length c0_0, .slice A0_1 l0_1.length c0_1, .int .i64 a0_2, .bool a0_3] 25 (0, 0)) (by (with_reducible repeat first | refine qN ?_ _ | refine qD ?_ | refine qA ?_ _); (iterate 3 (refine qR ?_ NB439_440.out _; (with_reducible repeat first | refine qN ?_ _ | refine qD ?_ | refine qA ?_ _))); exact B439.out) hb); have n2_ := qM (qB (g := g440) (by (with_reducible repeat first | refine qN ?_ _ | refine qD ?_ | refine qA ?_ _); apply puts3; (with_reducible repeat first | refine qN ?_ _ | refine qD ?_ | refine qA ?_ _); exact B440.out) hb); have n3_ := qM (eT (by repeat (first | (with_reducible first | exact HB.out | apply eA | apply eN | apply eD | refine eU ?_ (by assumption)) | exact HB.out)) hb); clear B438 B439 B440 HB; have B438 := n0_; have B439 := n1_; have B440 := n2_; have HB := n3_; clear n0_ n1_ n2_ n3_; (try clear hb); (try clear hb2); (try clear hk); (try clear hi); obtain ⟨z96_0, z96_1, z96_2, f96_0, f96_1, f96_2⟩ := cells3 B440.out) | ((with_reducible refine gate_dst (N := 9) rfl ?_); refine box_event ?hg (N := 9) ?hd (cs := #[.int .i64 0, .int .i64 0]) (t := 27) ?hr ?_; (case hd => rfl); (case hg => rfl); (case hr => first | (go_simp; done) | (go_simp; rfl)); intro g442 hg w97 hbox hb; have n0_ := qM (qB (g := g438) (by (with_reducible repeat first | refine qN ?_ _ | refine qD ?_ | refine qA ?_ _); exact B438.out) hb); have n1_ := qM (qB (g := g439) (by (with_reducible repeat first | refine qN ?_ _ | refine qD ?_ | refine qA ?_ _); exact B439.out) hb); have n2_ := qM (qB (g := g440) (by (with_reducible repeat first | refine qN ?_ _ | refine qD ?_ | refine qA ?_ _); exact B440.out) hb); have n3_ := qM (eT (by repeat (first | (with_reducible first | exact HB.out | apply eA | apply eN | apply eD | refine eU ?_ (by assumption)) | exact HB.out)) hb); have n4_ := qM (hbox); have n5_ := qM ((by rw [hg]; exact (eZ (by repeat (first | (with_reducible first | exact HB.out | apply eA | apply eN | apply eD | refine eU ?_ (by assumption)) | exact HB.out))) : w.heap.size ≤ g442)); have n6_ := n5_; have n7_ := qM ((by rw [hg]; exact Nat.ne_of_lt (qL (g := g438) (by (with_reducible repeat first | refine qN ?_ _ | refine qD ?_ | refine qA ?_ _); exact B438.out)) : g438 ≠ g442)); have n8_ := qM (Ne.symm n7_.out); have n9_ := qM ((by rw [hg]; exact Nat.ne_of_lt (qL (g := g439) (by (with_reducible repeat first | refine qN ?_ _ | refine qD ?_ | refine qA ?_ _); exact B439.out)) : g439 ≠ g442)); have n10_ := qM (Ne.symm n9_.out); have n11_ := qM ((by rw [hg]; exact Nat.ne_of_lt (qL (g := g440) (by (with_reducible repeat first | refine qN ?_ _ | refine qD ?_ | refine qA ?_ _); exact B440.out)) : g440 ≠ g442)); have n12_ := qM (Ne.symm n11_.out); clear B438 B439 B440 HB; have B438 := n0_; have B439 := n1_; have B440 := n2_; have HB := n3_; have B442 := n4_; have GW442 := n5_; have GE442 := n6_; have NB438_442 := n7_; have NB442_438 := n8_; have NB439_442 := n9_; have NB442_439 := n10_; have NB440_442 := n11_; have NB442_440 := n12_; clear n0_ n1_ n2_ n3_ n4_ n5_ n6_ n7_ n8_ n9_ n10_ n11_ n12_; clear hb hbox hg; have hnb98 := NB442_438.out; have hnc98 := NB438_442.out; have hnb99 := NB442_439.out; have hnc99 := NB439_442.out; have hnb100 := NB442_440.out; have hnc100 := NB440_442.out; have z101_0 : w97.cell? ⟨g442, 0, none⟩ = some (.int .i64 0) := (qC B442.out 0).trans rfl; have z101_1 : w97.cell? ⟨g442, 1, none⟩ = some (.int .i64 0) := (qC B442.out 1).trans rfl; have f101_0 := qF B442.out 0; have f101_1 := qF B442.out 1) | ((with_reducible refine gate_store (t := 27) (p := 9) rfl ?_); refine store_event (t := 27) (p := 9) (v := ?vo_w102) (w1 := ((w97.setCell ⟨g442, 0, none⟩ (.int .i64 a0_4)).setCell ⟨g442, 1, none⟩ (.int .i64 a0_5))) ?hg ?ho ?hn ?hr ?_; (case ho => rfl); (case hg => rfl); (case hn => rfl); (case hr => first | (go_simp; done) | (go_simp; rfl)); intro w102 hw; have n0_ : Aside0 (w102.heap[g438]? = some (.cells #[.slice A0_0 l0_0.length c0_0, .slice A0_1 l0_1.length c0_1, .int .i64 a0_2, .bool a0_3, .int .i64 a0_4, .int .i64 a0_5, .string a0_6, .slice A0_7 l0_7.length c0_7, .int .i64 a0_8, .int .i64 a0_9] 57 (0, 0))) := ⟨(by rw [hw]; exact (by (with_reducible repeat first | refine qN ?_ _ | refine qD ?_ | refine qA ?_ _); (iterate 2 (refine qR ?_ NB438_442.out _; (with_reducible repeat first | refine qN ?_ _ | refine qD ?_ | refine qA ?_ _))); exact B438.out))⟩; have n1_ : Aside0 (w102.heap[g439]? = some (.cells #[.slice A0_0 l0_0.length c0_0, .slice A0_1 l0_1.length c0_1, .int .i64 a0_2, .bool a0_3] 25 (0, 0))) := ⟨(by rw [hw]; exact (by (with_reducible repeat first | refine qN ?_ _ | refine qD ?_ | refine qA ?_ _); (iterate 2 (refine qR ?_ NB439_442.out _; (with_reducible repeat first | refine qN ?_ _ | refine qD ?_ | refine qA ?_ _))); exact B439.out))⟩; have n2_ : Aside0 (w102.heap[g440]? = some (.cells #[.int .i64 a0_4, .int .i64 a0_5, .string a0_6] 43 (0, 0))) := ⟨(by rw [hw]; exact (by (with_reducible repeat first | refine qN ?_ _ | refine qD ?_ | refine qA ?_ _); (iterate 2 (refine qR ?_ NB440_442.out _; (with_reducible repeat first | refine qN ?_ _ | refine qD ?_ | refine qA ?_ _))); exact B440.out))⟩; have n3_ : Aside0 (w102.heap[g442]? = some (.cells #[.int .i64 a0_4, .int .i64 a0_5] 27 (0, 0))) := ⟨(by rw [hw]; exact (by (with_reducible repeat first | refine qN ?_ _ | refine qD ?_ | refine qA ?_ _); refine qP (cs := #[.int .i64 a0_4, .int .i64 0]) ?_ 1 _ rfl; (with_reducible repeat first | refine qN ?_ _ | refine qD ?_ | refine qA ?_ _); refine qP (cs := #[.int .i64 0, .int .i64 0]) ?_ 0 _ rfl; (with_reducible repeat first | refine qN ?_ _ | refine qD ?_ | refine qA ?_ _); exact B442.out))⟩; have n4_ : Aside0 (Below w.heap.size w w102) := ⟨(by rw [hw]; exact (by repeat (first | (with_reducible first | exact HB.out | apply eA | apply eN | apply eD | refine eU ?_ (by assumption)) | exact HB.out)))⟩; clear hw B438 B439 B440 B442 HB; have B438 := n0_; have B439 := n1_; have B440 := n2_; have B442 := n3_; have HB := n4_; clear n0_ n1_ n2_ n3_ n4_; obtain ⟨z103_0, z103_1, z103_2, z103_3, f103_0, f103_1, f103_2, f103_3⟩ := cells4 B439.out; obtain ⟨z104_0, z104_1, z104_2, f104_0, f104_1, f104_2⟩ := cells3 B440.out) | ((with_reducible refine gate_callee (f := 22) rfl ?_); refine goesL_ (some 36) rfl rfl Try.func22 (by kernel_rfl) rfl #[.agg #[.slice A0_0 l0_0.length c0_0, .slice A0_1 l0_1.length c0_1, .int .i64 a0_2, .bool a0_3], .agg #[.int .i64 a0_4, .int .i64 a0_5, .string a0_6]] rfl (by (try simp only [List.map_toArray, List.map_cons, List.map_nil]); first | done | rfl | (simp only [List.length_drop, List.length_take]; rfl)) ?_; (with_reducible refine (shelf_Put.calls k (fun k_ => k_ < w.heap.size) _ _ l0_0 (fun k_ => k_ < w.heap.size) _ _ l0_1 a0_2 a0_3 a0_4 a0_5 a0_6 t443 t446 t449 t450 t451 _ ?side1 ?side2 A3.out).mono ?_); (case side1 => exact Kd.V_mk HC0_0.out (Kd.F_below (Kd.C_F Kd.heap_string HR0_0.out) (by repeat (first | (with_reducible first | exact HB.out | apply eA | apply eN | apply eD | refine eU ?_ (by assumption)) | exact HB.out)))); (case side2 => exact Kd.V_mk HC0_1.out (Kd.F_below (Kd.C_F k94_heap HR0_1.out) (by repeat (first | (with_reducible first | exact HB.out | apply eA | apply eN | apply eD | refine eU ?_ (by assumption)) | exact HB.out)))); rintro e w105 ⟨v444, v447, rfl, ho0, ho1, hb⟩; refine ⟨_, rfl, ?_⟩; have n0_ := qM (Vl (Vm (ok' := fun k_ => k_ ≠ g438 ∧ k_ ≠ g439 ∧ k_ ≠ g440 ∧ k_ ≠ g442) ho0 (fun k_ hk_ => ⟨Or.elim hk_ (fun hs_ => Or.elim hs_ (nL GW438) (nL GW438)) (fun hn_ => (Fb (g := g438) (by (with_reducible repeat first | refine qN ?_ _ | refine qD ?_ | refine qA ?_ _); exact B438.out) k_ hn_)), Or.elim hk_ (fun hs_ => Or.elim hs_ (nL GW439) (nL GW439)) (fun hn_ => (Fb (g := g439) (by (with_reducible repeat first | refine qN ?_ _ | refine qD ?_ | refine qA ?_ _); exact B439.out) k_ hn_)), Or.elim hk_ (fun hs_ => Or.elim hs_ (nL GW440) (nL GW440)) (fun hn_ => (Fb (g := g440) (by (with_reducible repeat first | refine qN ?_ _ | refine qD ?_ | refine qA ?_ _); exact B440.out) k_ hn_)), Or.elim hk_ (fun hs_ => Or.elim hs_ (nL GW442) (nL GW442)) (fun hn_ => (Fb (g := g442) (by (with_reducible repeat first | refine qN ?_ _ | refine qD ?_ | refine qA ?_ _); exact B442.out) k_ hn_))⟩)) (eZ (by repeat (first | (with_reducible first | exact HB.out | apply eA | apply eN | apply eD | refine eU ?_ (by assumption)) | exact HB.out)))); have n1_ := qM (Vl (Vm (ok' := fun k_ => k_ ≠ g438 ∧ k_ ≠ g439 ∧ k_ ≠ g440 ∧ k_ ≠ g442) ho1 (fun k_ hk_ => ⟨Or.elim hk_ (fun hs_ => Or.elim hs_ (nL GW438) (nL GW438)) (fun hn_ => (Fb (g := g438) (by (with_reducible repeat first | refine qN ?_ _ | refine qD ?_ | refine qA ?_ _); exact B438.out) k_ hn_)), Or.elim hk_ (fun hs_ => Or.elim hs_ (nL GW439) (nL GW439)) (fun hn_ => (Fb (g := g439) (by (with_reducible repeat first | refine qN ?_ _ | refine qD ?_ | refine qA ?_ _); exact B439.out) k_ hn_)), Or.elim hk_ (fun hs_ => Or.elim hs_ (nL GW440) (nL GW440)) (fun hn_ => (Fb (g := g440) (by (with_reducible repeat first | refine qN ?_ _ | refine qD ?_ | refine qA ?_ _); exact B440.out) k_ hn_)), Or.elim hk_ (fun hs_ => Or.elim hs_ (nL GW442) (nL GW442)) (fun hn_ => (Fb (g := g442) (by (with_reducible repeat first | refine qN ?_ _ | refine qD ?_ | refine qA ?_ _); exact B442.out) k_ hn_))⟩)) (eZ (by repeat (first | (with_reducible first | exact HB.out | apply eA | apply eN | apply eD | refine eU ?_ (by assumption)) | exact HB.out)))); have n2_ := qM (qB (g := g438) (by (with_reducible repeat first | refine qN ?_ _ | refine qD ?_ | refine qA ?_ _); exact B438.out) hb); have n3_ := qM (qB (g := g439) (by (with_reducible repeat first | refine qN ?_ _ | refine qD ?_ | refine qA ?_ _); exact B439.out) hb); have n4_ := qM (qB (g := g440) (by (with_reducible repeat first | refine qN ?_ _ | refine qD ?_ | refine qA ?_ _); exact B440.out) hb); have n5_ := qM (qB (g := g442) (by (with_reducible repeat first | refine qN ?_ _ | refine qD ?_ | refine qA ?_ _); exact B442.out) hb); have n6_ := qM (eT (by repeat (first | (with_reducible first | exact HB.out | apply eA | apply eN | apply eD | refine eU ?_ (by assumption)) | exact HB.out)) hb); clear B438 B439 B440 B442 HB; have HO445 := n0_; have HO448 := n1_; have B438 := n2_; have B439 := n3_; have B440 := n4_; have B442 := n5_; have HB := n6_; clear n0_ n1_ n2_ n3_ n4_ n5_ n6_; (try clear hb); (try clear hb2); (try clear hk); (try clear hi); (try clear ho0); (try clear ho1); obtain ⟨Ao106, co106, eo106⟩ := Kd.V_slice HO445.out; subst eo106; obtain ⟨z107_0, z107_1, z107_2, z107_3, f107_0, f107_1, f107_2, f107_3⟩ := cells4 B439.out; obtain ⟨Ao108, co108, eo108⟩ := Kd.V_slice HO448.out; subst eo108))
  go_ret
  exact ⟨by first | rfl | (simp [errW_none, errW_some] <;> rfl) | (simp [*, errW_none, errW_some] <;> rfl), by repeat (first | (with_reducible first | exact HB.out | apply eA | apply eN | apply eD | refine eS ?_ GE438.out | refine eS ?_ GE439.out | refine eS ?_ GE440.out | refine eS ?_ GE442.out) | exact HB.out)⟩

end Go.Proofs.Ytffjbbedjddpmaa.PAll
