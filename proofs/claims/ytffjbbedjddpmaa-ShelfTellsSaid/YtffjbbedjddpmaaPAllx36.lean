/- Functions of the program as plain Lean functions, and that each call comes to what they say. Laid by a program of this session (hprint.py); Lean checks it. -/
import Derived.Test.YtffjbbedjddpmaaPAllx0
import Derived.Test.YtffjbbedjddpmaaPAllx12
import Derived.Test.YtffjbbedjddpmaaPAllx13
import Derived.Test.YtffjbbedjddpmaaPAllx19
import Derived.Test.YtffjbbedjddpmaaPackShelfTells
import Derived.Test.YtffjbbedjddpmaaPAllx30
import Derived.Test.YtffjbbedjddpmaaPAllx33
namespace Go.Proofs.Ytffjbbedjddpmaa.PAll
open Go.RowKit Go.Proofs.YtffjbbedjddpmaaW.PrintWords Go.Proofs.YtffjbbedjddpmaaW.PrintLast Go.Proofs.YtffjbbedjddpmaaW.PrintMore
attribute [local go_sem] max2_int min2_int max_two min_two max_three min_three max_four min_four   -- for this text's walks alone
set_option linter.unusedVariables false
set_option linter.unusedSimpArgs false
attribute [local irreducible] World.setCell

/-! ### hogsheadlaw10_ShelfTells: function 3 -/
def hogsheadlaw10_ShelfTells.j0 : Nat → Bool → Option (Bool)
 | 0, _ => none
 | k + 1, x4 => some x4
def hogsheadlaw10_ShelfTells.f (k : Nat) (l0_0 : List ByteArray) (l0_1 : List (S94)) (a0_2 : Int) (a0_3 : Bool) (a1_0 : Int) (a1_1 : Int) : Option (Bool) := (hogsheadlaw10_shown.f k).bind fun t285 => ((shelf_List.f k l0_0 l0_1 a0_2 a0_3).bind fun t286 => ((hogsheadref10_List.f k l0_0 l0_1 a0_2 a0_3).bind fun t289 => ((hogsheadref10_Keys.f k t286 t289).bind fun t292 => ((shelf_Bad.f k l0_0 l0_1 a0_2 a0_3).bind fun t293 => ((hogsheadref10_Bad.f k l0_0 l0_1 a0_2 a0_3).bind fun t296 => ((hogsheadref10_Ints.f k t293 t296).bind fun t299 => ((shelf_Find.f k l0_0 l0_1 a0_2 a0_3 a1_0 a1_1).bind fun bt300 => ((hogsheadref10_Find.f k l0_0 l0_1 a0_2 a0_3 a1_0 a1_1).bind fun bt302 => (if t285 = true then (if t292 = true then (if t299 = true then (if bt300.1.toList = bt302.1.toList then (if bt300.2 = bt302.2 then ((shelf_Free.f k l0_0 l0_1 a0_2 a0_3).bind fun t304 => ((hogsheadref10_Free.f k l0_0 l0_1 a0_2 a0_3).bind fun t305 => (hogsheadlaw10_ShelfTells.j0 k (t304 == t305)))) else (hogsheadlaw10_ShelfTells.j0 k false)) else (hogsheadlaw10_ShelfTells.j0 k false)) else (hogsheadlaw10_ShelfTells.j0 k false)) else (hogsheadlaw10_ShelfTells.j0 k false)) else (hogsheadlaw10_ShelfTells.j0 k false))))))))))
theorem hogsheadlaw10_ShelfTells.mono_l : ∀ k, (∀ y0, LeO (hogsheadlaw10_ShelfTells.j0 k y0) (hogsheadlaw10_ShelfTells.j0 (k + 1) y0))
 | 0 => fun _ r h => by simp [hogsheadlaw10_ShelfTells.j0] at h
 | k + 1 => by
  have ih0 := hogsheadlaw10_ShelfTells.mono_l k
  ·intro y0
   unfold hogsheadlaw10_ShelfTells.j0
   repeat' first
   | (with_reducible exact ih0 _)
   | (with_reducible exact hogsheadlaw10_shown.mono _)
   | (with_reducible exact hogsheadref10_Bad.mono _ _ _ _ _)
   | (with_reducible exact hogsheadref10_Find.mono _ _ _ _ _ _ _)
   | (with_reducible exact hogsheadref10_Free.mono _ _ _ _ _)
   | (with_reducible exact hogsheadref10_Ints.mono _ _ _)
   | (with_reducible exact hogsheadref10_Keys.mono _ _ _)
   | (with_reducible exact hogsheadref10_List.mono _ _ _ _ _)
   | (with_reducible exact shelf_Bad.mono _ _ _ _ _)
   | (with_reducible exact shelf_Find.mono _ _ _ _ _ _ _)
   | (with_reducible exact shelf_Free.mono _ _ _ _ _)
   | (with_reducible exact shelf_List.mono _ _ _ _ _)
   | (with_reducible exact LeO.refl _)
   | (with_reducible exact LeO.none _)
   | (with_reducible refine LeO.ite ?_ ?_)
   | (with_reducible refine LeO.bind ?_ (fun _ => ?_))
   | exact ih0 _
   | exact hogsheadlaw10_shown.mono _
   | exact hogsheadref10_Bad.mono _ _ _ _ _
   | exact hogsheadref10_Find.mono _ _ _ _ _ _ _
   | exact hogsheadref10_Free.mono _ _ _ _ _
   | exact hogsheadref10_Ints.mono _ _ _
   | exact hogsheadref10_Keys.mono _ _ _
   | exact hogsheadref10_List.mono _ _ _ _ _
   | exact shelf_Bad.mono _ _ _ _ _
   | exact shelf_Find.mono _ _ _ _ _ _ _
   | exact shelf_Free.mono _ _ _ _ _
   | exact shelf_List.mono _ _ _ _ _
   | exact LeO.none _
   | refine LeO.ite ?_ ?_
   | refine LeO.bind ?_ (fun _ => ?_)
theorem hogsheadlaw10_ShelfTells.mono : ∀ a0 a1 a2 a3 a4 a5 k, LeO (hogsheadlaw10_ShelfTells.f k a0 a1 a2 a3 a4 a5) (hogsheadlaw10_ShelfTells.f (k + 1) a0 a1 a2 a3 a4 a5) := by
 intro a0 a1 a2 a3 a4 a5 k
 have ih0 := hogsheadlaw10_ShelfTells.mono_l k
 unfold hogsheadlaw10_ShelfTells.f
 repeat' first
   | (with_reducible exact ih0 _)
   | (with_reducible exact hogsheadlaw10_shown.mono _)
   | (with_reducible exact hogsheadref10_Bad.mono _ _ _ _ _)
   | (with_reducible exact hogsheadref10_Find.mono _ _ _ _ _ _ _)
   | (with_reducible exact hogsheadref10_Free.mono _ _ _ _ _)
   | (with_reducible exact hogsheadref10_Ints.mono _ _ _)
   | (with_reducible exact hogsheadref10_Keys.mono _ _ _)
   | (with_reducible exact hogsheadref10_List.mono _ _ _ _ _)
   | (with_reducible exact shelf_Bad.mono _ _ _ _ _)
   | (with_reducible exact shelf_Find.mono _ _ _ _ _ _ _)
   | (with_reducible exact shelf_Free.mono _ _ _ _ _)
   | (with_reducible exact shelf_List.mono _ _ _ _ _)
   | (with_reducible exact LeO.refl _)
   | (with_reducible exact LeO.none _)
   | (with_reducible refine LeO.ite ?_ ?_)
   | (with_reducible refine LeO.bind ?_ (fun _ => ?_))
   | exact ih0 _
   | exact hogsheadlaw10_shown.mono _
   | exact hogsheadref10_Bad.mono _ _ _ _ _
   | exact hogsheadref10_Find.mono _ _ _ _ _ _ _
   | exact hogsheadref10_Free.mono _ _ _ _ _
   | exact hogsheadref10_Ints.mono _ _ _
   | exact hogsheadref10_Keys.mono _ _ _
   | exact hogsheadref10_List.mono _ _ _ _ _
   | exact shelf_Bad.mono _ _ _ _ _
   | exact shelf_Find.mono _ _ _ _ _ _ _
   | exact shelf_Free.mono _ _ _ _ _
   | exact shelf_List.mono _ _ _ _ _
   | exact LeO.none _
   | refine LeO.ite ?_ ?_
   | refine LeO.bind ?_ (fun _ => ?_)
def hogsheadlaw10_ShelfTells.T6 : Bool × List (List Nat × List Nat) := (true, [([], []), ([0], [0]), ([1], [1]), ([1, 2], [1, 2]), ([3, 1], [3]), ([4], [4]), ([4, 5], [4, 5]), ([6, 4], [6]), ([7], [7]), ([7], [7]), ([8, 9, 7], [7, 8, 9]), ([7, 10], [7, 10]), ([11, 7], [11]), ([12], [12]), ([12], [12]), ([13, 14, 12], [12, 13, 14]), ([12, 15], [12, 15]), ([16, 12], [16]), ([17], [17]), ([18, 17, 17], [17, 18]), ([17], [17]), ([20, 19, 17], [17, 20]), ([19, 21, 17], [17, 19, 21]), ([17, 22], [17, 22]), ([23, 21, 0, 1, 2, 3, 4, 5, 6, 7, 8, 9, 10, 11, 12, 13, 14, 15, 16, 17, 18, 19, 20, 21, 22, 23], [23])])
def hogsheadlaw10_ShelfTells.B6 : List Nat := [0, 1, 3, 7, 15, 31, 63, 127, 255, 255, 1023, 2047, 4095, 8191, 8191, 32767, 65535, 131071, 262143, 524287, 262143, 2097151, 4194303, 8388607, 16777215]
theorem hogsheadlaw10_ShelfTells.tab6 : rtab .any (opsOf Try.f3 6) = hogsheadlaw10_ShelfTells.T6 := by kernel_rfl
theorem hogsheadlaw10_ShelfTells.bits6 : waitsOk hogsheadlaw10_ShelfTells.T6.2 hogsheadlaw10_ShelfTells.B6 = true := by kernel_rfl
set_option maxHeartbeats 40000000 in
set_option maxRecDepth 100000 in
theorem hogsheadlaw10_ShelfTells.calls (k : Nat) (A0_0 : Option Addr) (c0_0 : Nat) (l0_0 : List ByteArray) (A0_1 : Option Addr) (c0_1 : Nat) (l0_1 : List (S94)) (a0_2 : Int) (a0_3 : Bool) (a1_0 : Int) (a1_1 : Int) (r : Bool) (w : World) (hr0_0 : Kd.C Kd.string w A0_0 l0_0.length l0_0) (hc0_0 : l0_0.length ≤ c0_0) (hr0_1 : Kd.C k94 w A0_1 l0_1.length l0_1) (hc0_1 : l0_1.length ≤ c0_1) (h : hogsheadlaw10_ShelfTells.f k l0_0 l0_1 a0_2 a0_3 a1_0 a1_1 = some r) :
  Calls Try.prog 3 #[.agg #[.slice A0_0 l0_0.length c0_0, .slice A0_1 l0_1.length c0_1, .int .i64 a0_2, .bool a0_3], .agg #[.int .i64 a1_0, .int .i64 a1_1]] w fun e w' => e = .returned (.bool r) ∧ Below w.heap.size w w' := by
 have hu25 := Try.underlying25
 have hu27 := Try.underlying27
 have HR0_0 := qM hr0_0
 have HC0_0 := qM hc0_0
 clear hr0_0 hc0_0
 have HR0_1 := qM hr0_1
 have HC0_1 := qM hc0_1
 clear hr0_1 hc0_1
 have HB := qM (Below.refl w.heap.size w)
 have H : ((hogsheadlaw10_shown.f k).bind fun t285 => ((shelf_List.f k l0_0 l0_1 a0_2 a0_3).bind fun t286 => ((hogsheadref10_List.f k l0_0 l0_1 a0_2 a0_3).bind fun t289 => ((hogsheadref10_Keys.f k t286 t289).bind fun t292 => ((shelf_Bad.f k l0_0 l0_1 a0_2 a0_3).bind fun t293 => ((hogsheadref10_Bad.f k l0_0 l0_1 a0_2 a0_3).bind fun t296 => ((hogsheadref10_Ints.f k t293 t296).bind fun t299 => ((shelf_Find.f k l0_0 l0_1 a0_2 a0_3 a1_0 a1_1).bind fun bt300 => ((hogsheadref10_Find.f k l0_0 l0_1 a0_2 a0_3 a1_0 a1_1).bind fun bt302 => (if t285 = true then (if t292 = true then (if t299 = true then (if bt300.1.toList = bt302.1.toList then (if bt300.2 = bt302.2 then ((shelf_Free.f k l0_0 l0_1 a0_2 a0_3).bind fun t304 => ((hogsheadref10_Free.f k l0_0 l0_1 a0_2 a0_3).bind fun t305 => (hogsheadlaw10_ShelfTells.j0 k (t304 == t305)))) else (hogsheadlaw10_ShelfTells.j0 k false)) else (hogsheadlaw10_ShelfTells.j0 k false)) else (hogsheadlaw10_ShelfTells.j0 k false)) else (hogsheadlaw10_ShelfTells.j0 k false)) else (hogsheadlaw10_ShelfTells.j0 k false))))))))))) = some r := h
 clear h
 replace H := Option.bind_eq_some_iff.mp H
 obtain ⟨t285, A30, H⟩ := H
 replace H : ((shelf_List.f k l0_0 l0_1 a0_2 a0_3).bind fun t286 => ((hogsheadref10_List.f k l0_0 l0_1 a0_2 a0_3).bind fun t289 => ((hogsheadref10_Keys.f k t286 t289).bind fun t292 => ((shelf_Bad.f k l0_0 l0_1 a0_2 a0_3).bind fun t293 => ((hogsheadref10_Bad.f k l0_0 l0_1 a0_2 a0_3).bind fun t296 => ((hogsheadref10_Ints.f k t293 t296).bind fun t299 => ((shelf_Find.f k l0_0 l0_1 a0_2 a0_3 a1_0 a1_1).bind fun bt300 => ((hogsheadref10_Find.f k l0_0 l0_1 a0_2 a0_3 a1_0 a1_1).bind fun bt302 => (if t285 = true then (if t292 = true then (if t299 = true then (if bt300.1.toList = bt302.1.toList then (if bt300.2 = bt302.2 then ((shelf_Free.f k l0_0 l0_1 a0_2 a0_3).bind fun t304 => ((hogsheadref10_Free.f k l0_0 l0_1 a0_2 a0_3).bind fun t305 => (hogsheadlaw10_ShelfTells.j0 k (t304 == t305)))) else (hogsheadlaw10_ShelfTells.j0 k false)) else (hogsheadlaw10_ShelfTells.j0 k false)) else (hogsheadlaw10_ShelfTells.j0 k false)) else (hogsheadlaw10_ShelfTells.j0 k false)) else (hogsheadlaw10_ShelfTells.j0 k false)))))))))) = some r := H
 have A3 := qM A30
 clear A30
 replace H := Option.bind_eq_some_iff.mp H
 obtain ⟨t286, A40, H⟩ := H
 replace H : ((hogsheadref10_List.f k l0_0 l0_1 a0_2 a0_3).bind fun t289 => ((hogsheadref10_Keys.f k t286 t289).bind fun t292 => ((shelf_Bad.f k l0_0 l0_1 a0_2 a0_3).bind fun t293 => ((hogsheadref10_Bad.f k l0_0 l0_1 a0_2 a0_3).bind fun t296 => ((hogsheadref10_Ints.f k t293 t296).bind fun t299 => ((shelf_Find.f k l0_0 l0_1 a0_2 a0_3 a1_0 a1_1).bind fun bt300 => ((hogsheadref10_Find.f k l0_0 l0_1 a0_2 a0_3 a1_0 a1_1).bind fun bt302 => (if t285 = true then (if t292 = true then (if t299 = true then (if bt300.1.toList = bt302.1.toList then (if bt300.2 = bt302.2 then ((shelf_Free.f k l0_0 l0_1 a0_2 a0_3).bind fun t304 => ((hogsheadref10_Free.f k l0_0 l0_1 a0_2 a0_3).bind fun t305 => (hogsheadlaw10_ShelfTells.j0 k (t304 == t305)))) else (hogsheadlaw10_ShelfTells.j0 k false)) else (hogsheadlaw10_ShelfTells.j0 k false)) else (hogsheadlaw10_ShelfTells.j0 k false)) else (hogsheadlaw10_ShelfTells.j0 k false)) else (hogsheadlaw10_ShelfTells.j0 k false))))))))) = some r := H
 have A4 := qM A40
 clear A40
 replace H := Option.bind_eq_some_iff.mp H
 obtain ⟨t289, A50, H⟩ := H
 replace H : ((hogsheadref10_Keys.f k t286 t289).bind fun t292 => ((shelf_Bad.f k l0_0 l0_1 a0_2 a0_3).bind fun t293 => ((hogsheadref10_Bad.f k l0_0 l0_1 a0_2 a0_3).bind fun t296 => ((hogsheadref10_Ints.f k t293 t296).bind fun t299 => ((shelf_Find.f k l0_0 l0_1 a0_2 a0_3 a1_0 a1_1).bind fun bt300 => ((hogsheadref10_Find.f k l0_0 l0_1 a0_2 a0_3 a1_0 a1_1).bind fun bt302 => (if t285 = true then (if t292 = true then (if t299 = true then (if bt300.1.toList = bt302.1.toList then (if bt300.2 = bt302.2 then ((shelf_Free.f k l0_0 l0_1 a0_2 a0_3).bind fun t304 => ((hogsheadref10_Free.f k l0_0 l0_1 a0_2 a0_3).bind fun t305 => (hogsheadlaw10_ShelfTells.j0 k (t304 == t305)))) else (hogsheadlaw10_ShelfTells.j0 k false)) else (hogsheadlaw10_ShelfTells.j0 k false)) else (hogsheadlaw10_ShelfTells.j0 k false)) else (hogsheadlaw10_ShelfTells.j0 k false)) else (hogsheadlaw10_ShelfTells.j0 k false)))))))) = some r := H
 have A5 := qM A50
 clear A50
 replace H := Option.bind_eq_some_iff.mp H
 obtain ⟨t292, A60, H⟩ := H
 replace H : ((shelf_Bad.f k l0_0 l0_1 a0_2 a0_3).bind fun t293 => ((hogsheadref10_Bad.f k l0_0 l0_1 a0_2 a0_3).bind fun t296 => ((hogsheadref10_Ints.f k t293 t296).bind fun t299 => ((shelf_Find.f k l0_0 l0_1 a0_2 a0_3 a1_0 a1_1).bind fun bt300 => ((hogsheadref10_Find.f k l0_0 l0_1 a0_2 a0_3 a1_0 a1_1).bind fun bt302 => (if t285 = true then (if t292 = true then (if t299 = true then (if bt300.1.toList = bt302.1.toList then (if bt300.2 = bt302.2 then ((shelf_Free.f k l0_0 l0_1 a0_2 a0_3).bind fun t304 => ((hogsheadref10_Free.f k l0_0 l0_1 a0_2 a0_3).bind fun t305 => (hogsheadlaw10_ShelfTells.j0 k (t304 == t305)))) else (hogsheadlaw10_ShelfTells.j0 k false)) else (hogsheadlaw10_ShelfTells.j0 k false)) else (hogsheadlaw10_ShelfTells.j0 k false)) else (hogsheadlaw10_ShelfTells.j0 k false)) else (hogsheadlaw10_ShelfTells.j0 k false))))))) = some r := H
 have A6 := qM A60
 clear A60
 replace H := Option.bind_eq_some_iff.mp H
 obtain ⟨t293, A70, H⟩ := H
 replace H : ((hogsheadref10_Bad.f k l0_0 l0_1 a0_2 a0_3).bind fun t296 => ((hogsheadref10_Ints.f k t293 t296).bind fun t299 => ((shelf_Find.f k l0_0 l0_1 a0_2 a0_3 a1_0 a1_1).bind fun bt300 => ((hogsheadref10_Find.f k l0_0 l0_1 a0_2 a0_3 a1_0 a1_1).bind fun bt302 => (if t285 = true then (if t292 = true then (if t299 = true then (if bt300.1.toList = bt302.1.toList then (if bt300.2 = bt302.2 then ((shelf_Free.f k l0_0 l0_1 a0_2 a0_3).bind fun t304 => ((hogsheadref10_Free.f k l0_0 l0_1 a0_2 a0_3).bind fun t305 => (hogsheadlaw10_ShelfTells.j0 k (t304 == t305)))) else (hogsheadlaw10_ShelfTells.j0 k false)) else (hogsheadlaw10_ShelfTells.j0 k false)) else (hogsheadlaw10_ShelfTells.j0 k false)) else (hogsheadlaw10_ShelfTells.j0 k false)) else (hogsheadlaw10_ShelfTells.j0 k false)))))) = some r := H
 have A7 := qM A70
 clear A70
 replace H := Option.bind_eq_some_iff.mp H
 obtain ⟨t296, A80, H⟩ := H
 replace H : ((hogsheadref10_Ints.f k t293 t296).bind fun t299 => ((shelf_Find.f k l0_0 l0_1 a0_2 a0_3 a1_0 a1_1).bind fun bt300 => ((hogsheadref10_Find.f k l0_0 l0_1 a0_2 a0_3 a1_0 a1_1).bind fun bt302 => (if t285 = true then (if t292 = true then (if t299 = true then (if bt300.1.toList = bt302.1.toList then (if bt300.2 = bt302.2 then ((shelf_Free.f k l0_0 l0_1 a0_2 a0_3).bind fun t304 => ((hogsheadref10_Free.f k l0_0 l0_1 a0_2 a0_3).bind fun t305 => (hogsheadlaw10_ShelfTells.j0 k (t304 == t305)))) else (hogsheadlaw10_ShelfTells.j0 k false)) else (hogsheadlaw10_ShelfTells.j0 k false)) else (hogsheadlaw10_ShelfTells.j0 k false)) else (hogsheadlaw10_ShelfTells.j0 k false)) else (hogsheadlaw10_ShelfTells.j0 k false))))) = some r := H
 have A8 := qM A80
 clear A80
 replace H := Option.bind_eq_some_iff.mp H
 obtain ⟨t299, A90, H⟩ := H
 replace H : ((shelf_Find.f k l0_0 l0_1 a0_2 a0_3 a1_0 a1_1).bind fun bt300 => ((hogsheadref10_Find.f k l0_0 l0_1 a0_2 a0_3 a1_0 a1_1).bind fun bt302 => (if t285 = true then (if t292 = true then (if t299 = true then (if bt300.1.toList = bt302.1.toList then (if bt300.2 = bt302.2 then ((shelf_Free.f k l0_0 l0_1 a0_2 a0_3).bind fun t304 => ((hogsheadref10_Free.f k l0_0 l0_1 a0_2 a0_3).bind fun t305 => (hogsheadlaw10_ShelfTells.j0 k (t304 == t305)))) else (hogsheadlaw10_ShelfTells.j0 k false)) else (hogsheadlaw10_ShelfTells.j0 k false)) else (hogsheadlaw10_ShelfTells.j0 k false)) else (hogsheadlaw10_ShelfTells.j0 k false)) else (hogsheadlaw10_ShelfTells.j0 k false)))) = some r := H
 have A9 := qM A90
 clear A90
 replace H := Option.bind_eq_some_iff.mp H
 obtain ⟨⟨t300, t301⟩, A100, H⟩ := H
 replace H : ((hogsheadref10_Find.f k l0_0 l0_1 a0_2 a0_3 a1_0 a1_1).bind fun bt302 => (if t285 = true then (if t292 = true then (if t299 = true then (if t300.toList = bt302.1.toList then (if t301 = bt302.2 then ((shelf_Free.f k l0_0 l0_1 a0_2 a0_3).bind fun t304 => ((hogsheadref10_Free.f k l0_0 l0_1 a0_2 a0_3).bind fun t305 => (hogsheadlaw10_ShelfTells.j0 k (t304 == t305)))) else (hogsheadlaw10_ShelfTells.j0 k false)) else (hogsheadlaw10_ShelfTells.j0 k false)) else (hogsheadlaw10_ShelfTells.j0 k false)) else (hogsheadlaw10_ShelfTells.j0 k false)) else (hogsheadlaw10_ShelfTells.j0 k false))) = some r := H
 have A10 := qM A100
 clear A100
 replace H := Option.bind_eq_some_iff.mp H
 obtain ⟨⟨t302, t303⟩, A110, H⟩ := H
 replace H : (if t285 = true then (if t292 = true then (if t299 = true then (if t300.toList = t302.toList then (if t301 = t303 then ((shelf_Free.f k l0_0 l0_1 a0_2 a0_3).bind fun t304 => ((hogsheadref10_Free.f k l0_0 l0_1 a0_2 a0_3).bind fun t305 => (hogsheadlaw10_ShelfTells.j0 k (t304 == t305)))) else (hogsheadlaw10_ShelfTells.j0 k false)) else (hogsheadlaw10_ShelfTells.j0 k false)) else (hogsheadlaw10_ShelfTells.j0 k false)) else (hogsheadlaw10_ShelfTells.j0 k false)) else (hogsheadlaw10_ShelfTells.j0 k false)) = some r := H
 have A11 := qM A110
 clear A110
 have HC12 := qM H
 clear H
 go_enter Try.func3, Try.ntmps3
 try go_wp2_with (first | ((with_reducible refine gate_dst (N := 2) rfl ?_); refine box_event ?hg (N := 2) ?hd (cs := #[.slice A0_0 l0_0.length c0_0, .slice A0_1 l0_1.length c0_1, .int .i64 a0_2, .bool a0_3]) (t := 25) ?hr ?_; (case hd => rfl); (case hg => rfl); (case hr => first | (go_simp; done) | (go_simp; rfl)); intro g283 hg w13 hbox hb; have n0_ := qM (eT (by repeat (first | (with_reducible first | exact HB.out | apply eA | apply eN | apply eD) | exact HB.out)) hb); have n1_ := qM (hbox); have n2_ := qM ((by rw [hg]; exact (eZ (by repeat (first | (with_reducible first | exact HB.out | apply eA | apply eN | apply eD) | exact HB.out))) : w.heap.size ≤ g283)); have n3_ := n2_; clear HB; have HB := n0_; have B283 := n1_; have GW283 := n2_; have GE283 := n3_; clear n0_ n1_ n2_ n3_; clear hb hbox hg) | ((with_reducible refine gate_dst (N := 3) rfl ?_); refine box_event ?hg (N := 3) ?hd (cs := #[.int .i64 a1_0, .int .i64 a1_1]) (t := 27) ?hr ?_; (case hd => rfl); (case hg => rfl); (case hr => first | (go_simp; done) | (go_simp; rfl)); intro g284 hg w14 hbox hb; have n0_ := qM (qB (g := g283) (by (with_reducible repeat first | refine qN ?_ _ | refine qD ?_ | refine qA ?_ _); exact B283.out) hb); have n1_ := qM (eT (by repeat (first | (with_reducible first | exact HB.out | apply eA | apply eN | apply eD | refine eU ?_ (by assumption)) | exact HB.out)) hb); have n2_ := qM (hbox); have n3_ := qM ((by rw [hg]; exact (eZ (by repeat (first | (with_reducible first | exact HB.out | apply eA | apply eN | apply eD | refine eU ?_ (by assumption)) | exact HB.out))) : w.heap.size ≤ g284)); have n4_ := n3_; have n5_ := qM ((by rw [hg]; exact Nat.ne_of_lt (qL (g := g283) (by (with_reducible repeat first | refine qN ?_ _ | refine qD ?_ | refine qA ?_ _); exact B283.out)) : g283 ≠ g284)); have n6_ := qM (Ne.symm n5_.out); clear B283 HB; have B283 := n0_; have HB := n1_; have B284 := n2_; have GW284 := n3_; have GE284 := n4_; have NB283_284 := n5_; have NB284_283 := n6_; clear n0_ n1_ n2_ n3_ n4_ n5_ n6_; clear hb hbox hg) | ((with_reducible refine gate_callee (f := 11) rfl ?_); refine goesL_ (some 12) rfl rfl Try.func11 (by kernel_rfl) rfl #[] rfl (by (try simp only [List.map_toArray, List.map_cons, List.map_nil]); first | done | rfl | (simp only [List.length_drop, List.length_take]; rfl)) ?_; (with_reducible refine (hogsheadlaw10_shown.calls k  t285 _ A3.out).mono ?_); rintro e w15 ⟨rfl, hb⟩; refine ⟨_, rfl, ?_⟩; have n0_ := qM (qB (g := g283) (by (with_reducible repeat first | refine qN ?_ _ | refine qD ?_ | refine qA ?_ _); exact B283.out) hb); have n1_ := qM (qB (g := g284) (by (with_reducible repeat first | refine qN ?_ _ | refine qD ?_ | refine qA ?_ _); exact B284.out) hb); have n2_ := qM (eT (by repeat (first | (with_reducible first | exact HB.out | apply eA | apply eN | apply eD | refine eU ?_ (by assumption)) | exact HB.out)) hb); clear B283 B284 HB; have B283 := n0_; have B284 := n1_; have HB := n2_; clear n0_ n1_ n2_; (try clear hb); (try clear hb2); (try clear hk); (try clear hi)))
 have n0_ := qM (blk_drew B283.out)
 have n1_ := qM (blk_drew B284.out)
 have n2_ := qM (below_drew1 HB.out)
 clear B283
 clear B284
 clear HB
 have B283 := n0_
 have B284 := n1_
 have HB := n2_
 clear n0_ n1_ n2_
 refine start_ (n := 6) (S := fun w' => w'.cell? ⟨g283, 0, none⟩ = some (.slice A0_0 l0_0.length c0_0) ∧ w'.cell? ⟨g283, 1, none⟩ = some (.slice A0_1 l0_1.length c0_1) ∧ w'.cell? ⟨g283, 2, none⟩ = some (.int .i64 a0_2) ∧ w'.cell? ⟨g283, 3, none⟩ = some (.bool a0_3)) (ds := []) #[false, false, false, false, false, false] (by kernel_rfl) rfl rfl ⟨(qC B283.out 0).trans rfl, (qC B283.out 1).trans rfl, (qC B283.out 2).trans rfl, (qC B283.out 3).trans rfl⟩ (fun hHeld => ?_)
 generalize w15.drew = w16 at B283 B284 HB hHeld ⊢
 refine take_ (i := 0) (N := some 13) (v := ?_) (a' := ?_) #[true, false, false, false, false, false] rfl rfl (by kernel_rfl) (fun _ _ _ h => h) (Or.inl ⟨by rfl, ?_⟩) hHeld ?_ ?_
 rotate_left
 ·rintro w' ⟨s0, s1, s2, s3⟩; go_simp; with_reducible rfl
 rotate_left
 ·simp only [Act.put, xA, xZ, xS, i64_w, i32_w]; rfl
 refine take_ (i := 2) (N := some 15) (v := ?_) (a' := ?_) #[true, false, true, false, false, false] rfl rfl (by kernel_rfl) (fun _ _ _ h => h) (Or.inl ⟨by rfl, ?_⟩) hHeld ?_ ?_
 rotate_left
 ·rintro w' ⟨s0, s1, s2, s3⟩; go_simp; with_reducible rfl
 rotate_left
 ·simp only [Act.put, xA, xZ, xS, i64_w, i32_w]; rfl
 refine one_ (i := 1) (N := some 14) #[true, true, true, false, false, false] rfl rfl (by kernel_rfl) (by decide) (fun K hK => ?_)
 refine goes_ Try.func13 (by kernel_rfl) rfl #[.agg #[.slice A0_0 l0_0.length c0_0, .slice A0_1 l0_1.length c0_1, .int .i64 a0_2, .bool a0_3]] (by rfl) rfl rfl (by (try simp only [List.map_toArray, List.map_cons, List.map_nil]); first | done | rfl | (simp only [List.length_drop, List.length_take]; rfl)) ?_
 with_reducible refine (shelf_List.calls k _ _ l0_0 _ _ l0_1 a0_2 a0_3 t286 _ ?side1 ?side2 ?side3 ?side4 A4.out).mono ?_
 (case side1 => repeat (first | exact (Kd.C_below HR0_0.out HB.out) | (with_reducible refine Kd.C_alloc ?_ _) | (with_reducible refine Kd.C_drewN ?_ _) | (with_reducible refine Kd.C_drew ?_)))
 (case side2 => exact HC0_0.out)
 (case side3 => repeat (first | exact (Kd.C_below HR0_1.out HB.out) | (with_reducible refine Kd.C_alloc ?_ _) | (with_reducible refine Kd.C_drewN ?_ _) | (with_reducible refine Kd.C_drew ?_)))
 (case side4 => exact HC0_1.out)
 rintro e w17 ⟨v287, rfl, ho0, hb⟩
 refine ⟨_, rfl, ?_⟩
 have n0_ := qM (Kd.R_lower (Kd.R_newB ho0 (g := g284) (o := .cells #[.int .i64 a1_0, .int .i64 a1_1] 27 (0, 0)) (by (with_reducible repeat first | refine qN ?_ _ | refine qD ?_ | refine qA ?_ _); exact B284.out)) (eZ (by repeat (first | (with_reducible first | exact HB.out | apply eA | apply eN | apply eD | refine eU ?_ (by assumption)) | exact HB.out))))
 have n1_ := qM (qB (g := g283) (by (with_reducible repeat first | refine qN ?_ _ | refine qD ?_ | refine qA ?_ _); exact B283.out) hb)
 have n2_ := qM (qB (g := g284) (by (with_reducible repeat first | refine qN ?_ _ | refine qD ?_ | refine qA ?_ _); exact B284.out) hb)
 have n3_ := qM (eT (by repeat (first | (with_reducible first | exact HB.out | apply eA | apply eN | apply eD | refine eU ?_ (by assumption)) | exact HB.out)) hb)
 clear B283
 clear B284
 clear HB
 have HO288 := n0_
 have B283 := n1_
 have B284 := n2_
 have HB := n3_
 clear n0_ n1_ n2_ n3_
 (try clear hb)
 (try clear hb2)
 (try clear hk)
 (try clear hi)
 (try clear ho0)
 refine hK.out _ _ ⟨(qC B283.out 0).trans rfl, (qC B283.out 1).trans rfl, (qC B283.out 2).trans rfl, (qC B283.out 3).trans rfl⟩ (fun hHeld => ?_)
 clear hK K
 refine norm_ (a' := ?_) ?_ ?_
 rotate_left
 ·show Act.put _ (some 14) _ = _
  simp only [Act.put, xA, xZ, xS, i64_w, i32_w]
  rfl
 refine one_ (i := 3) (N := some 16) #[true, true, true, true, false, false] rfl rfl (by kernel_rfl) (by decide) (fun K hK => ?_)
 refine goes_ Try.func14 (by kernel_rfl) rfl #[.agg #[.slice A0_0 l0_0.length c0_0, .slice A0_1 l0_1.length c0_1, .int .i64 a0_2, .bool a0_3]] (by rfl) rfl rfl (by (try simp only [List.map_toArray, List.map_cons, List.map_nil]); first | done | rfl | (simp only [List.length_drop, List.length_take]; rfl)) ?_
 with_reducible refine (hogsheadref10_List.calls k _ _ l0_0 _ _ l0_1 a0_2 a0_3 t289 _ ?side1 ?side2 ?side3 ?side4 A5.out).mono ?_
 (case side1 => repeat (first | exact (Kd.C_below HR0_0.out HB.out) | (with_reducible refine Kd.C_alloc ?_ _) | (with_reducible refine Kd.C_drewN ?_ _) | (with_reducible refine Kd.C_drew ?_)))
 (case side2 => exact HC0_0.out)
 (case side3 => repeat (first | exact (Kd.C_below HR0_1.out HB.out) | (with_reducible refine Kd.C_alloc ?_ _) | (with_reducible refine Kd.C_drewN ?_ _) | (with_reducible refine Kd.C_drew ?_)))
 (case side4 => exact HC0_1.out)
 rintro e w18 ⟨v290, rfl, ho0, hb⟩
 refine ⟨_, rfl, ?_⟩
 have n0_ := qM (Kd.R_elder' (by (with_reducible repeat first | apply RA | apply RN | apply RD); exact HO288.out) (Kd.R_base ho0) hb)
 have n1_ := qM (Kd.R_lower (Kd.R_newB (Kd.R_new' ho0 (Kd.R_lt (by (with_reducible repeat first | apply RA | apply RN | apply RD); exact HO288.out))) (g := g284) (o := .cells #[.int .i64 a1_0, .int .i64 a1_1] 27 (0, 0)) (by (with_reducible repeat first | refine qN ?_ _ | refine qD ?_ | refine qA ?_ _); exact B284.out)) (eZ (by repeat (first | (with_reducible first | exact HB.out | apply eA | apply eN | apply eD | refine eU ?_ (by assumption)) | exact HB.out))))
 have n2_ := qM (qB (g := g283) (by (with_reducible repeat first | refine qN ?_ _ | refine qD ?_ | refine qA ?_ _); exact B283.out) hb)
 have n3_ := qM (qB (g := g284) (by (with_reducible repeat first | refine qN ?_ _ | refine qD ?_ | refine qA ?_ _); exact B284.out) hb)
 have n4_ := qM (eT (by repeat (first | (with_reducible first | exact HB.out | apply eA | apply eN | apply eD | refine eU ?_ (by assumption)) | exact HB.out)) hb)
 clear HO288
 clear B283
 clear B284
 clear HB
 have HO288 := n0_
 have HO291 := n1_
 have B283 := n2_
 have B284 := n3_
 have HB := n4_
 clear n0_ n1_ n2_ n3_ n4_
 (try clear hb)
 (try clear hb2)
 (try clear hk)
 (try clear hi)
 (try clear ho0)
 obtain ⟨Ao19, co19, eo19⟩ := Kd.R_slice HO288.out
 (first | subst eo19 | (injection eo19 with f1_ f2_ f3_; have f4_ := f1_.symm; have f5_ := f3_.symm; clear f1_ f2_ f3_; subst f4_; subst f5_))
 obtain ⟨Ao20, co20, eo20⟩ := Kd.R_slice HO291.out
 (first | subst eo20 | (injection eo20 with f1_ f2_ f3_; have f4_ := f1_.symm; have f5_ := f3_.symm; clear f1_ f2_ f3_; subst f4_; subst f5_))
 refine hK.out _ _ ⟨(qC B283.out 0).trans rfl, (qC B283.out 1).trans rfl, (qC B283.out 2).trans rfl, (qC B283.out 3).trans rfl⟩ (fun hHeld => ?_)
 clear hK K
 refine norm_ (a' := ?_) ?_ ?_
 rotate_left
 ·show Act.put _ (some 16) _ = _
  simp only [Act.put, xA, xZ, xS, i64_w, i32_w]
  rfl
 refine one_ (i := 4) (N := some 17) #[true, true, true, true, true, false] rfl rfl (by kernel_rfl) (by decide) (fun K hK => ?_)
 refine goes_ Try.func12 (by kernel_rfl) rfl #[.slice Ao19 t286.length co19, .slice Ao20 t289.length co20] (by rfl) rfl rfl (by (try simp only [List.map_toArray, List.map_cons, List.map_nil]); first | done | rfl | (simp only [List.length_drop, List.length_take]; rfl)) ?_
 with_reducible refine (hogsheadref10_Keys.calls k _ _ t286 _ _ t289 t292 _ ?side1 ?side2 ?side3 ?side4 A6.out).mono ?_
 (case side1 => repeat (first | exact (Kd.R_reads' HO288.out).2.2 | (with_reducible refine Kd.C_alloc ?_ _) | (with_reducible refine Kd.C_drewN ?_ _) | (with_reducible refine Kd.C_drew ?_)))
 (case side2 => exact (Kd.R_reads' HO288.out).2.1)
 (case side3 => repeat (first | exact (Kd.R_reads' HO291.out).2.2 | (with_reducible refine Kd.C_alloc ?_ _) | (with_reducible refine Kd.C_drewN ?_ _) | (with_reducible refine Kd.C_drew ?_)))
 (case side4 => exact (Kd.R_reads' HO291.out).2.1)
 rintro e w' ⟨rfl, ⟨nd, rfl⟩⟩
 refine ⟨_, rfl, ?_⟩
 refine hK.out _ _ ⟨(qC B283.out 0).trans rfl, (qC B283.out 1).trans rfl, (qC B283.out 2).trans rfl, (qC B283.out 3).trans rfl⟩ (fun hHeld => ?_)
 clear hK K
 refine norm_ (a' := ?_) ?_ ?_
 rotate_left
 ·show Act.put _ (some 17) _ = _
  simp only [Act.put, xA, xZ, xS, i64_w, i32_w]
  rfl
 refine pure_ (i := 5) (N := some 6) (v := ?_) (a' := ?_) #[true, true, true, true, true, true] rfl rfl (by kernel_rfl) (fun _ _ _ h => h) (Or.inl ⟨by rfl, ?_⟩) ?_ ?_
 rotate_left
 ·intro w'; go_simp; with_reducible rfl
 rotate_left
 ·simp only [Act.put, xA, xZ, xS, i64_w, i32_w]; rfl
 refine done_ (by kernel_rfl) ?_
 try go_wp2
 (try (rw [drewN_self w18]; generalize hq_ : World.drewN w18 _ = w18; have n0_ : Aside0 (Kd.R k27 27 w18 w.heap.size (fun k_ => some k_ ≠ (.slice Ao20 t289.length co20 : Value).ownBlock ∧ k_ ≠ g284) (.slice Ao19 t286.length co19) t286) := ⟨by rw [← hq_]; exact (by (with_reducible repeat first | apply RA | apply RN | apply RD); exact Kd.R_mono HO288.out (fun _ hk => ⟨hk.2, hk.1.2⟩))⟩; have n1_ : Aside0 (Kd.R k27 27 w18 w.heap.size (fun k_ => some k_ ≠ (.slice Ao19 t286.length co19 : Value).ownBlock ∧ k_ ≠ g284) (.slice Ao20 t289.length co20) t289) := ⟨by rw [← hq_]; exact (by (with_reducible repeat first | apply RA | apply RN | apply RD); exact Kd.R_mono HO291.out (fun _ hk => ⟨hk.1.2, hk.2⟩))⟩; have n2_ : Aside0 (w18.heap[g283]? = some (.cells #[.slice A0_0 l0_0.length c0_0, .slice A0_1 l0_1.length c0_1, .int .i64 a0_2, .bool a0_3] 25 (0, 0))) := ⟨by rw [← hq_]; exact (by (with_reducible repeat first | refine qN ?_ _ | refine qD ?_ | refine qA ?_ _); exact B283.out)⟩; have n3_ : Aside0 (w18.heap[g284]? = some (.cells #[.int .i64 a1_0, .int .i64 a1_1] 27 (0, 0))) := ⟨by rw [← hq_]; exact (by (with_reducible repeat first | refine qN ?_ _ | refine qD ?_ | refine qA ?_ _); exact B284.out)⟩; have n4_ : Aside0 (Below w.heap.size w w18) := ⟨by rw [← hq_]; exact (by repeat (first | (with_reducible first | exact HB.out | apply eA | apply eN | apply eD | refine eU ?_ (by assumption)) | exact HB.out))⟩; clear HO288 HO291 B283 B284 HB hq_; have HO288 := n0_; have HO291 := n1_; have B283 := n2_; have B284 := n3_; have HB := n4_; clear n0_ n1_ n2_ n3_ n4_))
 have n0_ := qM (Kd.R_drew HO288.out)
 have n1_ := qM (Kd.R_drew HO291.out)
 have n2_ := qM (blk_drew B283.out)
 have n3_ := qM (blk_drew B284.out)
 have n4_ := qM (below_drew1 HB.out)
 clear HO288
 clear HO291
 clear B283
 clear B284
 clear HB
 have HO288 := n0_
 have HO291 := n1_
 have B283 := n2_
 have B284 := n3_
 have HB := n4_
 clear n0_ n1_ n2_ n3_ n4_
 refine start_ (n := 6) (S := fun w' => w'.cell? ⟨g283, 0, none⟩ = some (.slice A0_0 l0_0.length c0_0) ∧ w'.cell? ⟨g283, 1, none⟩ = some (.slice A0_1 l0_1.length c0_1) ∧ w'.cell? ⟨g283, 2, none⟩ = some (.int .i64 a0_2) ∧ w'.cell? ⟨g283, 3, none⟩ = some (.bool a0_3)) (ds := []) #[false, false, false, false, false, false] (by kernel_rfl) rfl rfl ⟨(qC B283.out 0).trans rfl, (qC B283.out 1).trans rfl, (qC B283.out 2).trans rfl, (qC B283.out 3).trans rfl⟩ (fun hHeld => ?_)
 generalize w18.drew = w21 at HO288 HO291 B283 B284 HB hHeld ⊢
 refine take_ (i := 0) (N := some 18) (v := ?_) (a' := ?_) #[true, false, false, false, false, false] rfl rfl (by kernel_rfl) (fun _ _ _ h => h) (Or.inl ⟨by rfl, ?_⟩) hHeld ?_ ?_
 rotate_left
 ·rintro w' ⟨s0, s1, s2, s3⟩; go_simp; with_reducible rfl
 rotate_left
 ·simp only [Act.put, xA, xZ, xS, i64_w, i32_w]; rfl
 refine take_ (i := 2) (N := some 20) (v := ?_) (a' := ?_) #[true, false, true, false, false, false] rfl rfl (by kernel_rfl) (fun _ _ _ h => h) (Or.inl ⟨by rfl, ?_⟩) hHeld ?_ ?_
 rotate_left
 ·rintro w' ⟨s0, s1, s2, s3⟩; go_simp; with_reducible rfl
 rotate_left
 ·simp only [Act.put, xA, xZ, xS, i64_w, i32_w]; rfl
 refine one_ (i := 1) (N := some 19) #[true, true, true, false, false, false] rfl rfl (by kernel_rfl) (by decide) (fun K hK => ?_)
 refine goes_ Try.func16 (by kernel_rfl) rfl #[.agg #[.slice A0_0 l0_0.length c0_0, .slice A0_1 l0_1.length c0_1, .int .i64 a0_2, .bool a0_3]] (by rfl) rfl rfl (by (try simp only [List.map_toArray, List.map_cons, List.map_nil]); first | done | rfl | (simp only [List.length_drop, List.length_take]; rfl)) ?_
 with_reducible refine (shelf_Bad.calls k _ _ l0_0 _ _ l0_1 a0_2 a0_3 t293 _ ?side1 ?side2 ?side3 ?side4 A7.out).mono ?_
 (case side1 => repeat (first | exact (Kd.C_below HR0_0.out HB.out) | (with_reducible refine Kd.C_alloc ?_ _) | (with_reducible refine Kd.C_drewN ?_ _) | (with_reducible refine Kd.C_drew ?_)))
 (case side2 => exact HC0_0.out)
 (case side3 => repeat (first | exact (Kd.C_below HR0_1.out HB.out) | (with_reducible refine Kd.C_alloc ?_ _) | (with_reducible refine Kd.C_drewN ?_ _) | (with_reducible refine Kd.C_drew ?_)))
 (case side4 => exact HC0_1.out)
 rintro e w22 ⟨v294, rfl, ho0, hb⟩
 refine ⟨_, rfl, ?_⟩
 have n0_ := qM (Kd.R_below (by (with_reducible repeat first | apply RA | apply RN | apply RD); exact HO288.out) hb)
 have n1_ := qM (Kd.R_below (by (with_reducible repeat first | apply RA | apply RN | apply RD); exact HO291.out) hb)
 have n2_ := qM (Kd.R_lower ho0 (eZ (by repeat (first | (with_reducible first | exact HB.out | apply eA | apply eN | apply eD | refine eU ?_ (by assumption)) | exact HB.out))))
 have n3_ := qM (qB (g := g283) (by (with_reducible repeat first | refine qN ?_ _ | refine qD ?_ | refine qA ?_ _); exact B283.out) hb)
 have n4_ := qM (qB (g := g284) (by (with_reducible repeat first | refine qN ?_ _ | refine qD ?_ | refine qA ?_ _); exact B284.out) hb)
 have n5_ := qM (eT (by repeat (first | (with_reducible first | exact HB.out | apply eA | apply eN | apply eD | refine eU ?_ (by assumption)) | exact HB.out)) hb)
 clear HO288
 clear HO291
 clear B283
 clear B284
 clear HB
 have HO288 := n0_
 have HO291 := n1_
 have HO295 := n2_
 have B283 := n3_
 have B284 := n4_
 have HB := n5_
 clear n0_ n1_ n2_ n3_ n4_ n5_
 (try clear hb)
 (try clear hb2)
 (try clear hk)
 (try clear hi)
 (try clear ho0)
 refine hK.out _ _ ⟨(qC B283.out 0).trans rfl, (qC B283.out 1).trans rfl, (qC B283.out 2).trans rfl, (qC B283.out 3).trans rfl⟩ (fun hHeld => ?_)
 clear hK K
 refine norm_ (a' := ?_) ?_ ?_
 rotate_left
 ·show Act.put _ (some 19) _ = _
  simp only [Act.put, xA, xZ, xS, i64_w, i32_w]
  rfl
 refine one_ (i := 3) (N := some 21) #[true, true, true, true, false, false] rfl rfl (by kernel_rfl) (by decide) (fun K hK => ?_)
 refine goes_ Try.func17 (by kernel_rfl) rfl #[.agg #[.slice A0_0 l0_0.length c0_0, .slice A0_1 l0_1.length c0_1, .int .i64 a0_2, .bool a0_3]] (by rfl) rfl rfl (by (try simp only [List.map_toArray, List.map_cons, List.map_nil]); first | done | rfl | (simp only [List.length_drop, List.length_take]; rfl)) ?_
 with_reducible refine (hogsheadref10_Bad.calls k _ _ l0_0 _ _ l0_1 a0_2 a0_3 t296 _ ?side1 ?side2 ?side3 ?side4 A8.out).mono ?_
 (case side1 => repeat (first | exact (Kd.C_below HR0_0.out HB.out) | (with_reducible refine Kd.C_alloc ?_ _) | (with_reducible refine Kd.C_drewN ?_ _) | (with_reducible refine Kd.C_drew ?_)))
 (case side2 => exact HC0_0.out)
 (case side3 => repeat (first | exact (Kd.C_below HR0_1.out HB.out) | (with_reducible refine Kd.C_alloc ?_ _) | (with_reducible refine Kd.C_drewN ?_ _) | (with_reducible refine Kd.C_drew ?_)))
 (case side4 => exact HC0_1.out)
 rintro e w23 ⟨v297, rfl, ho0, hb⟩
 refine ⟨_, rfl, ?_⟩
 have n0_ := qM (Kd.R_below (by (with_reducible repeat first | apply RA | apply RN | apply RD); exact HO288.out) hb)
 have n1_ := qM (Kd.R_below (by (with_reducible repeat first | apply RA | apply RN | apply RD); exact HO291.out) hb)
 have n2_ := qM (Kd.R_elder' (by (with_reducible repeat first | apply RA | apply RN | apply RD); exact HO295.out) (Kd.R_base ho0) hb)
 have n3_ := qM (Kd.R_lower (Kd.R_new' ho0 (Kd.R_lt (by (with_reducible repeat first | apply RA | apply RN | apply RD); exact HO295.out))) (eZ (by repeat (first | (with_reducible first | exact HB.out | apply eA | apply eN | apply eD | refine eU ?_ (by assumption)) | exact HB.out))))
 have n4_ := qM (qB (g := g283) (by (with_reducible repeat first | refine qN ?_ _ | refine qD ?_ | refine qA ?_ _); exact B283.out) hb)
 have n5_ := qM (qB (g := g284) (by (with_reducible repeat first | refine qN ?_ _ | refine qD ?_ | refine qA ?_ _); exact B284.out) hb)
 have n6_ := qM (eT (by repeat (first | (with_reducible first | exact HB.out | apply eA | apply eN | apply eD | refine eU ?_ (by assumption)) | exact HB.out)) hb)
 clear HO288
 clear HO291
 clear HO295
 clear B283
 clear B284
 clear HB
 have HO288 := n0_
 have HO291 := n1_
 have HO295 := n2_
 have HO298 := n3_
 have B283 := n4_
 have B284 := n5_
 have HB := n6_
 clear n0_ n1_ n2_ n3_ n4_ n5_ n6_
 (try clear hb)
 (try clear hb2)
 (try clear hk)
 (try clear hi)
 (try clear ho0)
 obtain ⟨Ao24, co24, eo24⟩ := Kd.R_slice HO295.out
 (first | subst eo24 | (injection eo24 with f1_ f2_ f3_; have f4_ := f1_.symm; have f5_ := f3_.symm; clear f1_ f2_ f3_; subst f4_; subst f5_))
 obtain ⟨Ao25, co25, eo25⟩ := Kd.R_slice HO298.out
 (first | subst eo25 | (injection eo25 with f1_ f2_ f3_; have f4_ := f1_.symm; have f5_ := f3_.symm; clear f1_ f2_ f3_; subst f4_; subst f5_))
 refine hK.out _ _ ⟨(qC B283.out 0).trans rfl, (qC B283.out 1).trans rfl, (qC B283.out 2).trans rfl, (qC B283.out 3).trans rfl⟩ (fun hHeld => ?_)
 clear hK K
 refine norm_ (a' := ?_) ?_ ?_
 rotate_left
 ·show Act.put _ (some 21) _ = _
  simp only [Act.put, xA, xZ, xS, i64_w, i32_w]
  rfl
 refine one_ (i := 4) (N := some 22) #[true, true, true, true, true, false] rfl rfl (by kernel_rfl) (by decide) (fun K hK => ?_)
 refine goes_ Try.func15 (by kernel_rfl) rfl #[.slice Ao24 t293.length co24, .slice Ao25 t296.length co25] (by rfl) rfl rfl (by (try simp only [List.map_toArray, List.map_cons, List.map_nil]); first | done | rfl | (simp only [List.length_drop, List.length_take]; rfl)) ?_
 with_reducible refine (hogsheadref10_Ints.calls k _ _ t293 _ _ t296 t299 _ ?side1 ?side2 ?side3 ?side4 A9.out).mono ?_
 (case side1 => repeat (first | exact (Kd.R_reads' HO295.out).2.2 | (with_reducible refine Kd.C_alloc ?_ _) | (with_reducible refine Kd.C_drewN ?_ _) | (with_reducible refine Kd.C_drew ?_)))
 (case side2 => exact (Kd.R_reads' HO295.out).2.1)
 (case side3 => repeat (first | exact (Kd.R_reads' HO298.out).2.2 | (with_reducible refine Kd.C_alloc ?_ _) | (with_reducible refine Kd.C_drewN ?_ _) | (with_reducible refine Kd.C_drew ?_)))
 (case side4 => exact (Kd.R_reads' HO298.out).2.1)
 rintro e w' ⟨rfl, ⟨nd, rfl⟩⟩
 refine ⟨_, rfl, ?_⟩
 refine hK.out _ _ ⟨(qC B283.out 0).trans rfl, (qC B283.out 1).trans rfl, (qC B283.out 2).trans rfl, (qC B283.out 3).trans rfl⟩ (fun hHeld => ?_)
 clear hK K
 refine norm_ (a' := ?_) ?_ ?_
 rotate_left
 ·show Act.put _ (some 22) _ = _
  simp only [Act.put, xA, xZ, xS, i64_w, i32_w]
  rfl
 refine pure_ (i := 5) (N := some 7) (v := ?_) (a' := ?_) #[true, true, true, true, true, true] rfl rfl (by kernel_rfl) (fun _ _ _ h => h) (Or.inl ⟨by rfl, ?_⟩) ?_ ?_
 rotate_left
 ·intro w'; go_simp; with_reducible rfl
 rotate_left
 ·simp only [Act.put, xA, xZ, xS, i64_w, i32_w]; rfl
 refine done_ (by kernel_rfl) ?_
 have hnb26 := NB283_284.out
 have hnc26 := NB284_283.out
 obtain ⟨z27_0, z27_1, z27_2, z27_3, f27_0, f27_1, f27_2, f27_3⟩ := cells4 B283.out
 have z28_0 : w23.cell? ⟨g284, 0, none⟩ = some (.int .i64 a1_0) := (qC B284.out 0).trans rfl
 have z28_1 : w23.cell? ⟨g284, 1, none⟩ = some (.int .i64 a1_1) := (qC B284.out 1).trans rfl
 have f28_0 := qF B284.out 0
 have f28_1 := qF B284.out 1
 go_upto_region 6 with (first | ((with_reducible refine gate_callee (f := 18) rfl ?_); refine goesL_ (some 26) rfl rfl Try.func18 (by kernel_rfl) rfl #[.agg #[.slice A0_0 l0_0.length c0_0, .slice A0_1 l0_1.length c0_1, .int .i64 a0_2, .bool a0_3], .agg #[.int .i64 a1_0, .int .i64 a1_1]] rfl (by (try simp only [List.map_toArray, List.map_cons, List.map_nil]); first | done | rfl | (simp only [List.length_drop, List.length_take]; rfl)) ?_; (with_reducible refine (shelf_Find.calls k _ _ l0_0 _ _ l0_1 a0_2 a0_3 a1_0 a1_1 t300 t301 _ ?side1 ?side2 ?side3 ?side4 A10.out).mono ?_); (case side1 => repeat (first | exact (Kd.C_below HR0_0.out (by repeat (first | (with_reducible first | exact HB.out | apply eA | apply eN | apply eD | refine eU ?_ (by assumption)) | exact HB.out))) | (with_reducible refine Kd.C_alloc ?_ _) | (with_reducible refine Kd.C_drewN ?_ _) | (with_reducible refine Kd.C_drew ?_))); (case side2 => exact HC0_0.out); (case side3 => repeat (first | exact (Kd.C_below HR0_1.out (by repeat (first | (with_reducible first | exact HB.out | apply eA | apply eN | apply eD | refine eU ?_ (by assumption)) | exact HB.out))) | (with_reducible refine Kd.C_alloc ?_ _) | (with_reducible refine Kd.C_drewN ?_ _) | (with_reducible refine Kd.C_drew ?_))); (case side4 => exact HC0_1.out); rintro e w29 ⟨rfl, hb⟩; refine ⟨_, rfl, ?_⟩; have n0_ := qM (Kd.R_below (by (with_reducible repeat first | apply RA | apply RN | apply RD); exact HO288.out) hb); have n1_ := qM (Kd.R_below (by (with_reducible repeat first | apply RA | apply RN | apply RD); exact HO291.out) hb); have n2_ := qM (Kd.R_below (by (with_reducible repeat first | apply RA | apply RN | apply RD); exact HO295.out) hb); have n3_ := qM (Kd.R_below (by (with_reducible repeat first | apply RA | apply RN | apply RD); exact HO298.out) hb); have n4_ := qM (qB (g := g283) (by (with_reducible repeat first | refine qN ?_ _ | refine qD ?_ | refine qA ?_ _); exact B283.out) hb); have n5_ := qM (qB (g := g284) (by (with_reducible repeat first | refine qN ?_ _ | refine qD ?_ | refine qA ?_ _); exact B284.out) hb); have n6_ := qM (eT (by repeat (first | (with_reducible first | exact HB.out | apply eA | apply eN | apply eD | refine eU ?_ (by assumption)) | exact HB.out)) hb); clear HO288 HO291 HO295 HO298 B283 B284 HB; have HO288 := n0_; have HO291 := n1_; have HO295 := n2_; have HO298 := n3_; have B283 := n4_; have B284 := n5_; have HB := n6_; clear n0_ n1_ n2_ n3_ n4_ n5_ n6_; (try clear hb); (try clear hb2); (try clear hk); (try clear hi); obtain ⟨z30_0, z30_1, z30_2, z30_3, f30_0, f30_1, f30_2, f30_3⟩ := cells4 B283.out; have z31_0 : w29.cell? ⟨g284, 0, none⟩ = some (.int .i64 a1_0) := (qC B284.out 0).trans rfl; have z31_1 : w29.cell? ⟨g284, 1, none⟩ = some (.int .i64 a1_1) := (qC B284.out 1).trans rfl; have f31_0 := qF B284.out 0; have f31_1 := qF B284.out 1) | ((with_reducible refine gate_callee (f := 19) rfl ?_); refine goesL_ (some 32) rfl rfl Try.func19 (by kernel_rfl) rfl #[.agg #[.slice A0_0 l0_0.length c0_0, .slice A0_1 l0_1.length c0_1, .int .i64 a0_2, .bool a0_3], .agg #[.int .i64 a1_0, .int .i64 a1_1]] rfl (by (try simp only [List.map_toArray, List.map_cons, List.map_nil]); first | done | rfl | (simp only [List.length_drop, List.length_take]; rfl)) ?_; (with_reducible refine (hogsheadref10_Find.calls k _ _ l0_0 _ _ l0_1 a0_2 a0_3 a1_0 a1_1 t302 t303 _ ?side1 ?side2 ?side3 ?side4 A11.out).mono ?_); (case side1 => repeat (first | exact (Kd.C_below HR0_0.out HB.out) | (with_reducible refine Kd.C_alloc ?_ _) | (with_reducible refine Kd.C_drewN ?_ _) | (with_reducible refine Kd.C_drew ?_))); (case side2 => exact HC0_0.out); (case side3 => repeat (first | exact (Kd.C_below HR0_1.out HB.out) | (with_reducible refine Kd.C_alloc ?_ _) | (with_reducible refine Kd.C_drewN ?_ _) | (with_reducible refine Kd.C_drew ?_))); (case side4 => exact HC0_1.out); rintro e w32 ⟨rfl, hb⟩; refine ⟨_, rfl, ?_⟩; have n0_ := qM (Kd.R_below (by (with_reducible repeat first | apply RA | apply RN | apply RD); exact HO288.out) hb); have n1_ := qM (Kd.R_below (by (with_reducible repeat first | apply RA | apply RN | apply RD); exact HO291.out) hb); have n2_ := qM (Kd.R_below (by (with_reducible repeat first | apply RA | apply RN | apply RD); exact HO295.out) hb); have n3_ := qM (Kd.R_below (by (with_reducible repeat first | apply RA | apply RN | apply RD); exact HO298.out) hb); have n4_ := qM (qB (g := g283) (by (with_reducible repeat first | refine qN ?_ _ | refine qD ?_ | refine qA ?_ _); exact B283.out) hb); have n5_ := qM (qB (g := g284) (by (with_reducible repeat first | refine qN ?_ _ | refine qD ?_ | refine qA ?_ _); exact B284.out) hb); have n6_ := qM (eT (by repeat (first | (with_reducible first | exact HB.out | apply eA | apply eN | apply eD | refine eU ?_ (by assumption)) | exact HB.out)) hb); clear HO288 HO291 HO295 HO298 B283 B284 HB; have HO288 := n0_; have HO291 := n1_; have HO295 := n2_; have HO298 := n3_; have B283 := n4_; have B284 := n5_; have HB := n6_; clear n0_ n1_ n2_ n3_ n4_ n5_ n6_; (try clear hb); (try clear hb2); (try clear hk); (try clear hi)))
 (try simp only [Act.put, List.setIfInBounds_toArray, List.set_cons_zero, List.set_cons_succ])
 go_cut [4] (fun v4 wc => ∃ (kq : Nat) (x4_11 : Bool), v4 = .bool x4_11 ∧ Aside0 (hogsheadlaw10_ShelfTells.j0 kq x4_11 = some r) ∧ Aside0 (kq ≤ k) ∧ Aside0 (wc.heap[g283]? = some (.cells #[(.slice A0_0 l0_0.length c0_0), (.slice A0_1 l0_1.length c0_1), .int .i64 a0_2, .bool a0_3] 25 (0, 0))) ∧ Aside0 (wc.heap[g284]? = some (.cells #[.int .i64 a1_0, .int .i64 a1_1] 27 (0, 0))) ∧ Aside0 (Below w.heap.size w wc))
 case first =>
  have H := HC12.out
  clear HC12
  by_cases c33 : t285 = true
  ·subst c33
   have H1 : (if t292 = true then (if t299 = true then (if t300.toList = t302.toList then (if t301 = t303 then ((shelf_Free.f k l0_0 l0_1 a0_2 a0_3).bind fun t304 => ((hogsheadref10_Free.f k l0_0 l0_1 a0_2 a0_3).bind fun t305 => (hogsheadlaw10_ShelfTells.j0 k (t304 == t305)))) else (hogsheadlaw10_ShelfTells.j0 k false)) else (hogsheadlaw10_ShelfTells.j0 k false)) else (hogsheadlaw10_ShelfTells.j0 k false)) else (hogsheadlaw10_ShelfTells.j0 k false)) = some r := by rw [if_pos rfl] at H; exact H
   clear H
   have H := H1
   clear H1
   by_cases c34 : t292 = true
   ·subst c34
    have H1 : (if t299 = true then (if t300.toList = t302.toList then (if t301 = t303 then ((shelf_Free.f k l0_0 l0_1 a0_2 a0_3).bind fun t304 => ((hogsheadref10_Free.f k l0_0 l0_1 a0_2 a0_3).bind fun t305 => (hogsheadlaw10_ShelfTells.j0 k (t304 == t305)))) else (hogsheadlaw10_ShelfTells.j0 k false)) else (hogsheadlaw10_ShelfTells.j0 k false)) else (hogsheadlaw10_ShelfTells.j0 k false)) = some r := by rw [if_pos rfl] at H; exact H
    clear H
    have H := H1
    clear H1
    by_cases c35 : t299 = true
    ·subst c35
     have H1 : (if t300.toList = t302.toList then (if t301 = t303 then ((shelf_Free.f k l0_0 l0_1 a0_2 a0_3).bind fun t304 => ((hogsheadref10_Free.f k l0_0 l0_1 a0_2 a0_3).bind fun t305 => (hogsheadlaw10_ShelfTells.j0 k (t304 == t305)))) else (hogsheadlaw10_ShelfTells.j0 k false)) else (hogsheadlaw10_ShelfTells.j0 k false)) = some r := by rw [if_pos rfl] at H; exact H
     clear H
     have H := H1
     clear H1
     by_cases c36 : t300.toList = t302.toList
     ·rw [if_pos c36] at H
      have c36b0 : (t300.toList == t302.toList) = true := beq_iff_eq.mpr c36
      have c36b1 : (t300.toList != t302.toList) = false := bne_eq_false_iff_eq.mpr c36
      clear c36
      (first | rw [c36b0] | (simp only [i64_w, i32_w]; rw [c36b0]) | skip)
      by_cases c37 : t301 = t303
      ·rw [if_pos c37] at H
       have c37b0 : (t301 == t303) = true := beq_iff_eq.mpr c37
       have c37b1 : (t301 != t303) = false := bne_eq_false_iff_eq.mpr c37
       clear c37
       replace H := Option.bind_eq_some_iff.mp H
       obtain ⟨t304, A380, H⟩ := H
       replace H : ((hogsheadref10_Free.f k l0_0 l0_1 a0_2 a0_3).bind fun t305 => (hogsheadlaw10_ShelfTells.j0 k (t304 == t305))) = some r := H
       have A38 := qM A380
       clear A380
       replace H := Option.bind_eq_some_iff.mp H
       obtain ⟨t305, A390, H⟩ := H
       replace H : (hogsheadlaw10_ShelfTells.j0 k (t304 == t305)) = some r := H
       have A39 := qM A390
       clear A390
       have H' := qM H
       clear H
       try go_wp2
       have n0_ := qM (Kd.R_drew HO288.out)
       have n1_ := qM (Kd.R_drew HO291.out)
       have n2_ := qM (Kd.R_drew HO295.out)
       have n3_ := qM (Kd.R_drew HO298.out)
       have n4_ := qM (blk_drew B283.out)
       have n5_ := qM (blk_drew B284.out)
       have n6_ := qM (below_drew1 HB.out)
       clear HO288
       clear HO291
       clear HO295
       clear HO298
       clear B283
       clear B284
       clear HB
       have HO288 := n0_
       have HO291 := n1_
       have HO295 := n2_
       have HO298 := n3_
       have B283 := n4_
       have B284 := n5_
       have HB := n6_
       clear n0_ n1_ n2_ n3_ n4_ n5_ n6_
       refine start_ (n := 25) (S := fun w' => w'.cell? ⟨g283, 0, none⟩ = some (.slice A0_0 l0_0.length c0_0) ∧ w'.cell? ⟨g283, 1, none⟩ = some (.slice A0_1 l0_1.length c0_1) ∧ w'.cell? ⟨g283, 2, none⟩ = some (.int .i64 a0_2) ∧ w'.cell? ⟨g283, 3, none⟩ = some (.bool a0_3)) (ds := []) #[false, false, false, false, false, false, false, false, false, false, false, false, false, false, false, false, false, false, false, false, false, false, false, false, false] (by kernel_rfl) rfl rfl ⟨(qC B283.out 0).trans rfl, (qC B283.out 1).trans rfl, (qC B283.out 2).trans rfl, (qC B283.out 3).trans rfl⟩ (fun hHeld => ?_); refine with_tabW hogsheadlaw10_ShelfTells.tab6 hogsheadlaw10_ShelfTells.bits6 (fun HT_ HW_ => ?_)
       generalize w32.drew = w40 at HO288 HO291 HO295 HO298 B283 B284 HB hHeld ⊢
       refine pure_ (i := 0) (N := some 35) (v := ?_) (a' := ?_) #[true, false, false, false, false, false, false, false, false, false, false, false, false, false, false, false, false, false, false, false, false, false, false, false, false] rfl rfl (any_of HT_.out (by kernel_rfl)) (fun _ _ _ h => h) (Or.inl ⟨by rfl, ?_⟩) ?_ ?_
       rotate_left
       ·intro w'; go_simp; with_reducible rfl
       rotate_left
       ·simp only [Act.put, xA, xZ, xS, i64_w, i32_w]; rfl
       refine pure_ (i := 1) (N := some 36) (v := ?_) (a' := ?_) #[true, true, false, false, false, false, false, false, false, false, false, false, false, false, false, false, false, false, false, false, false, false, false, false, false] rfl rfl (any_of HT_.out (by kernel_rfl)) (fun _ _ _ h => h) (Or.inl ⟨by rfl, ?_⟩) ?_ ?_
       rotate_left
       ·intro w'; go_simp; with_reducible rfl
       rotate_left
       ·simp only [Act.put, xA, xZ, xS, i64_w, i32_w]; rfl
       refine pure_ (i := 2) (N := some 37) (v := ?_) (a' := ?_) #[true, true, true, false, false, false, false, false, false, false, false, false, false, false, false, false, false, false, false, false, false, false, false, false, false] rfl rfl (any_of HT_.out (by kernel_rfl)) (fun _ _ _ h => h) (Or.inl ⟨by rfl, ?_⟩) ?_ ?_
       rotate_left
       ·intro w'; go_simp; with_reducible rfl
       rotate_left
       ·simp only [Act.put, xA, xZ, xS, i64_w, i32_w]; rfl
       refine pure_ (i := 3) (N := some 38) (v := ?_) (a' := ?_) #[true, true, true, true, false, false, false, false, false, false, false, false, false, false, false, false, false, false, false, false, false, false, false, false, false] rfl rfl (any_of HT_.out (by kernel_rfl)) (fun _ _ _ h => h) (Or.inl ⟨by rfl, ?_⟩) ?_ ?_
       rotate_left
       ·intro w'; go_simp; with_reducible rfl
       rotate_left
       ·simp only [Act.put, xA, xZ, xS, i64_w, i32_w]; rfl
       refine pure_ (i := 4) (N := some 39) (v := ?_) (a' := ?_) #[true, true, true, true, true, false, false, false, false, false, false, false, false, false, false, false, false, false, false, false, false, false, false, false, false] rfl rfl (any_of HT_.out (by kernel_rfl)) (fun _ _ _ h => h) (Or.inl ⟨by rfl, ?_⟩) ?_ ?_
       rotate_left
       ·intro w'; go_simp; with_reducible rfl
       rotate_left
       ·simp only [Act.put, xA, xZ, xS, i64_w, i32_w]; rfl
       refine pure_ (i := 5) (N := some 40) (v := ?_) (a' := ?_) #[true, true, true, true, true, true, false, false, false, false, false, false, false, false, false, false, false, false, false, false, false, false, false, false, false] rfl rfl (any_of HT_.out (by kernel_rfl)) (fun _ _ _ h => h) (Or.inl ⟨by rfl, ?_⟩) ?_ ?_
       rotate_left
       ·intro w'; go_simp; with_reducible rfl
       rotate_left
       ·simp only [Act.put, xA, xZ, xS, i64_w, i32_w]; rfl
       refine pure_ (i := 6) (N := some 41) (v := ?_) (a' := ?_) #[true, true, true, true, true, true, true, false, false, false, false, false, false, false, false, false, false, false, false, false, false, false, false, false, false] rfl rfl (any_of HT_.out (by kernel_rfl)) (fun _ _ _ h => h) (Or.inl ⟨by rfl, ?_⟩) ?_ ?_
       rotate_left
       ·intro w'; go_simp; with_reducible rfl
       rotate_left
       ·simp only [Act.put, xA, xZ, xS, i64_w, i32_w]; rfl
       refine pure_ (i := 7) (N := some 42) (v := ?_) (a' := ?_) #[true, true, true, true, true, true, true, true, false, false, false, false, false, false, false, false, false, false, false, false, false, false, false, false, false] rfl rfl (any_of HT_.out (by kernel_rfl)) (fun _ _ _ h => h) (Or.inl ⟨by rfl, ?_⟩) ?_ ?_
       rotate_left
       ·intro w'; go_simp; with_reducible rfl
       rotate_left
       ·simp only [Act.put, xA, xZ, xS, i64_w, i32_w]; rfl
       refine pure_ (i := 8) (N := some 43) (v := ?_) (a' := ?_) #[true, true, true, true, true, true, true, true, true, false, false, false, false, false, false, false, false, false, false, false, false, false, false, false, false] rfl rfl (any_of HT_.out (by kernel_rfl)) (fun _ _ _ h => h) (Or.inl ⟨by rfl, ?_⟩) ?_ ?_
       rotate_left
       ·intro w'; go_simp; with_reducible rfl
       rotate_left
       ·simp only [Act.put, xA, xZ, xS, i64_w, i32_w]; rfl
       refine pure_ (i := 9) (N := some 44) (v := ?_) (a' := ?_) #[true, true, true, true, true, true, true, true, true, true, false, false, false, false, false, false, false, false, false, false, false, false, false, false, false] rfl rfl (any_of HT_.out (by kernel_rfl)) (fun _ _ _ h => h) (Or.inl ⟨by rfl, ?_⟩) ?_ ?_
       rotate_left
       ·intro w'; go_simp; with_reducible rfl
       rotate_left
       ·simp only [Act.put, xA, xZ, xS, i64_w, i32_w]; rfl
       refine pure_ (i := 10) (N := some 45) (v := ?_) (a' := ?_) #[true, true, true, true, true, true, true, true, true, true, true, false, false, false, false, false, false, false, false, false, false, false, false, false, false] rfl rfl (any_of HT_.out (by kernel_rfl)) (fun _ _ _ h => h) (Or.inl ⟨by rfl, ?_⟩) ?_ ?_
       rotate_left
       ·intro w'; go_simp; with_reducible rfl
       rotate_left
       ·simp only [Act.put, xA, xZ, xS, i64_w, i32_w]; rfl
       refine pure_ (i := 11) (N := some 46) (v := ?_) (a' := ?_) #[true, true, true, true, true, true, true, true, true, true, true, true, false, false, false, false, false, false, false, false, false, false, false, false, false] rfl rfl (any_of HT_.out (by kernel_rfl)) (fun _ _ _ h => h) (Or.inl ⟨by rfl, ?_⟩) ?_ ?_
       rotate_left
       ·intro w'; go_simp; with_reducible rfl
       rotate_left
       ·simp only [Act.put, xA, xZ, xS, i64_w, i32_w]; rfl
       refine pure_ (i := 12) (N := some 47) (v := ?_) (a' := ?_) #[true, true, true, true, true, true, true, true, true, true, true, true, true, false, false, false, false, false, false, false, false, false, false, false, false] rfl rfl (any_of HT_.out (by kernel_rfl)) (fun _ _ _ h => h) (Or.inl ⟨by rfl, ?_⟩) ?_ ?_
       rotate_left
       ·intro w'; go_simp; with_reducible rfl
       rotate_left
       ·simp only [Act.put, xA, xZ, xS, i64_w, i32_w]; rfl
       refine pure_ (i := 13) (N := some 48) (v := ?_) (a' := ?_) #[true, true, true, true, true, true, true, true, true, true, true, true, true, true, false, false, false, false, false, false, false, false, false, false, false] rfl rfl (any_of HT_.out (by kernel_rfl)) (fun _ _ _ h => h) (Or.inl ⟨by rfl, ?_⟩) ?_ ?_
       rotate_left
       ·intro w'; go_simp; with_reducible rfl
       rotate_left
       ·simp only [Act.put, xA, xZ, xS, i64_w, i32_w]; rfl
       refine pure_ (i := 14) (N := some 49) (v := ?_) (a' := ?_) #[true, true, true, true, true, true, true, true, true, true, true, true, true, true, true, false, false, false, false, false, false, false, false, false, false] rfl rfl (any_of HT_.out (by kernel_rfl)) (fun _ _ _ h => h) (Or.inl ⟨by rfl, ?_⟩) ?_ ?_
       rotate_left
       ·intro w'; go_simp; with_reducible rfl
       rotate_left
       ·simp only [Act.put, xA, xZ, xS, i64_w, i32_w]; rfl
       refine pure_ (i := 15) (N := some 50) (v := ?_) (a' := ?_) #[true, true, true, true, true, true, true, true, true, true, true, true, true, true, true, true, false, false, false, false, false, false, false, false, false] rfl rfl (any_of HT_.out (by kernel_rfl)) (fun _ _ _ h => h) (Or.inl ⟨by rfl, ?_⟩) ?_ ?_
       rotate_left
       ·intro w'; go_simp; with_reducible rfl
       rotate_left
       ·simp only [Act.put, xA, xZ, xS, i64_w, i32_w]; rfl
       refine pure_ (i := 16) (N := some 51) (v := ?_) (a' := ?_) #[true, true, true, true, true, true, true, true, true, true, true, true, true, true, true, true, true, false, false, false, false, false, false, false, false] rfl rfl (any_of HT_.out (by kernel_rfl)) (fun _ _ _ h => h) (Or.inl ⟨by rfl, ?_⟩) ?_ ?_
       rotate_left
       ·intro w'; go_simp; with_reducible rfl
       rotate_left
       ·simp only [Act.put, xA, xZ, xS, i64_w, i32_w]; rfl
       refine pure_ (i := 17) (N := some 52) (v := ?_) (a' := ?_) #[true, true, true, true, true, true, true, true, true, true, true, true, true, true, true, true, true, true, false, false, false, false, false, false, false] rfl rfl (any_of HT_.out (by kernel_rfl)) (fun _ _ _ h => h) (Or.inl ⟨by rfl, ?_⟩) ?_ ?_
       rotate_left
       ·intro w'; go_simp; with_reducible rfl
       rotate_left
       ·simp only [Act.put, xA, xZ, xS, i64_w, i32_w]; rfl
       refine take_ (i := 18) (N := some 53) (v := ?_) (a' := ?_) #[true, true, true, true, true, true, true, true, true, true, true, true, true, true, true, true, true, true, true, false, false, false, false, false, false] rfl rfl (take_ofW HT_.out HW_.out (by kernel_rfl)) (fun _ _ _ h => h) (Or.inl ⟨by rfl, ?_⟩) hHeld ?_ ?_
       rotate_left
       ·rintro w' ⟨s0, s1, s2, s3⟩; go_simp; with_reducible rfl
       rotate_left
       ·simp only [Act.put, xA, xZ, xS, i64_w, i32_w]; rfl
       refine take_ (i := 20) (N := some 55) (v := ?_) (a' := ?_) #[true, true, true, true, true, true, true, true, true, true, true, true, true, true, true, true, true, true, true, false, true, false, false, false, false] rfl rfl (take_ofW HT_.out HW_.out (by kernel_rfl)) (fun _ _ _ h => h) (Or.inl ⟨by rfl, ?_⟩) hHeld ?_ ?_
       rotate_left
       ·rintro w' ⟨s0, s1, s2, s3⟩; go_simp; with_reducible rfl
       rotate_left
       ·simp only [Act.put, xA, xZ, xS, i64_w, i32_w]; rfl
       refine one_ (i := 19) (N := some 54) #[true, true, true, true, true, true, true, true, true, true, true, true, true, true, true, true, true, true, true, true, true, false, false, false, false] rfl rfl (one_of HT_.out (by kernel_rfl)) (by decide) (fun K hK => ?_)
       refine goes_ Try.func20 (by kernel_rfl) rfl #[.agg #[.slice A0_0 l0_0.length c0_0, .slice A0_1 l0_1.length c0_1, .int .i64 a0_2, .bool a0_3]] (by rfl) rfl rfl (by (try simp only [List.map_toArray, List.map_cons, List.map_nil]); first | done | rfl | (simp only [List.length_drop, List.length_take]; rfl)) ?_
       with_reducible refine (shelf_Free.calls k _ _ l0_0 _ _ l0_1 a0_2 a0_3 t304 _ ?side1 ?side2 ?side3 ?side4 A38.out).mono ?_
       (case side1 => repeat (first | exact (Kd.C_below HR0_0.out HB.out) | (with_reducible refine Kd.C_alloc ?_ _) | (with_reducible refine Kd.C_drewN ?_ _) | (with_reducible refine Kd.C_drew ?_)))
       (case side2 => exact HC0_0.out)
       (case side3 => repeat (first | exact (Kd.C_below HR0_1.out HB.out) | (with_reducible refine Kd.C_alloc ?_ _) | (with_reducible refine Kd.C_drewN ?_ _) | (with_reducible refine Kd.C_drew ?_)))
       (case side4 => exact HC0_1.out)
       rintro e w41 ⟨rfl, hb⟩
       refine ⟨_, rfl, ?_⟩
       have n0_ := qM (Kd.R_below (by (with_reducible repeat first | apply RA | apply RN | apply RD); exact HO288.out) hb)
       have n1_ := qM (Kd.R_below (by (with_reducible repeat first | apply RA | apply RN | apply RD); exact HO291.out) hb)
       have n2_ := qM (Kd.R_below (by (with_reducible repeat first | apply RA | apply RN | apply RD); exact HO295.out) hb)
       have n3_ := qM (Kd.R_below (by (with_reducible repeat first | apply RA | apply RN | apply RD); exact HO298.out) hb)
       have n4_ := qM (qB (g := g283) (by (with_reducible repeat first | refine qN ?_ _ | refine qD ?_ | refine qA ?_ _); exact B283.out) hb)
       have n5_ := qM (qB (g := g284) (by (with_reducible repeat first | refine qN ?_ _ | refine qD ?_ | refine qA ?_ _); exact B284.out) hb)
       have n6_ := qM (eT (by repeat (first | (with_reducible first | exact HB.out | apply eA | apply eN | apply eD | refine eU ?_ (by assumption)) | exact HB.out)) hb)
       clear HO288
       clear HO291
       clear HO295
       clear HO298
       clear B283
       clear B284
       clear HB
       have HO288 := n0_
       have HO291 := n1_
       have HO295 := n2_
       have HO298 := n3_
       have B283 := n4_
       have B284 := n5_
       have HB := n6_
       clear n0_ n1_ n2_ n3_ n4_ n5_ n6_
       (try clear hb)
       (try clear hb2)
       (try clear hk)
       (try clear hi)
       refine hK.out _ _ ⟨(qC B283.out 0).trans rfl, (qC B283.out 1).trans rfl, (qC B283.out 2).trans rfl, (qC B283.out 3).trans rfl⟩ (fun hHeld => ?_)
       clear hK K
       refine norm_ (a' := ?_) ?_ ?_
       rotate_left
       ·show Act.put _ (some 54) _ = _
        simp only [Act.put, xA, xZ, xS, i64_w, i32_w]
        rfl
       refine one_ (i := 21) (N := some 56) #[true, true, true, true, true, true, true, true, true, true, true, true, true, true, true, true, true, true, true, true, true, true, false, false, false] rfl rfl (one_of HT_.out (by kernel_rfl)) (by decide) (fun K hK => ?_)
       refine goes_ Try.func21 (by kernel_rfl) rfl #[.agg #[.slice A0_0 l0_0.length c0_0, .slice A0_1 l0_1.length c0_1, .int .i64 a0_2, .bool a0_3]] (by rfl) rfl rfl (by (try simp only [List.map_toArray, List.map_cons, List.map_nil]); first | done | rfl | (simp only [List.length_drop, List.length_take]; rfl)) ?_
       with_reducible refine (hogsheadref10_Free.calls k _ _ l0_0 _ _ l0_1 a0_2 a0_3 t305 _ ?side1 ?side2 ?side3 ?side4 A39.out).mono ?_
       (case side1 => repeat (first | exact (Kd.C_below HR0_0.out HB.out) | (with_reducible refine Kd.C_alloc ?_ _) | (with_reducible refine Kd.C_drewN ?_ _) | (with_reducible refine Kd.C_drew ?_)))
       (case side2 => exact HC0_0.out)
       (case side3 => repeat (first | exact (Kd.C_below HR0_1.out HB.out) | (with_reducible refine Kd.C_alloc ?_ _) | (with_reducible refine Kd.C_drewN ?_ _) | (with_reducible refine Kd.C_drew ?_)))
       (case side4 => exact HC0_1.out)
       rintro e w42 ⟨rfl, hb⟩
       refine ⟨_, rfl, ?_⟩
       have n0_ := qM (Kd.R_below (by (with_reducible repeat first | apply RA | apply RN | apply RD); exact HO288.out) hb)
       have n1_ := qM (Kd.R_below (by (with_reducible repeat first | apply RA | apply RN | apply RD); exact HO291.out) hb)
       have n2_ := qM (Kd.R_below (by (with_reducible repeat first | apply RA | apply RN | apply RD); exact HO295.out) hb)
       have n3_ := qM (Kd.R_below (by (with_reducible repeat first | apply RA | apply RN | apply RD); exact HO298.out) hb)
       have n4_ := qM (qB (g := g283) (by (with_reducible repeat first | refine qN ?_ _ | refine qD ?_ | refine qA ?_ _); exact B283.out) hb)
       have n5_ := qM (qB (g := g284) (by (with_reducible repeat first | refine qN ?_ _ | refine qD ?_ | refine qA ?_ _); exact B284.out) hb)
       have n6_ := qM (eT (by repeat (first | (with_reducible first | exact HB.out | apply eA | apply eN | apply eD | refine eU ?_ (by assumption)) | exact HB.out)) hb)
       clear HO288
       clear HO291
       clear HO295
       clear HO298
       clear B283
       clear B284
       clear HB
       have HO288 := n0_
       have HO291 := n1_
       have HO295 := n2_
       have HO298 := n3_
       have B283 := n4_
       have B284 := n5_
       have HB := n6_
       clear n0_ n1_ n2_ n3_ n4_ n5_ n6_
       (try clear hb)
       (try clear hb2)
       (try clear hk)
       (try clear hi)
       refine hK.out _ _ ⟨(qC B283.out 0).trans rfl, (qC B283.out 1).trans rfl, (qC B283.out 2).trans rfl, (qC B283.out 3).trans rfl⟩ (fun hHeld => ?_)
       clear hK K
       refine norm_ (a' := ?_) ?_ ?_
       rotate_left
       ·show Act.put _ (some 56) _ = _
        simp only [Act.put, xA, xZ, xS, i64_w, i32_w]
        rfl
       refine pure_ (i := 22) (N := some 57) (v := ?_) (a' := ?_) #[true, true, true, true, true, true, true, true, true, true, true, true, true, true, true, true, true, true, true, true, true, true, true, false, false] rfl rfl (any_of HT_.out (by kernel_rfl)) (fun _ _ _ h => h) (Or.inl ⟨by rfl, ?_⟩) ?_ ?_
       rotate_left
       ·intro w'; go_simp; with_reducible rfl
       rotate_left
       ·simp only [Act.put, xA, xZ, xS, i64_w, i32_w]; rfl
       refine pure_ (i := 23) (N := some 58) (v := ?_) (a' := ?_) #[true, true, true, true, true, true, true, true, true, true, true, true, true, true, true, true, true, true, true, true, true, true, true, true, false] rfl rfl (any_of HT_.out (by kernel_rfl)) (fun _ _ _ h => h) (Or.inl ⟨by rfl, ?_⟩) ?_ ?_
       rotate_left
       ·intro w'; go_simp; with_reducible rfl
       rotate_left
       ·simp only [Act.put, xA, xZ, xS, i64_w, i32_w]; rfl
       refine pure_ (i := 24) (N := some 4) (v := ?_) (a' := ?_) #[true, true, true, true, true, true, true, true, true, true, true, true, true, true, true, true, true, true, true, true, true, true, true, true, true] rfl rfl (any_of HT_.out (by kernel_rfl)) (fun _ _ _ h => h) (Or.inl ⟨by rfl, ?_⟩) ?_ ?_
       rotate_left
       ·intro w'; go_simp; with_reducible rfl
       rotate_left
       ·simp only [Act.put, xA, xZ, xS, i64_w, i32_w]; rfl
       refine done_ (done_of HT_.out (by kernel_rfl)) ?_
       try go_wp2
       go_meet
       case rel => exact ⟨_, ((t304 == t305)), (by first | rfl | (simp; done) | (simp [*]; done)), H', ⟨by first | omega | exact Nat.le_refl _⟩, ⟨by (with_reducible repeat first | refine qN ?_ _ | refine qD ?_ | refine qA ?_ _); exact B283.out⟩, ⟨by (with_reducible repeat first | refine qN ?_ _ | refine qD ?_ | refine qA ?_ _); exact B284.out⟩, ⟨by repeat (first | (with_reducible first | exact HB.out | apply eA | apply eN | apply eD | refine eS ?_ GE283.out | refine eS ?_ GE284.out) | exact HB.out)⟩⟩
      ·rw [if_neg c37] at H
       have c37b0 : (t301 == t303) = false := beq_eq_false_iff_ne.mpr c37
       have c37b1 : (t301 != t303) = true := bne_iff_ne.mpr c37
       have H' := qM H
       clear H
       try go_wp2
       have n0_ := qM (Kd.R_drew HO288.out)
       have n1_ := qM (Kd.R_drew HO291.out)
       have n2_ := qM (Kd.R_drew HO295.out)
       have n3_ := qM (Kd.R_drew HO298.out)
       have n4_ := qM (blk_drew B283.out)
       have n5_ := qM (blk_drew B284.out)
       have n6_ := qM (below_drew1 HB.out)
       clear HO288
       clear HO291
       clear HO295
       clear HO298
       clear B283
       clear B284
       clear HB
       have HO288 := n0_
       have HO291 := n1_
       have HO295 := n2_
       have HO298 := n3_
       have B283 := n4_
       have B284 := n5_
       have HB := n6_
       clear n0_ n1_ n2_ n3_ n4_ n5_ n6_
       refine start_ (n := 25) (S := fun w' => True) (ds := []) #[false, false, false, false, false, false, false, false, false, false, false, false, false, false, false, false, false, false, false, false, false, false, false, false, false] (by kernel_rfl) rfl rfl trivial (fun hHeld => ?_); refine with_tabW hogsheadlaw10_ShelfTells.tab6 hogsheadlaw10_ShelfTells.bits6 (fun HT_ HW_ => ?_)
       generalize w32.drew = w43 at HO288 HO291 HO295 HO298 B283 B284 HB hHeld ⊢
       refine pure_ (i := 0) (N := some 35) (v := ?_) (a' := ?_) #[true, false, false, false, false, false, false, false, false, false, false, false, false, false, false, false, false, false, false, false, false, false, false, false, false] rfl rfl (any_of HT_.out (by kernel_rfl)) (fun _ _ _ h => h) (Or.inl ⟨by rfl, ?_⟩) ?_ ?_
       rotate_left
       ·intro w'; go_simp; with_reducible rfl
       rotate_left
       ·simp only [Act.put, xA, xZ, xS, i64_w, i32_w]; rfl
       refine pure_ (i := 1) (N := some 36) (v := ?_) (a' := ?_) #[true, true, false, false, false, false, false, false, false, false, false, false, false, false, false, false, false, false, false, false, false, false, false, false, false] rfl rfl (any_of HT_.out (by kernel_rfl)) (fun _ _ _ h => h) (Or.inl ⟨by rfl, ?_⟩) ?_ ?_
       rotate_left
       ·intro w'; go_simp; with_reducible rfl
       rotate_left
       ·simp only [Act.put, xA, xZ, xS, i64_w, i32_w]; rfl
       refine pure_ (i := 2) (N := some 37) (v := ?_) (a' := ?_) #[true, true, true, false, false, false, false, false, false, false, false, false, false, false, false, false, false, false, false, false, false, false, false, false, false] rfl rfl (any_of HT_.out (by kernel_rfl)) (fun _ _ _ h => h) (Or.inl ⟨by rfl, ?_⟩) ?_ ?_
       rotate_left
       ·intro w'; go_simp; with_reducible rfl
       rotate_left
       ·simp only [Act.put, xA, xZ, xS, i64_w, i32_w]; rfl
       refine pure_ (i := 3) (N := some 38) (v := ?_) (a' := ?_) #[true, true, true, true, false, false, false, false, false, false, false, false, false, false, false, false, false, false, false, false, false, false, false, false, false] rfl rfl (any_of HT_.out (by kernel_rfl)) (fun _ _ _ h => h) (Or.inl ⟨by rfl, ?_⟩) ?_ ?_
       rotate_left
       ·intro w'; go_simp; with_reducible rfl
       rotate_left
       ·simp only [Act.put, xA, xZ, xS, i64_w, i32_w]; rfl
       refine pure_ (i := 4) (N := some 39) (v := ?_) (a' := ?_) #[true, true, true, true, true, false, false, false, false, false, false, false, false, false, false, false, false, false, false, false, false, false, false, false, false] rfl rfl (any_of HT_.out (by kernel_rfl)) (fun _ _ _ h => h) (Or.inl ⟨by rfl, ?_⟩) ?_ ?_
       rotate_left
       ·intro w'; go_simp; with_reducible rfl
       rotate_left
       ·simp only [Act.put, xA, xZ, xS, i64_w, i32_w]; rfl
       refine pure_ (i := 5) (N := some 40) (v := ?_) (a' := ?_) #[true, true, true, true, true, true, false, false, false, false, false, false, false, false, false, false, false, false, false, false, false, false, false, false, false] rfl rfl (any_of HT_.out (by kernel_rfl)) (fun _ _ _ h => h) (Or.inl ⟨by rfl, ?_⟩) ?_ ?_
       rotate_left
       ·intro w'; go_simp; with_reducible rfl
       rotate_left
       ·simp only [Act.put, xA, xZ, xS, i64_w, i32_w]; rfl
       refine pure_ (i := 6) (N := some 41) (v := ?_) (a' := ?_) #[true, true, true, true, true, true, true, false, false, false, false, false, false, false, false, false, false, false, false, false, false, false, false, false, false] rfl rfl (any_of HT_.out (by kernel_rfl)) (fun _ _ _ h => h) (Or.inl ⟨by rfl, ?_⟩) ?_ ?_
       rotate_left
       ·intro w'; go_simp; with_reducible rfl
       rotate_left
       ·simp only [Act.put, xA, xZ, xS, i64_w, i32_w]; rfl
       refine pure_ (i := 7) (N := some 42) (v := ?_) (a' := ?_) #[true, true, true, true, true, true, true, true, false, false, false, false, false, false, false, false, false, false, false, false, false, false, false, false, false] rfl rfl (any_of HT_.out (by kernel_rfl)) (fun _ _ _ h => h) (Or.inl ⟨by rfl, ?_⟩) ?_ ?_
       rotate_left
       ·intro w'; go_simp; with_reducible rfl
       rotate_left
       ·simp only [Act.put, xA, xZ, xS, i64_w, i32_w]; rfl
       refine pure_ (i := 8) (N := some 43) (v := ?_) (a' := ?_) #[true, true, true, true, true, true, true, true, true, false, false, false, false, false, false, false, false, false, false, false, false, false, false, false, false] rfl rfl (any_of HT_.out (by kernel_rfl)) (fun _ _ _ h => h) (Or.inl ⟨by rfl, ?_⟩) ?_ ?_
       rotate_left
       ·intro w'; go_simp; with_reducible rfl
       rotate_left
       ·simp only [Act.put, xA, xZ, xS, i64_w, i32_w]; rfl
       refine pure_ (i := 9) (N := some 44) (v := ?_) (a' := ?_) #[true, true, true, true, true, true, true, true, true, true, false, false, false, false, false, false, false, false, false, false, false, false, false, false, false] rfl rfl (any_of HT_.out (by kernel_rfl)) (fun _ _ _ h => h) (Or.inl ⟨by rfl, ?_⟩) ?_ ?_
       rotate_left
       ·intro w'; go_simp; with_reducible rfl
       rotate_left
       ·simp only [Act.put, xA, xZ, xS, i64_w, i32_w]; rfl
       refine pure_ (i := 10) (N := some 45) (v := ?_) (a' := ?_) #[true, true, true, true, true, true, true, true, true, true, true, false, false, false, false, false, false, false, false, false, false, false, false, false, false] rfl rfl (any_of HT_.out (by kernel_rfl)) (fun _ _ _ h => h) (Or.inl ⟨by rfl, ?_⟩) ?_ ?_
       rotate_left
       ·intro w'; go_simp; with_reducible rfl
       rotate_left
       ·simp only [Act.put, xA, xZ, xS, i64_w, i32_w]; rfl
       refine pure_ (i := 11) (N := some 46) (v := ?_) (a' := ?_) #[true, true, true, true, true, true, true, true, true, true, true, true, false, false, false, false, false, false, false, false, false, false, false, false, false] rfl rfl (any_of HT_.out (by kernel_rfl)) (fun _ _ _ h => h) (Or.inl ⟨by rfl, ?_⟩) ?_ ?_
       rotate_left
       ·intro w'; go_simp; with_reducible rfl
       rotate_left
       ·simp only [Act.put, xA, xZ, xS, i64_w, i32_w]; rfl
       refine pure_ (i := 12) (N := some 47) (v := ?_) (a' := ?_) #[true, true, true, true, true, true, true, true, true, true, true, true, true, false, false, false, false, false, false, false, false, false, false, false, false] rfl rfl (any_of HT_.out (by kernel_rfl)) (fun _ _ _ h => h) (Or.inl ⟨by rfl, ?_⟩) ?_ ?_
       rotate_left
       ·intro w'; go_simp; with_reducible rfl
       rotate_left
       ·simp only [Act.put, xA, xZ, xS, i64_w, i32_w]; rfl
       refine pure_ (i := 13) (N := some 48) (v := ?_) (a' := ?_) #[true, true, true, true, true, true, true, true, true, true, true, true, true, true, false, false, false, false, false, false, false, false, false, false, false] rfl rfl (any_of HT_.out (by kernel_rfl)) (fun _ _ _ h => h) (Or.inl ⟨by rfl, ?_⟩) ?_ ?_
       rotate_left
       ·intro w'; go_simp; with_reducible rfl
       rotate_left
       ·simp only [Act.put, xA, xZ, xS, i64_w, i32_w]; rfl
       refine pure_ (i := 14) (N := some 49) (v := ?_) (a' := ?_) #[true, true, true, true, true, true, true, true, true, true, true, true, true, true, true, false, false, false, false, false, false, false, false, false, false] rfl rfl (any_of HT_.out (by kernel_rfl)) (fun _ _ _ h => h) (Or.inl ⟨by rfl, ?_⟩) ?_ ?_
       rotate_left
       ·intro w'; go_simp; with_reducible rfl
       rotate_left
       ·simp only [Act.put, xA, xZ, xS, i64_w, i32_w]; rfl
       refine pure_ (i := 15) (N := some 50) (v := ?_) (a' := ?_) #[true, true, true, true, true, true, true, true, true, true, true, true, true, true, true, true, false, false, false, false, false, false, false, false, false] rfl rfl (any_of HT_.out (by kernel_rfl)) (fun _ _ _ h => h) (Or.inl ⟨by rfl, ?_⟩) ?_ ?_
       rotate_left
       ·intro w'; go_simp; with_reducible rfl
       rotate_left
       ·simp only [Act.put, xA, xZ, xS, i64_w, i32_w]; rfl
       refine pure_ (i := 16) (N := some 51) (v := ?_) (a' := ?_) #[true, true, true, true, true, true, true, true, true, true, true, true, true, true, true, true, true, false, false, false, false, false, false, false, false] rfl rfl (any_of HT_.out (by kernel_rfl)) (fun _ _ _ h => h) (Or.inl ⟨by rfl, ?_⟩) ?_ ?_
       rotate_left
       ·intro w'; go_simp; with_reducible rfl
       rotate_left
       ·simp only [Act.put, xA, xZ, xS, i64_w, i32_w]; rfl
       refine pure_ (i := 17) (N := some 52) (v := ?_) (a' := ?_) #[true, true, true, true, true, true, true, true, true, true, true, true, true, true, true, true, true, true, false, false, false, false, false, false, false] rfl rfl (any_of HT_.out (by kernel_rfl)) (fun _ _ _ h => h) (Or.inl ⟨by rfl, ?_⟩) ?_ ?_
       rotate_left
       ·intro w'; go_simp; with_reducible rfl
       rotate_left
       ·simp only [Act.put, xA, xZ, xS, i64_w, i32_w]; rfl
       refine pure_ (i := 18) (N := some 53) (v := undef) (a' := ?_) #[true, true, true, true, true, true, true, true, true, true, true, true, true, true, true, true, true, true, true, false, false, false, false, false, false] rfl rfl (any_of HT_.out (by kernel_rfl)) (fun _ _ _ h => h) (Or.inr ⟨by rfl, rfl⟩) ?_ ?_
       rotate_left
       ·simp only [Act.put, xA, xZ, xS, i64_w, i32_w]; rfl
       refine pure_ (i := 19) (N := some 54) (v := undef) (a' := ?_) #[true, true, true, true, true, true, true, true, true, true, true, true, true, true, true, true, true, true, true, true, false, false, false, false, false] rfl rfl (any_of HT_.out (by kernel_rfl)) (fun _ _ _ h => h) (Or.inr ⟨by rfl, rfl⟩) ?_ ?_
       rotate_left
       ·simp only [Act.put, xA, xZ, xS, i64_w, i32_w]; rfl
       refine pure_ (i := 20) (N := some 55) (v := undef) (a' := ?_) #[true, true, true, true, true, true, true, true, true, true, true, true, true, true, true, true, true, true, true, true, true, false, false, false, false] rfl rfl (any_of HT_.out (by kernel_rfl)) (fun _ _ _ h => h) (Or.inr ⟨by rfl, rfl⟩) ?_ ?_
       rotate_left
       ·simp only [Act.put, xA, xZ, xS, i64_w, i32_w]; rfl
       refine pure_ (i := 21) (N := some 56) (v := undef) (a' := ?_) #[true, true, true, true, true, true, true, true, true, true, true, true, true, true, true, true, true, true, true, true, true, true, false, false, false] rfl rfl (any_of HT_.out (by kernel_rfl)) (fun _ _ _ h => h) (Or.inr ⟨by rfl, rfl⟩) ?_ ?_
       rotate_left
       ·simp only [Act.put, xA, xZ, xS, i64_w, i32_w]; rfl
       refine pure_ (i := 22) (N := some 57) (v := undef) (a' := ?_) #[true, true, true, true, true, true, true, true, true, true, true, true, true, true, true, true, true, true, true, true, true, true, true, false, false] rfl rfl (any_of HT_.out (by kernel_rfl)) (fun _ _ _ h => h) (Or.inr ⟨by rfl, rfl⟩) ?_ ?_
       rotate_left
       ·simp only [Act.put, xA, xZ, xS, i64_w, i32_w]; rfl
       refine pure_ (i := 23) (N := some 58) (v := ?_) (a' := ?_) #[true, true, true, true, true, true, true, true, true, true, true, true, true, true, true, true, true, true, true, true, true, true, true, true, false] rfl rfl (any_of HT_.out (by kernel_rfl)) (fun _ _ _ h => h) (Or.inl ⟨by rfl, ?_⟩) ?_ ?_
       rotate_left
       ·intro w'; go_simp; with_reducible rfl
       rotate_left
       ·simp only [Act.put, xA, xZ, xS, i64_w, i32_w]; rfl
       refine pure_ (i := 24) (N := some 4) (v := ?_) (a' := ?_) #[true, true, true, true, true, true, true, true, true, true, true, true, true, true, true, true, true, true, true, true, true, true, true, true, true] rfl rfl (any_of HT_.out (by kernel_rfl)) (fun _ _ _ h => h) (Or.inl ⟨by rfl, ?_⟩) ?_ ?_
       rotate_left
       ·intro w'; go_simp; with_reducible rfl
       rotate_left
       ·simp only [Act.put, xA, xZ, xS, i64_w, i32_w]; rfl
       refine done_ (done_of HT_.out (by kernel_rfl)) ?_
       try go_wp2
       go_meet
       case rel => exact ⟨_, (false), (by first | rfl | (simp; done) | (simp [*]; done)), H', ⟨by first | omega | exact Nat.le_refl _⟩, ⟨by (with_reducible repeat first | refine qN ?_ _ | refine qD ?_ | refine qA ?_ _); exact B283.out⟩, ⟨by (with_reducible repeat first | refine qN ?_ _ | refine qD ?_ | refine qA ?_ _); exact B284.out⟩, ⟨by repeat (first | (with_reducible first | exact HB.out | apply eA | apply eN | apply eD | refine eS ?_ GE283.out | refine eS ?_ GE284.out) | exact HB.out)⟩⟩
     ·rw [if_neg c36] at H
      have c36b0 : (t300.toList == t302.toList) = false := beq_eq_false_iff_ne.mpr c36
      have c36b1 : (t300.toList != t302.toList) = true := bne_iff_ne.mpr c36
      (first | rw [c36b0] | (simp only [i64_w, i32_w]; rw [c36b0]) | skip)
      have H' := qM H
      clear H
      try go_wp2
      have n0_ := qM (Kd.R_drew HO288.out)
      have n1_ := qM (Kd.R_drew HO291.out)
      have n2_ := qM (Kd.R_drew HO295.out)
      have n3_ := qM (Kd.R_drew HO298.out)
      have n4_ := qM (blk_drew B283.out)
      have n5_ := qM (blk_drew B284.out)
      have n6_ := qM (below_drew1 HB.out)
      clear HO288
      clear HO291
      clear HO295
      clear HO298
      clear B283
      clear B284
      clear HB
      have HO288 := n0_
      have HO291 := n1_
      have HO295 := n2_
      have HO298 := n3_
      have B283 := n4_
      have B284 := n5_
      have HB := n6_
      clear n0_ n1_ n2_ n3_ n4_ n5_ n6_
      refine start_ (n := 25) (S := fun w' => True) (ds := []) #[false, false, false, false, false, false, false, false, false, false, false, false, false, false, false, false, false, false, false, false, false, false, false, false, false] (by kernel_rfl) rfl rfl trivial (fun hHeld => ?_); refine with_tabW hogsheadlaw10_ShelfTells.tab6 hogsheadlaw10_ShelfTells.bits6 (fun HT_ HW_ => ?_)
      generalize w32.drew = w44 at HO288 HO291 HO295 HO298 B283 B284 HB hHeld ⊢
      refine pure_ (i := 0) (N := some 35) (v := ?_) (a' := ?_) #[true, false, false, false, false, false, false, false, false, false, false, false, false, false, false, false, false, false, false, false, false, false, false, false, false] rfl rfl (any_of HT_.out (by kernel_rfl)) (fun _ _ _ h => h) (Or.inl ⟨by rfl, ?_⟩) ?_ ?_
      rotate_left
      ·intro w'; go_simp; with_reducible rfl
      rotate_left
      ·simp only [Act.put, xA, xZ, xS, i64_w, i32_w]; rfl
      refine pure_ (i := 1) (N := some 36) (v := ?_) (a' := ?_) #[true, true, false, false, false, false, false, false, false, false, false, false, false, false, false, false, false, false, false, false, false, false, false, false, false] rfl rfl (any_of HT_.out (by kernel_rfl)) (fun _ _ _ h => h) (Or.inl ⟨by rfl, ?_⟩) ?_ ?_
      rotate_left
      ·intro w'; go_simp; with_reducible rfl
      rotate_left
      ·simp only [Act.put, xA, xZ, xS, i64_w, i32_w]; rfl
      refine pure_ (i := 2) (N := some 37) (v := ?_) (a' := ?_) #[true, true, true, false, false, false, false, false, false, false, false, false, false, false, false, false, false, false, false, false, false, false, false, false, false] rfl rfl (any_of HT_.out (by kernel_rfl)) (fun _ _ _ h => h) (Or.inl ⟨by rfl, ?_⟩) ?_ ?_
      rotate_left
      ·intro w'; go_simp; with_reducible rfl
      rotate_left
      ·simp only [Act.put, xA, xZ, xS, i64_w, i32_w]; rfl
      refine pure_ (i := 3) (N := some 38) (v := ?_) (a' := ?_) #[true, true, true, true, false, false, false, false, false, false, false, false, false, false, false, false, false, false, false, false, false, false, false, false, false] rfl rfl (any_of HT_.out (by kernel_rfl)) (fun _ _ _ h => h) (Or.inl ⟨by rfl, ?_⟩) ?_ ?_
      rotate_left
      ·intro w'; go_simp; with_reducible rfl
      rotate_left
      ·simp only [Act.put, xA, xZ, xS, i64_w, i32_w]; rfl
      refine pure_ (i := 4) (N := some 39) (v := ?_) (a' := ?_) #[true, true, true, true, true, false, false, false, false, false, false, false, false, false, false, false, false, false, false, false, false, false, false, false, false] rfl rfl (any_of HT_.out (by kernel_rfl)) (fun _ _ _ h => h) (Or.inl ⟨by rfl, ?_⟩) ?_ ?_
      rotate_left
      ·intro w'; go_simp; with_reducible rfl
      rotate_left
      ·simp only [Act.put, xA, xZ, xS, i64_w, i32_w]; rfl
      refine pure_ (i := 5) (N := some 40) (v := ?_) (a' := ?_) #[true, true, true, true, true, true, false, false, false, false, false, false, false, false, false, false, false, false, false, false, false, false, false, false, false] rfl rfl (any_of HT_.out (by kernel_rfl)) (fun _ _ _ h => h) (Or.inl ⟨by rfl, ?_⟩) ?_ ?_
      rotate_left
      ·intro w'; go_simp; with_reducible rfl
      rotate_left
      ·simp only [Act.put, xA, xZ, xS, i64_w, i32_w]; rfl
      refine pure_ (i := 6) (N := some 41) (v := ?_) (a' := ?_) #[true, true, true, true, true, true, true, false, false, false, false, false, false, false, false, false, false, false, false, false, false, false, false, false, false] rfl rfl (any_of HT_.out (by kernel_rfl)) (fun _ _ _ h => h) (Or.inl ⟨by rfl, ?_⟩) ?_ ?_
      rotate_left
      ·intro w'; go_simp; with_reducible rfl
      rotate_left
      ·simp only [Act.put, xA, xZ, xS, i64_w, i32_w]; rfl
      refine pure_ (i := 7) (N := some 42) (v := ?_) (a' := ?_) #[true, true, true, true, true, true, true, true, false, false, false, false, false, false, false, false, false, false, false, false, false, false, false, false, false] rfl rfl (any_of HT_.out (by kernel_rfl)) (fun _ _ _ h => h) (Or.inl ⟨by rfl, ?_⟩) ?_ ?_
      rotate_left
      ·intro w'; go_simp; with_reducible rfl
      rotate_left
      ·simp only [Act.put, xA, xZ, xS, i64_w, i32_w]; rfl
      refine pure_ (i := 8) (N := some 43) (v := ?_) (a' := ?_) #[true, true, true, true, true, true, true, true, true, false, false, false, false, false, false, false, false, false, false, false, false, false, false, false, false] rfl rfl (any_of HT_.out (by kernel_rfl)) (fun _ _ _ h => h) (Or.inl ⟨by rfl, ?_⟩) ?_ ?_
      rotate_left
      ·intro w'; go_simp; with_reducible rfl
      rotate_left
      ·simp only [Act.put, xA, xZ, xS, i64_w, i32_w]; rfl
      refine pure_ (i := 9) (N := some 44) (v := ?_) (a' := ?_) #[true, true, true, true, true, true, true, true, true, true, false, false, false, false, false, false, false, false, false, false, false, false, false, false, false] rfl rfl (any_of HT_.out (by kernel_rfl)) (fun _ _ _ h => h) (Or.inl ⟨by rfl, ?_⟩) ?_ ?_
      rotate_left
      ·intro w'; go_simp; with_reducible rfl
      rotate_left
      ·simp only [Act.put, xA, xZ, xS, i64_w, i32_w]; rfl
      refine pure_ (i := 10) (N := some 45) (v := ?_) (a' := ?_) #[true, true, true, true, true, true, true, true, true, true, true, false, false, false, false, false, false, false, false, false, false, false, false, false, false] rfl rfl (any_of HT_.out (by kernel_rfl)) (fun _ _ _ h => h) (Or.inl ⟨by rfl, ?_⟩) ?_ ?_
      rotate_left
      ·intro w'; go_simp; with_reducible rfl
      rotate_left
      ·simp only [Act.put, xA, xZ, xS, i64_w, i32_w]; rfl
      refine pure_ (i := 11) (N := some 46) (v := ?_) (a' := ?_) #[true, true, true, true, true, true, true, true, true, true, true, true, false, false, false, false, false, false, false, false, false, false, false, false, false] rfl rfl (any_of HT_.out (by kernel_rfl)) (fun _ _ _ h => h) (Or.inl ⟨by rfl, ?_⟩) ?_ ?_
      rotate_left
      ·intro w'; go_simp; with_reducible rfl
      rotate_left
      ·simp only [Act.put, xA, xZ, xS, i64_w, i32_w]; rfl
      refine pure_ (i := 12) (N := some 47) (v := ?_) (a' := ?_) #[true, true, true, true, true, true, true, true, true, true, true, true, true, false, false, false, false, false, false, false, false, false, false, false, false] rfl rfl (any_of HT_.out (by kernel_rfl)) (fun _ _ _ h => h) (Or.inl ⟨by rfl, ?_⟩) ?_ ?_
      rotate_left
      ·intro w'; go_simp; with_reducible rfl
      rotate_left
      ·simp only [Act.put, xA, xZ, xS, i64_w, i32_w]; rfl
      refine pure_ (i := 13) (N := some 48) (v := undef) (a' := ?_) #[true, true, true, true, true, true, true, true, true, true, true, true, true, true, false, false, false, false, false, false, false, false, false, false, false] rfl rfl (any_of HT_.out (by kernel_rfl)) (fun _ _ _ h => h) (Or.inr ⟨by rfl, rfl⟩) ?_ ?_
      rotate_left
      ·simp only [Act.put, xA, xZ, xS, i64_w, i32_w]; rfl
      refine pure_ (i := 14) (N := some 49) (v := undef) (a' := ?_) #[true, true, true, true, true, true, true, true, true, true, true, true, true, true, true, false, false, false, false, false, false, false, false, false, false] rfl rfl (any_of HT_.out (by kernel_rfl)) (fun _ _ _ h => h) (Or.inr ⟨by rfl, rfl⟩) ?_ ?_
      rotate_left
      ·simp only [Act.put, xA, xZ, xS, i64_w, i32_w]; rfl
      refine pure_ (i := 15) (N := some 50) (v := undef) (a' := ?_) #[true, true, true, true, true, true, true, true, true, true, true, true, true, true, true, true, false, false, false, false, false, false, false, false, false] rfl rfl (any_of HT_.out (by kernel_rfl)) (fun _ _ _ h => h) (Or.inr ⟨by rfl, rfl⟩) ?_ ?_
      rotate_left
      ·simp only [Act.put, xA, xZ, xS, i64_w, i32_w]; rfl
      refine pure_ (i := 16) (N := some 51) (v := ?_) (a' := ?_) #[true, true, true, true, true, true, true, true, true, true, true, true, true, true, true, true, true, false, false, false, false, false, false, false, false] rfl rfl (any_of HT_.out (by kernel_rfl)) (fun _ _ _ h => h) (Or.inl ⟨by rfl, ?_⟩) ?_ ?_
      rotate_left
      ·intro w'; go_simp; with_reducible rfl
      rotate_left
      ·simp only [Act.put, xA, xZ, xS, i64_w, i32_w]; rfl
      refine pure_ (i := 17) (N := some 52) (v := ?_) (a' := ?_) #[true, true, true, true, true, true, true, true, true, true, true, true, true, true, true, true, true, true, false, false, false, false, false, false, false] rfl rfl (any_of HT_.out (by kernel_rfl)) (fun _ _ _ h => h) (Or.inl ⟨by rfl, ?_⟩) ?_ ?_
      rotate_left
      ·intro w'; go_simp; with_reducible rfl
      rotate_left
      ·simp only [Act.put, xA, xZ, xS, i64_w, i32_w]; rfl
      refine pure_ (i := 18) (N := some 53) (v := undef) (a' := ?_) #[true, true, true, true, true, true, true, true, true, true, true, true, true, true, true, true, true, true, true, false, false, false, false, false, false] rfl rfl (any_of HT_.out (by kernel_rfl)) (fun _ _ _ h => h) (Or.inr ⟨by rfl, rfl⟩) ?_ ?_
      rotate_left
      ·simp only [Act.put, xA, xZ, xS, i64_w, i32_w]; rfl
      refine pure_ (i := 19) (N := some 54) (v := undef) (a' := ?_) #[true, true, true, true, true, true, true, true, true, true, true, true, true, true, true, true, true, true, true, true, false, false, false, false, false] rfl rfl (any_of HT_.out (by kernel_rfl)) (fun _ _ _ h => h) (Or.inr ⟨by rfl, rfl⟩) ?_ ?_
      rotate_left
      ·simp only [Act.put, xA, xZ, xS, i64_w, i32_w]; rfl
      refine pure_ (i := 20) (N := some 55) (v := undef) (a' := ?_) #[true, true, true, true, true, true, true, true, true, true, true, true, true, true, true, true, true, true, true, true, true, false, false, false, false] rfl rfl (any_of HT_.out (by kernel_rfl)) (fun _ _ _ h => h) (Or.inr ⟨by rfl, rfl⟩) ?_ ?_
      rotate_left
      ·simp only [Act.put, xA, xZ, xS, i64_w, i32_w]; rfl
      refine pure_ (i := 21) (N := some 56) (v := undef) (a' := ?_) #[true, true, true, true, true, true, true, true, true, true, true, true, true, true, true, true, true, true, true, true, true, true, false, false, false] rfl rfl (any_of HT_.out (by kernel_rfl)) (fun _ _ _ h => h) (Or.inr ⟨by rfl, rfl⟩) ?_ ?_
      rotate_left
      ·simp only [Act.put, xA, xZ, xS, i64_w, i32_w]; rfl
      refine pure_ (i := 22) (N := some 57) (v := undef) (a' := ?_) #[true, true, true, true, true, true, true, true, true, true, true, true, true, true, true, true, true, true, true, true, true, true, true, false, false] rfl rfl (any_of HT_.out (by kernel_rfl)) (fun _ _ _ h => h) (Or.inr ⟨by rfl, rfl⟩) ?_ ?_
      rotate_left
      ·simp only [Act.put, xA, xZ, xS, i64_w, i32_w]; rfl
      refine pure_ (i := 23) (N := some 58) (v := ?_) (a' := ?_) #[true, true, true, true, true, true, true, true, true, true, true, true, true, true, true, true, true, true, true, true, true, true, true, true, false] rfl rfl (any_of HT_.out (by kernel_rfl)) (fun _ _ _ h => h) (Or.inl ⟨by rfl, ?_⟩) ?_ ?_
      rotate_left
      ·intro w'; go_simp; with_reducible rfl
      rotate_left
      ·simp only [Act.put, xA, xZ, xS, i64_w, i32_w]; rfl
      refine pure_ (i := 24) (N := some 4) (v := ?_) (a' := ?_) #[true, true, true, true, true, true, true, true, true, true, true, true, true, true, true, true, true, true, true, true, true, true, true, true, true] rfl rfl (any_of HT_.out (by kernel_rfl)) (fun _ _ _ h => h) (Or.inl ⟨by rfl, ?_⟩) ?_ ?_
      rotate_left
      ·intro w'; go_simp; with_reducible rfl
      rotate_left
      ·simp only [Act.put, xA, xZ, xS, i64_w, i32_w]; rfl
      refine done_ (done_of HT_.out (by kernel_rfl)) ?_
      try go_wp2
      go_meet
      case rel => exact ⟨_, (false), (by first | rfl | (simp; done) | (simp [*]; done)), H', ⟨by first | omega | exact Nat.le_refl _⟩, ⟨by (with_reducible repeat first | refine qN ?_ _ | refine qD ?_ | refine qA ?_ _); exact B283.out⟩, ⟨by (with_reducible repeat first | refine qN ?_ _ | refine qD ?_ | refine qA ?_ _); exact B284.out⟩, ⟨by repeat (first | (with_reducible first | exact HB.out | apply eA | apply eN | apply eD | refine eS ?_ GE283.out | refine eS ?_ GE284.out) | exact HB.out)⟩⟩
    ·replace c35 := Bool.eq_false_iff.mpr c35
     subst c35
     have H1 : (hogsheadlaw10_ShelfTells.j0 k false) = some r := by rw [if_neg (show ¬ (false = true) by decide)] at H; exact H
     clear H
     have H := H1
     clear H1
     have H' := qM H
     clear H
     try go_wp2
     have n0_ := qM (Kd.R_drew HO288.out)
     have n1_ := qM (Kd.R_drew HO291.out)
     have n2_ := qM (Kd.R_drew HO295.out)
     have n3_ := qM (Kd.R_drew HO298.out)
     have n4_ := qM (blk_drew B283.out)
     have n5_ := qM (blk_drew B284.out)
     have n6_ := qM (below_drew1 HB.out)
     clear HO288
     clear HO291
     clear HO295
     clear HO298
     clear B283
     clear B284
     clear HB
     have HO288 := n0_
     have HO291 := n1_
     have HO295 := n2_
     have HO298 := n3_
     have B283 := n4_
     have B284 := n5_
     have HB := n6_
     clear n0_ n1_ n2_ n3_ n4_ n5_ n6_
     refine start_ (n := 25) (S := fun w' => True) (ds := []) #[false, false, false, false, false, false, false, false, false, false, false, false, false, false, false, false, false, false, false, false, false, false, false, false, false] (by kernel_rfl) rfl rfl trivial (fun hHeld => ?_); refine with_tabW hogsheadlaw10_ShelfTells.tab6 hogsheadlaw10_ShelfTells.bits6 (fun HT_ HW_ => ?_)
     generalize w32.drew = w45 at HO288 HO291 HO295 HO298 B283 B284 HB hHeld ⊢
     refine pure_ (i := 0) (N := some 35) (v := ?_) (a' := ?_) #[true, false, false, false, false, false, false, false, false, false, false, false, false, false, false, false, false, false, false, false, false, false, false, false, false] rfl rfl (any_of HT_.out (by kernel_rfl)) (fun _ _ _ h => h) (Or.inl ⟨by rfl, ?_⟩) ?_ ?_
     rotate_left
     ·intro w'; go_simp; with_reducible rfl
     rotate_left
     ·simp only [Act.put, xA, xZ, xS, i64_w, i32_w]; rfl
     refine pure_ (i := 1) (N := some 36) (v := ?_) (a' := ?_) #[true, true, false, false, false, false, false, false, false, false, false, false, false, false, false, false, false, false, false, false, false, false, false, false, false] rfl rfl (any_of HT_.out (by kernel_rfl)) (fun _ _ _ h => h) (Or.inl ⟨by rfl, ?_⟩) ?_ ?_
     rotate_left
     ·intro w'; go_simp; with_reducible rfl
     rotate_left
     ·simp only [Act.put, xA, xZ, xS, i64_w, i32_w]; rfl
     refine pure_ (i := 2) (N := some 37) (v := ?_) (a' := ?_) #[true, true, true, false, false, false, false, false, false, false, false, false, false, false, false, false, false, false, false, false, false, false, false, false, false] rfl rfl (any_of HT_.out (by kernel_rfl)) (fun _ _ _ h => h) (Or.inl ⟨by rfl, ?_⟩) ?_ ?_
     rotate_left
     ·intro w'; go_simp; with_reducible rfl
     rotate_left
     ·simp only [Act.put, xA, xZ, xS, i64_w, i32_w]; rfl
     refine pure_ (i := 3) (N := some 38) (v := ?_) (a' := ?_) #[true, true, true, true, false, false, false, false, false, false, false, false, false, false, false, false, false, false, false, false, false, false, false, false, false] rfl rfl (any_of HT_.out (by kernel_rfl)) (fun _ _ _ h => h) (Or.inl ⟨by rfl, ?_⟩) ?_ ?_
     rotate_left
     ·intro w'; go_simp; with_reducible rfl
     rotate_left
     ·simp only [Act.put, xA, xZ, xS, i64_w, i32_w]; rfl
     refine pure_ (i := 4) (N := some 39) (v := ?_) (a' := ?_) #[true, true, true, true, true, false, false, false, false, false, false, false, false, false, false, false, false, false, false, false, false, false, false, false, false] rfl rfl (any_of HT_.out (by kernel_rfl)) (fun _ _ _ h => h) (Or.inl ⟨by rfl, ?_⟩) ?_ ?_
     rotate_left
     ·intro w'; go_simp; with_reducible rfl
     rotate_left
     ·simp only [Act.put, xA, xZ, xS, i64_w, i32_w]; rfl
     refine pure_ (i := 5) (N := some 40) (v := ?_) (a' := ?_) #[true, true, true, true, true, true, false, false, false, false, false, false, false, false, false, false, false, false, false, false, false, false, false, false, false] rfl rfl (any_of HT_.out (by kernel_rfl)) (fun _ _ _ h => h) (Or.inl ⟨by rfl, ?_⟩) ?_ ?_
     rotate_left
     ·intro w'; go_simp; with_reducible rfl
     rotate_left
     ·simp only [Act.put, xA, xZ, xS, i64_w, i32_w]; rfl
     refine pure_ (i := 6) (N := some 41) (v := ?_) (a' := ?_) #[true, true, true, true, true, true, true, false, false, false, false, false, false, false, false, false, false, false, false, false, false, false, false, false, false] rfl rfl (any_of HT_.out (by kernel_rfl)) (fun _ _ _ h => h) (Or.inl ⟨by rfl, ?_⟩) ?_ ?_
     rotate_left
     ·intro w'; go_simp; with_reducible rfl
     rotate_left
     ·simp only [Act.put, xA, xZ, xS, i64_w, i32_w]; rfl
     refine pure_ (i := 7) (N := some 42) (v := ?_) (a' := ?_) #[true, true, true, true, true, true, true, true, false, false, false, false, false, false, false, false, false, false, false, false, false, false, false, false, false] rfl rfl (any_of HT_.out (by kernel_rfl)) (fun _ _ _ h => h) (Or.inl ⟨by rfl, ?_⟩) ?_ ?_
     rotate_left
     ·intro w'; go_simp; with_reducible rfl
     rotate_left
     ·simp only [Act.put, xA, xZ, xS, i64_w, i32_w]; rfl
     refine pure_ (i := 8) (N := some 43) (v := undef) (a' := ?_) #[true, true, true, true, true, true, true, true, true, false, false, false, false, false, false, false, false, false, false, false, false, false, false, false, false] rfl rfl (any_of HT_.out (by kernel_rfl)) (fun _ _ _ h => h) (Or.inr ⟨by rfl, rfl⟩) ?_ ?_
     rotate_left
     ·simp only [Act.put, xA, xZ, xS, i64_w, i32_w]; rfl
     refine pure_ (i := 9) (N := some 44) (v := undef) (a' := ?_) #[true, true, true, true, true, true, true, true, true, true, false, false, false, false, false, false, false, false, false, false, false, false, false, false, false] rfl rfl (any_of HT_.out (by kernel_rfl)) (fun _ _ _ h => h) (Or.inr ⟨by rfl, rfl⟩) ?_ ?_
     rotate_left
     ·simp only [Act.put, xA, xZ, xS, i64_w, i32_w]; rfl
     refine pure_ (i := 10) (N := some 45) (v := undef) (a' := ?_) #[true, true, true, true, true, true, true, true, true, true, true, false, false, false, false, false, false, false, false, false, false, false, false, false, false] rfl rfl (any_of HT_.out (by kernel_rfl)) (fun _ _ _ h => h) (Or.inr ⟨by rfl, rfl⟩) ?_ ?_
     rotate_left
     ·simp only [Act.put, xA, xZ, xS, i64_w, i32_w]; rfl
     refine pure_ (i := 11) (N := some 46) (v := ?_) (a' := ?_) #[true, true, true, true, true, true, true, true, true, true, true, true, false, false, false, false, false, false, false, false, false, false, false, false, false] rfl rfl (any_of HT_.out (by kernel_rfl)) (fun _ _ _ h => h) (Or.inl ⟨by rfl, ?_⟩) ?_ ?_
     rotate_left
     ·intro w'; go_simp; with_reducible rfl
     rotate_left
     ·simp only [Act.put, xA, xZ, xS, i64_w, i32_w]; rfl
     refine pure_ (i := 12) (N := some 47) (v := ?_) (a' := ?_) #[true, true, true, true, true, true, true, true, true, true, true, true, true, false, false, false, false, false, false, false, false, false, false, false, false] rfl rfl (any_of HT_.out (by kernel_rfl)) (fun _ _ _ h => h) (Or.inl ⟨by rfl, ?_⟩) ?_ ?_
     rotate_left
     ·intro w'; go_simp; with_reducible rfl
     rotate_left
     ·simp only [Act.put, xA, xZ, xS, i64_w, i32_w]; rfl
     refine pure_ (i := 13) (N := some 48) (v := undef) (a' := ?_) #[true, true, true, true, true, true, true, true, true, true, true, true, true, true, false, false, false, false, false, false, false, false, false, false, false] rfl rfl (any_of HT_.out (by kernel_rfl)) (fun _ _ _ h => h) (Or.inr ⟨by rfl, rfl⟩) ?_ ?_
     rotate_left
     ·simp only [Act.put, xA, xZ, xS, i64_w, i32_w]; rfl
     refine pure_ (i := 14) (N := some 49) (v := undef) (a' := ?_) #[true, true, true, true, true, true, true, true, true, true, true, true, true, true, true, false, false, false, false, false, false, false, false, false, false] rfl rfl (any_of HT_.out (by kernel_rfl)) (fun _ _ _ h => h) (Or.inr ⟨by rfl, rfl⟩) ?_ ?_
     rotate_left
     ·simp only [Act.put, xA, xZ, xS, i64_w, i32_w]; rfl
     refine pure_ (i := 15) (N := some 50) (v := undef) (a' := ?_) #[true, true, true, true, true, true, true, true, true, true, true, true, true, true, true, true, false, false, false, false, false, false, false, false, false] rfl rfl (any_of HT_.out (by kernel_rfl)) (fun _ _ _ h => h) (Or.inr ⟨by rfl, rfl⟩) ?_ ?_
     rotate_left
     ·simp only [Act.put, xA, xZ, xS, i64_w, i32_w]; rfl
     refine pure_ (i := 16) (N := some 51) (v := ?_) (a' := ?_) #[true, true, true, true, true, true, true, true, true, true, true, true, true, true, true, true, true, false, false, false, false, false, false, false, false] rfl rfl (any_of HT_.out (by kernel_rfl)) (fun _ _ _ h => h) (Or.inl ⟨by rfl, ?_⟩) ?_ ?_
     rotate_left
     ·intro w'; go_simp; with_reducible rfl
     rotate_left
     ·simp only [Act.put, xA, xZ, xS, i64_w, i32_w]; rfl
     refine pure_ (i := 17) (N := some 52) (v := ?_) (a' := ?_) #[true, true, true, true, true, true, true, true, true, true, true, true, true, true, true, true, true, true, false, false, false, false, false, false, false] rfl rfl (any_of HT_.out (by kernel_rfl)) (fun _ _ _ h => h) (Or.inl ⟨by rfl, ?_⟩) ?_ ?_
     rotate_left
     ·intro w'; go_simp; with_reducible rfl
     rotate_left
     ·simp only [Act.put, xA, xZ, xS, i64_w, i32_w]; rfl
     refine pure_ (i := 18) (N := some 53) (v := undef) (a' := ?_) #[true, true, true, true, true, true, true, true, true, true, true, true, true, true, true, true, true, true, true, false, false, false, false, false, false] rfl rfl (any_of HT_.out (by kernel_rfl)) (fun _ _ _ h => h) (Or.inr ⟨by rfl, rfl⟩) ?_ ?_
     rotate_left
     ·simp only [Act.put, xA, xZ, xS, i64_w, i32_w]; rfl
     refine pure_ (i := 19) (N := some 54) (v := undef) (a' := ?_) #[true, true, true, true, true, true, true, true, true, true, true, true, true, true, true, true, true, true, true, true, false, false, false, false, false] rfl rfl (any_of HT_.out (by kernel_rfl)) (fun _ _ _ h => h) (Or.inr ⟨by rfl, rfl⟩) ?_ ?_
     rotate_left
     ·simp only [Act.put, xA, xZ, xS, i64_w, i32_w]; rfl
     refine pure_ (i := 20) (N := some 55) (v := undef) (a' := ?_) #[true, true, true, true, true, true, true, true, true, true, true, true, true, true, true, true, true, true, true, true, true, false, false, false, false] rfl rfl (any_of HT_.out (by kernel_rfl)) (fun _ _ _ h => h) (Or.inr ⟨by rfl, rfl⟩) ?_ ?_
     rotate_left
     ·simp only [Act.put, xA, xZ, xS, i64_w, i32_w]; rfl
     refine pure_ (i := 21) (N := some 56) (v := undef) (a' := ?_) #[true, true, true, true, true, true, true, true, true, true, true, true, true, true, true, true, true, true, true, true, true, true, false, false, false] rfl rfl (any_of HT_.out (by kernel_rfl)) (fun _ _ _ h => h) (Or.inr ⟨by rfl, rfl⟩) ?_ ?_
     rotate_left
     ·simp only [Act.put, xA, xZ, xS, i64_w, i32_w]; rfl
     refine pure_ (i := 22) (N := some 57) (v := undef) (a' := ?_) #[true, true, true, true, true, true, true, true, true, true, true, true, true, true, true, true, true, true, true, true, true, true, true, false, false] rfl rfl (any_of HT_.out (by kernel_rfl)) (fun _ _ _ h => h) (Or.inr ⟨by rfl, rfl⟩) ?_ ?_
     rotate_left
     ·simp only [Act.put, xA, xZ, xS, i64_w, i32_w]; rfl
     refine pure_ (i := 23) (N := some 58) (v := ?_) (a' := ?_) #[true, true, true, true, true, true, true, true, true, true, true, true, true, true, true, true, true, true, true, true, true, true, true, true, false] rfl rfl (any_of HT_.out (by kernel_rfl)) (fun _ _ _ h => h) (Or.inl ⟨by rfl, ?_⟩) ?_ ?_
     rotate_left
     ·intro w'; go_simp; with_reducible rfl
     rotate_left
     ·simp only [Act.put, xA, xZ, xS, i64_w, i32_w]; rfl
     refine pure_ (i := 24) (N := some 4) (v := ?_) (a' := ?_) #[true, true, true, true, true, true, true, true, true, true, true, true, true, true, true, true, true, true, true, true, true, true, true, true, true] rfl rfl (any_of HT_.out (by kernel_rfl)) (fun _ _ _ h => h) (Or.inl ⟨by rfl, ?_⟩) ?_ ?_
     rotate_left
     ·intro w'; go_simp; with_reducible rfl
     rotate_left
     ·simp only [Act.put, xA, xZ, xS, i64_w, i32_w]; rfl
     refine done_ (done_of HT_.out (by kernel_rfl)) ?_
     try go_wp2
     go_meet
     case rel => exact ⟨_, (false), (by first | rfl | (simp; done) | (simp [*]; done)), H', ⟨by first | omega | exact Nat.le_refl _⟩, ⟨by (with_reducible repeat first | refine qN ?_ _ | refine qD ?_ | refine qA ?_ _); exact B283.out⟩, ⟨by (with_reducible repeat first | refine qN ?_ _ | refine qD ?_ | refine qA ?_ _); exact B284.out⟩, ⟨by repeat (first | (with_reducible first | exact HB.out | apply eA | apply eN | apply eD | refine eS ?_ GE283.out | refine eS ?_ GE284.out) | exact HB.out)⟩⟩
   ·replace c34 := Bool.eq_false_iff.mpr c34
    subst c34
    have H1 : (hogsheadlaw10_ShelfTells.j0 k false) = some r := by rw [if_neg (show ¬ (false = true) by decide)] at H; exact H
    clear H
    have H := H1
    clear H1
    have H' := qM H
    clear H
    try go_wp2
    have n0_ := qM (Kd.R_drew HO288.out)
    have n1_ := qM (Kd.R_drew HO291.out)
    have n2_ := qM (Kd.R_drew HO295.out)
    have n3_ := qM (Kd.R_drew HO298.out)
    have n4_ := qM (blk_drew B283.out)
    have n5_ := qM (blk_drew B284.out)
    have n6_ := qM (below_drew1 HB.out)
    clear HO288
    clear HO291
    clear HO295
    clear HO298
    clear B283
    clear B284
    clear HB
    have HO288 := n0_
    have HO291 := n1_
    have HO295 := n2_
    have HO298 := n3_
    have B283 := n4_
    have B284 := n5_
    have HB := n6_
    clear n0_ n1_ n2_ n3_ n4_ n5_ n6_
    refine start_ (n := 25) (S := fun w' => True) (ds := []) #[false, false, false, false, false, false, false, false, false, false, false, false, false, false, false, false, false, false, false, false, false, false, false, false, false] (by kernel_rfl) rfl rfl trivial (fun hHeld => ?_); refine with_tabW hogsheadlaw10_ShelfTells.tab6 hogsheadlaw10_ShelfTells.bits6 (fun HT_ HW_ => ?_)
    generalize w32.drew = w46 at HO288 HO291 HO295 HO298 B283 B284 HB hHeld ⊢
    refine pure_ (i := 0) (N := some 35) (v := ?_) (a' := ?_) #[true, false, false, false, false, false, false, false, false, false, false, false, false, false, false, false, false, false, false, false, false, false, false, false, false] rfl rfl (any_of HT_.out (by kernel_rfl)) (fun _ _ _ h => h) (Or.inl ⟨by rfl, ?_⟩) ?_ ?_
    rotate_left
    ·intro w'; go_simp; with_reducible rfl
    rotate_left
    ·simp only [Act.put, xA, xZ, xS, i64_w, i32_w]; rfl
    refine pure_ (i := 1) (N := some 36) (v := ?_) (a' := ?_) #[true, true, false, false, false, false, false, false, false, false, false, false, false, false, false, false, false, false, false, false, false, false, false, false, false] rfl rfl (any_of HT_.out (by kernel_rfl)) (fun _ _ _ h => h) (Or.inl ⟨by rfl, ?_⟩) ?_ ?_
    rotate_left
    ·intro w'; go_simp; with_reducible rfl
    rotate_left
    ·simp only [Act.put, xA, xZ, xS, i64_w, i32_w]; rfl
    refine pure_ (i := 2) (N := some 37) (v := ?_) (a' := ?_) #[true, true, true, false, false, false, false, false, false, false, false, false, false, false, false, false, false, false, false, false, false, false, false, false, false] rfl rfl (any_of HT_.out (by kernel_rfl)) (fun _ _ _ h => h) (Or.inl ⟨by rfl, ?_⟩) ?_ ?_
    rotate_left
    ·intro w'; go_simp; with_reducible rfl
    rotate_left
    ·simp only [Act.put, xA, xZ, xS, i64_w, i32_w]; rfl
    refine pure_ (i := 3) (N := some 38) (v := ?_) (a' := ?_) #[true, true, true, true, false, false, false, false, false, false, false, false, false, false, false, false, false, false, false, false, false, false, false, false, false] rfl rfl (any_of HT_.out (by kernel_rfl)) (fun _ _ _ h => h) (Or.inl ⟨by rfl, ?_⟩) ?_ ?_
    rotate_left
    ·intro w'; go_simp; with_reducible rfl
    rotate_left
    ·simp only [Act.put, xA, xZ, xS, i64_w, i32_w]; rfl
    refine pure_ (i := 4) (N := some 39) (v := ?_) (a' := ?_) #[true, true, true, true, true, false, false, false, false, false, false, false, false, false, false, false, false, false, false, false, false, false, false, false, false] rfl rfl (any_of HT_.out (by kernel_rfl)) (fun _ _ _ h => h) (Or.inl ⟨by rfl, ?_⟩) ?_ ?_
    rotate_left
    ·intro w'; go_simp; with_reducible rfl
    rotate_left
    ·simp only [Act.put, xA, xZ, xS, i64_w, i32_w]; rfl
    refine pure_ (i := 5) (N := some 40) (v := undef) (a' := ?_) #[true, true, true, true, true, true, false, false, false, false, false, false, false, false, false, false, false, false, false, false, false, false, false, false, false] rfl rfl (any_of HT_.out (by kernel_rfl)) (fun _ _ _ h => h) (Or.inr ⟨by rfl, rfl⟩) ?_ ?_
    rotate_left
    ·simp only [Act.put, xA, xZ, xS, i64_w, i32_w]; rfl
    refine pure_ (i := 6) (N := some 41) (v := ?_) (a' := ?_) #[true, true, true, true, true, true, true, false, false, false, false, false, false, false, false, false, false, false, false, false, false, false, false, false, false] rfl rfl (any_of HT_.out (by kernel_rfl)) (fun _ _ _ h => h) (Or.inl ⟨by rfl, ?_⟩) ?_ ?_
    rotate_left
    ·intro w'; go_simp; with_reducible rfl
    rotate_left
    ·simp only [Act.put, xA, xZ, xS, i64_w, i32_w]; rfl
    refine pure_ (i := 7) (N := some 42) (v := ?_) (a' := ?_) #[true, true, true, true, true, true, true, true, false, false, false, false, false, false, false, false, false, false, false, false, false, false, false, false, false] rfl rfl (any_of HT_.out (by kernel_rfl)) (fun _ _ _ h => h) (Or.inl ⟨by rfl, ?_⟩) ?_ ?_
    rotate_left
    ·intro w'; go_simp; with_reducible rfl
    rotate_left
    ·simp only [Act.put, xA, xZ, xS, i64_w, i32_w]; rfl
    refine pure_ (i := 8) (N := some 43) (v := undef) (a' := ?_) #[true, true, true, true, true, true, true, true, true, false, false, false, false, false, false, false, false, false, false, false, false, false, false, false, false] rfl rfl (any_of HT_.out (by kernel_rfl)) (fun _ _ _ h => h) (Or.inr ⟨by rfl, rfl⟩) ?_ ?_
    rotate_left
    ·simp only [Act.put, xA, xZ, xS, i64_w, i32_w]; rfl
    refine pure_ (i := 9) (N := some 44) (v := undef) (a' := ?_) #[true, true, true, true, true, true, true, true, true, true, false, false, false, false, false, false, false, false, false, false, false, false, false, false, false] rfl rfl (any_of HT_.out (by kernel_rfl)) (fun _ _ _ h => h) (Or.inr ⟨by rfl, rfl⟩) ?_ ?_
    rotate_left
    ·simp only [Act.put, xA, xZ, xS, i64_w, i32_w]; rfl
    refine pure_ (i := 10) (N := some 45) (v := undef) (a' := ?_) #[true, true, true, true, true, true, true, true, true, true, true, false, false, false, false, false, false, false, false, false, false, false, false, false, false] rfl rfl (any_of HT_.out (by kernel_rfl)) (fun _ _ _ h => h) (Or.inr ⟨by rfl, rfl⟩) ?_ ?_
    rotate_left
    ·simp only [Act.put, xA, xZ, xS, i64_w, i32_w]; rfl
    refine pure_ (i := 11) (N := some 46) (v := ?_) (a' := ?_) #[true, true, true, true, true, true, true, true, true, true, true, true, false, false, false, false, false, false, false, false, false, false, false, false, false] rfl rfl (any_of HT_.out (by kernel_rfl)) (fun _ _ _ h => h) (Or.inl ⟨by rfl, ?_⟩) ?_ ?_
    rotate_left
    ·intro w'; go_simp; with_reducible rfl
    rotate_left
    ·simp only [Act.put, xA, xZ, xS, i64_w, i32_w]; rfl
    refine pure_ (i := 12) (N := some 47) (v := ?_) (a' := ?_) #[true, true, true, true, true, true, true, true, true, true, true, true, true, false, false, false, false, false, false, false, false, false, false, false, false] rfl rfl (any_of HT_.out (by kernel_rfl)) (fun _ _ _ h => h) (Or.inl ⟨by rfl, ?_⟩) ?_ ?_
    rotate_left
    ·intro w'; go_simp; with_reducible rfl
    rotate_left
    ·simp only [Act.put, xA, xZ, xS, i64_w, i32_w]; rfl
    refine pure_ (i := 13) (N := some 48) (v := undef) (a' := ?_) #[true, true, true, true, true, true, true, true, true, true, true, true, true, true, false, false, false, false, false, false, false, false, false, false, false] rfl rfl (any_of HT_.out (by kernel_rfl)) (fun _ _ _ h => h) (Or.inr ⟨by rfl, rfl⟩) ?_ ?_
    rotate_left
    ·simp only [Act.put, xA, xZ, xS, i64_w, i32_w]; rfl
    refine pure_ (i := 14) (N := some 49) (v := undef) (a' := ?_) #[true, true, true, true, true, true, true, true, true, true, true, true, true, true, true, false, false, false, false, false, false, false, false, false, false] rfl rfl (any_of HT_.out (by kernel_rfl)) (fun _ _ _ h => h) (Or.inr ⟨by rfl, rfl⟩) ?_ ?_
    rotate_left
    ·simp only [Act.put, xA, xZ, xS, i64_w, i32_w]; rfl
    refine pure_ (i := 15) (N := some 50) (v := undef) (a' := ?_) #[true, true, true, true, true, true, true, true, true, true, true, true, true, true, true, true, false, false, false, false, false, false, false, false, false] rfl rfl (any_of HT_.out (by kernel_rfl)) (fun _ _ _ h => h) (Or.inr ⟨by rfl, rfl⟩) ?_ ?_
    rotate_left
    ·simp only [Act.put, xA, xZ, xS, i64_w, i32_w]; rfl
    refine pure_ (i := 16) (N := some 51) (v := ?_) (a' := ?_) #[true, true, true, true, true, true, true, true, true, true, true, true, true, true, true, true, true, false, false, false, false, false, false, false, false] rfl rfl (any_of HT_.out (by kernel_rfl)) (fun _ _ _ h => h) (Or.inl ⟨by rfl, ?_⟩) ?_ ?_
    rotate_left
    ·intro w'; go_simp; with_reducible rfl
    rotate_left
    ·simp only [Act.put, xA, xZ, xS, i64_w, i32_w]; rfl
    refine pure_ (i := 17) (N := some 52) (v := ?_) (a' := ?_) #[true, true, true, true, true, true, true, true, true, true, true, true, true, true, true, true, true, true, false, false, false, false, false, false, false] rfl rfl (any_of HT_.out (by kernel_rfl)) (fun _ _ _ h => h) (Or.inl ⟨by rfl, ?_⟩) ?_ ?_
    rotate_left
    ·intro w'; go_simp; with_reducible rfl
    rotate_left
    ·simp only [Act.put, xA, xZ, xS, i64_w, i32_w]; rfl
    refine pure_ (i := 18) (N := some 53) (v := undef) (a' := ?_) #[true, true, true, true, true, true, true, true, true, true, true, true, true, true, true, true, true, true, true, false, false, false, false, false, false] rfl rfl (any_of HT_.out (by kernel_rfl)) (fun _ _ _ h => h) (Or.inr ⟨by rfl, rfl⟩) ?_ ?_
    rotate_left
    ·simp only [Act.put, xA, xZ, xS, i64_w, i32_w]; rfl
    refine pure_ (i := 19) (N := some 54) (v := undef) (a' := ?_) #[true, true, true, true, true, true, true, true, true, true, true, true, true, true, true, true, true, true, true, true, false, false, false, false, false] rfl rfl (any_of HT_.out (by kernel_rfl)) (fun _ _ _ h => h) (Or.inr ⟨by rfl, rfl⟩) ?_ ?_
    rotate_left
    ·simp only [Act.put, xA, xZ, xS, i64_w, i32_w]; rfl
    refine pure_ (i := 20) (N := some 55) (v := undef) (a' := ?_) #[true, true, true, true, true, true, true, true, true, true, true, true, true, true, true, true, true, true, true, true, true, false, false, false, false] rfl rfl (any_of HT_.out (by kernel_rfl)) (fun _ _ _ h => h) (Or.inr ⟨by rfl, rfl⟩) ?_ ?_
    rotate_left
    ·simp only [Act.put, xA, xZ, xS, i64_w, i32_w]; rfl
    refine pure_ (i := 21) (N := some 56) (v := undef) (a' := ?_) #[true, true, true, true, true, true, true, true, true, true, true, true, true, true, true, true, true, true, true, true, true, true, false, false, false] rfl rfl (any_of HT_.out (by kernel_rfl)) (fun _ _ _ h => h) (Or.inr ⟨by rfl, rfl⟩) ?_ ?_
    rotate_left
    ·simp only [Act.put, xA, xZ, xS, i64_w, i32_w]; rfl
    refine pure_ (i := 22) (N := some 57) (v := undef) (a' := ?_) #[true, true, true, true, true, true, true, true, true, true, true, true, true, true, true, true, true, true, true, true, true, true, true, false, false] rfl rfl (any_of HT_.out (by kernel_rfl)) (fun _ _ _ h => h) (Or.inr ⟨by rfl, rfl⟩) ?_ ?_
    rotate_left
    ·simp only [Act.put, xA, xZ, xS, i64_w, i32_w]; rfl
    refine pure_ (i := 23) (N := some 58) (v := ?_) (a' := ?_) #[true, true, true, true, true, true, true, true, true, true, true, true, true, true, true, true, true, true, true, true, true, true, true, true, false] rfl rfl (any_of HT_.out (by kernel_rfl)) (fun _ _ _ h => h) (Or.inl ⟨by rfl, ?_⟩) ?_ ?_
    rotate_left
    ·intro w'; go_simp; with_reducible rfl
    rotate_left
    ·simp only [Act.put, xA, xZ, xS, i64_w, i32_w]; rfl
    refine pure_ (i := 24) (N := some 4) (v := ?_) (a' := ?_) #[true, true, true, true, true, true, true, true, true, true, true, true, true, true, true, true, true, true, true, true, true, true, true, true, true] rfl rfl (any_of HT_.out (by kernel_rfl)) (fun _ _ _ h => h) (Or.inl ⟨by rfl, ?_⟩) ?_ ?_
    rotate_left
    ·intro w'; go_simp; with_reducible rfl
    rotate_left
    ·simp only [Act.put, xA, xZ, xS, i64_w, i32_w]; rfl
    refine done_ (done_of HT_.out (by kernel_rfl)) ?_
    try go_wp2
    go_meet
    case rel => exact ⟨_, (false), (by first | rfl | (simp; done) | (simp [*]; done)), H', ⟨by first | omega | exact Nat.le_refl _⟩, ⟨by (with_reducible repeat first | refine qN ?_ _ | refine qD ?_ | refine qA ?_ _); exact B283.out⟩, ⟨by (with_reducible repeat first | refine qN ?_ _ | refine qD ?_ | refine qA ?_ _); exact B284.out⟩, ⟨by repeat (first | (with_reducible first | exact HB.out | apply eA | apply eN | apply eD | refine eS ?_ GE283.out | refine eS ?_ GE284.out) | exact HB.out)⟩⟩
  ·replace c33 := Bool.eq_false_iff.mpr c33
   subst c33
   have H1 : (hogsheadlaw10_ShelfTells.j0 k false) = some r := by rw [if_neg (show ¬ (false = true) by decide)] at H; exact H
   clear H
   have H := H1
   clear H1
   have H' := qM H
   clear H
   try go_wp2
   have n0_ := qM (Kd.R_drew HO288.out)
   have n1_ := qM (Kd.R_drew HO291.out)
   have n2_ := qM (Kd.R_drew HO295.out)
   have n3_ := qM (Kd.R_drew HO298.out)
   have n4_ := qM (blk_drew B283.out)
   have n5_ := qM (blk_drew B284.out)
   have n6_ := qM (below_drew1 HB.out)
   clear HO288
   clear HO291
   clear HO295
   clear HO298
   clear B283
   clear B284
   clear HB
   have HO288 := n0_
   have HO291 := n1_
   have HO295 := n2_
   have HO298 := n3_
   have B283 := n4_
   have B284 := n5_
   have HB := n6_
   clear n0_ n1_ n2_ n3_ n4_ n5_ n6_
   refine start_ (n := 25) (S := fun w' => True) (ds := []) #[false, false, false, false, false, false, false, false, false, false, false, false, false, false, false, false, false, false, false, false, false, false, false, false, false] (by kernel_rfl) rfl rfl trivial (fun hHeld => ?_); refine with_tabW hogsheadlaw10_ShelfTells.tab6 hogsheadlaw10_ShelfTells.bits6 (fun HT_ HW_ => ?_)
   generalize w32.drew = w47 at HO288 HO291 HO295 HO298 B283 B284 HB hHeld ⊢
   refine pure_ (i := 0) (N := some 35) (v := ?_) (a' := ?_) #[true, false, false, false, false, false, false, false, false, false, false, false, false, false, false, false, false, false, false, false, false, false, false, false, false] rfl rfl (any_of HT_.out (by kernel_rfl)) (fun _ _ _ h => h) (Or.inl ⟨by rfl, ?_⟩) ?_ ?_
   rotate_left
   ·intro w'; go_simp; with_reducible rfl
   rotate_left
   ·simp only [Act.put, xA, xZ, xS, i64_w, i32_w]; rfl
   refine pure_ (i := 1) (N := some 36) (v := ?_) (a' := ?_) #[true, true, false, false, false, false, false, false, false, false, false, false, false, false, false, false, false, false, false, false, false, false, false, false, false] rfl rfl (any_of HT_.out (by kernel_rfl)) (fun _ _ _ h => h) (Or.inl ⟨by rfl, ?_⟩) ?_ ?_
   rotate_left
   ·intro w'; go_simp; with_reducible rfl
   rotate_left
   ·simp only [Act.put, xA, xZ, xS, i64_w, i32_w]; rfl
   refine pure_ (i := 2) (N := some 37) (v := undef) (a' := ?_) #[true, true, true, false, false, false, false, false, false, false, false, false, false, false, false, false, false, false, false, false, false, false, false, false, false] rfl rfl (any_of HT_.out (by kernel_rfl)) (fun _ _ _ h => h) (Or.inr ⟨by rfl, rfl⟩) ?_ ?_
   rotate_left
   ·simp only [Act.put, xA, xZ, xS, i64_w, i32_w]; rfl
   refine pure_ (i := 3) (N := some 38) (v := ?_) (a' := ?_) #[true, true, true, true, false, false, false, false, false, false, false, false, false, false, false, false, false, false, false, false, false, false, false, false, false] rfl rfl (any_of HT_.out (by kernel_rfl)) (fun _ _ _ h => h) (Or.inl ⟨by rfl, ?_⟩) ?_ ?_
   rotate_left
   ·intro w'; go_simp; with_reducible rfl
   rotate_left
   ·simp only [Act.put, xA, xZ, xS, i64_w, i32_w]; rfl
   refine pure_ (i := 4) (N := some 39) (v := ?_) (a' := ?_) #[true, true, true, true, true, false, false, false, false, false, false, false, false, false, false, false, false, false, false, false, false, false, false, false, false] rfl rfl (any_of HT_.out (by kernel_rfl)) (fun _ _ _ h => h) (Or.inl ⟨by rfl, ?_⟩) ?_ ?_
   rotate_left
   ·intro w'; go_simp; with_reducible rfl
   rotate_left
   ·simp only [Act.put, xA, xZ, xS, i64_w, i32_w]; rfl
   refine pure_ (i := 5) (N := some 40) (v := undef) (a' := ?_) #[true, true, true, true, true, true, false, false, false, false, false, false, false, false, false, false, false, false, false, false, false, false, false, false, false] rfl rfl (any_of HT_.out (by kernel_rfl)) (fun _ _ _ h => h) (Or.inr ⟨by rfl, rfl⟩) ?_ ?_
   rotate_left
   ·simp only [Act.put, xA, xZ, xS, i64_w, i32_w]; rfl
   refine pure_ (i := 6) (N := some 41) (v := ?_) (a' := ?_) #[true, true, true, true, true, true, true, false, false, false, false, false, false, false, false, false, false, false, false, false, false, false, false, false, false] rfl rfl (any_of HT_.out (by kernel_rfl)) (fun _ _ _ h => h) (Or.inl ⟨by rfl, ?_⟩) ?_ ?_
   rotate_left
   ·intro w'; go_simp; with_reducible rfl
   rotate_left
   ·simp only [Act.put, xA, xZ, xS, i64_w, i32_w]; rfl
   refine pure_ (i := 7) (N := some 42) (v := ?_) (a' := ?_) #[true, true, true, true, true, true, true, true, false, false, false, false, false, false, false, false, false, false, false, false, false, false, false, false, false] rfl rfl (any_of HT_.out (by kernel_rfl)) (fun _ _ _ h => h) (Or.inl ⟨by rfl, ?_⟩) ?_ ?_
   rotate_left
   ·intro w'; go_simp; with_reducible rfl
   rotate_left
   ·simp only [Act.put, xA, xZ, xS, i64_w, i32_w]; rfl
   refine pure_ (i := 8) (N := some 43) (v := undef) (a' := ?_) #[true, true, true, true, true, true, true, true, true, false, false, false, false, false, false, false, false, false, false, false, false, false, false, false, false] rfl rfl (any_of HT_.out (by kernel_rfl)) (fun _ _ _ h => h) (Or.inr ⟨by rfl, rfl⟩) ?_ ?_
   rotate_left
   ·simp only [Act.put, xA, xZ, xS, i64_w, i32_w]; rfl
   refine pure_ (i := 9) (N := some 44) (v := undef) (a' := ?_) #[true, true, true, true, true, true, true, true, true, true, false, false, false, false, false, false, false, false, false, false, false, false, false, false, false] rfl rfl (any_of HT_.out (by kernel_rfl)) (fun _ _ _ h => h) (Or.inr ⟨by rfl, rfl⟩) ?_ ?_
   rotate_left
   ·simp only [Act.put, xA, xZ, xS, i64_w, i32_w]; rfl
   refine pure_ (i := 10) (N := some 45) (v := undef) (a' := ?_) #[true, true, true, true, true, true, true, true, true, true, true, false, false, false, false, false, false, false, false, false, false, false, false, false, false] rfl rfl (any_of HT_.out (by kernel_rfl)) (fun _ _ _ h => h) (Or.inr ⟨by rfl, rfl⟩) ?_ ?_
   rotate_left
   ·simp only [Act.put, xA, xZ, xS, i64_w, i32_w]; rfl
   refine pure_ (i := 11) (N := some 46) (v := ?_) (a' := ?_) #[true, true, true, true, true, true, true, true, true, true, true, true, false, false, false, false, false, false, false, false, false, false, false, false, false] rfl rfl (any_of HT_.out (by kernel_rfl)) (fun _ _ _ h => h) (Or.inl ⟨by rfl, ?_⟩) ?_ ?_
   rotate_left
   ·intro w'; go_simp; with_reducible rfl
   rotate_left
   ·simp only [Act.put, xA, xZ, xS, i64_w, i32_w]; rfl
   refine pure_ (i := 12) (N := some 47) (v := ?_) (a' := ?_) #[true, true, true, true, true, true, true, true, true, true, true, true, true, false, false, false, false, false, false, false, false, false, false, false, false] rfl rfl (any_of HT_.out (by kernel_rfl)) (fun _ _ _ h => h) (Or.inl ⟨by rfl, ?_⟩) ?_ ?_
   rotate_left
   ·intro w'; go_simp; with_reducible rfl
   rotate_left
   ·simp only [Act.put, xA, xZ, xS, i64_w, i32_w]; rfl
   refine pure_ (i := 13) (N := some 48) (v := undef) (a' := ?_) #[true, true, true, true, true, true, true, true, true, true, true, true, true, true, false, false, false, false, false, false, false, false, false, false, false] rfl rfl (any_of HT_.out (by kernel_rfl)) (fun _ _ _ h => h) (Or.inr ⟨by rfl, rfl⟩) ?_ ?_
   rotate_left
   ·simp only [Act.put, xA, xZ, xS, i64_w, i32_w]; rfl
   refine pure_ (i := 14) (N := some 49) (v := undef) (a' := ?_) #[true, true, true, true, true, true, true, true, true, true, true, true, true, true, true, false, false, false, false, false, false, false, false, false, false] rfl rfl (any_of HT_.out (by kernel_rfl)) (fun _ _ _ h => h) (Or.inr ⟨by rfl, rfl⟩) ?_ ?_
   rotate_left
   ·simp only [Act.put, xA, xZ, xS, i64_w, i32_w]; rfl
   refine pure_ (i := 15) (N := some 50) (v := undef) (a' := ?_) #[true, true, true, true, true, true, true, true, true, true, true, true, true, true, true, true, false, false, false, false, false, false, false, false, false] rfl rfl (any_of HT_.out (by kernel_rfl)) (fun _ _ _ h => h) (Or.inr ⟨by rfl, rfl⟩) ?_ ?_
   rotate_left
   ·simp only [Act.put, xA, xZ, xS, i64_w, i32_w]; rfl
   refine pure_ (i := 16) (N := some 51) (v := ?_) (a' := ?_) #[true, true, true, true, true, true, true, true, true, true, true, true, true, true, true, true, true, false, false, false, false, false, false, false, false] rfl rfl (any_of HT_.out (by kernel_rfl)) (fun _ _ _ h => h) (Or.inl ⟨by rfl, ?_⟩) ?_ ?_
   rotate_left
   ·intro w'; go_simp; with_reducible rfl
   rotate_left
   ·simp only [Act.put, xA, xZ, xS, i64_w, i32_w]; rfl
   refine pure_ (i := 17) (N := some 52) (v := ?_) (a' := ?_) #[true, true, true, true, true, true, true, true, true, true, true, true, true, true, true, true, true, true, false, false, false, false, false, false, false] rfl rfl (any_of HT_.out (by kernel_rfl)) (fun _ _ _ h => h) (Or.inl ⟨by rfl, ?_⟩) ?_ ?_
   rotate_left
   ·intro w'; go_simp; with_reducible rfl
   rotate_left
   ·simp only [Act.put, xA, xZ, xS, i64_w, i32_w]; rfl
   refine pure_ (i := 18) (N := some 53) (v := undef) (a' := ?_) #[true, true, true, true, true, true, true, true, true, true, true, true, true, true, true, true, true, true, true, false, false, false, false, false, false] rfl rfl (any_of HT_.out (by kernel_rfl)) (fun _ _ _ h => h) (Or.inr ⟨by rfl, rfl⟩) ?_ ?_
   rotate_left
   ·simp only [Act.put, xA, xZ, xS, i64_w, i32_w]; rfl
   refine pure_ (i := 19) (N := some 54) (v := undef) (a' := ?_) #[true, true, true, true, true, true, true, true, true, true, true, true, true, true, true, true, true, true, true, true, false, false, false, false, false] rfl rfl (any_of HT_.out (by kernel_rfl)) (fun _ _ _ h => h) (Or.inr ⟨by rfl, rfl⟩) ?_ ?_
   rotate_left
   ·simp only [Act.put, xA, xZ, xS, i64_w, i32_w]; rfl
   refine pure_ (i := 20) (N := some 55) (v := undef) (a' := ?_) #[true, true, true, true, true, true, true, true, true, true, true, true, true, true, true, true, true, true, true, true, true, false, false, false, false] rfl rfl (any_of HT_.out (by kernel_rfl)) (fun _ _ _ h => h) (Or.inr ⟨by rfl, rfl⟩) ?_ ?_
   rotate_left
   ·simp only [Act.put, xA, xZ, xS, i64_w, i32_w]; rfl
   refine pure_ (i := 21) (N := some 56) (v := undef) (a' := ?_) #[true, true, true, true, true, true, true, true, true, true, true, true, true, true, true, true, true, true, true, true, true, true, false, false, false] rfl rfl (any_of HT_.out (by kernel_rfl)) (fun _ _ _ h => h) (Or.inr ⟨by rfl, rfl⟩) ?_ ?_
   rotate_left
   ·simp only [Act.put, xA, xZ, xS, i64_w, i32_w]; rfl
   refine pure_ (i := 22) (N := some 57) (v := undef) (a' := ?_) #[true, true, true, true, true, true, true, true, true, true, true, true, true, true, true, true, true, true, true, true, true, true, true, false, false] rfl rfl (any_of HT_.out (by kernel_rfl)) (fun _ _ _ h => h) (Or.inr ⟨by rfl, rfl⟩) ?_ ?_
   rotate_left
   ·simp only [Act.put, xA, xZ, xS, i64_w, i32_w]; rfl
   refine pure_ (i := 23) (N := some 58) (v := ?_) (a' := ?_) #[true, true, true, true, true, true, true, true, true, true, true, true, true, true, true, true, true, true, true, true, true, true, true, true, false] rfl rfl (any_of HT_.out (by kernel_rfl)) (fun _ _ _ h => h) (Or.inl ⟨by rfl, ?_⟩) ?_ ?_
   rotate_left
   ·intro w'; go_simp; with_reducible rfl
   rotate_left
   ·simp only [Act.put, xA, xZ, xS, i64_w, i32_w]; rfl
   refine pure_ (i := 24) (N := some 4) (v := ?_) (a' := ?_) #[true, true, true, true, true, true, true, true, true, true, true, true, true, true, true, true, true, true, true, true, true, true, true, true, true] rfl rfl (any_of HT_.out (by kernel_rfl)) (fun _ _ _ h => h) (Or.inl ⟨by rfl, ?_⟩) ?_ ?_
   rotate_left
   ·intro w'; go_simp; with_reducible rfl
   rotate_left
   ·simp only [Act.put, xA, xZ, xS, i64_w, i32_w]; rfl
   refine done_ (done_of HT_.out (by kernel_rfl)) ?_
   try go_wp2
   go_meet
   case rel => exact ⟨_, (false), (by first | rfl | (simp; done) | (simp [*]; done)), H', ⟨by first | omega | exact Nat.le_refl _⟩, ⟨by (with_reducible repeat first | refine qN ?_ _ | refine qD ?_ | refine qA ?_ _); exact B283.out⟩, ⟨by (with_reducible repeat first | refine qN ?_ _ | refine qD ?_ | refine qA ?_ _); exact B284.out⟩, ⟨by repeat (first | (with_reducible first | exact HB.out | apply eA | apply eN | apply eD | refine eS ?_ GE283.out | refine eS ?_ GE284.out) | exact HB.out)⟩⟩
 case rest =>
  clear HC12
  try clear p2
  try clear c3
  try clear c33
  try clear c34
  try clear c35
  obtain ⟨kq, x4_11, rfl, HA, HJ11, B283, B284, HB⟩ := hcut
  cases kq with
  | zero => exact absurd HA.out (by simp [hogsheadlaw10_ShelfTells.j0])
  | succ kj11 =>
   have H := HA.out
   clear HA
   simp only [hogsheadlaw10_ShelfTells.j0] at H
   obtain rfl := Option.some.inj H
   go_wp2
   go_ret
   exact ⟨by first | rfl | (simp [errW_none, errW_some] <;> rfl) | (simp [*, errW_none, errW_some] <;> rfl), by repeat (first | (with_reducible first | exact HB.out | apply eA | apply eN | apply eD | refine eS ?_ GE283.out | refine eS ?_ GE284.out) | exact HB.out)⟩

end Go.Proofs.Ytffjbbedjddpmaa.PAll
