/- Functions of the program as plain Lean functions, and that each call comes to what they say. Laid by a program of this session (hprint.py); Lean checks it. -/
import Derived.Test.YtffjbbedjddpmaaPAllx0
import Derived.Test.YtffjbbedjddpmaaPAllx1
import Derived.Test.YtffjbbedjddpmaaPAllx12
import Derived.Test.YtffjbbedjddpmaaPAllx13
import Derived.Test.YtffjbbedjddpmaaPAllx17
import Derived.Test.YtffjbbedjddpmaaPAllx19
import Derived.Test.YtffjbbedjddpmaaPAllx32
import Derived.Test.YtffjbbedjddpmaaPAllx34
namespace Go.Proofs.Ytffjbbedjddpmaa.PAll
open Go.RowKit Go.Proofs.YtffjbbedjddpmaaW.PrintWords Go.Proofs.YtffjbbedjddpmaaW.PrintLast Go.Proofs.YtffjbbedjddpmaaW.PrintMore
attribute [local go_sem] max2_int min2_int max_two min_two max_three min_three max_four min_four   -- for this text's walks alone
set_option linter.unusedVariables false
set_option linter.unusedSimpArgs false
attribute [local irreducible] World.setCell

attribute [local go_sem high] eqA27
/-! ### hogsheadlaw10_ShelfRoom: function 4 -/
mutual
def hogsheadlaw10_ShelfRoom.j0 : Nat → Bool → Bool → List ByteArray → List (S94) → Int → Bool → List ByteArray → List (S94) → Int → Bool → Option (Bool)
 | 0, _, _, _, _, _, _, _, _, _, _ => none
 | k + 1, x5, x36, x551000, x551001, x551002, x551003, x565000, x565001, x565002, x565003 => if x36 = true then (some x5) else ((shelf_List.f k x551000 x551001 x551002 x551003).bind fun t565 => ((shelf_List.f k x565000 x565001 x565002 x565003).bind fun t568 => (if (t568.length : Int) = (wrap64 ((t565.length : Int) + 1)) then ((shelf_Free.f k x565000 x565001 x565002 x565003).bind fun t571 => ((shelf_Bad.f k x565000 x565001 x565002 x565003).bind fun t572 => ((shelf_Free.f k x551000 x551001 x551002 x551003).bind fun t575 => ((shelf_Bad.f k x551000 x551001 x551002 x551003).bind fun t576 => (hogsheadlaw10_ShelfRoom.j1 k x5 t565 t568 ((wrap64 (t571 + (t572.length : Int))) != (wrap64 ((wrap64 (t575 + (t576.length : Int))) - 1)))))))) else (hogsheadlaw10_ShelfRoom.j1 k x5 t565 t568 true))))
def hogsheadlaw10_ShelfRoom.j1 : Nat → Bool → List (S27) → List (S27) → Bool → Option (Bool)
 | 0, _, _, _, _ => none
 | k + 1, x5, x10, x11, x63 => if x63 = true then (some false) else (hogsheadlaw10_ShelfRoom.l0 k x5 x10 x11 0 0)
def hogsheadlaw10_ShelfRoom.l0 : Nat → Bool → List (S27) → List (S27) → Int → Int → Option (Bool)
 | 0, _, _, _, _, _ => none
 | k + 1, x5, x10, x11, x12, x13 => if x13 < (x11.length : Int) then (if x12 < (x10.length : Int) then (if 0 ≤ x13 then (if 0 ≤ x12 then (hogsheadlaw10_ShelfRoom.j3 k x5 x10 x11 x12 x13 (((rd_T27 x11 x13).f0) == ((rd_T27 x10 x12).f0) && (((rd_T27 x11 x13).f1) == ((rd_T27 x10 x12).f1)))) else (none)) else (none)) else (hogsheadlaw10_ShelfRoom.j3 k x5 x10 x11 x12 x13 false)) else (if x5 = true then (some (x12 == (x10.length : Int))) else (some false))
def hogsheadlaw10_ShelfRoom.j3 : Nat → Bool → List (S27) → List (S27) → Int → Int → Bool → Option (Bool)
 | 0, _, _, _, _, _, _ => none
 | k + 1, x5, x10, x11, x12, x13, x84 => if x84 = true then (hogsheadlaw10_ShelfRoom.l0 k x5 x10 x11 (wrap64 (x12 + 1)) (wrap64 (x13 + 1))) else (hogsheadlaw10_ShelfRoom.l0 k x5 x10 x11 x12 (wrap64 (x13 + 1)))
end
def hogsheadlaw10_ShelfRoom.f (k : Nat) (l0_0 : List ByteArray) (l0_1 : List (S94)) (a0_2 : Int) (a0_3 : Bool) (a1_0 : Int) (a1_1 : Int) (a1_2 : ByteArray) : Option (Bool) := (hogsheadlaw10_shown.f k).bind fun t552 => ((shelf_Find.f k l0_0 l0_1 a0_2 a0_3 a1_0 a1_1).bind fun bt553 => ((shelf_Put.f k l0_0 l0_1 a0_2 a0_3 a1_0 a1_1 a1_2).bind fun bt555 => (if bt555.2.2.2.2 = 0 then (hogsheadlaw10_ShelfRoom.j0 k t552 (bt553.2 == 0) l0_0 l0_1 a0_2 a0_3 bt555.1 bt555.2.1 bt555.2.2.1 bt555.2.2.2.1) else (hogsheadlaw10_ShelfRoom.j0 k t552 true l0_0 l0_1 a0_2 a0_3 bt555.1 bt555.2.1 bt555.2.2.1 bt555.2.2.2.1))))
theorem hogsheadlaw10_ShelfRoom.mono_l : ∀ k, (∀ y0 y1 y2 y3 y4 y5 y6 y7 y8 y9, LeO (hogsheadlaw10_ShelfRoom.j0 k y0 y1 y2 y3 y4 y5 y6 y7 y8 y9) (hogsheadlaw10_ShelfRoom.j0 (k + 1) y0 y1 y2 y3 y4 y5 y6 y7 y8 y9)) ∧ (∀ y0 y1 y2 y3, LeO (hogsheadlaw10_ShelfRoom.j1 k y0 y1 y2 y3) (hogsheadlaw10_ShelfRoom.j1 (k + 1) y0 y1 y2 y3)) ∧ (∀ y0 y1 y2 y3 y4, LeO (hogsheadlaw10_ShelfRoom.l0 k y0 y1 y2 y3 y4) (hogsheadlaw10_ShelfRoom.l0 (k + 1) y0 y1 y2 y3 y4)) ∧ (∀ y0 y1 y2 y3 y4 y5, LeO (hogsheadlaw10_ShelfRoom.j3 k y0 y1 y2 y3 y4 y5) (hogsheadlaw10_ShelfRoom.j3 (k + 1) y0 y1 y2 y3 y4 y5))
 | 0 => ⟨fun _ _ _ _ _ _ _ _ _ _ r h => by simp [hogsheadlaw10_ShelfRoom.j0] at h, fun _ _ _ _ r h => by simp [hogsheadlaw10_ShelfRoom.j1] at h, fun _ _ _ _ _ r h => by simp [hogsheadlaw10_ShelfRoom.l0] at h, fun _ _ _ _ _ _ r h => by simp [hogsheadlaw10_ShelfRoom.j3] at h⟩
 | k + 1 => by
  obtain ⟨ih0, ih1, ih2, ih3⟩ := hogsheadlaw10_ShelfRoom.mono_l k
  refine ⟨?_, ?_, ?_, ?_⟩
  ·intro y0 y1 y2 y3 y4 y5 y6 y7 y8 y9
   unfold hogsheadlaw10_ShelfRoom.j0
   repeat' first
   | (with_reducible exact ih0 _ _ _ _ _ _ _ _ _ _)
   | (with_reducible exact ih1 _ _ _ _)
   | (with_reducible exact ih2 _ _ _ _ _)
   | (with_reducible exact ih3 _ _ _ _ _ _)
   | (with_reducible exact hogsheadlaw10_shown.mono _)
   | (with_reducible exact shelf_Bad.mono _ _ _ _ _)
   | (with_reducible exact shelf_Find.mono _ _ _ _ _ _ _)
   | (with_reducible exact shelf_Free.mono _ _ _ _ _)
   | (with_reducible exact shelf_List.mono _ _ _ _ _)
   | (with_reducible exact shelf_Put.mono _ _ _ _ _ _ _ _)
   | (with_reducible exact LeO.refl _)
   | (with_reducible exact LeO.none _)
   | (with_reducible refine LeO.ite ?_ ?_)
   | (with_reducible refine LeO.bind ?_ (fun _ => ?_))
   | exact ih0 _ _ _ _ _ _ _ _ _ _
   | exact ih1 _ _ _ _
   | exact ih2 _ _ _ _ _
   | exact ih3 _ _ _ _ _ _
   | exact hogsheadlaw10_shown.mono _
   | exact shelf_Bad.mono _ _ _ _ _
   | exact shelf_Find.mono _ _ _ _ _ _ _
   | exact shelf_Free.mono _ _ _ _ _
   | exact shelf_List.mono _ _ _ _ _
   | exact shelf_Put.mono _ _ _ _ _ _ _ _
   | exact LeO.none _
   | refine LeO.ite ?_ ?_
   | refine LeO.bind ?_ (fun _ => ?_)
  ·intro y0 y1 y2 y3
   unfold hogsheadlaw10_ShelfRoom.j1
   repeat' first
   | (with_reducible exact ih0 _ _ _ _ _ _ _ _ _ _)
   | (with_reducible exact ih1 _ _ _ _)
   | (with_reducible exact ih2 _ _ _ _ _)
   | (with_reducible exact ih3 _ _ _ _ _ _)
   | (with_reducible exact hogsheadlaw10_shown.mono _)
   | (with_reducible exact shelf_Bad.mono _ _ _ _ _)
   | (with_reducible exact shelf_Find.mono _ _ _ _ _ _ _)
   | (with_reducible exact shelf_Free.mono _ _ _ _ _)
   | (with_reducible exact shelf_List.mono _ _ _ _ _)
   | (with_reducible exact shelf_Put.mono _ _ _ _ _ _ _ _)
   | (with_reducible exact LeO.refl _)
   | (with_reducible exact LeO.none _)
   | (with_reducible refine LeO.ite ?_ ?_)
   | (with_reducible refine LeO.bind ?_ (fun _ => ?_))
   | exact ih0 _ _ _ _ _ _ _ _ _ _
   | exact ih1 _ _ _ _
   | exact ih2 _ _ _ _ _
   | exact ih3 _ _ _ _ _ _
   | exact hogsheadlaw10_shown.mono _
   | exact shelf_Bad.mono _ _ _ _ _
   | exact shelf_Find.mono _ _ _ _ _ _ _
   | exact shelf_Free.mono _ _ _ _ _
   | exact shelf_List.mono _ _ _ _ _
   | exact shelf_Put.mono _ _ _ _ _ _ _ _
   | exact LeO.none _
   | refine LeO.ite ?_ ?_
   | refine LeO.bind ?_ (fun _ => ?_)
  ·intro y0 y1 y2 y3 y4
   unfold hogsheadlaw10_ShelfRoom.l0
   repeat' first
   | (with_reducible exact ih0 _ _ _ _ _ _ _ _ _ _)
   | (with_reducible exact ih1 _ _ _ _)
   | (with_reducible exact ih2 _ _ _ _ _)
   | (with_reducible exact ih3 _ _ _ _ _ _)
   | (with_reducible exact hogsheadlaw10_shown.mono _)
   | (with_reducible exact shelf_Bad.mono _ _ _ _ _)
   | (with_reducible exact shelf_Find.mono _ _ _ _ _ _ _)
   | (with_reducible exact shelf_Free.mono _ _ _ _ _)
   | (with_reducible exact shelf_List.mono _ _ _ _ _)
   | (with_reducible exact shelf_Put.mono _ _ _ _ _ _ _ _)
   | (with_reducible exact LeO.refl _)
   | (with_reducible exact LeO.none _)
   | (with_reducible refine LeO.ite ?_ ?_)
   | (with_reducible refine LeO.bind ?_ (fun _ => ?_))
   | exact ih0 _ _ _ _ _ _ _ _ _ _
   | exact ih1 _ _ _ _
   | exact ih2 _ _ _ _ _
   | exact ih3 _ _ _ _ _ _
   | exact hogsheadlaw10_shown.mono _
   | exact shelf_Bad.mono _ _ _ _ _
   | exact shelf_Find.mono _ _ _ _ _ _ _
   | exact shelf_Free.mono _ _ _ _ _
   | exact shelf_List.mono _ _ _ _ _
   | exact shelf_Put.mono _ _ _ _ _ _ _ _
   | exact LeO.none _
   | refine LeO.ite ?_ ?_
   | refine LeO.bind ?_ (fun _ => ?_)
  ·intro y0 y1 y2 y3 y4 y5
   unfold hogsheadlaw10_ShelfRoom.j3
   repeat' first
   | (with_reducible exact ih0 _ _ _ _ _ _ _ _ _ _)
   | (with_reducible exact ih1 _ _ _ _)
   | (with_reducible exact ih2 _ _ _ _ _)
   | (with_reducible exact ih3 _ _ _ _ _ _)
   | (with_reducible exact hogsheadlaw10_shown.mono _)
   | (with_reducible exact shelf_Bad.mono _ _ _ _ _)
   | (with_reducible exact shelf_Find.mono _ _ _ _ _ _ _)
   | (with_reducible exact shelf_Free.mono _ _ _ _ _)
   | (with_reducible exact shelf_List.mono _ _ _ _ _)
   | (with_reducible exact shelf_Put.mono _ _ _ _ _ _ _ _)
   | (with_reducible exact LeO.refl _)
   | (with_reducible exact LeO.none _)
   | (with_reducible refine LeO.ite ?_ ?_)
   | (with_reducible refine LeO.bind ?_ (fun _ => ?_))
   | exact ih0 _ _ _ _ _ _ _ _ _ _
   | exact ih1 _ _ _ _
   | exact ih2 _ _ _ _ _
   | exact ih3 _ _ _ _ _ _
   | exact hogsheadlaw10_shown.mono _
   | exact shelf_Bad.mono _ _ _ _ _
   | exact shelf_Find.mono _ _ _ _ _ _ _
   | exact shelf_Free.mono _ _ _ _ _
   | exact shelf_List.mono _ _ _ _ _
   | exact shelf_Put.mono _ _ _ _ _ _ _ _
   | exact LeO.none _
   | refine LeO.ite ?_ ?_
   | refine LeO.bind ?_ (fun _ => ?_)
theorem hogsheadlaw10_ShelfRoom.mono : ∀ a0 a1 a2 a3 a4 a5 a6 k, LeO (hogsheadlaw10_ShelfRoom.f k a0 a1 a2 a3 a4 a5 a6) (hogsheadlaw10_ShelfRoom.f (k + 1) a0 a1 a2 a3 a4 a5 a6) := by
 intro a0 a1 a2 a3 a4 a5 a6 k
 obtain ⟨ih0, ih1, ih2, ih3⟩ := hogsheadlaw10_ShelfRoom.mono_l k
 unfold hogsheadlaw10_ShelfRoom.f
 repeat' first
   | (with_reducible exact ih0 _ _ _ _ _ _ _ _ _ _)
   | (with_reducible exact ih1 _ _ _ _)
   | (with_reducible exact ih2 _ _ _ _ _)
   | (with_reducible exact ih3 _ _ _ _ _ _)
   | (with_reducible exact hogsheadlaw10_shown.mono _)
   | (with_reducible exact shelf_Bad.mono _ _ _ _ _)
   | (with_reducible exact shelf_Find.mono _ _ _ _ _ _ _)
   | (with_reducible exact shelf_Free.mono _ _ _ _ _)
   | (with_reducible exact shelf_List.mono _ _ _ _ _)
   | (with_reducible exact shelf_Put.mono _ _ _ _ _ _ _ _)
   | (with_reducible exact LeO.refl _)
   | (with_reducible exact LeO.none _)
   | (with_reducible refine LeO.ite ?_ ?_)
   | (with_reducible refine LeO.bind ?_ (fun _ => ?_))
   | exact ih0 _ _ _ _ _ _ _ _ _ _
   | exact ih1 _ _ _ _
   | exact ih2 _ _ _ _ _
   | exact ih3 _ _ _ _ _ _
   | exact hogsheadlaw10_shown.mono _
   | exact shelf_Bad.mono _ _ _ _ _
   | exact shelf_Find.mono _ _ _ _ _ _ _
   | exact shelf_Free.mono _ _ _ _ _
   | exact shelf_List.mono _ _ _ _ _
   | exact shelf_Put.mono _ _ _ _ _ _ _ _
   | exact LeO.none _
   | refine LeO.ite ?_ ?_
   | refine LeO.bind ?_ (fun _ => ?_)
def hogsheadlaw10_ShelfRoom.T8 : Bool × List (List Nat × List Nat) := (true, [([], []), ([0], [0]), ([], []), ([2], [2]), ([3], [3]), ([1, 4], [1, 4]), ([5], [5]), ([6], [6]), ([7, 6, 6], [6, 7]), ([6], [6]), ([9, 8, 6], [6, 9]), ([10, 6], [6, 10]), ([8, 11, 6], [6, 8, 11]), ([6], [6]), ([13, 10, 6], [6, 13]), ([6], [6]), ([15, 14, 6], [6, 15]), ([16, 6], [6, 16]), ([14, 17, 6], [6, 14, 17]), ([18, 6], [6, 18]), ([12, 19, 6], [6, 12, 19]), ([6, 20], [6, 20])])
def hogsheadlaw10_ShelfRoom.B8 : List Nat := [0, 1, 0, 4, 12, 31, 63, 127, 255, 127, 1023, 2047, 4095, 127, 10239, 127, 59391, 124927, 255999, 518143, 1048575, 2097151]
theorem hogsheadlaw10_ShelfRoom.tab8 : rtab .any (opsOf Try.f4 8) = hogsheadlaw10_ShelfRoom.T8 := by kernel_rfl
theorem hogsheadlaw10_ShelfRoom.bits8 : waitsOk hogsheadlaw10_ShelfRoom.T8.2 hogsheadlaw10_ShelfRoom.B8 = true := by kernel_rfl
def hogsheadlaw10_ShelfRoom.T14 : Bool × List (List Nat × List Nat) := (true, [([], []), ([], []), ([1], [1]), ([0, 2], [0, 2]), ([3], [3]), ([4], [4]), ([4], [4]), ([5, 6, 4], [4, 5, 6]), ([7, 4], [4, 7]), ([4], [4]), ([4], [4]), ([9, 10, 4], [4, 9, 10]), ([11, 4], [4, 11]), ([8, 12, 4], [4, 8, 12]), ([4, 13], [4, 13])])
def hogsheadlaw10_ShelfRoom.B14 : List Nat := [0, 0, 2, 7, 15, 31, 31, 127, 255, 31, 31, 1567, 3615, 8191, 16383]
theorem hogsheadlaw10_ShelfRoom.tab14 : rtab .any (opsOf Try.f4 14) = hogsheadlaw10_ShelfRoom.T14 := by kernel_rfl
theorem hogsheadlaw10_ShelfRoom.bits14 : waitsOk hogsheadlaw10_ShelfRoom.T14.2 hogsheadlaw10_ShelfRoom.B14 = true := by kernel_rfl
set_option maxHeartbeats 40000000 in
set_option maxRecDepth 100000 in
theorem hogsheadlaw10_ShelfRoom.calls (k : Nat) (A0_0 : Option Addr) (c0_0 : Nat) (l0_0 : List ByteArray) (A0_1 : Option Addr) (c0_1 : Nat) (l0_1 : List (S94)) (a0_2 : Int) (a0_3 : Bool) (a1_0 : Int) (a1_1 : Int) (a1_2 : ByteArray) (r : Bool) (w : World) (hr0_0 : Kd.C Kd.string w A0_0 l0_0.length l0_0) (hc0_0 : l0_0.length ≤ c0_0) (hr0_1 : Kd.C k94 w A0_1 l0_1.length l0_1) (hc0_1 : l0_1.length ≤ c0_1) (h : hogsheadlaw10_ShelfRoom.f k l0_0 l0_1 a0_2 a0_3 a1_0 a1_1 a1_2 = some r) :
  Calls Try.prog 4 #[.agg #[.slice A0_0 l0_0.length c0_0, .slice A0_1 l0_1.length c0_1, .int .i64 a0_2, .bool a0_3], .agg #[.int .i64 a1_0, .int .i64 a1_1, .string a1_2]] w fun e w' => e = .returned (.bool r) ∧ Below w.heap.size w w' := by
 have hu25 := Try.underlying25
 have hu43 := Try.underlying43
 have hu27 := Try.underlying27
 have HR0_0 := qM hr0_0
 have HC0_0 := qM hc0_0
 clear hr0_0 hc0_0
 have HR0_1 := qM hr0_1
 have HC0_1 := qM hc0_1
 clear hr0_1 hc0_1
 have HB := qM (Below.refl w.heap.size w)
 have H : ((hogsheadlaw10_shown.f k).bind fun t552 => ((shelf_Find.f k l0_0 l0_1 a0_2 a0_3 a1_0 a1_1).bind fun bt553 => ((shelf_Put.f k l0_0 l0_1 a0_2 a0_3 a1_0 a1_1 a1_2).bind fun bt555 => (if bt555.2.2.2.2 = 0 then (hogsheadlaw10_ShelfRoom.j0 k t552 (bt553.2 == 0) l0_0 l0_1 a0_2 a0_3 bt555.1 bt555.2.1 bt555.2.2.1 bt555.2.2.2.1) else (hogsheadlaw10_ShelfRoom.j0 k t552 true l0_0 l0_1 a0_2 a0_3 bt555.1 bt555.2.1 bt555.2.2.1 bt555.2.2.2.1))))) = some r := h
 clear h
 replace H := Option.bind_eq_some_iff.mp H
 obtain ⟨t552, A30, H⟩ := H
 replace H : ((shelf_Find.f k l0_0 l0_1 a0_2 a0_3 a1_0 a1_1).bind fun bt553 => ((shelf_Put.f k l0_0 l0_1 a0_2 a0_3 a1_0 a1_1 a1_2).bind fun bt555 => (if bt555.2.2.2.2 = 0 then (hogsheadlaw10_ShelfRoom.j0 k t552 (bt553.2 == 0) l0_0 l0_1 a0_2 a0_3 bt555.1 bt555.2.1 bt555.2.2.1 bt555.2.2.2.1) else (hogsheadlaw10_ShelfRoom.j0 k t552 true l0_0 l0_1 a0_2 a0_3 bt555.1 bt555.2.1 bt555.2.2.1 bt555.2.2.2.1)))) = some r := H
 have A3 := qM A30
 clear A30
 replace H := Option.bind_eq_some_iff.mp H
 obtain ⟨⟨t553, t554⟩, A40, H⟩ := H
 replace H : ((shelf_Put.f k l0_0 l0_1 a0_2 a0_3 a1_0 a1_1 a1_2).bind fun bt555 => (if bt555.2.2.2.2 = 0 then (hogsheadlaw10_ShelfRoom.j0 k t552 (t554 == 0) l0_0 l0_1 a0_2 a0_3 bt555.1 bt555.2.1 bt555.2.2.1 bt555.2.2.2.1) else (hogsheadlaw10_ShelfRoom.j0 k t552 true l0_0 l0_1 a0_2 a0_3 bt555.1 bt555.2.1 bt555.2.2.1 bt555.2.2.2.1))) = some r := H
 have A4 := qM A40
 clear A40
 replace H := Option.bind_eq_some_iff.mp H
 obtain ⟨⟨t555, t558, t561, t562, t563⟩, A50, H⟩ := H
 replace H : (if t563 = 0 then (hogsheadlaw10_ShelfRoom.j0 k t552 (t554 == 0) l0_0 l0_1 a0_2 a0_3 t555 t558 t561 t562) else (hogsheadlaw10_ShelfRoom.j0 k t552 true l0_0 l0_1 a0_2 a0_3 t555 t558 t561 t562)) = some r := H
 have A5 := qM A50
 clear A50
 have HC6 := qM H
 clear H
 go_enter Try.func4, Try.ntmps4
 go_upto_region 4 with (first | ((with_reducible refine gate_dst (N := 2) rfl ?_); (try (refine gate_guard (by rfl) ?_; dsimp only)); refine box_event ?hg (N := 2) ?hd (cs := #[.slice A0_0 l0_0.length c0_0, .slice A0_1 l0_1.length c0_1, .int .i64 a0_2, .bool a0_3]) (t := 25) ?hr ?_; (case hd => rfl); (case hg => rfl); (case hr => first | (go_simp; done) | (go_simp; rfl)); intro g550 hg w7 hbox hb; have n0_ := qM (eT (by repeat (first | (with_reducible first | exact HB.out | apply eA | apply eN | apply eD) | exact HB.out)) hb); have n1_ := qM (hbox); have n2_ := qM ((by rw [hg]; exact (eZ (by repeat (first | (with_reducible first | exact HB.out | apply eA | apply eN | apply eD) | exact HB.out))) : w.heap.size ≤ g550)); have n3_ := n2_; clear HB; have HB := n0_; have B550 := n1_; have GW550 := n2_; have GE550 := n3_; clear n0_ n1_ n2_ n3_; clear hb hbox hg) | ((with_reducible refine gate_dst (N := 3) rfl ?_); (try (refine gate_guard (by rfl) ?_; dsimp only)); refine box_event ?hg (N := 3) ?hd (cs := #[.int .i64 a1_0, .int .i64 a1_1, .string a1_2]) (t := 43) ?hr ?_; (case hd => rfl); (case hg => rfl); (case hr => first | (go_simp; done) | (go_simp; rfl)); intro g551 hg w8 hbox hb; have n0_ := qM (qB (g := g550) (by (with_reducible repeat first | refine qN ?_ _ | refine qD ?_ | refine qA ?_ _); exact B550.out) hb); have n1_ := qM (eT (by repeat (first | (with_reducible first | exact HB.out | apply eA | apply eN | apply eD | refine eU ?_ (by assumption)) | exact HB.out)) hb); have n2_ := qM (hbox); have n3_ := qM ((by rw [hg]; exact (eZ (by repeat (first | (with_reducible first | exact HB.out | apply eA | apply eN | apply eD | refine eU ?_ (by assumption)) | exact HB.out))) : w.heap.size ≤ g551)); have n4_ := n3_; have n5_ := qM ((by rw [hg]; exact Nat.ne_of_lt (qL (g := g550) (by (with_reducible repeat first | refine qN ?_ _ | refine qD ?_ | refine qA ?_ _); exact B550.out)) : g550 ≠ g551)); have n6_ := qM (Ne.symm n5_.out); clear B550 HB; have B550 := n0_; have HB := n1_; have B551 := n2_; have GW551 := n3_; have GE551 := n4_; have NB550_551 := n5_; have NB551_550 := n6_; clear n0_ n1_ n2_ n3_ n4_ n5_ n6_; clear hb hbox hg) | ((with_reducible refine gate_callee (f := 11) rfl ?_); refine goesL_ (some 14) rfl rfl Try.func11 (by kernel_rfl) rfl #[] rfl (by (try simp only [List.map_toArray, List.map_cons, List.map_nil]); first | done | rfl | (simp only [List.length_drop, List.length_take]; rfl)) ?_; (with_reducible refine (hogsheadlaw10_shown.calls k  t552 _ A3.out).mono ?_); rintro e w9 ⟨rfl, hb⟩; refine ⟨_, rfl, ?_⟩; have n0_ := qM (qB (g := g550) (by (with_reducible repeat first | refine qN ?_ _ | refine qD ?_ | refine qA ?_ _); exact B550.out) hb); have n1_ := qM (qB (g := g551) (by (with_reducible repeat first | refine qN ?_ _ | refine qD ?_ | refine qA ?_ _); exact B551.out) hb); have n2_ := qM (eT (by repeat (first | (with_reducible first | exact HB.out | apply eA | apply eN | apply eD | refine eU ?_ (by assumption)) | exact HB.out)) hb); clear B550 B551 HB; have B550 := n0_; have B551 := n1_; have HB := n2_; clear n0_ n1_ n2_; (try clear hb); (try clear hb2); (try clear hk); (try clear hi); have hnb10 := NB550_551.out; have hnc10 := NB551_550.out; obtain ⟨z11_0, z11_1, z11_2, z11_3, f11_0, f11_1, f11_2, f11_3⟩ := cells4 B550.out; obtain ⟨z12_0, z12_1, z12_2, f12_0, f12_1, f12_2⟩ := cells3 B551.out) | ((with_reducible refine gate_callee (f := 18) rfl ?_); refine goesL_ (some 22) rfl rfl Try.func18 (by kernel_rfl) rfl #[.agg #[.slice A0_0 l0_0.length c0_0, .slice A0_1 l0_1.length c0_1, .int .i64 a0_2, .bool a0_3], .agg #[.int .i64 a1_0, .int .i64 a1_1]] rfl (by (try simp only [List.map_toArray, List.map_cons, List.map_nil]); first | done | rfl | (simp only [List.length_drop, List.length_take]; rfl)) ?_; (with_reducible refine (shelf_Find.calls k _ _ l0_0 _ _ l0_1 a0_2 a0_3 a1_0 a1_1 t553 t554 _ ?side1 ?side2 ?side3 ?side4 A4.out).mono ?_); (case side1 => repeat (first | exact (Kd.C_below HR0_0.out HB.out) | (with_reducible refine Kd.C_alloc ?_ _) | (with_reducible refine Kd.C_drewN ?_ _) | (with_reducible refine Kd.C_drew ?_))); (case side2 => exact HC0_0.out); (case side3 => repeat (first | exact (Kd.C_below HR0_1.out HB.out) | (with_reducible refine Kd.C_alloc ?_ _) | (with_reducible refine Kd.C_drewN ?_ _) | (with_reducible refine Kd.C_drew ?_))); (case side4 => exact HC0_1.out); rintro e w13 ⟨rfl, hb⟩; refine ⟨_, rfl, ?_⟩; have n0_ := qM (qB (g := g550) (by (with_reducible repeat first | refine qN ?_ _ | refine qD ?_ | refine qA ?_ _); exact B550.out) hb); have n1_ := qM (qB (g := g551) (by (with_reducible repeat first | refine qN ?_ _ | refine qD ?_ | refine qA ?_ _); exact B551.out) hb); have n2_ := qM (eT (by repeat (first | (with_reducible first | exact HB.out | apply eA | apply eN | apply eD | refine eU ?_ (by assumption)) | exact HB.out)) hb); clear B550 B551 HB; have B550 := n0_; have B551 := n1_; have HB := n2_; clear n0_ n1_ n2_; (try clear hb); (try clear hb2); (try clear hk); (try clear hi); obtain ⟨z14_0, z14_1, z14_2, z14_3, f14_0, f14_1, f14_2, f14_3⟩ := cells4 B550.out; obtain ⟨z15_0, z15_1, z15_2, f15_0, f15_1, f15_2⟩ := cells3 B551.out) | ((with_reducible refine gate_callee (f := 22) rfl ?_); refine goesL_ (some 28) rfl rfl Try.func22 (by kernel_rfl) rfl #[.agg #[.slice A0_0 l0_0.length c0_0, .slice A0_1 l0_1.length c0_1, .int .i64 a0_2, .bool a0_3], .agg #[.int .i64 a1_0, .int .i64 a1_1, .string a1_2]] rfl (by (try simp only [List.map_toArray, List.map_cons, List.map_nil]); first | done | rfl | (simp only [List.length_drop, List.length_take]; rfl)) ?_; (with_reducible refine (shelf_Put.calls k (fun k_ => k_ < w.heap.size) _ _ l0_0 (fun k_ => k_ < w.heap.size) _ _ l0_1 a0_2 a0_3 a1_0 a1_1 a1_2 t555 t558 t561 t562 t563 _ ?side1 ?side2 A5.out).mono ?_); (case side1 => exact Kd.V_mk HC0_0.out (Kd.F_below (Kd.C_F Kd.heap_string HR0_0.out) (by repeat (first | (with_reducible first | exact HB.out | apply eA | apply eN | apply eD | refine eU ?_ (by assumption)) | exact HB.out)))); (case side2 => exact Kd.V_mk HC0_1.out (Kd.F_below (Kd.C_F k94_heap HR0_1.out) (by repeat (first | (with_reducible first | exact HB.out | apply eA | apply eN | apply eD | refine eU ?_ (by assumption)) | exact HB.out)))); rintro e w16 ⟨v556, v559, rfl, ho0, ho1, hb⟩; refine ⟨_, rfl, ?_⟩; have n0_ := qM (Vl (Vm (ok' := fun k_ => k_ ≠ g550 ∧ k_ ≠ g551) ho0 (fun k_ hk_ => ⟨Or.elim hk_ (fun hs_ => Or.elim hs_ (nL GW550) (nL GW550)) (fun hn_ => (Fb (g := g550) (by (with_reducible repeat first | refine qN ?_ _ | refine qD ?_ | refine qA ?_ _); exact B550.out) k_ hn_)), Or.elim hk_ (fun hs_ => Or.elim hs_ (nL GW551) (nL GW551)) (fun hn_ => (Fb (g := g551) (by (with_reducible repeat first | refine qN ?_ _ | refine qD ?_ | refine qA ?_ _); exact B551.out) k_ hn_))⟩)) (eZ (by repeat (first | (with_reducible first | exact HB.out | apply eA | apply eN | apply eD | refine eU ?_ (by assumption)) | exact HB.out)))); have n1_ := qM (Vl (Vm (ok' := fun k_ => k_ ≠ g550 ∧ k_ ≠ g551) ho1 (fun k_ hk_ => ⟨Or.elim hk_ (fun hs_ => Or.elim hs_ (nL GW550) (nL GW550)) (fun hn_ => (Fb (g := g550) (by (with_reducible repeat first | refine qN ?_ _ | refine qD ?_ | refine qA ?_ _); exact B550.out) k_ hn_)), Or.elim hk_ (fun hs_ => Or.elim hs_ (nL GW551) (nL GW551)) (fun hn_ => (Fb (g := g551) (by (with_reducible repeat first | refine qN ?_ _ | refine qD ?_ | refine qA ?_ _); exact B551.out) k_ hn_))⟩)) (eZ (by repeat (first | (with_reducible first | exact HB.out | apply eA | apply eN | apply eD | refine eU ?_ (by assumption)) | exact HB.out)))); have n2_ := qM (qB (g := g550) (by (with_reducible repeat first | refine qN ?_ _ | refine qD ?_ | refine qA ?_ _); exact B550.out) hb); have n3_ := qM (qB (g := g551) (by (with_reducible repeat first | refine qN ?_ _ | refine qD ?_ | refine qA ?_ _); exact B551.out) hb); have n4_ := qM (eT (by repeat (first | (with_reducible first | exact HB.out | apply eA | apply eN | apply eD | refine eU ?_ (by assumption)) | exact HB.out)) hb); clear B550 B551 HB; have HO557 := n0_; have HO560 := n1_; have B550 := n2_; have B551 := n3_; have HB := n4_; clear n0_ n1_ n2_ n3_ n4_; (try clear hb); (try clear hb2); (try clear hk); (try clear hi); (try clear ho0); (try clear ho1)) | ((with_reducible refine gate_dst (N := 8) rfl ?_); (try (refine gate_guard (by rfl) ?_; dsimp only)); refine box_event ?hg (N := 8) ?hd (cs := #[.slice none 0 0, .slice none 0 0, .int .i64 0, .bool false]) (t := 25) ?hr ?_; (case hd => rfl); (case hg => rfl); (case hr => first | (go_simp; done) | (go_simp; rfl)); intro g564 hg w17 hbox hb; have n0_ := qM (Vb (Kd.V_elderB (by (with_reducible repeat first | apply VA | apply VN | apply VD); exact HO557.out) g564 (Nat.le_of_eq hg.symm)) hb); have n1_ := qM (Vb (Kd.V_elderB (by (with_reducible repeat first | apply VA | apply VN | apply VD); exact HO560.out) g564 (Nat.le_of_eq hg.symm)) hb); have n2_ := qM (qB (g := g550) (by (with_reducible repeat first | refine qN ?_ _ | refine qD ?_ | refine qA ?_ _); exact B550.out) hb); have n3_ := qM (qB (g := g551) (by (with_reducible repeat first | refine qN ?_ _ | refine qD ?_ | refine qA ?_ _); exact B551.out) hb); have n4_ := qM (eT (by repeat (first | (with_reducible first | exact HB.out | apply eA | apply eN | apply eD | refine eU ?_ (by assumption)) | exact HB.out)) hb); have n5_ := qM (hbox); have n6_ := qM ((by rw [hg]; exact (eZ (by repeat (first | (with_reducible first | exact HB.out | apply eA | apply eN | apply eD | refine eU ?_ (by assumption)) | exact HB.out))) : w.heap.size ≤ g564)); have n7_ := n6_; have n8_ := qM ((by rw [hg]; exact Nat.ne_of_lt (qL (g := g550) (by (with_reducible repeat first | refine qN ?_ _ | refine qD ?_ | refine qA ?_ _); exact B550.out)) : g550 ≠ g564)); have n9_ := qM (Ne.symm n8_.out); have n10_ := qM ((by rw [hg]; exact Nat.ne_of_lt (qL (g := g551) (by (with_reducible repeat first | refine qN ?_ _ | refine qD ?_ | refine qA ?_ _); exact B551.out)) : g551 ≠ g564)); have n11_ := qM (Ne.symm n10_.out); clear HO557 HO560 B550 B551 HB; have HO557 := n0_; have HO560 := n1_; have B550 := n2_; have B551 := n3_; have HB := n4_; have B564 := n5_; have GW564 := n6_; have GE564 := n7_; have NB550_564 := n8_; have NB564_550 := n9_; have NB551_564 := n10_; have NB564_551 := n11_; clear n0_ n1_ n2_ n3_ n4_ n5_ n6_ n7_ n8_ n9_ n10_ n11_; clear hb hbox hg; obtain ⟨Ao18, co18, eo18⟩ := Kd.V_slice HO557.out; subst eo18; have hnb19 := NB564_550.out; have hnc19 := NB550_564.out; have hnb20 := NB564_551.out; have hnc20 := NB551_564.out; obtain ⟨z21_0, z21_1, z21_2, z21_3, f21_0, f21_1, f21_2, f21_3⟩ := cells4 B564.out; obtain ⟨Ao22, co22, eo22⟩ := Kd.V_slice HO560.out; subst eo22))
 (try simp only [Act.put, List.setIfInBounds_toArray, List.set_cons_zero, List.set_cons_succ])
 go_cut [36] (fun v36 wc => ∃ (kq : Nat) (x36_5 : Bool), v36 = .bool x36_5 ∧ Aside0 (hogsheadlaw10_ShelfRoom.j0 kq t552 x36_5 l0_0 l0_1 a0_2 a0_3 t555 t558 t561 t562 = some r) ∧ Aside0 (kq ≤ k) ∧ Aside0 (Kd.V Kd.string 9 wc w.heap.size (fun k_ => k_ ≠ g550 ∧ k_ ≠ g551 ∧ k_ ≠ g564) (.slice Ao18 t555.length co18) t555) ∧ Aside0 (Kd.V k94 94 wc w.heap.size (fun k_ => k_ ≠ g550 ∧ k_ ≠ g551 ∧ k_ ≠ g564) (.slice Ao22 t558.length co22) t558) ∧ Aside0 (wc.heap[g550]? = some (.cells #[(.slice A0_0 l0_0.length c0_0), (.slice A0_1 l0_1.length c0_1), .int .i64 a0_2, .bool a0_3] 25 (0, 0))) ∧ Aside0 (wc.heap[g551]? = some (.cells #[.int .i64 a1_0, .int .i64 a1_1, .string a1_2] 43 (0, 0))) ∧ Aside0 (wc.heap[g564]? = some (.cells #[(.slice Ao18 t555.length co18), (.slice Ao22 t558.length co22), .int .i64 t561, .bool t562] 25 (0, 0))) ∧ Aside0 (Below w.heap.size w wc))
 case first =>
  have H := HC6.out
  clear HC6
  by_cases c23 : t563 = 0
  ·rw [if_pos c23] at H
   have c23b0 : (t563 == 0) = true := beq_iff_eq.mpr c23
   have c23b1 : (t563 != 0) = false := bne_eq_false_iff_eq.mpr c23
   clear c23
   (first | rw [c23b0] | (simp only [i64_w, i32_w]; rw [c23b0]) | skip)
   have H' := qM H
   clear H
   go_wp2
   go_meet
   case rel => exact ⟨_, ((t554 == 0)), (by first | rfl | (simp; done) | (simp [*]; done)), H', ⟨by first | omega | exact Nat.le_refl _⟩, ⟨by (with_reducible repeat first | apply VA | apply VN | apply VD); exact Vm (Vf (p := ⟨g564, 3, none⟩) (Vf (p := ⟨g564, 2, none⟩) (Vf (p := ⟨g564, 1, none⟩) (Vf (p := ⟨g564, 0, none⟩) (Vm HO557.out (fun k_ hk => (⟨hk, hk.2⟩ : _ ∧ k_ ≠ g564))) (fun _ hk => hk.2) (.slice Ao18 t555.length co18)) (fun _ hk => hk.2) (.slice Ao22 t558.length co22)) (fun _ hk => hk.2) (.int .i64 t561)) (fun _ hk => hk.2) (.bool t562)) (fun _ hk => ⟨hk.1.1.1, ⟨hk.1.1.2, hk.1.2⟩⟩)⟩, ⟨by (with_reducible repeat first | apply VA | apply VN | apply VD); exact Vm (Vf (p := ⟨g564, 3, none⟩) (Vf (p := ⟨g564, 2, none⟩) (Vf (p := ⟨g564, 1, none⟩) (Vf (p := ⟨g564, 0, none⟩) (Vm HO560.out (fun k_ hk => (⟨hk, hk.2⟩ : _ ∧ k_ ≠ g564))) (fun _ hk => hk.2) (.slice Ao18 t555.length co18)) (fun _ hk => hk.2) (.slice Ao22 t558.length co22)) (fun _ hk => hk.2) (.int .i64 t561)) (fun _ hk => hk.2) (.bool t562)) (fun _ hk => ⟨hk.1.1.1, ⟨hk.1.1.2, hk.1.2⟩⟩)⟩, ⟨by (with_reducible repeat first | refine qN ?_ _ | refine qD ?_ | refine qA ?_ _); (iterate 4 (refine qR ?_ NB550_564.out _; (with_reducible repeat first | refine qN ?_ _ | refine qD ?_ | refine qA ?_ _))); exact B550.out⟩, ⟨by (with_reducible repeat first | refine qN ?_ _ | refine qD ?_ | refine qA ?_ _); (iterate 4 (refine qR ?_ NB551_564.out _; (with_reducible repeat first | refine qN ?_ _ | refine qD ?_ | refine qA ?_ _))); exact B551.out⟩, ⟨by (with_reducible repeat first | refine qN ?_ _ | refine qD ?_ | refine qA ?_ _); apply puts4; (with_reducible repeat first | refine qN ?_ _ | refine qD ?_ | refine qA ?_ _); exact B564.out⟩, ⟨by repeat (first | (with_reducible first | exact HB.out | apply eA | apply eN | apply eD | refine eS ?_ GE550.out | refine eS ?_ GE551.out | refine eS ?_ GE564.out) | exact HB.out)⟩⟩
  ·rw [if_neg c23] at H
   have c23b0 : (t563 == 0) = false := beq_eq_false_iff_ne.mpr c23
   have c23b1 : (t563 != 0) = true := bne_iff_ne.mpr c23
   (first | rw [c23b0] | (simp only [i64_w, i32_w]; rw [c23b0]) | skip)
   have H' := qM H
   clear H
   go_wp2
   go_meet
   case rel => exact ⟨_, (true), (by first | rfl | (simp; done) | (simp [*]; done)), H', ⟨by first | omega | exact Nat.le_refl _⟩, ⟨by (with_reducible repeat first | apply VA | apply VN | apply VD); exact Vm (Vf (p := ⟨g564, 3, none⟩) (Vf (p := ⟨g564, 2, none⟩) (Vf (p := ⟨g564, 1, none⟩) (Vf (p := ⟨g564, 0, none⟩) (Vm HO557.out (fun k_ hk => (⟨hk, hk.2⟩ : _ ∧ k_ ≠ g564))) (fun _ hk => hk.2) (.slice Ao18 t555.length co18)) (fun _ hk => hk.2) (.slice Ao22 t558.length co22)) (fun _ hk => hk.2) (.int .i64 t561)) (fun _ hk => hk.2) (.bool t562)) (fun _ hk => ⟨hk.1.1.1, ⟨hk.1.1.2, hk.1.2⟩⟩)⟩, ⟨by (with_reducible repeat first | apply VA | apply VN | apply VD); exact Vm (Vf (p := ⟨g564, 3, none⟩) (Vf (p := ⟨g564, 2, none⟩) (Vf (p := ⟨g564, 1, none⟩) (Vf (p := ⟨g564, 0, none⟩) (Vm HO560.out (fun k_ hk => (⟨hk, hk.2⟩ : _ ∧ k_ ≠ g564))) (fun _ hk => hk.2) (.slice Ao18 t555.length co18)) (fun _ hk => hk.2) (.slice Ao22 t558.length co22)) (fun _ hk => hk.2) (.int .i64 t561)) (fun _ hk => hk.2) (.bool t562)) (fun _ hk => ⟨hk.1.1.1, ⟨hk.1.1.2, hk.1.2⟩⟩)⟩, ⟨by (with_reducible repeat first | refine qN ?_ _ | refine qD ?_ | refine qA ?_ _); (iterate 4 (refine qR ?_ NB550_564.out _; (with_reducible repeat first | refine qN ?_ _ | refine qD ?_ | refine qA ?_ _))); exact B550.out⟩, ⟨by (with_reducible repeat first | refine qN ?_ _ | refine qD ?_ | refine qA ?_ _); (iterate 4 (refine qR ?_ NB551_564.out _; (with_reducible repeat first | refine qN ?_ _ | refine qD ?_ | refine qA ?_ _))); exact B551.out⟩, ⟨by (with_reducible repeat first | refine qN ?_ _ | refine qD ?_ | refine qA ?_ _); apply puts4; (with_reducible repeat first | refine qN ?_ _ | refine qD ?_ | refine qA ?_ _); exact B564.out⟩, ⟨by repeat (first | (with_reducible first | exact HB.out | apply eA | apply eN | apply eD | refine eS ?_ GE550.out | refine eS ?_ GE551.out | refine eS ?_ GE564.out) | exact HB.out)⟩⟩
 case rest =>
  clear HC6
  try clear c1
  try clear c2
  try clear p2
  try clear c4
  try clear c10
  try clear c11
  try clear c18
  try clear c19
  try clear c20
  try clear c22
  try clear c23
  try clear c23b0
  try clear c23b1
  try clear z11_0
  try clear z11_1
  try clear z11_2
  try clear z11_3
  try clear z12_0
  try clear z12_1
  try clear z12_2
  try clear z14_0
  try clear z14_1
  try clear z14_2
  try clear z14_3
  try clear z15_0
  try clear z15_1
  try clear z15_2
  try clear z21_0
  try clear z21_1
  try clear z21_2
  try clear z21_3
  try clear f11_0
  try clear f11_1
  try clear f11_2
  try clear f11_3
  try clear f12_0
  try clear f12_1
  try clear f12_2
  try clear f14_0
  try clear f14_1
  try clear f14_2
  try clear f14_3
  try clear f15_0
  try clear f15_1
  try clear f15_2
  try clear f21_0
  try clear f21_1
  try clear f21_2
  try clear f21_3
  obtain ⟨kq, x36_5, rfl, HA, HJ5, HO_565000, HO_565001, B550, B551, B564, HB⟩ := hcut
  cases kq with
  | zero => exact absurd HA.out (by simp [hogsheadlaw10_ShelfRoom.j0])
  | succ kj5 =>
   have H := HA.out
   clear HA
   simp only [hogsheadlaw10_ShelfRoom.j0] at H
   by_cases c24 : x36_5 = true
   ·subst c24
    have H1 : (some t552) = some r := by rw [if_pos rfl] at H; exact H
    clear H
    have H := H1
    clear H1
    obtain rfl := Option.some.inj H
    go_wp2
    go_ret
    exact ⟨by first | rfl | (simp [errW_none, errW_some] <;> rfl) | (simp [*, errW_none, errW_some] <;> rfl), by repeat (first | (with_reducible first | exact HB.out | apply eA | apply eN | apply eD | refine eS ?_ GE550.out | refine eS ?_ GE551.out | refine eS ?_ GE564.out) | exact HB.out)⟩
   ·replace c24 := Bool.eq_false_iff.mpr c24
    subst c24
    have H1 : ((shelf_List.f kj5 l0_0 l0_1 a0_2 a0_3).bind fun t565 => ((shelf_List.f kj5 t555 t558 t561 t562).bind fun t568 => (if (t568.length : Int) = (wrap64 ((t565.length : Int) + 1)) then ((shelf_Free.f kj5 t555 t558 t561 t562).bind fun t571 => ((shelf_Bad.f kj5 t555 t558 t561 t562).bind fun t572 => ((shelf_Free.f kj5 l0_0 l0_1 a0_2 a0_3).bind fun t575 => ((shelf_Bad.f kj5 l0_0 l0_1 a0_2 a0_3).bind fun t576 => (hogsheadlaw10_ShelfRoom.j1 kj5 t552 t565 t568 ((wrap64 (t571 + (t572.length : Int))) != (wrap64 ((wrap64 (t575 + (t576.length : Int))) - 1)))))))) else (hogsheadlaw10_ShelfRoom.j1 kj5 t552 t565 t568 true)))) = some r := by rw [if_neg (show ¬ (false = true) by decide)] at H; exact H
    clear H
    have H := H1
    clear H1
    replace H := Option.bind_eq_some_iff.mp H
    obtain ⟨t565, A250, H⟩ := H
    replace H : ((shelf_List.f kj5 t555 t558 t561 t562).bind fun t568 => (if (t568.length : Int) = (wrap64 ((t565.length : Int) + 1)) then ((shelf_Free.f kj5 t555 t558 t561 t562).bind fun t571 => ((shelf_Bad.f kj5 t555 t558 t561 t562).bind fun t572 => ((shelf_Free.f kj5 l0_0 l0_1 a0_2 a0_3).bind fun t575 => ((shelf_Bad.f kj5 l0_0 l0_1 a0_2 a0_3).bind fun t576 => (hogsheadlaw10_ShelfRoom.j1 kj5 t552 t565 t568 ((wrap64 (t571 + (t572.length : Int))) != (wrap64 ((wrap64 (t575 + (t576.length : Int))) - 1)))))))) else (hogsheadlaw10_ShelfRoom.j1 kj5 t552 t565 t568 true))) = some r := H
    have A25 := qM A250
    clear A250
    replace H := Option.bind_eq_some_iff.mp H
    obtain ⟨t568, A260, H⟩ := H
    replace H : (if (t568.length : Int) = (wrap64 ((t565.length : Int) + 1)) then ((shelf_Free.f kj5 t555 t558 t561 t562).bind fun t571 => ((shelf_Bad.f kj5 t555 t558 t561 t562).bind fun t572 => ((shelf_Free.f kj5 l0_0 l0_1 a0_2 a0_3).bind fun t575 => ((shelf_Bad.f kj5 l0_0 l0_1 a0_2 a0_3).bind fun t576 => (hogsheadlaw10_ShelfRoom.j1 kj5 t552 t565 t568 ((wrap64 (t571 + (t572.length : Int))) != (wrap64 ((wrap64 (t575 + (t576.length : Int))) - 1)))))))) else (hogsheadlaw10_ShelfRoom.j1 kj5 t552 t565 t568 true)) = some r := H
    have A26 := qM A260
    clear A260
    have HC27 := qM H
    clear H
    have hnb28 := NB550_551.out
    have hnc28 := NB551_550.out
    have hnb29 := NB550_564.out
    have hnc29 := NB564_550.out
    obtain ⟨z30_0, z30_1, z30_2, z30_3, f30_0, f30_1, f30_2, f30_3⟩ := cells4 B550.out
    go_upto_region 8 with (first | ((with_reducible refine gate_callee (f := 13) rfl ?_); refine goesL_ (some 39) rfl rfl Try.func13 (by kernel_rfl) rfl #[.agg #[.slice A0_0 l0_0.length c0_0, .slice A0_1 l0_1.length c0_1, .int .i64 a0_2, .bool a0_3]] rfl (by (try simp only [List.map_toArray, List.map_cons, List.map_nil]); first | done | rfl | (simp only [List.length_drop, List.length_take]; rfl)) ?_; (with_reducible refine (shelf_List.calls kj5 _ _ l0_0 _ _ l0_1 a0_2 a0_3 t565 _ ?side1 ?side2 ?side3 ?side4 A25.out).mono ?_); (case side1 => repeat (first | exact (Kd.C_below HR0_0.out HB.out) | (with_reducible refine Kd.C_alloc ?_ _) | (with_reducible refine Kd.C_drewN ?_ _) | (with_reducible refine Kd.C_drew ?_))); (case side2 => exact HC0_0.out); (case side3 => repeat (first | exact (Kd.C_below HR0_1.out HB.out) | (with_reducible refine Kd.C_alloc ?_ _) | (with_reducible refine Kd.C_drewN ?_ _) | (with_reducible refine Kd.C_drew ?_))); (case side4 => exact HC0_1.out); rintro e w31 ⟨v566, rfl, ho0, hb⟩; refine ⟨_, rfl, ?_⟩; have n0_ := qM (Kd.V_elder' (by (with_reducible repeat first | apply VA | apply VN | apply VD); exact HO_565000.out) (Kd.R_base ho0) hb); have n1_ := qM (Kd.V_elder' (by (with_reducible repeat first | apply VA | apply VN | apply VD); exact HO_565001.out) (Kd.R_base ho0) hb); have n2_ := qM (Kd.R_lower ho0 (eZ (by repeat (first | (with_reducible first | exact HB.out | apply eA | apply eN | apply eD | refine eU ?_ (by assumption)) | exact HB.out)))); have n3_ := qM (qB (g := g550) (by (with_reducible repeat first | refine qN ?_ _ | refine qD ?_ | refine qA ?_ _); exact B550.out) hb); have n4_ := qM (qB (g := g551) (by (with_reducible repeat first | refine qN ?_ _ | refine qD ?_ | refine qA ?_ _); exact B551.out) hb); have n5_ := qM (qB (g := g564) (by (with_reducible repeat first | refine qN ?_ _ | refine qD ?_ | refine qA ?_ _); exact B564.out) hb); have n6_ := qM (eT (by repeat (first | (with_reducible first | exact HB.out | apply eA | apply eN | apply eD | refine eU ?_ (by assumption)) | exact HB.out)) hb); clear HO_565000 HO_565001 B550 B551 B564 HB; have HO_565000 := n0_; have HO_565001 := n1_; have HO567 := n2_; have B550 := n3_; have B551 := n4_; have B564 := n5_; have HB := n6_; clear n0_ n1_ n2_ n3_ n4_ n5_ n6_; (try clear hb); (try clear hb2); (try clear hk); (try clear hi); (try clear ho0); have hnb32 := NB564_551.out; have hnc32 := NB551_564.out; obtain ⟨z33_0, z33_1, z33_2, z33_3, f33_0, f33_1, f33_2, f33_3⟩ := cells4 B564.out) | ((with_reducible refine gate_callee (f := 13) rfl ?_); refine goesL_ (some 41) rfl rfl Try.func13 (by kernel_rfl) rfl #[.agg #[.slice Ao18 t555.length co18, .slice Ao22 t558.length co22, .int .i64 t561, .bool t562]] rfl (by (try simp only [List.map_toArray, List.map_cons, List.map_nil]); first | done | rfl | (simp only [List.length_drop, List.length_take]; rfl)) ?_; (with_reducible refine (shelf_List.calls kj5 _ _ t555 _ _ t558 t561 t562 t568 _ ?side1 ?side2 ?side3 ?side4 A26.out).mono ?_); (case side1 => repeat (first | exact (Kd.V_reads' HO_565000.out).2.2 | (with_reducible refine Kd.C_alloc ?_ _) | (with_reducible refine Kd.C_drewN ?_ _) | (with_reducible refine Kd.C_drew ?_))); (case side2 => exact (Kd.V_reads' HO_565000.out).2.1); (case side3 => repeat (first | exact (Kd.V_reads' HO_565001.out).2.2 | (with_reducible refine Kd.C_alloc ?_ _) | (with_reducible refine Kd.C_drewN ?_ _) | (with_reducible refine Kd.C_drew ?_))); (case side4 => exact (Kd.V_reads' HO_565001.out).2.1); rintro e w34 ⟨v569, rfl, ho0, hb⟩; refine ⟨_, rfl, ?_⟩; have n0_ := qM (Kd.V_elder' (by (with_reducible repeat first | apply VA | apply VN | apply VD); exact HO_565000.out) (Kd.R_base ho0) hb); have n1_ := qM (Kd.V_elder' (by (with_reducible repeat first | apply VA | apply VN | apply VD); exact HO_565001.out) (Kd.R_base ho0) hb); have n2_ := qM (Kd.R_elder' (by (with_reducible repeat first | apply RA | apply RN | apply RD); exact HO567.out) (Kd.R_base ho0) hb); have n3_ := qM (Kd.R_lower (Kd.R_new' ho0 (Kd.R_lt (by (with_reducible repeat first | apply RA | apply RN | apply RD); exact HO567.out))) (eZ (by repeat (first | (with_reducible first | exact HB.out | apply eA | apply eN | apply eD | refine eU ?_ (by assumption)) | exact HB.out)))); have n4_ := qM (qB (g := g550) (by (with_reducible repeat first | refine qN ?_ _ | refine qD ?_ | refine qA ?_ _); exact B550.out) hb); have n5_ := qM (qB (g := g551) (by (with_reducible repeat first | refine qN ?_ _ | refine qD ?_ | refine qA ?_ _); exact B551.out) hb); have n6_ := qM (qB (g := g564) (by (with_reducible repeat first | refine qN ?_ _ | refine qD ?_ | refine qA ?_ _); exact B564.out) hb); have n7_ := qM (eT (by repeat (first | (with_reducible first | exact HB.out | apply eA | apply eN | apply eD | refine eU ?_ (by assumption)) | exact HB.out)) hb); clear HO_565000 HO_565001 HO567 B550 B551 B564 HB; have HO_565000 := n0_; have HO_565001 := n1_; have HO567 := n2_; have HO570 := n3_; have B550 := n4_; have B551 := n5_; have B564 := n6_; have HB := n7_; clear n0_ n1_ n2_ n3_ n4_ n5_ n6_ n7_; (try clear hb); (try clear hb2); (try clear hk); (try clear hi); (try clear ho0)))
    (try simp only [Act.put, List.setIfInBounds_toArray, List.set_cons_zero, List.set_cons_succ])
    go_cut [63] (fun v63 wc => ∃ (kq : Nat) (x63_26 : Bool), v63 = .bool x63_26 ∧ Aside0 (hogsheadlaw10_ShelfRoom.j1 kq t552 t565 t568 x63_26 = some r) ∧ Aside0 (kq ≤ kj5) ∧ Aside0 (Kd.R k27 27 wc w.heap.size (fun k_ => some k_ ≠ (v569 : Value).ownBlock) v566 t565) ∧ Aside0 (Kd.R k27 27 wc w.heap.size (fun k_ => some k_ ≠ (v566 : Value).ownBlock) v569 t568) ∧ Aside0 (Kd.V Kd.string 9 wc w.heap.size (fun k_ => some k_ ≠ (v566 : Value).ownBlock ∧ some k_ ≠ (v569 : Value).ownBlock ∧ k_ ≠ g550 ∧ k_ ≠ g551 ∧ k_ ≠ g564) (.slice Ao18 t555.length co18) t555) ∧ Aside0 (Kd.V k94 94 wc w.heap.size (fun k_ => some k_ ≠ (v566 : Value).ownBlock ∧ some k_ ≠ (v569 : Value).ownBlock ∧ k_ ≠ g550 ∧ k_ ≠ g551 ∧ k_ ≠ g564) (.slice Ao22 t558.length co22) t558) ∧ Aside0 (wc.heap[g550]? = some (.cells #[(.slice A0_0 l0_0.length c0_0), (.slice A0_1 l0_1.length c0_1), .int .i64 a0_2, .bool a0_3] 25 (0, 0))) ∧ Aside0 (wc.heap[g551]? = some (.cells #[.int .i64 a1_0, .int .i64 a1_1, .string a1_2] 43 (0, 0))) ∧ Aside0 (wc.heap[g564]? = some (.cells #[(.slice Ao18 t555.length co18), (.slice Ao22 t558.length co22), .int .i64 t561, .bool t562] 25 (0, 0))) ∧ Aside0 (Below w.heap.size w wc))
    case first =>
     have H := HC27.out
     clear HC27
     by_cases c35 : (t568.length : Int) = (wrap64 ((t565.length : Int) + 1))
     ·rw [if_pos c35] at H
      have c35b0 : ((t568.length : Int) == (wrap64 ((t565.length : Int) + 1))) = true := beq_iff_eq.mpr c35
      have c35b1 : ((t568.length : Int) != (wrap64 ((t565.length : Int) + 1))) = false := bne_eq_false_iff_eq.mpr c35
      clear c35
      (first | rw [c35b0] | (simp only [i64_w, i32_w]; rw [c35b0]) | skip)
      replace H := Option.bind_eq_some_iff.mp H
      obtain ⟨t571, A360, H⟩ := H
      replace H : ((shelf_Bad.f kj5 t555 t558 t561 t562).bind fun t572 => ((shelf_Free.f kj5 l0_0 l0_1 a0_2 a0_3).bind fun t575 => ((shelf_Bad.f kj5 l0_0 l0_1 a0_2 a0_3).bind fun t576 => (hogsheadlaw10_ShelfRoom.j1 kj5 t552 t565 t568 ((wrap64 (t571 + (t572.length : Int))) != (wrap64 ((wrap64 (t575 + (t576.length : Int))) - 1))))))) = some r := H
      have A36 := qM A360
      clear A360
      replace H := Option.bind_eq_some_iff.mp H
      obtain ⟨t572, A370, H⟩ := H
      replace H : ((shelf_Free.f kj5 l0_0 l0_1 a0_2 a0_3).bind fun t575 => ((shelf_Bad.f kj5 l0_0 l0_1 a0_2 a0_3).bind fun t576 => (hogsheadlaw10_ShelfRoom.j1 kj5 t552 t565 t568 ((wrap64 (t571 + (t572.length : Int))) != (wrap64 ((wrap64 (t575 + (t576.length : Int))) - 1)))))) = some r := H
      have A37 := qM A370
      clear A370
      replace H := Option.bind_eq_some_iff.mp H
      obtain ⟨t575, A380, H⟩ := H
      replace H : ((shelf_Bad.f kj5 l0_0 l0_1 a0_2 a0_3).bind fun t576 => (hogsheadlaw10_ShelfRoom.j1 kj5 t552 t565 t568 ((wrap64 (t571 + (t572.length : Int))) != (wrap64 ((wrap64 (t575 + (t576.length : Int))) - 1))))) = some r := H
      have A38 := qM A380
      clear A380
      replace H := Option.bind_eq_some_iff.mp H
      obtain ⟨t576, A390, H⟩ := H
      replace H : (hogsheadlaw10_ShelfRoom.j1 kj5 t552 t565 t568 ((wrap64 (t571 + (t572.length : Int))) != (wrap64 ((wrap64 (t575 + (t576.length : Int))) - 1)))) = some r := H
      have A39 := qM A390
      clear A390
      have H' := qM H
      clear H
      try go_wp2
      have n0_ := qM (Kd.V_drew HO_565000.out)
      have n1_ := qM (Kd.V_drew HO_565001.out)
      have n2_ := qM (Kd.R_drew HO567.out)
      have n3_ := qM (Kd.R_drew HO570.out)
      have n4_ := qM (blk_drew B550.out)
      have n5_ := qM (blk_drew B551.out)
      have n6_ := qM (blk_drew B564.out)
      have n7_ := qM (below_drew1 HB.out)
      clear HO_565000
      clear HO_565001
      clear HO567
      clear HO570
      clear B550
      clear B551
      clear B564
      clear HB
      have HO_565000 := n0_
      have HO_565001 := n1_
      have HO567 := n2_
      have HO570 := n3_
      have B550 := n4_
      have B551 := n5_
      have B564 := n6_
      have HB := n7_
      clear n0_ n1_ n2_ n3_ n4_ n5_ n6_ n7_
      obtain ⟨Ao41, co41, eo41⟩ := Kd.R_slice HO570.out
      (first | subst eo41 | (injection eo41 with f1_ f2_ f3_; have f4_ := f1_.symm; have f5_ := f3_.symm; clear f1_ f2_ f3_; subst f4_; subst f5_))
      obtain ⟨Ao42, co42, eo42⟩ := Kd.R_slice HO567.out
      (first | subst eo42 | (injection eo42 with f1_ f2_ f3_; have f4_ := f1_.symm; have f5_ := f3_.symm; clear f1_ f2_ f3_; subst f4_; subst f5_))
      refine start_ (n := 22) (S := fun w' => w'.cell? ⟨g564, 0, none⟩ = some (.slice Ao18 t555.length co18) ∧ w'.cell? ⟨g564, 1, none⟩ = some (.slice Ao22 t558.length co22) ∧ w'.cell? ⟨g564, 2, none⟩ = some (.int .i64 t561) ∧ w'.cell? ⟨g564, 3, none⟩ = some (.bool t562) ∧ w'.cell? ⟨g550, 0, none⟩ = some (.slice A0_0 l0_0.length c0_0) ∧ w'.cell? ⟨g550, 1, none⟩ = some (.slice A0_1 l0_1.length c0_1) ∧ w'.cell? ⟨g550, 2, none⟩ = some (.int .i64 a0_2) ∧ w'.cell? ⟨g550, 3, none⟩ = some (.bool a0_3)) (ds := []) #[false, false, false, false, false, false, false, false, false, false, false, false, false, false, false, false, false, false, false, false, false, false] (by kernel_rfl) rfl rfl ⟨(qC B564.out 0).trans rfl, (qC B564.out 1).trans rfl, (qC B564.out 2).trans rfl, (qC B564.out 3).trans rfl, (qC B550.out 0).trans rfl, (qC B550.out 1).trans rfl, (qC B550.out 2).trans rfl, (qC B550.out 3).trans rfl⟩ (fun hHeld => ?_); refine with_tabW hogsheadlaw10_ShelfRoom.tab8 hogsheadlaw10_ShelfRoom.bits8 (fun HT_ HW_ => ?_)
      generalize w34.drew = w40 at HO_565000 HO_565001 HO567 HO570 B550 B551 B564 HB hHeld ⊢
      refine pure_ (i := 0) (N := some 42) (v := ?_) (a' := ?_) #[true, false, false, false, false, false, false, false, false, false, false, false, false, false, false, false, false, false, false, false, false, false] rfl rfl (any_of HT_.out (by kernel_rfl)) (fun _ _ _ h => h) (Or.inl ⟨by rfl, ?_⟩) ?_ ?_
      rotate_left
      ·intro w'; go_simp; with_reducible rfl
      rotate_left
      ·simp only [Act.put, xA, xZ, xS, i64_w, i32_w]; rfl
      refine pure_ (i := 1) (N := some 43) (v := ?_) (a' := ?_) #[true, true, false, false, false, false, false, false, false, false, false, false, false, false, false, false, false, false, false, false, false, false] rfl rfl (any_of HT_.out (by kernel_rfl)) (fun _ _ _ h => h) (Or.inl ⟨by rfl, ?_⟩) ?_ ?_
      rotate_left
      ·intro w'; go_simp; with_reducible rfl
      rotate_left
      ·simp only [Act.put, xA, xZ, xS, i64_w, i32_w]; rfl
      refine pure_ (i := 2) (N := some 44) (v := ?_) (a' := ?_) #[true, true, true, false, false, false, false, false, false, false, false, false, false, false, false, false, false, false, false, false, false, false] rfl rfl (any_of HT_.out (by kernel_rfl)) (fun _ _ _ h => h) (Or.inl ⟨by rfl, ?_⟩) ?_ ?_
      rotate_left
      ·intro w'; go_simp; with_reducible rfl
      rotate_left
      ·simp only [Act.put, xA, xZ, xS, i64_w, i32_w]; rfl
      refine pure_ (i := 3) (N := some 45) (v := ?_) (a' := ?_) #[true, true, true, true, false, false, false, false, false, false, false, false, false, false, false, false, false, false, false, false, false, false] rfl rfl (any_of HT_.out (by kernel_rfl)) (fun _ _ _ h => h) (Or.inl ⟨by rfl, ?_⟩) ?_ ?_
      rotate_left
      ·intro w'; go_simp; with_reducible rfl
      rotate_left
      ·simp only [Act.put, xA, xZ, xS, i64_w, i32_w]; rfl
      refine pure_ (i := 4) (N := some 46) (v := ?_) (a' := ?_) #[true, true, true, true, true, false, false, false, false, false, false, false, false, false, false, false, false, false, false, false, false, false] rfl rfl (any_of HT_.out (by kernel_rfl)) (fun _ _ _ h => h) (Or.inl ⟨by rfl, ?_⟩) ?_ ?_
      rotate_left
      ·intro w'; go_simp; with_reducible rfl
      rotate_left
      ·simp only [Act.put, xA, xZ, xS, i64_w, i32_w]; rfl
      refine pure_ (i := 5) (N := some 47) (v := ?_) (a' := ?_) #[true, true, true, true, true, true, false, false, false, false, false, false, false, false, false, false, false, false, false, false, false, false] rfl rfl (any_of HT_.out (by kernel_rfl)) (fun _ _ _ h => h) (Or.inl ⟨by rfl, ?_⟩) ?_ ?_
      rotate_left
      ·intro w'; go_simp; with_reducible rfl
      rotate_left
      ·simp only [Act.put, xA, xZ, xS, i64_w, i32_w]; rfl
      refine pure_ (i := 6) (N := some 48) (v := ?_) (a' := ?_) #[true, true, true, true, true, true, true, false, false, false, false, false, false, false, false, false, false, false, false, false, false, false] rfl rfl (any_of HT_.out (by kernel_rfl)) (fun _ _ _ h => h) (Or.inl ⟨by rfl, ?_⟩) ?_ ?_
      rotate_left
      ·intro w'; go_simp; with_reducible rfl
      rotate_left
      ·simp only [Act.put, xA, xZ, xS, i64_w, i32_w]; rfl
      refine take_ (i := 7) (N := some 49) (v := ?_) (a' := ?_) #[true, true, true, true, true, true, true, true, false, false, false, false, false, false, false, false, false, false, false, false, false, false] rfl rfl (take_ofW HT_.out HW_.out (by kernel_rfl)) (fun _ _ _ h => h) (Or.inl ⟨by rfl, ?_⟩) hHeld ?_ ?_
      rotate_left
      ·rintro w' ⟨s0, s1, s2, s3, s4, s5, s6, s7⟩; go_simp; with_reducible rfl
      rotate_left
      ·simp only [Act.put, xA, xZ, xS, i64_w, i32_w]; rfl
      refine take_ (i := 9) (N := some 51) (v := ?_) (a' := ?_) #[true, true, true, true, true, true, true, true, false, true, false, false, false, false, false, false, false, false, false, false, false, false] rfl rfl (take_ofW HT_.out HW_.out (by kernel_rfl)) (fun _ _ _ h => h) (Or.inl ⟨by rfl, ?_⟩) hHeld ?_ ?_
      rotate_left
      ·rintro w' ⟨s0, s1, s2, s3, s4, s5, s6, s7⟩; go_simp; with_reducible rfl
      rotate_left
      ·simp only [Act.put, xA, xZ, xS, i64_w, i32_w]; rfl
      refine take_ (i := 13) (N := some 55) (v := ?_) (a' := ?_) #[true, true, true, true, true, true, true, true, false, true, false, false, false, true, false, false, false, false, false, false, false, false] rfl rfl (take_ofW HT_.out HW_.out (by kernel_rfl)) (fun _ _ _ h => h) (Or.inl ⟨by rfl, ?_⟩) hHeld ?_ ?_
      rotate_left
      ·rintro w' ⟨s0, s1, s2, s3, s4, s5, s6, s7⟩; go_simp; with_reducible rfl
      rotate_left
      ·simp only [Act.put, xA, xZ, xS, i64_w, i32_w]; rfl
      refine take_ (i := 15) (N := some 57) (v := ?_) (a' := ?_) #[true, true, true, true, true, true, true, true, false, true, false, false, false, true, false, true, false, false, false, false, false, false] rfl rfl (take_ofW HT_.out HW_.out (by kernel_rfl)) (fun _ _ _ h => h) (Or.inl ⟨by rfl, ?_⟩) hHeld ?_ ?_
      rotate_left
      ·rintro w' ⟨s0, s1, s2, s3, s4, s5, s6, s7⟩; go_simp; with_reducible rfl
      rotate_left
      ·simp only [Act.put, xA, xZ, xS, i64_w, i32_w]; rfl
      refine one_ (i := 8) (N := some 50) #[true, true, true, true, true, true, true, true, true, true, false, false, false, true, false, true, false, false, false, false, false, false] rfl rfl (one_of HT_.out (by kernel_rfl)) (by decide) (fun K hK => ?_)
      refine goes_ Try.func20 (by kernel_rfl) rfl #[.agg #[.slice Ao18 t555.length co18, .slice Ao22 t558.length co22, .int .i64 t561, .bool t562]] (by rfl) rfl rfl (by (try simp only [List.map_toArray, List.map_cons, List.map_nil]); first | done | rfl | (simp only [List.length_drop, List.length_take]; rfl)) ?_
      with_reducible refine (shelf_Free.calls kj5 _ _ t555 _ _ t558 t561 t562 t571 _ ?side1 ?side2 ?side3 ?side4 A36.out).mono ?_
      (case side1 => repeat (first | exact (Kd.V_reads' HO_565000.out).2.2 | (with_reducible refine Kd.C_alloc ?_ _) | (with_reducible refine Kd.C_drewN ?_ _) | (with_reducible refine Kd.C_drew ?_)))
      (case side2 => exact (Kd.V_reads' HO_565000.out).2.1)
      (case side3 => repeat (first | exact (Kd.V_reads' HO_565001.out).2.2 | (with_reducible refine Kd.C_alloc ?_ _) | (with_reducible refine Kd.C_drewN ?_ _) | (with_reducible refine Kd.C_drew ?_)))
      (case side4 => exact (Kd.V_reads' HO_565001.out).2.1)
      rintro e w43 ⟨rfl, hb⟩
      refine ⟨_, rfl, ?_⟩
      have n0_ := qM (Vb (by (with_reducible repeat first | apply VA | apply VN | apply VD); exact HO_565000.out) hb)
      have n1_ := qM (Vb (by (with_reducible repeat first | apply VA | apply VN | apply VD); exact HO_565001.out) hb)
      have n2_ := qM (Kd.R_below (by (with_reducible repeat first | apply RA | apply RN | apply RD); exact HO567.out) hb)
      have n3_ := qM (Kd.R_below (by (with_reducible repeat first | apply RA | apply RN | apply RD); exact HO570.out) hb)
      have n4_ := qM (qB (g := g550) (by (with_reducible repeat first | refine qN ?_ _ | refine qD ?_ | refine qA ?_ _); exact B550.out) hb)
      have n5_ := qM (qB (g := g551) (by (with_reducible repeat first | refine qN ?_ _ | refine qD ?_ | refine qA ?_ _); exact B551.out) hb)
      have n6_ := qM (qB (g := g564) (by (with_reducible repeat first | refine qN ?_ _ | refine qD ?_ | refine qA ?_ _); exact B564.out) hb)
      have n7_ := qM (eT (by repeat (first | (with_reducible first | exact HB.out | apply eA | apply eN | apply eD | refine eU ?_ (by assumption)) | exact HB.out)) hb)
      clear HO_565000
      clear HO_565001
      clear HO567
      clear HO570
      clear B550
      clear B551
      clear B564
      clear HB
      have HO_565000 := n0_
      have HO_565001 := n1_
      have HO567 := n2_
      have HO570 := n3_
      have B550 := n4_
      have B551 := n5_
      have B564 := n6_
      have HB := n7_
      clear n0_ n1_ n2_ n3_ n4_ n5_ n6_ n7_
      (try clear hb)
      (try clear hb2)
      (try clear hk)
      (try clear hi)
      refine hK.out _ _ ⟨(qC B564.out 0).trans rfl, (qC B564.out 1).trans rfl, (qC B564.out 2).trans rfl, (qC B564.out 3).trans rfl, (qC B550.out 0).trans rfl, (qC B550.out 1).trans rfl, (qC B550.out 2).trans rfl, (qC B550.out 3).trans rfl⟩ (fun hHeld => ?_)
      clear hK K
      refine norm_ (a' := ?_) ?_ ?_
      rotate_left
      ·show Act.put _ (some 50) _ = _
       simp only [Act.put, xA, xZ, xS, i64_w, i32_w]
       rfl
      refine one_ (i := 10) (N := some 52) #[true, true, true, true, true, true, true, true, true, true, true, false, false, true, false, true, false, false, false, false, false, false] rfl rfl (one_of HT_.out (by kernel_rfl)) (by decide) (fun K hK => ?_)
      refine goes_ Try.func16 (by kernel_rfl) rfl #[.agg #[.slice Ao18 t555.length co18, .slice Ao22 t558.length co22, .int .i64 t561, .bool t562]] (by rfl) rfl rfl (by (try simp only [List.map_toArray, List.map_cons, List.map_nil]); first | done | rfl | (simp only [List.length_drop, List.length_take]; rfl)) ?_
      with_reducible refine (shelf_Bad.calls kj5 _ _ t555 _ _ t558 t561 t562 t572 _ ?side1 ?side2 ?side3 ?side4 A37.out).mono ?_
      (case side1 => repeat (first | exact (Kd.V_reads' HO_565000.out).2.2 | (with_reducible refine Kd.C_alloc ?_ _) | (with_reducible refine Kd.C_drewN ?_ _) | (with_reducible refine Kd.C_drew ?_)))
      (case side2 => exact (Kd.V_reads' HO_565000.out).2.1)
      (case side3 => repeat (first | exact (Kd.V_reads' HO_565001.out).2.2 | (with_reducible refine Kd.C_alloc ?_ _) | (with_reducible refine Kd.C_drewN ?_ _) | (with_reducible refine Kd.C_drew ?_)))
      (case side4 => exact (Kd.V_reads' HO_565001.out).2.1)
      rintro e w44 ⟨v573, rfl, ho0, hb⟩
      refine ⟨_, rfl, ?_⟩
      have n0_ := qM (Kd.V_elder' (by (with_reducible repeat first | apply VA | apply VN | apply VD); exact HO_565000.out) (Kd.R_base ho0) hb)
      have n1_ := qM (Kd.V_elder' (by (with_reducible repeat first | apply VA | apply VN | apply VD); exact HO_565001.out) (Kd.R_base ho0) hb)
      have n2_ := qM (Kd.R_below (by (with_reducible repeat first | apply RA | apply RN | apply RD); exact HO567.out) hb)
      have n3_ := qM (Kd.R_below (by (with_reducible repeat first | apply RA | apply RN | apply RD); exact HO570.out) hb)
      have n4_ := qM (Kd.R_lower ho0 (eZ (by repeat (first | (with_reducible first | exact HB.out | apply eA | apply eN | apply eD | refine eU ?_ (by assumption)) | exact HB.out))))
      have n5_ := qM (qB (g := g550) (by (with_reducible repeat first | refine qN ?_ _ | refine qD ?_ | refine qA ?_ _); exact B550.out) hb)
      have n6_ := qM (qB (g := g551) (by (with_reducible repeat first | refine qN ?_ _ | refine qD ?_ | refine qA ?_ _); exact B551.out) hb)
      have n7_ := qM (qB (g := g564) (by (with_reducible repeat first | refine qN ?_ _ | refine qD ?_ | refine qA ?_ _); exact B564.out) hb)
      have n8_ := qM (eT (by repeat (first | (with_reducible first | exact HB.out | apply eA | apply eN | apply eD | refine eU ?_ (by assumption)) | exact HB.out)) hb)
      clear HO_565000
      clear HO_565001
      clear HO567
      clear HO570
      clear B550
      clear B551
      clear B564
      clear HB
      have HO_565000 := n0_
      have HO_565001 := n1_
      have HO567 := n2_
      have HO570 := n3_
      have HO574 := n4_
      have B550 := n5_
      have B551 := n6_
      have B564 := n7_
      have HB := n8_
      clear n0_ n1_ n2_ n3_ n4_ n5_ n6_ n7_ n8_
      (try clear hb)
      (try clear hb2)
      (try clear hk)
      (try clear hi)
      (try clear ho0)
      obtain ⟨Ao45, co45, eo45⟩ := Kd.R_slice HO574.out
      (first | subst eo45 | (injection eo45 with f1_ f2_ f3_; have f4_ := f1_.symm; have f5_ := f3_.symm; clear f1_ f2_ f3_; subst f4_; subst f5_))
      refine hK.out _ _ ⟨(qC B564.out 0).trans rfl, (qC B564.out 1).trans rfl, (qC B564.out 2).trans rfl, (qC B564.out 3).trans rfl, (qC B550.out 0).trans rfl, (qC B550.out 1).trans rfl, (qC B550.out 2).trans rfl, (qC B550.out 3).trans rfl⟩ (fun hHeld => ?_)
      clear hK K
      refine norm_ (a' := ?_) ?_ ?_
      rotate_left
      ·show Act.put _ (some 52) _ = _
       simp only [Act.put, xA, xZ, xS, i64_w, i32_w]
       rfl
      refine pure_ (i := 11) (N := some 53) (v := ?_) (a' := ?_) #[true, true, true, true, true, true, true, true, true, true, true, true, false, true, false, true, false, false, false, false, false, false] rfl rfl (any_of HT_.out (by kernel_rfl)) (fun _ _ _ h => h) (Or.inl ⟨by rfl, ?_⟩) ?_ ?_
      rotate_left
      ·intro w'; go_simp; with_reducible rfl
      rotate_left
      ·simp only [Act.put, xA, xZ, xS, i64_w, i32_w]; rfl
      refine pure_ (i := 12) (N := some 54) (v := ?_) (a' := ?_) #[true, true, true, true, true, true, true, true, true, true, true, true, true, true, false, true, false, false, false, false, false, false] rfl rfl (any_of HT_.out (by kernel_rfl)) (fun _ _ _ h => h) (Or.inl ⟨by rfl, ?_⟩) ?_ ?_
      rotate_left
      ·intro w'; go_simp; with_reducible rfl
      rotate_left
      ·simp only [Act.put, xA, xZ, xS, i64_w, i32_w]; rfl
      refine one_ (i := 14) (N := some 56) #[true, true, true, true, true, true, true, true, true, true, true, true, true, true, true, true, false, false, false, false, false, false] rfl rfl (one_of HT_.out (by kernel_rfl)) (by decide) (fun K hK => ?_)
      refine goes_ Try.func20 (by kernel_rfl) rfl #[.agg #[.slice A0_0 l0_0.length c0_0, .slice A0_1 l0_1.length c0_1, .int .i64 a0_2, .bool a0_3]] (by rfl) rfl rfl (by (try simp only [List.map_toArray, List.map_cons, List.map_nil]); first | done | rfl | (simp only [List.length_drop, List.length_take]; rfl)) ?_
      with_reducible refine (shelf_Free.calls kj5 _ _ l0_0 _ _ l0_1 a0_2 a0_3 t575 _ ?side1 ?side2 ?side3 ?side4 A38.out).mono ?_
      (case side1 => repeat (first | exact (Kd.C_below HR0_0.out HB.out) | (with_reducible refine Kd.C_alloc ?_ _) | (with_reducible refine Kd.C_drewN ?_ _) | (with_reducible refine Kd.C_drew ?_)))
      (case side2 => exact HC0_0.out)
      (case side3 => repeat (first | exact (Kd.C_below HR0_1.out HB.out) | (with_reducible refine Kd.C_alloc ?_ _) | (with_reducible refine Kd.C_drewN ?_ _) | (with_reducible refine Kd.C_drew ?_)))
      (case side4 => exact HC0_1.out)
      rintro e w46 ⟨rfl, hb⟩
      refine ⟨_, rfl, ?_⟩
      have n0_ := qM (Vb (by (with_reducible repeat first | apply VA | apply VN | apply VD); exact HO_565000.out) hb)
      have n1_ := qM (Vb (by (with_reducible repeat first | apply VA | apply VN | apply VD); exact HO_565001.out) hb)
      have n2_ := qM (Kd.R_below (by (with_reducible repeat first | apply RA | apply RN | apply RD); exact HO567.out) hb)
      have n3_ := qM (Kd.R_below (by (with_reducible repeat first | apply RA | apply RN | apply RD); exact HO570.out) hb)
      have n4_ := qM (Kd.R_below (by (with_reducible repeat first | apply RA | apply RN | apply RD); exact HO574.out) hb)
      have n5_ := qM (qB (g := g550) (by (with_reducible repeat first | refine qN ?_ _ | refine qD ?_ | refine qA ?_ _); exact B550.out) hb)
      have n6_ := qM (qB (g := g551) (by (with_reducible repeat first | refine qN ?_ _ | refine qD ?_ | refine qA ?_ _); exact B551.out) hb)
      have n7_ := qM (qB (g := g564) (by (with_reducible repeat first | refine qN ?_ _ | refine qD ?_ | refine qA ?_ _); exact B564.out) hb)
      have n8_ := qM (eT (by repeat (first | (with_reducible first | exact HB.out | apply eA | apply eN | apply eD | refine eU ?_ (by assumption)) | exact HB.out)) hb)
      clear HO_565000
      clear HO_565001
      clear HO567
      clear HO570
      clear HO574
      clear B550
      clear B551
      clear B564
      clear HB
      have HO_565000 := n0_
      have HO_565001 := n1_
      have HO567 := n2_
      have HO570 := n3_
      have HO574 := n4_
      have B550 := n5_
      have B551 := n6_
      have B564 := n7_
      have HB := n8_
      clear n0_ n1_ n2_ n3_ n4_ n5_ n6_ n7_ n8_
      (try clear hb)
      (try clear hb2)
      (try clear hk)
      (try clear hi)
      refine hK.out _ _ ⟨(qC B564.out 0).trans rfl, (qC B564.out 1).trans rfl, (qC B564.out 2).trans rfl, (qC B564.out 3).trans rfl, (qC B550.out 0).trans rfl, (qC B550.out 1).trans rfl, (qC B550.out 2).trans rfl, (qC B550.out 3).trans rfl⟩ (fun hHeld => ?_)
      clear hK K
      refine norm_ (a' := ?_) ?_ ?_
      rotate_left
      ·show Act.put _ (some 56) _ = _
       simp only [Act.put, xA, xZ, xS, i64_w, i32_w]
       rfl
      refine one_ (i := 16) (N := some 58) #[true, true, true, true, true, true, true, true, true, true, true, true, true, true, true, true, true, false, false, false, false, false] rfl rfl (one_of HT_.out (by kernel_rfl)) (by decide) (fun K hK => ?_)
      refine goes_ Try.func16 (by kernel_rfl) rfl #[.agg #[.slice A0_0 l0_0.length c0_0, .slice A0_1 l0_1.length c0_1, .int .i64 a0_2, .bool a0_3]] (by rfl) rfl rfl (by (try simp only [List.map_toArray, List.map_cons, List.map_nil]); first | done | rfl | (simp only [List.length_drop, List.length_take]; rfl)) ?_
      with_reducible refine (shelf_Bad.calls kj5 _ _ l0_0 _ _ l0_1 a0_2 a0_3 t576 _ ?side1 ?side2 ?side3 ?side4 A39.out).mono ?_
      (case side1 => repeat (first | exact (Kd.C_below HR0_0.out HB.out) | (with_reducible refine Kd.C_alloc ?_ _) | (with_reducible refine Kd.C_drewN ?_ _) | (with_reducible refine Kd.C_drew ?_)))
      (case side2 => exact HC0_0.out)
      (case side3 => repeat (first | exact (Kd.C_below HR0_1.out HB.out) | (with_reducible refine Kd.C_alloc ?_ _) | (with_reducible refine Kd.C_drewN ?_ _) | (with_reducible refine Kd.C_drew ?_)))
      (case side4 => exact HC0_1.out)
      rintro e w47 ⟨v577, rfl, ho0, hb⟩
      refine ⟨_, rfl, ?_⟩
      have n0_ := qM (Kd.V_elder' (by (with_reducible repeat first | apply VA | apply VN | apply VD); exact HO_565000.out) (Kd.R_base ho0) hb)
      have n1_ := qM (Kd.V_elder' (by (with_reducible repeat first | apply VA | apply VN | apply VD); exact HO_565001.out) (Kd.R_base ho0) hb)
      have n2_ := qM (Kd.R_below (by (with_reducible repeat first | apply RA | apply RN | apply RD); exact HO567.out) hb)
      have n3_ := qM (Kd.R_below (by (with_reducible repeat first | apply RA | apply RN | apply RD); exact HO570.out) hb)
      have n4_ := qM (Kd.R_elder' (by (with_reducible repeat first | apply RA | apply RN | apply RD); exact HO574.out) (Kd.R_base ho0) hb)
      have n5_ := qM (Kd.R_lower (Kd.R_new' ho0 (Kd.R_lt (by (with_reducible repeat first | apply RA | apply RN | apply RD); exact HO574.out))) (eZ (by repeat (first | (with_reducible first | exact HB.out | apply eA | apply eN | apply eD | refine eU ?_ (by assumption)) | exact HB.out))))
      have n6_ := qM (qB (g := g550) (by (with_reducible repeat first | refine qN ?_ _ | refine qD ?_ | refine qA ?_ _); exact B550.out) hb)
      have n7_ := qM (qB (g := g551) (by (with_reducible repeat first | refine qN ?_ _ | refine qD ?_ | refine qA ?_ _); exact B551.out) hb)
      have n8_ := qM (qB (g := g564) (by (with_reducible repeat first | refine qN ?_ _ | refine qD ?_ | refine qA ?_ _); exact B564.out) hb)
      have n9_ := qM (eT (by repeat (first | (with_reducible first | exact HB.out | apply eA | apply eN | apply eD | refine eU ?_ (by assumption)) | exact HB.out)) hb)
      clear HO_565000
      clear HO_565001
      clear HO567
      clear HO570
      clear HO574
      clear B550
      clear B551
      clear B564
      clear HB
      have HO_565000 := n0_
      have HO_565001 := n1_
      have HO567 := n2_
      have HO570 := n3_
      have HO574 := n4_
      have HO578 := n5_
      have B550 := n6_
      have B551 := n7_
      have B564 := n8_
      have HB := n9_
      clear n0_ n1_ n2_ n3_ n4_ n5_ n6_ n7_ n8_ n9_
      (try clear hb)
      (try clear hb2)
      (try clear hk)
      (try clear hi)
      (try clear ho0)
      obtain ⟨Ao48, co48, eo48⟩ := Kd.R_slice HO578.out
      (first | subst eo48 | (injection eo48 with f1_ f2_ f3_; have f4_ := f1_.symm; have f5_ := f3_.symm; clear f1_ f2_ f3_; subst f4_; subst f5_))
      refine hK.out _ _ ⟨(qC B564.out 0).trans rfl, (qC B564.out 1).trans rfl, (qC B564.out 2).trans rfl, (qC B564.out 3).trans rfl, (qC B550.out 0).trans rfl, (qC B550.out 1).trans rfl, (qC B550.out 2).trans rfl, (qC B550.out 3).trans rfl⟩ (fun hHeld => ?_)
      clear hK K
      refine norm_ (a' := ?_) ?_ ?_
      rotate_left
      ·show Act.put _ (some 58) _ = _
       simp only [Act.put, xA, xZ, xS, i64_w, i32_w]
       rfl
      refine pure_ (i := 17) (N := some 59) (v := ?_) (a' := ?_) #[true, true, true, true, true, true, true, true, true, true, true, true, true, true, true, true, true, true, false, false, false, false] rfl rfl (any_of HT_.out (by kernel_rfl)) (fun _ _ _ h => h) (Or.inl ⟨by rfl, ?_⟩) ?_ ?_
      rotate_left
      ·intro w'; go_simp; with_reducible rfl
      rotate_left
      ·simp only [Act.put, xA, xZ, xS, i64_w, i32_w]; rfl
      refine pure_ (i := 18) (N := some 60) (v := ?_) (a' := ?_) #[true, true, true, true, true, true, true, true, true, true, true, true, true, true, true, true, true, true, true, false, false, false] rfl rfl (any_of HT_.out (by kernel_rfl)) (fun _ _ _ h => h) (Or.inl ⟨by rfl, ?_⟩) ?_ ?_
      rotate_left
      ·intro w'; go_simp; with_reducible rfl
      rotate_left
      ·simp only [Act.put, xA, xZ, xS, i64_w, i32_w]; rfl
      refine pure_ (i := 19) (N := some 61) (v := ?_) (a' := ?_) #[true, true, true, true, true, true, true, true, true, true, true, true, true, true, true, true, true, true, true, true, false, false] rfl rfl (any_of HT_.out (by kernel_rfl)) (fun _ _ _ h => h) (Or.inl ⟨by rfl, ?_⟩) ?_ ?_
      rotate_left
      ·intro w'; go_simp; with_reducible rfl
      rotate_left
      ·simp only [Act.put, xA, xZ, xS, i64_w, i32_w]; rfl
      refine pure_ (i := 20) (N := some 62) (v := ?_) (a' := ?_) #[true, true, true, true, true, true, true, true, true, true, true, true, true, true, true, true, true, true, true, true, true, false] rfl rfl (any_of HT_.out (by kernel_rfl)) (fun _ _ _ h => h) (Or.inl ⟨by rfl, ?_⟩) ?_ ?_
      rotate_left
      ·intro w'; go_simp; with_reducible rfl
      rotate_left
      ·simp only [Act.put, xA, xZ, xS, i64_w, i32_w]; rfl
      refine pure_ (i := 21) (N := some 63) (v := ?_) (a' := ?_) #[true, true, true, true, true, true, true, true, true, true, true, true, true, true, true, true, true, true, true, true, true, true] rfl rfl (any_of HT_.out (by kernel_rfl)) (fun _ _ _ h => h) (Or.inl ⟨by rfl, ?_⟩) ?_ ?_
      rotate_left
      ·intro w'; go_simp; with_reducible rfl
      rotate_left
      ·simp only [Act.put, xA, xZ, xS, i64_w, i32_w]; rfl
      refine done_ (done_of HT_.out (by kernel_rfl)) ?_
      try go_wp2
      go_meet
      case rel => exact ⟨_, (((wrap64 (t571 + (t572.length : Int))) != (wrap64 ((wrap64 (t575 + (t576.length : Int))) - 1)))), (by first | rfl | (simp; done) | (simp [*]; done)), H', ⟨by have := HJ5.out; first | omega | exact Nat.le_refl _⟩, ⟨by (with_reducible repeat first | apply RA | apply RN | apply RD); exact Kd.R_mono HO567.out (fun _ hk => hk.2)⟩, ⟨by (with_reducible repeat first | apply RA | apply RN | apply RD); exact Kd.R_mono HO570.out (fun _ hk => hk.2)⟩, ⟨by (with_reducible repeat first | apply VA | apply VN | apply VD); exact Vm HO_565000.out (fun _ hk => ⟨hk.1.1.1.2, ⟨hk.1.1.2, ⟨hk.1.1.1.1.1, ⟨hk.1.1.1.1.2.1, hk.1.1.1.1.2.2⟩⟩⟩⟩)⟩, ⟨by (with_reducible repeat first | apply VA | apply VN | apply VD); exact Vm HO_565001.out (fun _ hk => ⟨hk.1.1.1.2, ⟨hk.1.1.2, ⟨hk.1.1.1.1.1, ⟨hk.1.1.1.1.2.1, hk.1.1.1.1.2.2⟩⟩⟩⟩)⟩, ⟨by (with_reducible repeat first | refine qN ?_ _ | refine qD ?_ | refine qA ?_ _); exact B550.out⟩, ⟨by (with_reducible repeat first | refine qN ?_ _ | refine qD ?_ | refine qA ?_ _); exact B551.out⟩, ⟨by (with_reducible repeat first | refine qN ?_ _ | refine qD ?_ | refine qA ?_ _); exact B564.out⟩, ⟨by repeat (first | (with_reducible first | exact HB.out | apply eA | apply eN | apply eD | refine eS ?_ GE550.out | refine eS ?_ GE551.out | refine eS ?_ GE564.out) | exact HB.out)⟩⟩
     ·rw [if_neg c35] at H
      have c35b0 : ((t568.length : Int) == (wrap64 ((t565.length : Int) + 1))) = false := beq_eq_false_iff_ne.mpr c35
      have c35b1 : ((t568.length : Int) != (wrap64 ((t565.length : Int) + 1))) = true := bne_iff_ne.mpr c35
      (first | rw [c35b0] | (simp only [i64_w, i32_w]; rw [c35b0]) | skip)
      have H' := qM H
      clear H
      try go_wp2
      have n0_ := qM (Kd.V_drew HO_565000.out)
      have n1_ := qM (Kd.V_drew HO_565001.out)
      have n2_ := qM (Kd.R_drew HO567.out)
      have n3_ := qM (Kd.R_drew HO570.out)
      have n4_ := qM (blk_drew B550.out)
      have n5_ := qM (blk_drew B551.out)
      have n6_ := qM (blk_drew B564.out)
      have n7_ := qM (below_drew1 HB.out)
      clear HO_565000
      clear HO_565001
      clear HO567
      clear HO570
      clear B550
      clear B551
      clear B564
      clear HB
      have HO_565000 := n0_
      have HO_565001 := n1_
      have HO567 := n2_
      have HO570 := n3_
      have B550 := n4_
      have B551 := n5_
      have B564 := n6_
      have HB := n7_
      clear n0_ n1_ n2_ n3_ n4_ n5_ n6_ n7_
      obtain ⟨Ao50, co50, eo50⟩ := Kd.R_slice HO570.out
      (first | subst eo50 | (injection eo50 with f1_ f2_ f3_; have f4_ := f1_.symm; have f5_ := f3_.symm; clear f1_ f2_ f3_; subst f4_; subst f5_))
      obtain ⟨Ao51, co51, eo51⟩ := Kd.R_slice HO567.out
      (first | subst eo51 | (injection eo51 with f1_ f2_ f3_; have f4_ := f1_.symm; have f5_ := f3_.symm; clear f1_ f2_ f3_; subst f4_; subst f5_))
      refine start_ (n := 22) (S := fun w' => True) (ds := []) #[false, false, false, false, false, false, false, false, false, false, false, false, false, false, false, false, false, false, false, false, false, false] (by kernel_rfl) rfl rfl trivial (fun hHeld => ?_); refine with_tabW hogsheadlaw10_ShelfRoom.tab8 hogsheadlaw10_ShelfRoom.bits8 (fun HT_ HW_ => ?_)
      generalize w34.drew = w49 at HO_565000 HO_565001 HO567 HO570 B550 B551 B564 HB hHeld ⊢
      refine pure_ (i := 0) (N := some 42) (v := ?_) (a' := ?_) #[true, false, false, false, false, false, false, false, false, false, false, false, false, false, false, false, false, false, false, false, false, false] rfl rfl (any_of HT_.out (by kernel_rfl)) (fun _ _ _ h => h) (Or.inl ⟨by rfl, ?_⟩) ?_ ?_
      rotate_left
      ·intro w'; go_simp; with_reducible rfl
      rotate_left
      ·simp only [Act.put, xA, xZ, xS, i64_w, i32_w]; rfl
      refine pure_ (i := 1) (N := some 43) (v := ?_) (a' := ?_) #[true, true, false, false, false, false, false, false, false, false, false, false, false, false, false, false, false, false, false, false, false, false] rfl rfl (any_of HT_.out (by kernel_rfl)) (fun _ _ _ h => h) (Or.inl ⟨by rfl, ?_⟩) ?_ ?_
      rotate_left
      ·intro w'; go_simp; with_reducible rfl
      rotate_left
      ·simp only [Act.put, xA, xZ, xS, i64_w, i32_w]; rfl
      refine pure_ (i := 2) (N := some 44) (v := ?_) (a' := ?_) #[true, true, true, false, false, false, false, false, false, false, false, false, false, false, false, false, false, false, false, false, false, false] rfl rfl (any_of HT_.out (by kernel_rfl)) (fun _ _ _ h => h) (Or.inl ⟨by rfl, ?_⟩) ?_ ?_
      rotate_left
      ·intro w'; go_simp; with_reducible rfl
      rotate_left
      ·simp only [Act.put, xA, xZ, xS, i64_w, i32_w]; rfl
      refine pure_ (i := 3) (N := some 45) (v := ?_) (a' := ?_) #[true, true, true, true, false, false, false, false, false, false, false, false, false, false, false, false, false, false, false, false, false, false] rfl rfl (any_of HT_.out (by kernel_rfl)) (fun _ _ _ h => h) (Or.inl ⟨by rfl, ?_⟩) ?_ ?_
      rotate_left
      ·intro w'; go_simp; with_reducible rfl
      rotate_left
      ·simp only [Act.put, xA, xZ, xS, i64_w, i32_w]; rfl
      refine pure_ (i := 4) (N := some 46) (v := ?_) (a' := ?_) #[true, true, true, true, true, false, false, false, false, false, false, false, false, false, false, false, false, false, false, false, false, false] rfl rfl (any_of HT_.out (by kernel_rfl)) (fun _ _ _ h => h) (Or.inl ⟨by rfl, ?_⟩) ?_ ?_
      rotate_left
      ·intro w'; go_simp; with_reducible rfl
      rotate_left
      ·simp only [Act.put, xA, xZ, xS, i64_w, i32_w]; rfl
      refine pure_ (i := 5) (N := some 47) (v := ?_) (a' := ?_) #[true, true, true, true, true, true, false, false, false, false, false, false, false, false, false, false, false, false, false, false, false, false] rfl rfl (any_of HT_.out (by kernel_rfl)) (fun _ _ _ h => h) (Or.inl ⟨by rfl, ?_⟩) ?_ ?_
      rotate_left
      ·intro w'; go_simp; with_reducible rfl
      rotate_left
      ·simp only [Act.put, xA, xZ, xS, i64_w, i32_w]; rfl
      refine pure_ (i := 6) (N := some 48) (v := ?_) (a' := ?_) #[true, true, true, true, true, true, true, false, false, false, false, false, false, false, false, false, false, false, false, false, false, false] rfl rfl (any_of HT_.out (by kernel_rfl)) (fun _ _ _ h => h) (Or.inl ⟨by rfl, ?_⟩) ?_ ?_
      rotate_left
      ·intro w'; go_simp; with_reducible rfl
      rotate_left
      ·simp only [Act.put, xA, xZ, xS, i64_w, i32_w]; rfl
      refine pure_ (i := 7) (N := some 49) (v := undef) (a' := ?_) #[true, true, true, true, true, true, true, true, false, false, false, false, false, false, false, false, false, false, false, false, false, false] rfl rfl (any_of HT_.out (by kernel_rfl)) (fun _ _ _ h => h) (Or.inr ⟨by rfl, rfl⟩) ?_ ?_
      rotate_left
      ·simp only [Act.put, xA, xZ, xS, i64_w, i32_w]; rfl
      refine pure_ (i := 8) (N := some 50) (v := undef) (a' := ?_) #[true, true, true, true, true, true, true, true, true, false, false, false, false, false, false, false, false, false, false, false, false, false] rfl rfl (any_of HT_.out (by kernel_rfl)) (fun _ _ _ h => h) (Or.inr ⟨by rfl, rfl⟩) ?_ ?_
      rotate_left
      ·simp only [Act.put, xA, xZ, xS, i64_w, i32_w]; rfl
      refine pure_ (i := 9) (N := some 51) (v := undef) (a' := ?_) #[true, true, true, true, true, true, true, true, true, true, false, false, false, false, false, false, false, false, false, false, false, false] rfl rfl (any_of HT_.out (by kernel_rfl)) (fun _ _ _ h => h) (Or.inr ⟨by rfl, rfl⟩) ?_ ?_
      rotate_left
      ·simp only [Act.put, xA, xZ, xS, i64_w, i32_w]; rfl
      refine pure_ (i := 10) (N := some 52) (v := undef) (a' := ?_) #[true, true, true, true, true, true, true, true, true, true, true, false, false, false, false, false, false, false, false, false, false, false] rfl rfl (any_of HT_.out (by kernel_rfl)) (fun _ _ _ h => h) (Or.inr ⟨by rfl, rfl⟩) ?_ ?_
      rotate_left
      ·simp only [Act.put, xA, xZ, xS, i64_w, i32_w]; rfl
      refine pure_ (i := 11) (N := some 53) (v := undef) (a' := ?_) #[true, true, true, true, true, true, true, true, true, true, true, true, false, false, false, false, false, false, false, false, false, false] rfl rfl (any_of HT_.out (by kernel_rfl)) (fun _ _ _ h => h) (Or.inr ⟨by rfl, rfl⟩) ?_ ?_
      rotate_left
      ·simp only [Act.put, xA, xZ, xS, i64_w, i32_w]; rfl
      refine pure_ (i := 12) (N := some 54) (v := undef) (a' := ?_) #[true, true, true, true, true, true, true, true, true, true, true, true, true, false, false, false, false, false, false, false, false, false] rfl rfl (any_of HT_.out (by kernel_rfl)) (fun _ _ _ h => h) (Or.inr ⟨by rfl, rfl⟩) ?_ ?_
      rotate_left
      ·simp only [Act.put, xA, xZ, xS, i64_w, i32_w]; rfl
      refine pure_ (i := 13) (N := some 55) (v := undef) (a' := ?_) #[true, true, true, true, true, true, true, true, true, true, true, true, true, true, false, false, false, false, false, false, false, false] rfl rfl (any_of HT_.out (by kernel_rfl)) (fun _ _ _ h => h) (Or.inr ⟨by rfl, rfl⟩) ?_ ?_
      rotate_left
      ·simp only [Act.put, xA, xZ, xS, i64_w, i32_w]; rfl
      refine pure_ (i := 14) (N := some 56) (v := undef) (a' := ?_) #[true, true, true, true, true, true, true, true, true, true, true, true, true, true, true, false, false, false, false, false, false, false] rfl rfl (any_of HT_.out (by kernel_rfl)) (fun _ _ _ h => h) (Or.inr ⟨by rfl, rfl⟩) ?_ ?_
      rotate_left
      ·simp only [Act.put, xA, xZ, xS, i64_w, i32_w]; rfl
      refine pure_ (i := 15) (N := some 57) (v := undef) (a' := ?_) #[true, true, true, true, true, true, true, true, true, true, true, true, true, true, true, true, false, false, false, false, false, false] rfl rfl (any_of HT_.out (by kernel_rfl)) (fun _ _ _ h => h) (Or.inr ⟨by rfl, rfl⟩) ?_ ?_
      rotate_left
      ·simp only [Act.put, xA, xZ, xS, i64_w, i32_w]; rfl
      refine pure_ (i := 16) (N := some 58) (v := undef) (a' := ?_) #[true, true, true, true, true, true, true, true, true, true, true, true, true, true, true, true, true, false, false, false, false, false] rfl rfl (any_of HT_.out (by kernel_rfl)) (fun _ _ _ h => h) (Or.inr ⟨by rfl, rfl⟩) ?_ ?_
      rotate_left
      ·simp only [Act.put, xA, xZ, xS, i64_w, i32_w]; rfl
      refine pure_ (i := 17) (N := some 59) (v := undef) (a' := ?_) #[true, true, true, true, true, true, true, true, true, true, true, true, true, true, true, true, true, true, false, false, false, false] rfl rfl (any_of HT_.out (by kernel_rfl)) (fun _ _ _ h => h) (Or.inr ⟨by rfl, rfl⟩) ?_ ?_
      rotate_left
      ·simp only [Act.put, xA, xZ, xS, i64_w, i32_w]; rfl
      refine pure_ (i := 18) (N := some 60) (v := undef) (a' := ?_) #[true, true, true, true, true, true, true, true, true, true, true, true, true, true, true, true, true, true, true, false, false, false] rfl rfl (any_of HT_.out (by kernel_rfl)) (fun _ _ _ h => h) (Or.inr ⟨by rfl, rfl⟩) ?_ ?_
      rotate_left
      ·simp only [Act.put, xA, xZ, xS, i64_w, i32_w]; rfl
      refine pure_ (i := 19) (N := some 61) (v := undef) (a' := ?_) #[true, true, true, true, true, true, true, true, true, true, true, true, true, true, true, true, true, true, true, true, false, false] rfl rfl (any_of HT_.out (by kernel_rfl)) (fun _ _ _ h => h) (Or.inr ⟨by rfl, rfl⟩) ?_ ?_
      rotate_left
      ·simp only [Act.put, xA, xZ, xS, i64_w, i32_w]; rfl
      refine pure_ (i := 20) (N := some 62) (v := undef) (a' := ?_) #[true, true, true, true, true, true, true, true, true, true, true, true, true, true, true, true, true, true, true, true, true, false] rfl rfl (any_of HT_.out (by kernel_rfl)) (fun _ _ _ h => h) (Or.inr ⟨by rfl, rfl⟩) ?_ ?_
      rotate_left
      ·simp only [Act.put, xA, xZ, xS, i64_w, i32_w]; rfl
      refine pure_ (i := 21) (N := some 63) (v := ?_) (a' := ?_) #[true, true, true, true, true, true, true, true, true, true, true, true, true, true, true, true, true, true, true, true, true, true] rfl rfl (any_of HT_.out (by kernel_rfl)) (fun _ _ _ h => h) (Or.inl ⟨by rfl, ?_⟩) ?_ ?_
      rotate_left
      ·intro w'; go_simp; with_reducible rfl
      rotate_left
      ·simp only [Act.put, xA, xZ, xS, i64_w, i32_w]; rfl
      refine done_ (done_of HT_.out (by kernel_rfl)) ?_
      try go_wp2
      go_meet
      case rel => exact ⟨_, (true), (by first | rfl | (simp; done) | (simp [*]; done)), H', ⟨by have := HJ5.out; first | omega | exact Nat.le_refl _⟩, ⟨by (with_reducible repeat first | apply RA | apply RN | apply RD); exact Kd.R_mono HO567.out (fun _ hk => hk.2)⟩, ⟨by (with_reducible repeat first | apply RA | apply RN | apply RD); exact Kd.R_mono HO570.out (fun _ hk => hk.2)⟩, ⟨by (with_reducible repeat first | apply VA | apply VN | apply VD); exact Vm HO_565000.out (fun _ hk => ⟨hk.1.2, ⟨hk.2, ⟨hk.1.1.1, ⟨hk.1.1.2.1, hk.1.1.2.2⟩⟩⟩⟩)⟩, ⟨by (with_reducible repeat first | apply VA | apply VN | apply VD); exact Vm HO_565001.out (fun _ hk => ⟨hk.1.2, ⟨hk.2, ⟨hk.1.1.1, ⟨hk.1.1.2.1, hk.1.1.2.2⟩⟩⟩⟩)⟩, ⟨by (with_reducible repeat first | refine qN ?_ _ | refine qD ?_ | refine qA ?_ _); exact B550.out⟩, ⟨by (with_reducible repeat first | refine qN ?_ _ | refine qD ?_ | refine qA ?_ _); exact B551.out⟩, ⟨by (with_reducible repeat first | refine qN ?_ _ | refine qD ?_ | refine qA ?_ _); exact B564.out⟩, ⟨by repeat (first | (with_reducible first | exact HB.out | apply eA | apply eN | apply eD | refine eS ?_ GE550.out | refine eS ?_ GE551.out | refine eS ?_ GE564.out) | exact HB.out)⟩⟩
    case rest =>
     clear HC27
     try clear c1
     try clear c2
     try clear p2
     try clear c3
     try clear p6
     try clear c13
     try clear c16
     try clear c20
     try clear c28
     try clear c29
     try clear c32
     try clear c35
     try clear c35b0
     try clear c35b1
     try clear z30_0
     try clear z30_1
     try clear z30_2
     try clear z30_3
     try clear z33_0
     try clear z33_1
     try clear z33_2
     try clear z33_3
     try clear f30_0
     try clear f30_1
     try clear f30_2
     try clear f30_3
     try clear f33_0
     try clear f33_1
     try clear f33_2
     try clear f33_3
     obtain ⟨kq, x63_26, rfl, HA, HJ26, HO_10, HO_11, HO_565000, HO_565001, B550, B551, B564, HB⟩ := hcut
     cases kq with
     | zero => exact absurd HA.out (by simp [hogsheadlaw10_ShelfRoom.j1])
     | succ kj26 =>
      have H := HA.out
      clear HA
      simp only [hogsheadlaw10_ShelfRoom.j1] at H
      by_cases c52 : x63_26 = true
      ·subst c52
       have H1 : (some false) = some r := by rw [if_pos rfl] at H; exact H
       clear H
       have H := H1
       clear H1
       obtain rfl := Option.some.inj H
       go_wp2
       go_ret
       exact ⟨by first | rfl | (simp [errW_none, errW_some] <;> rfl) | (simp [*, errW_none, errW_some] <;> rfl), by repeat (first | (with_reducible first | exact HB.out | apply eA | apply eN | apply eD | refine eS ?_ GE550.out | refine eS ?_ GE551.out | refine eS ?_ GE564.out) | exact HB.out)⟩
      ·replace c52 := Bool.eq_false_iff.mpr c52
       subst c52
       have H1 : (hogsheadlaw10_ShelfRoom.l0 kj26 t552 t565 t568 0 0) = some r := by rw [if_neg (show ¬ (false = true) by decide)] at H; exact H
       clear H
       have H := H1
       clear H1
       have H' := qM H
       clear H
       go_wp2
       go_loopg [12, 13] kj26 (fun kq v12 v13 w' => ∃ (x12_3 : Int) (x13_3 : Int), v12 = .int .i64 x12_3 ∧ v13 = .int .i64 x13_3 ∧ Aside0 (hogsheadlaw10_ShelfRoom.l0 kq t552 t565 t568 x12_3 x13_3 = some r) ∧ Aside0 (kq ≤ kj26) ∧ Aside0 (Kd.R k27 27 w' w.heap.size (fun k_ => some k_ ≠ (v569 : Value).ownBlock) v566 t565) ∧ Aside0 (Kd.R k27 27 w' w.heap.size (fun k_ => some k_ ≠ (v566 : Value).ownBlock) v569 t568) ∧ Aside0 (Kd.V Kd.string 9 w' w.heap.size (fun k_ => some k_ ≠ (v566 : Value).ownBlock ∧ some k_ ≠ (v569 : Value).ownBlock ∧ k_ ≠ g550 ∧ k_ ≠ g551 ∧ k_ ≠ g564) (.slice Ao18 t555.length co18) t555) ∧ Aside0 (Kd.V k94 94 w' w.heap.size (fun k_ => some k_ ≠ (v566 : Value).ownBlock ∧ some k_ ≠ (v569 : Value).ownBlock ∧ k_ ≠ g550 ∧ k_ ≠ g551 ∧ k_ ≠ g564) (.slice Ao22 t558.length co22) t558) ∧ Aside0 (w'.heap[g550]? = some (.cells #[(.slice A0_0 l0_0.length c0_0), (.slice A0_1 l0_1.length c0_1), .int .i64 a0_2, .bool a0_3] 25 (0, 0))) ∧ Aside0 (w'.heap[g551]? = some (.cells #[.int .i64 a1_0, .int .i64 a1_1, .string a1_2] 43 (0, 0))) ∧ Aside0 (w'.heap[g564]? = some (.cells #[(.slice Ao18 t555.length co18), (.slice Ao22 t558.length co22), .int .i64 t561, .bool t562] 25 (0, 0))) ∧ Aside0 (Below w.heap.size w w'))
       case atStart => exact ⟨(0), (0), (by first | rfl | (simp; done) | (simp [*]; done)), (by first | rfl | (simp; done) | (simp [*]; done)), H', ⟨Nat.le_refl _⟩, ⟨by (with_reducible repeat first | apply RA | apply RN | apply RD); exact HO_10.out⟩, ⟨by (with_reducible repeat first | apply RA | apply RN | apply RD); exact HO_11.out⟩, ⟨by (with_reducible repeat first | apply VA | apply VN | apply VD); exact HO_565000.out⟩, ⟨by (with_reducible repeat first | apply VA | apply VN | apply VD); exact HO_565001.out⟩, ⟨by (with_reducible repeat first | refine qN ?_ _ | refine qD ?_ | refine qA ?_ _); exact B550.out⟩, ⟨by (with_reducible repeat first | refine qN ?_ _ | refine qD ?_ | refine qA ?_ _); exact B551.out⟩, ⟨by (with_reducible repeat first | refine qN ?_ _ | refine qD ?_ | refine qA ?_ _); exact B564.out⟩, ⟨by repeat (first | (with_reducible first | exact HB.out | apply eA | apply eN | apply eD | refine eS ?_ GE550.out | refine eS ?_ GE551.out | refine eS ?_ GE564.out) | exact HB.out)⟩⟩
       case round =>
        clear H'
        try clear c1
        try clear c2
        try clear p2
        try clear c3
        try clear c5
        try clear p6
        try clear c13
        try clear c16
        try clear c20
        try clear c28
        try clear c29
        try clear c32
        try clear c35
        try clear c35b0
        try clear c35b1
        try clear c52
        try clear z30_0
        try clear z30_1
        try clear z30_2
        try clear z30_3
        try clear z33_0
        try clear z33_1
        try clear z33_2
        try clear z33_3
        try clear f30_0
        try clear f30_1
        try clear f30_2
        try clear f30_3
        try clear f33_0
        try clear f33_1
        try clear f33_2
        try clear f33_3
        try clear p2
        try clear p6
        obtain ⟨x12_3, x13_3, rfl, rfl, HA, HK3, HO_10, HO_11, HO_565000, HO_565001, B550, B551, B564, HB⟩ := hrel
        cases gk with
        | zero => exact absurd HA.out (by simp [hogsheadlaw10_ShelfRoom.l0])
        | succ k3 =>
         have H := HA.out
         clear HA
         simp only [hogsheadlaw10_ShelfRoom.l0] at H
         by_cases c53 : x13_3 < (t568.length : Int)
         ·rw [if_pos c53] at H
          have c53b0 : decide (x13_3 < (t568.length : Int)) = true := decide_eq_true c53
          clear c53
          have HC54 := qM H
          clear H
          obtain ⟨Ao55, co55, eo55⟩ := Kd.R_slice HO_11.out
          subst eo55
          go_upto_region 14 with (fail)
          go_cut [84] (fun v84 wc => ∃ (kq : Nat) (x84_53 : Bool), v84 = .bool x84_53 ∧ Aside0 (hogsheadlaw10_ShelfRoom.j3 kq t552 t565 t568 x12_3 x13_3 x84_53 = some r) ∧ Aside0 (kq ≤ k3) ∧ Aside0 (Kd.R k27 27 wc w.heap.size (fun k_ => some k_ ≠ ((.slice Ao55 t568.length co55) : Value).ownBlock) v566 t565) ∧ Aside0 (Kd.R k27 27 wc w.heap.size (fun k_ => some k_ ≠ (v566 : Value).ownBlock) (.slice Ao55 t568.length co55) t568) ∧ Aside0 (Kd.V Kd.string 9 wc w.heap.size (fun k_ => some k_ ≠ (v566 : Value).ownBlock ∧ some k_ ≠ ((.slice Ao55 t568.length co55) : Value).ownBlock ∧ k_ ≠ g550 ∧ k_ ≠ g551 ∧ k_ ≠ g564) (.slice Ao18 t555.length co18) t555) ∧ Aside0 (Kd.V k94 94 wc w.heap.size (fun k_ => some k_ ≠ (v566 : Value).ownBlock ∧ some k_ ≠ ((.slice Ao55 t568.length co55) : Value).ownBlock ∧ k_ ≠ g550 ∧ k_ ≠ g551 ∧ k_ ≠ g564) (.slice Ao22 t558.length co22) t558) ∧ Aside0 (wc.heap[g550]? = some (.cells #[(.slice A0_0 l0_0.length c0_0), (.slice A0_1 l0_1.length c0_1), .int .i64 a0_2, .bool a0_3] 25 (0, 0))) ∧ Aside0 (wc.heap[g551]? = some (.cells #[.int .i64 a1_0, .int .i64 a1_1, .string a1_2] 43 (0, 0))) ∧ Aside0 (wc.heap[g564]? = some (.cells #[(.slice Ao18 t555.length co18), (.slice Ao22 t558.length co22), .int .i64 t561, .bool t562] 25 (0, 0))) ∧ Aside0 (Below w.heap.size w wc))
          case first =>
           have H := HC54.out
           clear HC54
           by_cases c56 : x12_3 < (t565.length : Int)
           ·rw [if_pos c56] at H
            have c56b0 : decide (x12_3 < (t565.length : Int)) = true := decide_eq_true c56
            clear c56
            (first | rw [c56b0] | (simp only [i64_w, i32_w]; rw [c56b0]) | skip)
            by_cases c57 : 0 ≤ x13_3
            ·rw [if_pos c57] at H
             have c57b0 : decide (0 ≤ x13_3) = true := decide_eq_true c57
             clear c57
             by_cases c58 : 0 ≤ x12_3
             ·rw [if_pos c58] at H
              have c58b0 : decide (0 ≤ x12_3) = true := decide_eq_true c58
              clear c58
              have H' := qM H
              clear H
              try go_wp2
              have n0_ := qM (Kd.R_drew HO_10.out)
              have n1_ := qM (Kd.R_drew HO_11.out)
              have n2_ := qM (Kd.V_drew HO_565000.out)
              have n3_ := qM (Kd.V_drew HO_565001.out)
              have n4_ := qM (blk_drew B550.out)
              have n5_ := qM (blk_drew B551.out)
              have n6_ := qM (blk_drew B564.out)
              have n7_ := qM (below_drew1 HB.out)
              clear HO_10
              clear HO_11
              clear HO_565000
              clear HO_565001
              clear B550
              clear B551
              clear B564
              clear HB
              have HO_10 := n0_
              have HO_11 := n1_
              have HO_565000 := n2_
              have HO_565001 := n3_
              have B550 := n4_
              have B551 := n5_
              have B564 := n6_
              have HB := n7_
              clear n0_ n1_ n2_ n3_ n4_ n5_ n6_ n7_
              obtain ⟨Ao60, co60, eo60⟩ := Kd.R_slice HO_10.out
              (first | subst eo60 | (injection eo60 with f1_ f2_ f3_; have f4_ := f1_.symm; have f5_ := f3_.symm; clear f1_ f2_ f3_; subst f4_; subst f5_))
              have p579 : 0 ≤ (x13_3 : Int) := of_decide_eq_true (by first | (with_reducible assumption) | assumption)
              have q579 : x13_3 < (t568.length : Int) := of_decide_eq_true (by first | (with_reducible assumption) | assumption)
              obtain ⟨ad579, e579, hx579_0, hx579_1⟩ := at_T27 (Kd.R_reads' HO_11.out).2.2 x13_3 p579 q579
              cases e579
              replace p579 := eq_true p579
              replace q579 := eq_true q579
              have p580 : 0 ≤ (x12_3 : Int) := of_decide_eq_true (by first | (with_reducible assumption) | assumption)
              have q580 : x12_3 < (t565.length : Int) := of_decide_eq_true (by first | (with_reducible assumption) | assumption)
              obtain ⟨ad580, e580, hx580_0, hx580_1⟩ := at_T27 (Kd.R_reads' HO_10.out).2.2 x12_3 p580 q580
              cases e580
              replace p580 := eq_true p580
              replace q580 := eq_true q580
              refine start_ (n := 15) (S := fun w' => w'.cell? (ad579.add ((x13_3).toNat * 2)) = some (.int .i64 ((rd_T27 t568 x13_3).f0)) ∧ w'.cell? ⟨(ad579.add ((x13_3).toNat * 2)).block, (ad579.add ((x13_3).toNat * 2)).off + 1, none⟩ = some (.int .i64 ((rd_T27 t568 x13_3).f1)) ∧ w'.cell? (ad580.add ((x12_3).toNat * 2)) = some (.int .i64 ((rd_T27 t565 x12_3).f0)) ∧ w'.cell? ⟨(ad580.add ((x12_3).toNat * 2)).block, (ad580.add ((x12_3).toNat * 2)).off + 1, none⟩ = some (.int .i64 ((rd_T27 t565 x12_3).f1))) (ds := []) #[false, false, false, false, false, false, false, false, false, false, false, false, false, false, false] (by kernel_rfl) rfl rfl ⟨hx579_0, hx579_1, hx580_0, hx580_1⟩ (fun hHeld => ?_); refine with_tabW hogsheadlaw10_ShelfRoom.tab14 hogsheadlaw10_ShelfRoom.bits14 (fun HT_ HW_ => ?_)
              generalize wr.drew = w59 at HO_10 HO_11 HO_565000 HO_565001 B550 B551 B564 HB hx579_0 hx579_1 hx580_0 hx580_1 hHeld ⊢
              refine pure_ (i := 0) (N := some 70) (v := ?_) (a' := ?_) #[true, false, false, false, false, false, false, false, false, false, false, false, false, false, false] rfl rfl (any_of HT_.out (by kernel_rfl)) (fun _ _ _ h => h) (Or.inl ⟨by rfl, ?_⟩) ?_ ?_
              rotate_left
              ·intro w'; go_simp; with_reducible rfl
              rotate_left
              ·simp only [Act.put, xA, xZ, xS, i64_w, i32_w]; rfl
              refine pure_ (i := 1) (N := some 71) (v := ?_) (a' := ?_) #[true, true, false, false, false, false, false, false, false, false, false, false, false, false, false] rfl rfl (any_of HT_.out (by kernel_rfl)) (fun _ _ _ h => h) (Or.inl ⟨by rfl, ?_⟩) ?_ ?_
              rotate_left
              ·intro w'; go_simp; with_reducible rfl
              rotate_left
              ·simp only [Act.put, xA, xZ, xS, i64_w, i32_w]; rfl
              refine pure_ (i := 2) (N := some 72) (v := ?_) (a' := ?_) #[true, true, true, false, false, false, false, false, false, false, false, false, false, false, false] rfl rfl (any_of HT_.out (by kernel_rfl)) (fun _ _ _ h => h) (Or.inl ⟨by rfl, ?_⟩) ?_ ?_
              rotate_left
              ·intro w'; go_simp; with_reducible rfl
              rotate_left
              ·simp only [Act.put, xA, xZ, xS, i64_w, i32_w]; rfl
              refine pure_ (i := 3) (N := some 73) (v := ?_) (a' := ?_) #[true, true, true, true, false, false, false, false, false, false, false, false, false, false, false] rfl rfl (any_of HT_.out (by kernel_rfl)) (fun _ _ _ h => h) (Or.inl ⟨by rfl, ?_⟩) ?_ ?_
              rotate_left
              ·intro w'; go_simp; with_reducible rfl
              rotate_left
              ·simp only [Act.put, xA, xZ, xS, i64_w, i32_w]; rfl
              refine pure_ (i := 4) (N := some 74) (v := ?_) (a' := ?_) #[true, true, true, true, true, false, false, false, false, false, false, false, false, false, false] rfl rfl (any_of HT_.out (by kernel_rfl)) (fun _ _ _ h => h) (Or.inl ⟨by rfl, ?_⟩) ?_ ?_
              rotate_left
              ·intro w'; go_simp; with_reducible rfl
              rotate_left
              ·simp only [Act.put, xA, xZ, xS, i64_w, i32_w]; rfl
              refine pure_ (i := 5) (N := some 75) (v := ?_) (a' := ?_) #[true, true, true, true, true, true, false, false, false, false, false, false, false, false, false] rfl rfl (any_of HT_.out (by kernel_rfl)) (fun _ _ _ h => h) (Or.inl ⟨by rfl, ?_⟩) ?_ ?_
              rotate_left
              ·intro w'; go_simp; with_reducible rfl
              rotate_left
              ·simp only [Act.put, xA, xZ, xS, i64_w, i32_w]; rfl
              refine pure_ (i := 6) (N := some 76) (v := ?_) (a' := ?_) #[true, true, true, true, true, true, true, false, false, false, false, false, false, false, false] rfl rfl (any_of HT_.out (by kernel_rfl)) (fun _ _ _ h => h) (Or.inl ⟨by rfl, ?_⟩) ?_ ?_
              rotate_left
              ·intro w'; go_simp; with_reducible rfl
              rotate_left
              ·simp only [Act.put, xA, xZ, xS, i64_w, i32_w]; rfl
              refine pure_ (i := 7) (N := some 77) (v := ?_) (a' := ?_) #[true, true, true, true, true, true, true, true, false, false, false, false, false, false, false] rfl rfl (any_of HT_.out (by kernel_rfl)) (fun _ _ _ h => h) (Or.inl ⟨by rfl, ?_⟩) ?_ ?_
              rotate_left
              ·intro w'; go_simp; with_reducible rfl
              rotate_left
              ·simp only [Act.put, xA, xZ, xS, i64_w, i32_w]; rfl
              refine pure_ (i := 9) (N := some 79) (v := ?_) (a' := ?_) #[true, true, true, true, true, true, true, true, false, true, false, false, false, false, false] rfl rfl (any_of HT_.out (by kernel_rfl)) (fun _ _ _ h => h) (Or.inl ⟨by rfl, ?_⟩) ?_ ?_
              rotate_left
              ·intro w'; go_simp; with_reducible rfl
              rotate_left
              ·simp only [Act.put, xA, xZ, xS, i64_w, i32_w]; rfl
              refine pure_ (i := 10) (N := some 80) (v := ?_) (a' := ?_) #[true, true, true, true, true, true, true, true, false, true, true, false, false, false, false] rfl rfl (any_of HT_.out (by kernel_rfl)) (fun _ _ _ h => h) (Or.inl ⟨by rfl, ?_⟩) ?_ ?_
              rotate_left
              ·intro w'; go_simp; with_reducible rfl
              rotate_left
              ·simp only [Act.put, xA, xZ, xS, i64_w, i32_w]; rfl
              refine pure_ (i := 11) (N := some 81) (v := ?_) (a' := ?_) #[true, true, true, true, true, true, true, true, false, true, true, true, false, false, false] rfl rfl (any_of HT_.out (by kernel_rfl)) (fun _ _ _ h => h) (Or.inl ⟨by rfl, ?_⟩) ?_ ?_
              rotate_left
              ·intro w'; go_simp; with_reducible rfl
              rotate_left
              ·simp only [Act.put, xA, xZ, xS, i64_w, i32_w]; rfl
              refine take_ (i := 8) (N := some 78) (v := ?_) (a' := ?_) #[true, true, true, true, true, true, true, true, true, true, true, true, false, false, false] rfl rfl (take_ofW HT_.out HW_.out (by kernel_rfl)) (fun _ _ _ h => h) (Or.inl ⟨by rfl, ?_⟩) hHeld ?_ ?_
              rotate_left
              ·rintro w' ⟨s0, s1, s2, s3⟩; go_simp; with_reducible rfl
              rotate_left
              ·simp only [Act.put, xA, xZ, xS, i64_w, i32_w]; rfl
              refine take_ (i := 12) (N := some 82) (v := ?_) (a' := ?_) #[true, true, true, true, true, true, true, true, true, true, true, true, true, false, false] rfl rfl (take_ofW HT_.out HW_.out (by kernel_rfl)) (fun _ _ _ h => h) (Or.inl ⟨by rfl, ?_⟩) hHeld ?_ ?_
              rotate_left
              ·rintro w' ⟨s0, s1, s2, s3⟩; go_simp; with_reducible rfl
              rotate_left
              ·simp only [Act.put, xA, xZ, xS, i64_w, i32_w]; rfl
              refine pure_ (i := 13) (N := some 83) (v := ?_) (a' := ?_) #[true, true, true, true, true, true, true, true, true, true, true, true, true, true, false] rfl rfl (any_of HT_.out (by kernel_rfl)) (fun _ _ _ h => h) (Or.inl ⟨by rfl, ?_⟩) ?_ ?_
              rotate_left
              ·intro w'; go_simp; with_reducible rfl
              rotate_left
              ·simp only [Act.put, xA, xZ, xS, i64_w, i32_w]; rfl
              refine pure_ (i := 14) (N := some 84) (v := ?_) (a' := ?_) #[true, true, true, true, true, true, true, true, true, true, true, true, true, true, true] rfl rfl (any_of HT_.out (by kernel_rfl)) (fun _ _ _ h => h) (Or.inl ⟨by rfl, ?_⟩) ?_ ?_
              rotate_left
              ·intro w'; go_simp; with_reducible rfl
              rotate_left
              ·simp only [Act.put, xA, xZ, xS, i64_w, i32_w]; rfl
              refine done_ (done_of HT_.out (by kernel_rfl)) ?_
              try go_wp2
              go_meet
              case rel => exact ⟨_, ((((rd_T27 t568 x13_3).f0) == ((rd_T27 t565 x12_3).f0) && (((rd_T27 t568 x13_3).f1) == ((rd_T27 t565 x12_3).f1)))), (by first | rfl | (simp; done) | (simp [*]; done)), H', ⟨by have := HJ5.out; have := HJ26.out; have := HK3.out; first | omega | exact Nat.le_refl _⟩, ⟨by (with_reducible repeat first | apply RA | apply RN | apply RD); exact HO_10.out⟩, ⟨by (with_reducible repeat first | apply RA | apply RN | apply RD); exact HO_11.out⟩, ⟨by (with_reducible repeat first | apply VA | apply VN | apply VD); exact HO_565000.out⟩, ⟨by (with_reducible repeat first | apply VA | apply VN | apply VD); exact HO_565001.out⟩, ⟨by (with_reducible repeat first | refine qN ?_ _ | refine qD ?_ | refine qA ?_ _); exact B550.out⟩, ⟨by (with_reducible repeat first | refine qN ?_ _ | refine qD ?_ | refine qA ?_ _); exact B551.out⟩, ⟨by (with_reducible repeat first | refine qN ?_ _ | refine qD ?_ | refine qA ?_ _); exact B564.out⟩, ⟨by repeat (first | (with_reducible first | exact HB.out | apply eA | apply eN | apply eD | refine eS ?_ GE550.out | refine eS ?_ GE551.out | refine eS ?_ GE564.out) | exact HB.out)⟩⟩
             ·rw [if_neg c58] at H
              exact absurd H (by simp)
            ·rw [if_neg c57] at H
             exact absurd H (by simp)
           ·rw [if_neg c56] at H
            have c56b0 : decide (x12_3 < (t565.length : Int)) = false := decide_eq_false c56
            clear c56
            (first | rw [c56b0] | (simp only [i64_w, i32_w]; rw [c56b0]) | skip)
            have H' := qM H
            clear H
            try go_wp2
            have n0_ := qM (Kd.R_drew HO_10.out)
            have n1_ := qM (Kd.R_drew HO_11.out)
            have n2_ := qM (Kd.V_drew HO_565000.out)
            have n3_ := qM (Kd.V_drew HO_565001.out)
            have n4_ := qM (blk_drew B550.out)
            have n5_ := qM (blk_drew B551.out)
            have n6_ := qM (blk_drew B564.out)
            have n7_ := qM (below_drew1 HB.out)
            clear HO_10
            clear HO_11
            clear HO_565000
            clear HO_565001
            clear B550
            clear B551
            clear B564
            clear HB
            have HO_10 := n0_
            have HO_11 := n1_
            have HO_565000 := n2_
            have HO_565001 := n3_
            have B550 := n4_
            have B551 := n5_
            have B564 := n6_
            have HB := n7_
            clear n0_ n1_ n2_ n3_ n4_ n5_ n6_ n7_
            obtain ⟨Ao62, co62, eo62⟩ := Kd.R_slice HO_10.out
            (first | subst eo62 | (injection eo62 with f1_ f2_ f3_; have f4_ := f1_.symm; have f5_ := f3_.symm; clear f1_ f2_ f3_; subst f4_; subst f5_))
            refine start_ (n := 15) (S := fun w' => True) (ds := []) #[false, false, false, false, false, false, false, false, false, false, false, false, false, false, false] (by kernel_rfl) rfl rfl trivial (fun hHeld => ?_); refine with_tabW hogsheadlaw10_ShelfRoom.tab14 hogsheadlaw10_ShelfRoom.bits14 (fun HT_ HW_ => ?_)
            generalize wr.drew = w61 at HO_10 HO_11 HO_565000 HO_565001 B550 B551 B564 HB hHeld ⊢
            refine pure_ (i := 0) (N := some 70) (v := ?_) (a' := ?_) #[true, false, false, false, false, false, false, false, false, false, false, false, false, false, false] rfl rfl (any_of HT_.out (by kernel_rfl)) (fun _ _ _ h => h) (Or.inl ⟨by rfl, ?_⟩) ?_ ?_
            rotate_left
            ·intro w'; go_simp; with_reducible rfl
            rotate_left
            ·simp only [Act.put, xA, xZ, xS, i64_w, i32_w]; rfl
            refine pure_ (i := 1) (N := some 71) (v := ?_) (a' := ?_) #[true, true, false, false, false, false, false, false, false, false, false, false, false, false, false] rfl rfl (any_of HT_.out (by kernel_rfl)) (fun _ _ _ h => h) (Or.inl ⟨by rfl, ?_⟩) ?_ ?_
            rotate_left
            ·intro w'; go_simp; with_reducible rfl
            rotate_left
            ·simp only [Act.put, xA, xZ, xS, i64_w, i32_w]; rfl
            refine pure_ (i := 2) (N := some 72) (v := ?_) (a' := ?_) #[true, true, true, false, false, false, false, false, false, false, false, false, false, false, false] rfl rfl (any_of HT_.out (by kernel_rfl)) (fun _ _ _ h => h) (Or.inl ⟨by rfl, ?_⟩) ?_ ?_
            rotate_left
            ·intro w'; go_simp; with_reducible rfl
            rotate_left
            ·simp only [Act.put, xA, xZ, xS, i64_w, i32_w]; rfl
            refine pure_ (i := 3) (N := some 73) (v := ?_) (a' := ?_) #[true, true, true, true, false, false, false, false, false, false, false, false, false, false, false] rfl rfl (any_of HT_.out (by kernel_rfl)) (fun _ _ _ h => h) (Or.inl ⟨by rfl, ?_⟩) ?_ ?_
            rotate_left
            ·intro w'; go_simp; with_reducible rfl
            rotate_left
            ·simp only [Act.put, xA, xZ, xS, i64_w, i32_w]; rfl
            refine pure_ (i := 4) (N := some 74) (v := ?_) (a' := ?_) #[true, true, true, true, true, false, false, false, false, false, false, false, false, false, false] rfl rfl (any_of HT_.out (by kernel_rfl)) (fun _ _ _ h => h) (Or.inl ⟨by rfl, ?_⟩) ?_ ?_
            rotate_left
            ·intro w'; go_simp; with_reducible rfl
            rotate_left
            ·simp only [Act.put, xA, xZ, xS, i64_w, i32_w]; rfl
            refine pure_ (i := 5) (N := some 75) (v := undef) (a' := ?_) #[true, true, true, true, true, true, false, false, false, false, false, false, false, false, false] rfl rfl (any_of HT_.out (by kernel_rfl)) (fun _ _ _ h => h) (Or.inr ⟨by rfl, rfl⟩) ?_ ?_
            rotate_left
            ·simp only [Act.put, xA, xZ, xS, i64_w, i32_w]; rfl
            refine pure_ (i := 6) (N := some 76) (v := undef) (a' := ?_) #[true, true, true, true, true, true, true, false, false, false, false, false, false, false, false] rfl rfl (any_of HT_.out (by kernel_rfl)) (fun _ _ _ h => h) (Or.inr ⟨by rfl, rfl⟩) ?_ ?_
            rotate_left
            ·simp only [Act.put, xA, xZ, xS, i64_w, i32_w]; rfl
            refine pure_ (i := 7) (N := some 77) (v := undef) (a' := ?_) #[true, true, true, true, true, true, true, true, false, false, false, false, false, false, false] rfl rfl (any_of HT_.out (by kernel_rfl)) (fun _ _ _ h => h) (Or.inr ⟨by rfl, rfl⟩) ?_ ?_
            rotate_left
            ·simp only [Act.put, xA, xZ, xS, i64_w, i32_w]; rfl
            refine pure_ (i := 8) (N := some 78) (v := undef) (a' := ?_) #[true, true, true, true, true, true, true, true, true, false, false, false, false, false, false] rfl rfl (any_of HT_.out (by kernel_rfl)) (fun _ _ _ h => h) (Or.inr ⟨by rfl, rfl⟩) ?_ ?_
            rotate_left
            ·simp only [Act.put, xA, xZ, xS, i64_w, i32_w]; rfl
            refine pure_ (i := 9) (N := some 79) (v := undef) (a' := ?_) #[true, true, true, true, true, true, true, true, true, true, false, false, false, false, false] rfl rfl (any_of HT_.out (by kernel_rfl)) (fun _ _ _ h => h) (Or.inr ⟨by rfl, rfl⟩) ?_ ?_
            rotate_left
            ·simp only [Act.put, xA, xZ, xS, i64_w, i32_w]; rfl
            refine pure_ (i := 10) (N := some 80) (v := undef) (a' := ?_) #[true, true, true, true, true, true, true, true, true, true, true, false, false, false, false] rfl rfl (any_of HT_.out (by kernel_rfl)) (fun _ _ _ h => h) (Or.inr ⟨by rfl, rfl⟩) ?_ ?_
            rotate_left
            ·simp only [Act.put, xA, xZ, xS, i64_w, i32_w]; rfl
            refine pure_ (i := 11) (N := some 81) (v := undef) (a' := ?_) #[true, true, true, true, true, true, true, true, true, true, true, true, false, false, false] rfl rfl (any_of HT_.out (by kernel_rfl)) (fun _ _ _ h => h) (Or.inr ⟨by rfl, rfl⟩) ?_ ?_
            rotate_left
            ·simp only [Act.put, xA, xZ, xS, i64_w, i32_w]; rfl
            refine pure_ (i := 12) (N := some 82) (v := undef) (a' := ?_) #[true, true, true, true, true, true, true, true, true, true, true, true, true, false, false] rfl rfl (any_of HT_.out (by kernel_rfl)) (fun _ _ _ h => h) (Or.inr ⟨by rfl, rfl⟩) ?_ ?_
            rotate_left
            ·simp only [Act.put, xA, xZ, xS, i64_w, i32_w]; rfl
            refine pure_ (i := 13) (N := some 83) (v := undef) (a' := ?_) #[true, true, true, true, true, true, true, true, true, true, true, true, true, true, false] rfl rfl (any_of HT_.out (by kernel_rfl)) (fun _ _ _ h => h) (Or.inr ⟨by rfl, rfl⟩) ?_ ?_
            rotate_left
            ·simp only [Act.put, xA, xZ, xS, i64_w, i32_w]; rfl
            refine pure_ (i := 14) (N := some 84) (v := ?_) (a' := ?_) #[true, true, true, true, true, true, true, true, true, true, true, true, true, true, true] rfl rfl (any_of HT_.out (by kernel_rfl)) (fun _ _ _ h => h) (Or.inl ⟨by rfl, ?_⟩) ?_ ?_
            rotate_left
            ·intro w'; go_simp; with_reducible rfl
            rotate_left
            ·simp only [Act.put, xA, xZ, xS, i64_w, i32_w]; rfl
            refine done_ (done_of HT_.out (by kernel_rfl)) ?_
            try go_wp2
            go_meet
            case rel => exact ⟨_, (false), (by first | rfl | (simp; done) | (simp [*]; done)), H', ⟨by have := HJ5.out; have := HJ26.out; have := HK3.out; first | omega | exact Nat.le_refl _⟩, ⟨by (with_reducible repeat first | apply RA | apply RN | apply RD); exact HO_10.out⟩, ⟨by (with_reducible repeat first | apply RA | apply RN | apply RD); exact HO_11.out⟩, ⟨by (with_reducible repeat first | apply VA | apply VN | apply VD); exact HO_565000.out⟩, ⟨by (with_reducible repeat first | apply VA | apply VN | apply VD); exact HO_565001.out⟩, ⟨by (with_reducible repeat first | refine qN ?_ _ | refine qD ?_ | refine qA ?_ _); exact B550.out⟩, ⟨by (with_reducible repeat first | refine qN ?_ _ | refine qD ?_ | refine qA ?_ _); exact B551.out⟩, ⟨by (with_reducible repeat first | refine qN ?_ _ | refine qD ?_ | refine qA ?_ _); exact B564.out⟩, ⟨by repeat (first | (with_reducible first | exact HB.out | apply eA | apply eN | apply eD | refine eS ?_ GE550.out | refine eS ?_ GE551.out | refine eS ?_ GE564.out) | exact HB.out)⟩⟩
          case rest =>
           clear HC54
           try clear c1
           try clear c2
           try clear p2
           try clear c3
           try clear c5
           try clear p5
           try clear q5
           try clear hx5
           try clear p6
           try clear c13
           try clear c16
           try clear c20
           try clear c28
           try clear c29
           try clear c32
           try clear c35
           try clear c35b0
           try clear c35b1
           try clear c52
           try clear c53
           try clear c53b0
           try clear c56
           try clear c56b0
           try clear c57
           try clear c57b0
           try clear p57
           try clear q57
           try clear hx57
           try clear c58
           try clear c58b0
           try clear p58
           try clear q58
           try clear hx58
           try clear z30_0
           try clear z30_1
           try clear z30_2
           try clear z30_3
           try clear z33_0
           try clear z33_1
           try clear z33_2
           try clear z33_3
           try clear f30_0
           try clear f30_1
           try clear f30_2
           try clear f30_3
           try clear f33_0
           try clear f33_1
           try clear f33_2
           try clear f33_3
           try clear hx579_0
           try clear hx579_1
           try clear hx580_0
           try clear hx580_1
           try clear p2
           try clear p579
           try clear p580
           try clear p6
           try clear q579
           try clear q580
           obtain ⟨kq, x84_53, rfl, HA, HJ53, HO_10, HO_11, HO_565000, HO_565001, B550, B551, B564, HB⟩ := hcut
           cases kq with
           | zero => exact absurd HA.out (by simp [hogsheadlaw10_ShelfRoom.j3])
           | succ kj53 =>
            have H := HA.out
            clear HA
            simp only [hogsheadlaw10_ShelfRoom.j3] at H
            by_cases c63 : x84_53 = true
            ·subst c63
             have H1 : (hogsheadlaw10_ShelfRoom.l0 kj53 t552 t565 t568 (wrap64 (x12_3 + 1)) (wrap64 (x13_3 + 1))) = some r := by rw [if_pos rfl] at H; exact H
             clear H
             have H := H1
             clear H1
             have H' := qM H
             clear H
             go_wp2
             go_roundg kj53
             case measure => have := HJ5.out; have := HJ26.out; have := HK3.out; have := HJ53.out; omega
             case rel => exact ⟨(wrap64 (x12_3 + 1)), (wrap64 (x13_3 + 1)), (by first | rfl | (simp; done) | (simp [*]; done)), (by first | rfl | (simp; done) | (simp [*]; done)), H', ⟨by have := HJ5.out; have := HJ26.out; have := HK3.out; have := HJ53.out; omega⟩, ⟨by (with_reducible repeat first | apply RA | apply RN | apply RD); exact HO_10.out⟩, ⟨by (with_reducible repeat first | apply RA | apply RN | apply RD); exact HO_11.out⟩, ⟨by (with_reducible repeat first | apply VA | apply VN | apply VD); exact HO_565000.out⟩, ⟨by (with_reducible repeat first | apply VA | apply VN | apply VD); exact HO_565001.out⟩, ⟨by (with_reducible repeat first | refine qN ?_ _ | refine qD ?_ | refine qA ?_ _); exact B550.out⟩, ⟨by (with_reducible repeat first | refine qN ?_ _ | refine qD ?_ | refine qA ?_ _); exact B551.out⟩, ⟨by (with_reducible repeat first | refine qN ?_ _ | refine qD ?_ | refine qA ?_ _); exact B564.out⟩, ⟨by repeat (first | (with_reducible first | exact HB.out | apply eA | apply eN | apply eD | refine eS ?_ GE550.out | refine eS ?_ GE551.out | refine eS ?_ GE564.out) | exact HB.out)⟩⟩
            ·replace c63 := Bool.eq_false_iff.mpr c63
             subst c63
             have H1 : (hogsheadlaw10_ShelfRoom.l0 kj53 t552 t565 t568 x12_3 (wrap64 (x13_3 + 1))) = some r := by rw [if_neg (show ¬ (false = true) by decide)] at H; exact H
             clear H
             have H := H1
             clear H1
             have H' := qM H
             clear H
             go_wp2
             go_roundg kj53
             case measure => have := HJ5.out; have := HJ26.out; have := HK3.out; have := HJ53.out; omega
             case rel => exact ⟨(x12_3), (wrap64 (x13_3 + 1)), (by first | rfl | (simp; done) | (simp [*]; done)), (by first | rfl | (simp; done) | (simp [*]; done)), H', ⟨by have := HJ5.out; have := HJ26.out; have := HK3.out; have := HJ53.out; omega⟩, ⟨by (with_reducible repeat first | apply RA | apply RN | apply RD); exact HO_10.out⟩, ⟨by (with_reducible repeat first | apply RA | apply RN | apply RD); exact HO_11.out⟩, ⟨by (with_reducible repeat first | apply VA | apply VN | apply VD); exact HO_565000.out⟩, ⟨by (with_reducible repeat first | apply VA | apply VN | apply VD); exact HO_565001.out⟩, ⟨by (with_reducible repeat first | refine qN ?_ _ | refine qD ?_ | refine qA ?_ _); exact B550.out⟩, ⟨by (with_reducible repeat first | refine qN ?_ _ | refine qD ?_ | refine qA ?_ _); exact B551.out⟩, ⟨by (with_reducible repeat first | refine qN ?_ _ | refine qD ?_ | refine qA ?_ _); exact B564.out⟩, ⟨by repeat (first | (with_reducible first | exact HB.out | apply eA | apply eN | apply eD | refine eS ?_ GE550.out | refine eS ?_ GE551.out | refine eS ?_ GE564.out) | exact HB.out)⟩⟩
         ·rw [if_neg c53] at H
          have c53b0 : decide (x13_3 < (t568.length : Int)) = false := decide_eq_false c53
          clear c53
          by_cases c64 : t552 = true
          ·subst c64
           have H1 : (some (x12_3 == (t565.length : Int))) = some r := by rw [if_pos rfl] at H; exact H
           clear H
           have H := H1
           clear H1
           obtain rfl := Option.some.inj H
           obtain ⟨Ao65, co65, eo65⟩ := Kd.R_slice HO_11.out
           subst eo65
           obtain ⟨Ao66, co66, eo66⟩ := Kd.R_slice HO_10.out
           subst eo66
           go_wp2
           go_ret
           exact ⟨by first | rfl | (simp [errW_none, errW_some] <;> rfl) | (simp [*, errW_none, errW_some] <;> rfl), by repeat (first | (with_reducible first | exact HB.out | apply eA | apply eN | apply eD | refine eS ?_ GE550.out | refine eS ?_ GE551.out | refine eS ?_ GE564.out) | exact HB.out)⟩
          ·replace c64 := Bool.eq_false_iff.mpr c64
           subst c64
           have H1 : (some false) = some r := by rw [if_neg (show ¬ (false = true) by decide)] at H; exact H
           clear H
           have H := H1
           clear H1
           obtain rfl := Option.some.inj H
           obtain ⟨Ao67, co67, eo67⟩ := Kd.R_slice HO_11.out
           subst eo67
           go_wp2
           go_ret
           exact ⟨by first | rfl | (simp [errW_none, errW_some] <;> rfl) | (simp [*, errW_none, errW_some] <;> rfl), by repeat (first | (with_reducible first | exact HB.out | apply eA | apply eN | apply eD | refine eS ?_ GE550.out | refine eS ?_ GE551.out | refine eS ?_ GE564.out) | exact HB.out)⟩

end Go.Proofs.Ytffjbbedjddpmaa.PAll
