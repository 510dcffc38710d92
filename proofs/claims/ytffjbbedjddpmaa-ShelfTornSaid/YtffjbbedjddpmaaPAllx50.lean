/- Functions of the program as plain Lean functions, and that each call comes to what they say. Laid by a program of this session (hprint.py); Lean checks it. -/
import Derived.Test.YtffjbbedjddpmaaPAllx0
import Derived.Test.YtffjbbedjddpmaaPAllx13
import Derived.Test.YtffjbbedjddpmaaPAllx17
import Derived.Test.YtffjbbedjddpmaaPAllx19
import Derived.Test.YtffjbbedjddpmaaPAllx45
import Derived.Test.YtffjbbedjddpmaaPAllx46
namespace Go.Proofs.Ytffjbbedjddpmaa.PAll
open Go.RowKit Go.Proofs.YtffjbbedjddpmaaW.PrintWords Go.Proofs.YtffjbbedjddpmaaW.PrintLast Go.Proofs.YtffjbbedjddpmaaW.PrintMore
attribute [local go_sem] max2_int min2_int max_two min_two max_three min_three max_four min_four   -- for this text's walks alone
set_option linter.unusedVariables false
set_option linter.unusedSimpArgs false
attribute [local irreducible] World.setCell

/-! ### hogsheadlaw10_ShelfTorn: function 8 -/
mutual
def hogsheadlaw10_ShelfTorn.j0 : Nat → Int → Bool → Bool → Int → Int → ByteArray → Int → Int → List ByteArray → List (S94) → Int → Bool → Option (Bool)
 | 0, _, _, _, _, _, _, _, _, _, _, _, _ => none
 | k + 1, x2, x7, x48, x517000, x517001, x517002, x528000, x528001, x540000, x540001, x540002, x540003 => if x48 = true then (some x7) else ((hogsheadref08_Crash.f k x540000 x540001 x540002 x540003 0 x2).bind fun bt540 => ((shelf_Find.f k bt540.1 bt540.2.1 bt540.2.2.1 bt540.2.2.2 x528000 x528001).bind fun bt548 => (if x7 = true then (if bt548.2 = 7 then (hogsheadlaw10_ShelfTorn.j1 k true) else (if bt548.2 = 0 then (hogsheadlaw10_ShelfTorn.j1 k (bt548.1.toList == x517002.toList)) else (hogsheadlaw10_ShelfTorn.j1 k false))) else (hogsheadlaw10_ShelfTorn.j1 k false))))
def hogsheadlaw10_ShelfTorn.j1 : Nat → Bool → Option (Bool)
 | 0, _ => none
 | k + 1, x6 => some x6
end
def hogsheadlaw10_ShelfTorn.f (k : Nat) (l0_0 : List ByteArray) (l0_1 : List (S94)) (a0_2 : Int) (a0_3 : Bool) (a1_0 : Int) (a1_1 : Int) (a1_2 : ByteArray) (a2 : Int) : Option (Bool) := (hogsheadlaw10_shown.f k).bind fun t517 => ((hogsheadref08_Flush.f k l0_0 l0_1 a0_2 a0_3).bind fun bt518 => ((shelf_Find.f k bt518.1 bt518.2.1 bt518.2.2.1 bt518.2.2.2.1 a1_0 a1_1).bind fun bt528 => ((shelf_Put.f k bt518.1 bt518.2.1 bt518.2.2.1 bt518.2.2.2.1 a1_0 a1_1 a1_2).bind fun bt530 => (if bt518.2.2.2.2 = 0 then (if bt528.2 = 0 then (hogsheadlaw10_ShelfTorn.j0 k a2 t517 true a1_0 a1_1 a1_2 a1_0 a1_1 bt530.1 bt530.2.1 bt530.2.2.1 bt530.2.2.2.1) else (hogsheadlaw10_ShelfTorn.j0 k a2 t517 (bt530.2.2.2.2 != 0) a1_0 a1_1 a1_2 a1_0 a1_1 bt530.1 bt530.2.1 bt530.2.2.1 bt530.2.2.2.1)) else (hogsheadlaw10_ShelfTorn.j0 k a2 t517 true a1_0 a1_1 a1_2 a1_0 a1_1 bt530.1 bt530.2.1 bt530.2.2.1 bt530.2.2.2.1)))))
theorem hogsheadlaw10_ShelfTorn.mono_l : ∀ k, (∀ y0 y1 y2 y3 y4 y5 y6 y7 y8 y9 y10 y11, LeO (hogsheadlaw10_ShelfTorn.j0 k y0 y1 y2 y3 y4 y5 y6 y7 y8 y9 y10 y11) (hogsheadlaw10_ShelfTorn.j0 (k + 1) y0 y1 y2 y3 y4 y5 y6 y7 y8 y9 y10 y11)) ∧ (∀ y0, LeO (hogsheadlaw10_ShelfTorn.j1 k y0) (hogsheadlaw10_ShelfTorn.j1 (k + 1) y0))
 | 0 => ⟨fun _ _ _ _ _ _ _ _ _ _ _ _ r h => by simp [hogsheadlaw10_ShelfTorn.j0] at h, fun _ r h => by simp [hogsheadlaw10_ShelfTorn.j1] at h⟩
 | k + 1 => by
  obtain ⟨ih0, ih1⟩ := hogsheadlaw10_ShelfTorn.mono_l k
  refine ⟨?_, ?_⟩
  ·intro y0 y1 y2 y3 y4 y5 y6 y7 y8 y9 y10 y11
   unfold hogsheadlaw10_ShelfTorn.j0
   repeat' first
   | (with_reducible exact ih0 _ _ _ _ _ _ _ _ _ _ _ _)
   | (with_reducible exact ih1 _)
   | (with_reducible exact hogsheadlaw10_shown.mono _)
   | (with_reducible exact hogsheadref08_Crash.mono _ _ _ _ _ _ _)
   | (with_reducible exact hogsheadref08_Flush.mono _ _ _ _ _)
   | (with_reducible exact shelf_Find.mono _ _ _ _ _ _ _)
   | (with_reducible exact shelf_Put.mono _ _ _ _ _ _ _ _)
   | (with_reducible exact LeO.refl _)
   | (with_reducible exact LeO.none _)
   | (with_reducible refine LeO.ite ?_ ?_)
   | (with_reducible refine LeO.bind ?_ (fun _ => ?_))
   | exact ih0 _ _ _ _ _ _ _ _ _ _ _ _
   | exact ih1 _
   | exact hogsheadlaw10_shown.mono _
   | exact hogsheadref08_Crash.mono _ _ _ _ _ _ _
   | exact hogsheadref08_Flush.mono _ _ _ _ _
   | exact shelf_Find.mono _ _ _ _ _ _ _
   | exact shelf_Put.mono _ _ _ _ _ _ _ _
   | exact LeO.none _
   | refine LeO.ite ?_ ?_
   | refine LeO.bind ?_ (fun _ => ?_)
  ·intro y0
   unfold hogsheadlaw10_ShelfTorn.j1
   repeat' first
   | (with_reducible exact ih0 _ _ _ _ _ _ _ _ _ _ _ _)
   | (with_reducible exact ih1 _)
   | (with_reducible exact hogsheadlaw10_shown.mono _)
   | (with_reducible exact hogsheadref08_Crash.mono _ _ _ _ _ _ _)
   | (with_reducible exact hogsheadref08_Flush.mono _ _ _ _ _)
   | (with_reducible exact shelf_Find.mono _ _ _ _ _ _ _)
   | (with_reducible exact shelf_Put.mono _ _ _ _ _ _ _ _)
   | (with_reducible exact LeO.refl _)
   | (with_reducible exact LeO.none _)
   | (with_reducible refine LeO.ite ?_ ?_)
   | (with_reducible refine LeO.bind ?_ (fun _ => ?_))
   | exact ih0 _ _ _ _ _ _ _ _ _ _ _ _
   | exact ih1 _
   | exact hogsheadlaw10_shown.mono _
   | exact hogsheadref08_Crash.mono _ _ _ _ _ _ _
   | exact hogsheadref08_Flush.mono _ _ _ _ _
   | exact shelf_Find.mono _ _ _ _ _ _ _
   | exact shelf_Put.mono _ _ _ _ _ _ _ _
   | exact LeO.none _
   | refine LeO.ite ?_ ?_
   | refine LeO.bind ?_ (fun _ => ?_)
theorem hogsheadlaw10_ShelfTorn.mono : ∀ a0 a1 a2 a3 a4 a5 a6 a7 k, LeO (hogsheadlaw10_ShelfTorn.f k a0 a1 a2 a3 a4 a5 a6 a7) (hogsheadlaw10_ShelfTorn.f (k + 1) a0 a1 a2 a3 a4 a5 a6 a7) := by
 intro a0 a1 a2 a3 a4 a5 a6 a7 k
 obtain ⟨ih0, ih1⟩ := hogsheadlaw10_ShelfTorn.mono_l k
 unfold hogsheadlaw10_ShelfTorn.f
 repeat' first
   | (with_reducible exact ih0 _ _ _ _ _ _ _ _ _ _ _ _)
   | (with_reducible exact ih1 _)
   | (with_reducible exact hogsheadlaw10_shown.mono _)
   | (with_reducible exact hogsheadref08_Crash.mono _ _ _ _ _ _ _)
   | (with_reducible exact hogsheadref08_Flush.mono _ _ _ _ _)
   | (with_reducible exact shelf_Find.mono _ _ _ _ _ _ _)
   | (with_reducible exact shelf_Put.mono _ _ _ _ _ _ _ _)
   | (with_reducible exact LeO.refl _)
   | (with_reducible exact LeO.none _)
   | (with_reducible refine LeO.ite ?_ ?_)
   | (with_reducible refine LeO.bind ?_ (fun _ => ?_))
   | exact ih0 _ _ _ _ _ _ _ _ _ _ _ _
   | exact ih1 _
   | exact hogsheadlaw10_shown.mono _
   | exact hogsheadref08_Crash.mono _ _ _ _ _ _ _
   | exact hogsheadref08_Flush.mono _ _ _ _ _
   | exact shelf_Find.mono _ _ _ _ _ _ _
   | exact shelf_Put.mono _ _ _ _ _ _ _ _
   | exact LeO.none _
   | refine LeO.ite ?_ ?_
   | refine LeO.bind ?_ (fun _ => ?_)
def hogsheadlaw10_ShelfTorn.T8 : Bool × List (List Nat × List Nat) := (true, [([], []), ([], []), ([0, 1], [0, 1]), ([], []), ([2, 3, 2], [2, 3]), ([4], [4]), ([5], [5]), ([5], [5]), ([6, 4, 0, 1, 2, 3, 4, 5, 6], [6]), ([7, 8, 0, 1, 2, 3, 4, 5, 6, 7, 8], [7])])
def hogsheadlaw10_ShelfTorn.B8 : List Nat := [0, 0, 3, 0, 15, 31, 63, 63, 127, 511]
theorem hogsheadlaw10_ShelfTorn.tab8 : rtab .any (opsOf Try.f8 8) = hogsheadlaw10_ShelfTorn.T8 := by kernel_rfl
theorem hogsheadlaw10_ShelfTorn.bits8 : waitsOk hogsheadlaw10_ShelfTorn.T8.2 hogsheadlaw10_ShelfTorn.B8 = true := by kernel_rfl
set_option maxHeartbeats 40000000 in
set_option maxRecDepth 100000 in
theorem hogsheadlaw10_ShelfTorn.calls (k : Nat) (A0_0 : Option Addr) (c0_0 : Nat) (l0_0 : List ByteArray) (A0_1 : Option Addr) (c0_1 : Nat) (l0_1 : List (S94)) (a0_2 : Int) (a0_3 : Bool) (a1_0 : Int) (a1_1 : Int) (a1_2 : ByteArray) (a2 : Int) (r : Bool) (w : World) (hr0_0 : Kd.C Kd.string w A0_0 l0_0.length l0_0) (hc0_0 : l0_0.length ≤ c0_0) (hr0_1 : Kd.C k94 w A0_1 l0_1.length l0_1) (hc0_1 : l0_1.length ≤ c0_1) (h : hogsheadlaw10_ShelfTorn.f k l0_0 l0_1 a0_2 a0_3 a1_0 a1_1 a1_2 a2 = some r) :
  Calls Try.prog 8 #[.agg #[.slice A0_0 l0_0.length c0_0, .slice A0_1 l0_1.length c0_1, .int .i64 a0_2, .bool a0_3], .agg #[.int .i64 a1_0, .int .i64 a1_1, .string a1_2], .int .i64 a2] w fun e w' => e = .returned (.bool r) ∧ Below w.heap.size w w' := by
 have hu25 := Try.underlying25
 have hu43 := Try.underlying43
 have hu27 := Try.underlying27
 have HR0_0 := qM hr0_0
 have HC0_0 := qM hc0_0
 clear hr0_0 hc0_0
 have HR0_1 := qM hr0_1
 have HC0_1 := qM hc0_1
 clear hr0_1 hc0_1
 have HB := qM (Below.refl w.heap.size w)
 have H : ((hogsheadlaw10_shown.f k).bind fun t517 => ((hogsheadref08_Flush.f k l0_0 l0_1 a0_2 a0_3).bind fun bt518 => ((shelf_Find.f k bt518.1 bt518.2.1 bt518.2.2.1 bt518.2.2.2.1 a1_0 a1_1).bind fun bt528 => ((shelf_Put.f k bt518.1 bt518.2.1 bt518.2.2.1 bt518.2.2.2.1 a1_0 a1_1 a1_2).bind fun bt530 => (if bt518.2.2.2.2 = 0 then (if bt528.2 = 0 then (hogsheadlaw10_ShelfTorn.j0 k a2 t517 true a1_0 a1_1 a1_2 a1_0 a1_1 bt530.1 bt530.2.1 bt530.2.2.1 bt530.2.2.2.1) else (hogsheadlaw10_ShelfTorn.j0 k a2 t517 (bt530.2.2.2.2 != 0) a1_0 a1_1 a1_2 a1_0 a1_1 bt530.1 bt530.2.1 bt530.2.2.1 bt530.2.2.2.1)) else (hogsheadlaw10_ShelfTorn.j0 k a2 t517 true a1_0 a1_1 a1_2 a1_0 a1_1 bt530.1 bt530.2.1 bt530.2.2.1 bt530.2.2.2.1)))))) = some r := h
 clear h
 replace H := Option.bind_eq_some_iff.mp H
 obtain ⟨t517, A40, H⟩ := H
 replace H : ((hogsheadref08_Flush.f k l0_0 l0_1 a0_2 a0_3).bind fun bt518 => ((shelf_Find.f k bt518.1 bt518.2.1 bt518.2.2.1 bt518.2.2.2.1 a1_0 a1_1).bind fun bt528 => ((shelf_Put.f k bt518.1 bt518.2.1 bt518.2.2.1 bt518.2.2.2.1 a1_0 a1_1 a1_2).bind fun bt530 => (if bt518.2.2.2.2 = 0 then (if bt528.2 = 0 then (hogsheadlaw10_ShelfTorn.j0 k a2 t517 true a1_0 a1_1 a1_2 a1_0 a1_1 bt530.1 bt530.2.1 bt530.2.2.1 bt530.2.2.2.1) else (hogsheadlaw10_ShelfTorn.j0 k a2 t517 (bt530.2.2.2.2 != 0) a1_0 a1_1 a1_2 a1_0 a1_1 bt530.1 bt530.2.1 bt530.2.2.1 bt530.2.2.2.1)) else (hogsheadlaw10_ShelfTorn.j0 k a2 t517 true a1_0 a1_1 a1_2 a1_0 a1_1 bt530.1 bt530.2.1 bt530.2.2.1 bt530.2.2.2.1))))) = some r := H
 have A4 := qM A40
 clear A40
 replace H := Option.bind_eq_some_iff.mp H
 obtain ⟨⟨t518, t521, t524, t525, t526⟩, A50, H⟩ := H
 replace H : ((shelf_Find.f k t518 t521 t524 t525 a1_0 a1_1).bind fun bt528 => ((shelf_Put.f k t518 t521 t524 t525 a1_0 a1_1 a1_2).bind fun bt530 => (if t526 = 0 then (if bt528.2 = 0 then (hogsheadlaw10_ShelfTorn.j0 k a2 t517 true a1_0 a1_1 a1_2 a1_0 a1_1 bt530.1 bt530.2.1 bt530.2.2.1 bt530.2.2.2.1) else (hogsheadlaw10_ShelfTorn.j0 k a2 t517 (bt530.2.2.2.2 != 0) a1_0 a1_1 a1_2 a1_0 a1_1 bt530.1 bt530.2.1 bt530.2.2.1 bt530.2.2.2.1)) else (hogsheadlaw10_ShelfTorn.j0 k a2 t517 true a1_0 a1_1 a1_2 a1_0 a1_1 bt530.1 bt530.2.1 bt530.2.2.1 bt530.2.2.2.1)))) = some r := H
 have A5 := qM A50
 clear A50
 replace H := Option.bind_eq_some_iff.mp H
 obtain ⟨⟨t528, t529⟩, A60, H⟩ := H
 replace H : ((shelf_Put.f k t518 t521 t524 t525 a1_0 a1_1 a1_2).bind fun bt530 => (if t526 = 0 then (if t529 = 0 then (hogsheadlaw10_ShelfTorn.j0 k a2 t517 true a1_0 a1_1 a1_2 a1_0 a1_1 bt530.1 bt530.2.1 bt530.2.2.1 bt530.2.2.2.1) else (hogsheadlaw10_ShelfTorn.j0 k a2 t517 (bt530.2.2.2.2 != 0) a1_0 a1_1 a1_2 a1_0 a1_1 bt530.1 bt530.2.1 bt530.2.2.1 bt530.2.2.2.1)) else (hogsheadlaw10_ShelfTorn.j0 k a2 t517 true a1_0 a1_1 a1_2 a1_0 a1_1 bt530.1 bt530.2.1 bt530.2.2.1 bt530.2.2.2.1))) = some r := H
 have A6 := qM A60
 clear A60
 replace H := Option.bind_eq_some_iff.mp H
 obtain ⟨⟨t530, t533, t536, t537, t538⟩, A70, H⟩ := H
 replace H : (if t526 = 0 then (if t529 = 0 then (hogsheadlaw10_ShelfTorn.j0 k a2 t517 true a1_0 a1_1 a1_2 a1_0 a1_1 t530 t533 t536 t537) else (hogsheadlaw10_ShelfTorn.j0 k a2 t517 (t538 != 0) a1_0 a1_1 a1_2 a1_0 a1_1 t530 t533 t536 t537)) else (hogsheadlaw10_ShelfTorn.j0 k a2 t517 true a1_0 a1_1 a1_2 a1_0 a1_1 t530 t533 t536 t537)) = some r := H
 have A7 := qM A70
 clear A70
 have HC8 := qM H
 clear H
 go_enter Try.func8, Try.ntmps8
 go_upto_region 6 with (first | ((with_reducible refine gate_dst (N := 3) rfl ?_); refine box_event ?hg (N := 3) ?hd (cs := #[.slice A0_0 l0_0.length c0_0, .slice A0_1 l0_1.length c0_1, .int .i64 a0_2, .bool a0_3]) (t := 25) ?hr ?_; (case hd => rfl); (case hg => rfl); (case hr => first | (go_simp; done) | (go_simp; rfl)); intro g515 hg w9 hbox hb; have n0_ := qM (eT (by repeat (first | (with_reducible first | exact HB.out | apply eA | apply eN | apply eD) | exact HB.out)) hb); have n1_ := qM (hbox); have n2_ := qM ((by rw [hg]; exact (eZ (by repeat (first | (with_reducible first | exact HB.out | apply eA | apply eN | apply eD) | exact HB.out))) : w.heap.size ≤ g515)); have n3_ := n2_; clear HB; have HB := n0_; have B515 := n1_; have GW515 := n2_; have GE515 := n3_; clear n0_ n1_ n2_ n3_; clear hb hbox hg) | ((with_reducible refine gate_dst (N := 4) rfl ?_); refine box_event ?hg (N := 4) ?hd (cs := #[.int .i64 a1_0, .int .i64 a1_1, .string a1_2]) (t := 43) ?hr ?_; (case hd => rfl); (case hg => rfl); (case hr => first | (go_simp; done) | (go_simp; rfl)); intro g516 hg w10 hbox hb; have n0_ := qM (qB (g := g515) (by (with_reducible repeat first | refine qN ?_ _ | refine qD ?_ | refine qA ?_ _); exact B515.out) hb); have n1_ := qM (eT (by repeat (first | (with_reducible first | exact HB.out | apply eA | apply eN | apply eD | refine eU ?_ (by assumption)) | exact HB.out)) hb); have n2_ := qM (hbox); have n3_ := qM ((by rw [hg]; exact (eZ (by repeat (first | (with_reducible first | exact HB.out | apply eA | apply eN | apply eD | refine eU ?_ (by assumption)) | exact HB.out))) : w.heap.size ≤ g516)); have n4_ := n3_; have n5_ := qM ((by rw [hg]; exact Nat.ne_of_lt (qL (g := g515) (by (with_reducible repeat first | refine qN ?_ _ | refine qD ?_ | refine qA ?_ _); exact B515.out)) : g515 ≠ g516)); have n6_ := qM (Ne.symm n5_.out); clear B515 HB; have B515 := n0_; have HB := n1_; have B516 := n2_; have GW516 := n3_; have GE516 := n4_; have NB515_516 := n5_; have NB516_515 := n6_; clear n0_ n1_ n2_ n3_ n4_ n5_ n6_; clear hb hbox hg) | ((with_reducible refine gate_callee (f := 11) rfl ?_); refine goesL_ (some 16) rfl rfl Try.func11 (by kernel_rfl) rfl #[] rfl (by (try simp only [List.map_toArray, List.map_cons, List.map_nil]); first | done | rfl | (simp only [List.length_drop, List.length_take]; rfl)) ?_; (with_reducible refine (hogsheadlaw10_shown.calls k  t517 _ A4.out).mono ?_); rintro e w11 ⟨rfl, hb⟩; refine ⟨_, rfl, ?_⟩; have n0_ := qM (qB (g := g515) (by (with_reducible repeat first | refine qN ?_ _ | refine qD ?_ | refine qA ?_ _); exact B515.out) hb); have n1_ := qM (qB (g := g516) (by (with_reducible repeat first | refine qN ?_ _ | refine qD ?_ | refine qA ?_ _); exact B516.out) hb); have n2_ := qM (eT (by repeat (first | (with_reducible first | exact HB.out | apply eA | apply eN | apply eD | refine eU ?_ (by assumption)) | exact HB.out)) hb); clear B515 B516 HB; have B515 := n0_; have B516 := n1_; have HB := n2_; clear n0_ n1_ n2_; (try clear hb); (try clear hb2); (try clear hk); (try clear hi); have hnb12 := NB515_516.out; have hnc12 := NB516_515.out; obtain ⟨z13_0, z13_1, z13_2, z13_3, f13_0, f13_1, f13_2, f13_3⟩ := cells4 B515.out) | ((with_reducible refine gate_callee (f := 29) rfl ?_); refine goesL_ (some 19) rfl rfl Try.func29 (by kernel_rfl) rfl #[.agg #[.slice A0_0 l0_0.length c0_0, .slice A0_1 l0_1.length c0_1, .int .i64 a0_2, .bool a0_3]] rfl (by (try simp only [List.map_toArray, List.map_cons, List.map_nil]); first | done | rfl | (simp only [List.length_drop, List.length_take]; rfl)) ?_; (with_reducible refine (hogsheadref08_Flush.calls k (fun k_ => k_ < w.heap.size) _ _ l0_0 (fun k_ => k_ < w.heap.size) _ _ l0_1 a0_2 a0_3 t518 t521 t524 t525 t526 _ ?side1 ?side2 A5.out).mono ?_); (case side1 => exact Kd.V_mk HC0_0.out (Kd.F_below (Kd.C_F Kd.heap_string HR0_0.out) (by repeat (first | (with_reducible first | exact HB.out | apply eA | apply eN | apply eD | refine eU ?_ (by assumption)) | exact HB.out)))); (case side2 => exact Kd.V_mk HC0_1.out (Kd.F_below (Kd.C_F k94_heap HR0_1.out) (by repeat (first | (with_reducible first | exact HB.out | apply eA | apply eN | apply eD | refine eU ?_ (by assumption)) | exact HB.out)))); rintro e w14 ⟨v519, v522, rfl, ho0, ho1, hb⟩; refine ⟨_, rfl, ?_⟩; have n0_ := qM (Vl (Vm (ok' := fun k_ => k_ ≠ g515 ∧ k_ ≠ g516) ho0 (fun k_ hk_ => ⟨Or.elim hk_ (fun hs_ => Or.elim hs_ (nL GW515) (nL GW515)) (fun hn_ => (Fb (g := g515) (by (with_reducible repeat first | refine qN ?_ _ | refine qD ?_ | refine qA ?_ _); exact B515.out) k_ hn_)), Or.elim hk_ (fun hs_ => Or.elim hs_ (nL GW516) (nL GW516)) (fun hn_ => (Fb (g := g516) (by (with_reducible repeat first | refine qN ?_ _ | refine qD ?_ | refine qA ?_ _); exact B516.out) k_ hn_))⟩)) (eZ (by repeat (first | (with_reducible first | exact HB.out | apply eA | apply eN | apply eD | refine eU ?_ (by assumption)) | exact HB.out)))); have n1_ := qM (Vl (Vm (ok' := fun k_ => k_ ≠ g515 ∧ k_ ≠ g516) ho1 (fun k_ hk_ => ⟨Or.elim hk_ (fun hs_ => Or.elim hs_ (nL GW515) (nL GW515)) (fun hn_ => (Fb (g := g515) (by (with_reducible repeat first | refine qN ?_ _ | refine qD ?_ | refine qA ?_ _); exact B515.out) k_ hn_)), Or.elim hk_ (fun hs_ => Or.elim hs_ (nL GW516) (nL GW516)) (fun hn_ => (Fb (g := g516) (by (with_reducible repeat first | refine qN ?_ _ | refine qD ?_ | refine qA ?_ _); exact B516.out) k_ hn_))⟩)) (eZ (by repeat (first | (with_reducible first | exact HB.out | apply eA | apply eN | apply eD | refine eU ?_ (by assumption)) | exact HB.out)))); have n2_ := qM (qB (g := g515) (by (with_reducible repeat first | refine qN ?_ _ | refine qD ?_ | refine qA ?_ _); exact B515.out) hb); have n3_ := qM (qB (g := g516) (by (with_reducible repeat first | refine qN ?_ _ | refine qD ?_ | refine qA ?_ _); exact B516.out) hb); have n4_ := qM (eT (by repeat (first | (with_reducible first | exact HB.out | apply eA | apply eN | apply eD | refine eU ?_ (by assumption)) | exact HB.out)) hb); clear B515 B516 HB; have HO520 := n0_; have HO523 := n1_; have B515 := n2_; have B516 := n3_; have HB := n4_; clear n0_ n1_ n2_ n3_ n4_; (try clear hb); (try clear hb2); (try clear hk); (try clear hi); (try clear ho0); (try clear ho1); obtain ⟨Ao15, co15, eo15⟩ := Kd.V_slice HO520.out; subst eo15; obtain ⟨z16_0, z16_1, z16_2, z16_3, f16_0, f16_1, f16_2, f16_3⟩ := cells4 B515.out; obtain ⟨Ao17, co17, eo17⟩ := Kd.V_slice HO523.out; subst eo17; obtain ⟨z18_0, z18_1, z18_2, f18_0, f18_1, f18_2⟩ := cells3 B516.out) | ((with_reducible refine gate_dst (N := 9) rfl ?_); refine box_event ?hg (N := 9) ?hd (cs := #[.int .i64 0, .int .i64 0]) (t := 27) ?hr ?_; (case hd => rfl); (case hg => rfl); (case hr => first | (go_simp; done) | (go_simp; rfl)); intro g527 hg w19 hbox hb; have n0_ := qM (Vb (Kd.V_elderB (by (with_reducible repeat first | apply VA | apply VN | apply VD); exact (Vm (Vf (p := ⟨g515, 3, none⟩) (Vf (p := ⟨g515, 2, none⟩) (Vf (p := ⟨g515, 1, none⟩) (Vf (p := ⟨g515, 0, none⟩) (Vm HO520.out (fun k_ hk => (⟨hk, hk.1⟩ : _ ∧ k_ ≠ g515))) (fun _ hk => hk.2) (.slice Ao15 t518.length co15)) (fun _ hk => hk.2) (.slice Ao17 t521.length co17)) (fun _ hk => hk.2) (.int .i64 t524)) (fun _ hk => hk.2) (.bool t525)) (fun _ h_ => h_.1))) g527 (Nat.le_of_eq hg.symm)) hb); have n1_ := qM (Vb (Kd.V_elderB (by (with_reducible repeat first | apply VA | apply VN | apply VD); exact (Vm (Vf (p := ⟨g515, 3, none⟩) (Vf (p := ⟨g515, 2, none⟩) (Vf (p := ⟨g515, 1, none⟩) (Vf (p := ⟨g515, 0, none⟩) (Vm HO523.out (fun k_ hk => (⟨hk, hk.1⟩ : _ ∧ k_ ≠ g515))) (fun _ hk => hk.2) (.slice Ao15 t518.length co15)) (fun _ hk => hk.2) (.slice Ao17 t521.length co17)) (fun _ hk => hk.2) (.int .i64 t524)) (fun _ hk => hk.2) (.bool t525)) (fun _ h_ => h_.1))) g527 (Nat.le_of_eq hg.symm)) hb); have n2_ := qM (qB (g := g515) (by (with_reducible repeat first | refine qN ?_ _ | refine qD ?_ | refine qA ?_ _); apply puts4; (with_reducible repeat first | refine qN ?_ _ | refine qD ?_ | refine qA ?_ _); exact B515.out) hb); have n3_ := qM (qB (g := g516) (o := .cells #[.int .i64 a1_0, .int .i64 a1_1, .string a1_2] 43 (0, 0)) (by (with_reducible repeat first | refine qN ?_ _ | refine qD ?_ | refine qA ?_ _); (iterate 4 (refine qR ?_ NB516_515.out _; (with_reducible repeat first | refine qN ?_ _ | refine qD ?_ | refine qA ?_ _))); exact B516.out) hb); have n4_ := qM (eT (by repeat (first | (with_reducible first | exact HB.out | apply eA | apply eN | apply eD | refine eU ?_ (by assumption)) | exact HB.out)) hb); have n5_ := qM (hbox); have n6_ := qM ((by rw [hg]; exact (eZ (by repeat (first | (with_reducible first | exact HB.out | apply eA | apply eN | apply eD | refine eU ?_ (by assumption)) | exact HB.out))) : w.heap.size ≤ g527)); have n7_ := n6_; have n8_ := qM ((by rw [hg]; exact Nat.ne_of_lt (qL (g := g515) (by (with_reducible repeat first | refine qN ?_ _ | refine qD ?_ | refine qA ?_ _); apply puts4; (with_reducible repeat first | refine qN ?_ _ | refine qD ?_ | refine qA ?_ _); exact B515.out)) : g515 ≠ g527)); have n9_ := qM ((by rw [hg]; exact Nat.ne_of_gt (qL (g := g515) (by (with_reducible repeat first | refine qN ?_ _ | refine qD ?_ | refine qA ?_ _); apply puts4; (with_reducible repeat first | refine qN ?_ _ | refine qD ?_ | refine qA ?_ _); exact B515.out)) : g527 ≠ g515)); have n10_ := qM ((by rw [hg]; exact Nat.ne_of_lt (by (with_reducible repeat first | refine Nat.lt_of_lt_of_le ?_ ((Below.refl 0 _).setCell (Nat.zero_le _) _).size | refine Nat.lt_of_lt_of_le ?_ ((Below.refl 0 _).alloc (Nat.zero_le _) _).size); exact qL B516.out) : g516 ≠ g527)); have n11_ := qM ((by rw [hg]; exact Nat.ne_of_gt (by (with_reducible repeat first | refine Nat.lt_of_lt_of_le ?_ ((Below.refl 0 _).setCell (Nat.zero_le _) _).size | refine Nat.lt_of_lt_of_le ?_ ((Below.refl 0 _).alloc (Nat.zero_le _) _).size); exact qL B516.out) : g527 ≠ g516)); clear HO520 HO523 B515 B516 HB; have HO520 := n0_; have HO523 := n1_; have B515 := n2_; have B516 := n3_; have HB := n4_; have B527 := n5_; have GW527 := n6_; have GE527 := n7_; have NB515_527 := n8_; have NB527_515 := n9_; have NB516_527 := n10_; have NB527_516 := n11_; clear n0_ n1_ n2_ n3_ n4_ n5_ n6_ n7_ n8_ n9_ n10_ n11_; clear hb hbox hg; have hnb20 := NB527_515.out; have hnc20 := NB515_527.out; have hnb21 := NB527_516.out; have hnc21 := NB516_527.out; have z22_0 : w19.cell? ⟨g527, 0, none⟩ = some (.int .i64 0) := (qC B527.out 0).trans rfl; have z22_1 : w19.cell? ⟨g527, 1, none⟩ = some (.int .i64 0) := (qC B527.out 1).trans rfl; have f22_0 := qF B527.out 0; have f22_1 := qF B527.out 1; obtain ⟨z23_0, z23_1, z23_2, z23_3, f23_0, f23_1, f23_2, f23_3⟩ := cells4 B515.out) | ((with_reducible refine gate_callee (f := 18) rfl ?_); refine goesL_ (some 30) rfl rfl Try.func18 (by kernel_rfl) rfl #[.agg #[.slice Ao15 t518.length co15, .slice Ao17 t521.length co17, .int .i64 t524, .bool t525], .agg #[.int .i64 a1_0, .int .i64 a1_1]] rfl (by (try simp only [List.map_toArray, List.map_cons, List.map_nil]); first | done | rfl | (simp only [List.length_drop, List.length_take]; rfl)) ?_; (with_reducible refine (shelf_Find.calls k _ _ t518 _ _ t521 t524 t525 a1_0 a1_1 t528 t529 _ ?side1 ?side2 ?side3 ?side4 A6.out).mono ?_); (case side1 => refine (Kd.V_reads' (e := 9) (base := w.heap.size) (ok := fun k_ => ((k_ ≠ g515 ∧ k_ ≠ g516) ∧ k_ ≠ g527)) (n := t518.length) (c := co15) ?_).2.2; exact (by (with_reducible repeat first | apply VA | apply VN | apply VD); exact (Vm (Vf (p := ⟨g527, 1, none⟩) (Vf (p := ⟨g527, 0, none⟩) (Vm HO520.out (fun k_ hk => (⟨hk, hk.2⟩ : _ ∧ k_ ≠ g527))) (fun _ hk => hk.2) (.int .i64 a1_0)) (fun _ hk => hk.2) (.int .i64 a1_1)) (fun _ h_ => h_.1)))); (case side2 => exact (Kd.V_reads' HO520.out).2.1); (case side3 => refine (Kd.V_reads' (e := 94) (base := w.heap.size) (ok := fun k_ => ((k_ ≠ g515 ∧ k_ ≠ g516) ∧ k_ ≠ g527)) (n := t521.length) (c := co17) ?_).2.2; exact (by (with_reducible repeat first | apply VA | apply VN | apply VD); exact (Vm (Vf (p := ⟨g527, 1, none⟩) (Vf (p := ⟨g527, 0, none⟩) (Vm HO523.out (fun k_ hk => (⟨hk, hk.2⟩ : _ ∧ k_ ≠ g527))) (fun _ hk => hk.2) (.int .i64 a1_0)) (fun _ hk => hk.2) (.int .i64 a1_1)) (fun _ h_ => h_.1)))); (case side4 => exact (Kd.V_reads' HO523.out).2.1); rintro e w24 ⟨rfl, hb⟩; refine ⟨_, rfl, ?_⟩; have n0_ := qM (Vb (by (with_reducible repeat first | apply VA | apply VN | apply VD); exact (Vm (Vf (p := ⟨g527, 1, none⟩) (Vf (p := ⟨g527, 0, none⟩) (Vm HO520.out (fun k_ hk => (⟨hk, hk.2⟩ : _ ∧ k_ ≠ g527))) (fun _ hk => hk.2) (.int .i64 a1_0)) (fun _ hk => hk.2) (.int .i64 a1_1)) (fun _ h_ => h_.1))) hb); have n1_ := qM (Vb (by (with_reducible repeat first | apply VA | apply VN | apply VD); exact (Vm (Vf (p := ⟨g527, 1, none⟩) (Vf (p := ⟨g527, 0, none⟩) (Vm HO523.out (fun k_ hk => (⟨hk, hk.2⟩ : _ ∧ k_ ≠ g527))) (fun _ hk => hk.2) (.int .i64 a1_0)) (fun _ hk => hk.2) (.int .i64 a1_1)) (fun _ h_ => h_.1))) hb); have n2_ := qM (qB (g := g515) (o := .cells #[.slice Ao15 t518.length co15, .slice Ao17 t521.length co17, .int .i64 t524, .bool t525] 25 (0, 0)) (by (with_reducible repeat first | refine qN ?_ _ | refine qD ?_ | refine qA ?_ _); (iterate 2 (refine qR ?_ NB515_527.out _; (with_reducible repeat first | refine qN ?_ _ | refine qD ?_ | refine qA ?_ _))); exact B515.out) hb); have n3_ := qM (qB (g := g516) (o := .cells #[.int .i64 a1_0, .int .i64 a1_1, .string a1_2] 43 (0, 0)) (by (with_reducible repeat first | refine qN ?_ _ | refine qD ?_ | refine qA ?_ _); (iterate 2 (refine qR ?_ NB516_527.out _; (with_reducible repeat first | refine qN ?_ _ | refine qD ?_ | refine qA ?_ _))); exact B516.out) hb); have n4_ := qM (qB (g := g527) (o := .cells #[.int .i64 a1_0, .int .i64 a1_1] 27 (0, 0)) (by (with_reducible repeat first | refine qN ?_ _ | refine qD ?_ | refine qA ?_ _); refine qP (cs := #[.int .i64 a1_0, .int .i64 0]) ?_ 1 _ rfl; (with_reducible repeat first | refine qN ?_ _ | refine qD ?_ | refine qA ?_ _); refine qP (cs := #[.int .i64 0, .int .i64 0]) ?_ 0 _ rfl; (with_reducible repeat first | refine qN ?_ _ | refine qD ?_ | refine qA ?_ _); exact B527.out) hb); have n5_ := qM (eT (by repeat (first | (with_reducible first | exact HB.out | apply eA | apply eN | apply eD | refine eU ?_ (by assumption)) | exact HB.out)) hb); clear HO520 HO523 B515 B516 B527 HB; have HO520 := n0_; have HO523 := n1_; have B515 := n2_; have B516 := n3_; have B527 := n4_; have HB := n5_; clear n0_ n1_ n2_ n3_ n4_ n5_; (try clear hb); (try clear hb2); (try clear hk); (try clear hi); obtain ⟨z25_0, z25_1, z25_2, z25_3, f25_0, f25_1, f25_2, f25_3⟩ := cells4 B515.out; obtain ⟨z26_0, z26_1, z26_2, f26_0, f26_1, f26_2⟩ := cells3 B516.out) | ((with_reducible refine gate_callee (f := 22) rfl ?_); refine goesL_ (some 36) rfl rfl Try.func22 (by kernel_rfl) rfl #[.agg #[.slice Ao15 t518.length co15, .slice Ao17 t521.length co17, .int .i64 t524, .bool t525], .agg #[.int .i64 a1_0, .int .i64 a1_1, .string a1_2]] rfl (by (try simp only [List.map_toArray, List.map_cons, List.map_nil]); first | done | rfl | (simp only [List.length_drop, List.length_take]; rfl)) ?_; (with_reducible refine (shelf_Put.calls k (fun k_ => ((k_ ≠ g515 ∧ k_ ≠ g516) ∧ k_ ≠ g527)) _ _ t518 (fun k_ => ((k_ ≠ g515 ∧ k_ ≠ g516) ∧ k_ ≠ g527)) _ _ t521 t524 t525 a1_0 a1_1 a1_2 t530 t533 t536 t537 t538 _ ?side1 ?side2 A7.out).mono ?_); (case side1 => exact HO520.out); (case side2 => exact HO523.out); rintro e w27 ⟨v531, v534, rfl, ho0, ho1, hb⟩; refine ⟨_, rfl, ?_⟩; have n0_ := qM (Vb (by (with_reducible repeat first | apply VA | apply VN | apply VD); exact HO520.out) hb); have n1_ := qM (Vb (by (with_reducible repeat first | apply VA | apply VN | apply VD); exact HO523.out) hb); have n2_ := qM (Vl (Vm (ok' := fun k_ => k_ ≠ g515 ∧ k_ ≠ g516 ∧ k_ ≠ g527) ho0 (fun k_ hk_ => ⟨Or.elim hk_ (fun hs_ => Or.elim hs_ (fun hs_ => hs_.1.1) (fun hs_ => hs_.1.1)) (fun hn_ => (Fb (g := g515) (by (with_reducible repeat first | refine qN ?_ _ | refine qD ?_ | refine qA ?_ _); exact B515.out) k_ hn_)), Or.elim hk_ (fun hs_ => Or.elim hs_ (fun hs_ => hs_.1.2) (fun hs_ => hs_.1.2)) (fun hn_ => (Fb (g := g516) (by (with_reducible repeat first | refine qN ?_ _ | refine qD ?_ | refine qA ?_ _); exact B516.out) k_ hn_)), Or.elim hk_ (fun hs_ => Or.elim hs_ (fun hs_ => hs_.2) (fun hs_ => hs_.2)) (fun hn_ => (Fb (g := g527) (by (with_reducible repeat first | refine qN ?_ _ | refine qD ?_ | refine qA ?_ _); exact B527.out) k_ hn_))⟩)) (eZ (by repeat (first | (with_reducible first | exact HB.out | apply eA | apply eN | apply eD | refine eU ?_ (by assumption)) | exact HB.out)))); have n3_ := qM (Vl (Vm (ok' := fun k_ => k_ ≠ g515 ∧ k_ ≠ g516 ∧ k_ ≠ g527) ho1 (fun k_ hk_ => ⟨Or.elim hk_ (fun hs_ => Or.elim hs_ (fun hs_ => hs_.1.1) (fun hs_ => hs_.1.1)) (fun hn_ => (Fb (g := g515) (by (with_reducible repeat first | refine qN ?_ _ | refine qD ?_ | refine qA ?_ _); exact B515.out) k_ hn_)), Or.elim hk_ (fun hs_ => Or.elim hs_ (fun hs_ => hs_.1.2) (fun hs_ => hs_.1.2)) (fun hn_ => (Fb (g := g516) (by (with_reducible repeat first | refine qN ?_ _ | refine qD ?_ | refine qA ?_ _); exact B516.out) k_ hn_)), Or.elim hk_ (fun hs_ => Or.elim hs_ (fun hs_ => hs_.2) (fun hs_ => hs_.2)) (fun hn_ => (Fb (g := g527) (by (with_reducible repeat first | refine qN ?_ _ | refine qD ?_ | refine qA ?_ _); exact B527.out) k_ hn_))⟩)) (eZ (by repeat (first | (with_reducible first | exact HB.out | apply eA | apply eN | apply eD | refine eU ?_ (by assumption)) | exact HB.out)))); have n4_ := qM (qB (g := g515) (by (with_reducible repeat first | refine qN ?_ _ | refine qD ?_ | refine qA ?_ _); exact B515.out) hb); have n5_ := qM (qB (g := g516) (by (with_reducible repeat first | refine qN ?_ _ | refine qD ?_ | refine qA ?_ _); exact B516.out) hb); have n6_ := qM (qB (g := g527) (by (with_reducible repeat first | refine qN ?_ _ | refine qD ?_ | refine qA ?_ _); exact B527.out) hb); have n7_ := qM (eT (by repeat (first | (with_reducible first | exact HB.out | apply eA | apply eN | apply eD | refine eU ?_ (by assumption)) | exact HB.out)) hb); clear HO520 HO523 B515 B516 B527 HB; have HO520 := n0_; have HO523 := n1_; have HO532 := n2_; have HO535 := n3_; have B515 := n4_; have B516 := n5_; have B527 := n6_; have HB := n7_; clear n0_ n1_ n2_ n3_ n4_ n5_ n6_ n7_; (try clear hb); (try clear hb2); (try clear hk); (try clear hi); (try clear ho0); (try clear ho1)) | ((with_reducible refine gate_dst (N := 12) rfl ?_); refine box_event ?hg (N := 12) ?hd (cs := #[.slice none 0 0, .slice none 0 0, .int .i64 0, .bool false]) (t := 25) ?hr ?_; (case hd => rfl); (case hg => rfl); (case hr => first | (go_simp; done) | (go_simp; rfl)); intro g539 hg w28 hbox hb; have n0_ := qM (Vb (Kd.V_elderB (by (with_reducible repeat first | apply VA | apply VN | apply VD); exact HO520.out) g539 (Nat.le_of_eq hg.symm)) hb); have n1_ := qM (Vb (Kd.V_elderB (by (with_reducible repeat first | apply VA | apply VN | apply VD); exact HO523.out) g539 (Nat.le_of_eq hg.symm)) hb); have n2_ := qM (Vb (Kd.V_elderB (by (with_reducible repeat first | apply VA | apply VN | apply VD); exact HO532.out) g539 (Nat.le_of_eq hg.symm)) hb); have n3_ := qM (Vb (Kd.V_elderB (by (with_reducible repeat first | apply VA | apply VN | apply VD); exact HO535.out) g539 (Nat.le_of_eq hg.symm)) hb); have n4_ := qM (qB (g := g515) (by (with_reducible repeat first | refine qN ?_ _ | refine qD ?_ | refine qA ?_ _); exact B515.out) hb); have n5_ := qM (qB (g := g516) (by (with_reducible repeat first | refine qN ?_ _ | refine qD ?_ | refine qA ?_ _); exact B516.out) hb); have n6_ := qM (qB (g := g527) (by (with_reducible repeat first | refine qN ?_ _ | refine qD ?_ | refine qA ?_ _); exact B527.out) hb); have n7_ := qM (eT (by repeat (first | (with_reducible first | exact HB.out | apply eA | apply eN | apply eD | refine eU ?_ (by assumption)) | exact HB.out)) hb); have n8_ := qM (hbox); have n9_ := qM ((by rw [hg]; exact (eZ (by repeat (first | (with_reducible first | exact HB.out | apply eA | apply eN | apply eD | refine eU ?_ (by assumption)) | exact HB.out))) : w.heap.size ≤ g539)); have n10_ := n9_; have n11_ := qM ((by rw [hg]; exact Nat.ne_of_lt (qL (g := g515) (by (with_reducible repeat first | refine qN ?_ _ | refine qD ?_ | refine qA ?_ _); exact B515.out)) : g515 ≠ g539)); have n12_ := qM (Ne.symm n11_.out); have n13_ := qM ((by rw [hg]; exact Nat.ne_of_lt (qL (g := g516) (by (with_reducible repeat first | refine qN ?_ _ | refine qD ?_ | refine qA ?_ _); exact B516.out)) : g516 ≠ g539)); have n14_ := qM (Ne.symm n13_.out); have n15_ := qM ((by rw [hg]; exact Nat.ne_of_lt (qL (g := g527) (by (with_reducible repeat first | refine qN ?_ _ | refine qD ?_ | refine qA ?_ _); exact B527.out)) : g527 ≠ g539)); have n16_ := qM (Ne.symm n15_.out); clear HO520 HO523 HO532 HO535 B515 B516 B527 HB; have HO520 := n0_; have HO523 := n1_; have HO532 := n2_; have HO535 := n3_; have B515 := n4_; have B516 := n5_; have B527 := n6_; have HB := n7_; have B539 := n8_; have GW539 := n9_; have GE539 := n10_; have NB515_539 := n11_; have NB539_515 := n12_; have NB516_539 := n13_; have NB539_516 := n14_; have NB527_539 := n15_; have NB539_527 := n16_; clear n0_ n1_ n2_ n3_ n4_ n5_ n6_ n7_ n8_ n9_ n10_ n11_ n12_ n13_ n14_ n15_ n16_; clear hb hbox hg; obtain ⟨Ao29, co29, eo29⟩ := Kd.V_slice HO532.out; subst eo29; have hnb30 := NB539_515.out; have hnc30 := NB515_539.out; have hnb31 := NB539_516.out; have hnc31 := NB516_539.out; have hnb32 := NB539_527.out; have hnc32 := NB527_539.out; obtain ⟨z33_0, z33_1, z33_2, z33_3, f33_0, f33_1, f33_2, f33_3⟩ := cells4 B539.out; obtain ⟨Ao34, co34, eo34⟩ := Kd.V_slice HO535.out; subst eo34))
 (try simp only [Act.put, List.setIfInBounds_toArray, List.set_cons_zero, List.set_cons_succ])
 go_cut [48] (fun v48 wc => ∃ (kq : Nat) (x48_7 : Bool), v48 = .bool x48_7 ∧ Aside0 (hogsheadlaw10_ShelfTorn.j0 kq a2 t517 x48_7 a1_0 a1_1 a1_2 a1_0 a1_1 t530 t533 t536 t537 = some r) ∧ Aside0 (kq ≤ k) ∧ Aside0 (Kd.V Kd.string 9 wc w.heap.size (fun k_ => k_ ≠ g515 ∧ k_ ≠ g516 ∧ k_ ≠ g527 ∧ k_ ≠ g539) (.slice Ao15 t518.length co15) t518) ∧ Aside0 (Kd.V k94 94 wc w.heap.size (fun k_ => k_ ≠ g515 ∧ k_ ≠ g516 ∧ k_ ≠ g527 ∧ k_ ≠ g539) (.slice Ao17 t521.length co17) t521) ∧ Aside0 (Kd.V Kd.string 9 wc w.heap.size (fun k_ => k_ ≠ g515 ∧ k_ ≠ g516 ∧ k_ ≠ g527 ∧ k_ ≠ g539) (.slice Ao29 t530.length co29) t530) ∧ Aside0 (Kd.V k94 94 wc w.heap.size (fun k_ => k_ ≠ g515 ∧ k_ ≠ g516 ∧ k_ ≠ g527 ∧ k_ ≠ g539) (.slice Ao34 t533.length co34) t533) ∧ Aside0 (wc.heap[g515]? = some (.cells #[(.slice Ao15 t518.length co15), (.slice Ao17 t521.length co17), .int .i64 t524, .bool t525] 25 (0, 0))) ∧ Aside0 (wc.heap[g516]? = some (.cells #[.int .i64 a1_0, .int .i64 a1_1, .string a1_2] 43 (0, 0))) ∧ Aside0 (wc.heap[g527]? = some (.cells #[.int .i64 a1_0, .int .i64 a1_1] 27 (0, 0))) ∧ Aside0 (wc.heap[g539]? = some (.cells #[(.slice Ao29 t530.length co29), (.slice Ao34 t533.length co34), .int .i64 t536, .bool t537] 25 (0, 0))) ∧ Aside0 (Below w.heap.size w wc))
 case first =>
  have H := HC8.out
  clear HC8
  by_cases c35 : t526 = 0
  ·rw [if_pos c35] at H
   have c35b0 : (t526 == 0) = true := beq_iff_eq.mpr c35
   have c35b1 : (t526 != 0) = false := bne_eq_false_iff_eq.mpr c35
   clear c35
   (first | rw [c35b0] | (simp only [i64_w, i32_w]; rw [c35b0]) | skip)
   by_cases c36 : t529 = 0
   ·rw [if_pos c36] at H
    have c36b0 : (t529 == 0) = true := beq_iff_eq.mpr c36
    have c36b1 : (t529 != 0) = false := bne_eq_false_iff_eq.mpr c36
    clear c36
    have H' := qM H
    clear H
    go_wp2
    go_meet
    case rel => exact ⟨_, (true), (by first | rfl | (simp; done) | (simp [*]; done)), H', ⟨by first | omega | exact Nat.le_refl _⟩, ⟨by (with_reducible repeat first | apply VA | apply VN | apply VD); exact Vm (Vf (p := ⟨g539, 3, none⟩) (Vf (p := ⟨g539, 2, none⟩) (Vf (p := ⟨g539, 1, none⟩) (Vf (p := ⟨g539, 0, none⟩) (Vm HO520.out (fun k_ hk => (⟨hk, hk.2⟩ : _ ∧ k_ ≠ g539))) (fun _ hk => hk.2) (.slice Ao29 t530.length co29)) (fun _ hk => hk.2) (.slice Ao34 t533.length co34)) (fun _ hk => hk.2) (.int .i64 t536)) (fun _ hk => hk.2) (.bool t537)) (fun _ hk => ⟨hk.1.1.1.1, ⟨hk.1.1.1.2, ⟨hk.1.1.2, hk.1.2⟩⟩⟩)⟩, ⟨by (with_reducible repeat first | apply VA | apply VN | apply VD); exact Vm (Vf (p := ⟨g539, 3, none⟩) (Vf (p := ⟨g539, 2, none⟩) (Vf (p := ⟨g539, 1, none⟩) (Vf (p := ⟨g539, 0, none⟩) (Vm HO523.out (fun k_ hk => (⟨hk, hk.2⟩ : _ ∧ k_ ≠ g539))) (fun _ hk => hk.2) (.slice Ao29 t530.length co29)) (fun _ hk => hk.2) (.slice Ao34 t533.length co34)) (fun _ hk => hk.2) (.int .i64 t536)) (fun _ hk => hk.2) (.bool t537)) (fun _ hk => ⟨hk.1.1.1.1, ⟨hk.1.1.1.2, ⟨hk.1.1.2, hk.1.2⟩⟩⟩)⟩, ⟨by (with_reducible repeat first | apply VA | apply VN | apply VD); exact Vm (Vf (p := ⟨g539, 3, none⟩) (Vf (p := ⟨g539, 2, none⟩) (Vf (p := ⟨g539, 1, none⟩) (Vf (p := ⟨g539, 0, none⟩) (Vm HO532.out (fun k_ hk => (⟨hk, hk.2⟩ : _ ∧ k_ ≠ g539))) (fun _ hk => hk.2) (.slice Ao29 t530.length co29)) (fun _ hk => hk.2) (.slice Ao34 t533.length co34)) (fun _ hk => hk.2) (.int .i64 t536)) (fun _ hk => hk.2) (.bool t537)) (fun _ hk => ⟨hk.1.1.1, ⟨hk.1.1.2.1, ⟨hk.1.1.2.2, hk.1.2⟩⟩⟩)⟩, ⟨by (with_reducible repeat first | apply VA | apply VN | apply VD); exact Vm (Vf (p := ⟨g539, 3, none⟩) (Vf (p := ⟨g539, 2, none⟩) (Vf (p := ⟨g539, 1, none⟩) (Vf (p := ⟨g539, 0, none⟩) (Vm HO535.out (fun k_ hk => (⟨hk, hk.2⟩ : _ ∧ k_ ≠ g539))) (fun _ hk => hk.2) (.slice Ao29 t530.length co29)) (fun _ hk => hk.2) (.slice Ao34 t533.length co34)) (fun _ hk => hk.2) (.int .i64 t536)) (fun _ hk => hk.2) (.bool t537)) (fun _ hk => ⟨hk.1.1.1, ⟨hk.1.1.2.1, ⟨hk.1.1.2.2, hk.1.2⟩⟩⟩)⟩, ⟨by (with_reducible repeat first | refine qN ?_ _ | refine qD ?_ | refine qA ?_ _); (iterate 4 (refine qR ?_ NB515_539.out _; (with_reducible repeat first | refine qN ?_ _ | refine qD ?_ | refine qA ?_ _))); exact B515.out⟩, ⟨by (with_reducible repeat first | refine qN ?_ _ | refine qD ?_ | refine qA ?_ _); (iterate 4 (refine qR ?_ NB516_539.out _; (with_reducible repeat first | refine qN ?_ _ | refine qD ?_ | refine qA ?_ _))); exact B516.out⟩, ⟨by (with_reducible repeat first | refine qN ?_ _ | refine qD ?_ | refine qA ?_ _); (iterate 4 (refine qR ?_ NB527_539.out _; (with_reducible repeat first | refine qN ?_ _ | refine qD ?_ | refine qA ?_ _))); exact B527.out⟩, ⟨by (with_reducible repeat first | refine qN ?_ _ | refine qD ?_ | refine qA ?_ _); apply puts4; (with_reducible repeat first | refine qN ?_ _ | refine qD ?_ | refine qA ?_ _); exact B539.out⟩, ⟨by repeat (first | (with_reducible first | exact HB.out | apply eA | apply eN | apply eD | refine eS ?_ GE515.out | refine eS ?_ GE516.out | refine eS ?_ GE527.out | refine eS ?_ GE539.out) | exact HB.out)⟩⟩
   ·rw [if_neg c36] at H
    have c36b0 : (t529 == 0) = false := beq_eq_false_iff_ne.mpr c36
    have c36b1 : (t529 != 0) = true := bne_iff_ne.mpr c36
    have H' := qM H
    clear H
    go_wp2
    go_meet
    case rel => exact ⟨_, ((t538 != 0)), (by first | rfl | (simp; done) | (simp [*]; done)), H', ⟨by first | omega | exact Nat.le_refl _⟩, ⟨by (with_reducible repeat first | apply VA | apply VN | apply VD); exact Vm (Vf (p := ⟨g539, 3, none⟩) (Vf (p := ⟨g539, 2, none⟩) (Vf (p := ⟨g539, 1, none⟩) (Vf (p := ⟨g539, 0, none⟩) (Vm HO520.out (fun k_ hk => (⟨hk, hk.2⟩ : _ ∧ k_ ≠ g539))) (fun _ hk => hk.2) (.slice Ao29 t530.length co29)) (fun _ hk => hk.2) (.slice Ao34 t533.length co34)) (fun _ hk => hk.2) (.int .i64 t536)) (fun _ hk => hk.2) (.bool t537)) (fun _ hk => ⟨hk.1.1.1.1, ⟨hk.1.1.1.2, ⟨hk.1.1.2, hk.1.2⟩⟩⟩)⟩, ⟨by (with_reducible repeat first | apply VA | apply VN | apply VD); exact Vm (Vf (p := ⟨g539, 3, none⟩) (Vf (p := ⟨g539, 2, none⟩) (Vf (p := ⟨g539, 1, none⟩) (Vf (p := ⟨g539, 0, none⟩) (Vm HO523.out (fun k_ hk => (⟨hk, hk.2⟩ : _ ∧ k_ ≠ g539))) (fun _ hk => hk.2) (.slice Ao29 t530.length co29)) (fun _ hk => hk.2) (.slice Ao34 t533.length co34)) (fun _ hk => hk.2) (.int .i64 t536)) (fun _ hk => hk.2) (.bool t537)) (fun _ hk => ⟨hk.1.1.1.1, ⟨hk.1.1.1.2, ⟨hk.1.1.2, hk.1.2⟩⟩⟩)⟩, ⟨by (with_reducible repeat first | apply VA | apply VN | apply VD); exact Vm (Vf (p := ⟨g539, 3, none⟩) (Vf (p := ⟨g539, 2, none⟩) (Vf (p := ⟨g539, 1, none⟩) (Vf (p := ⟨g539, 0, none⟩) (Vm HO532.out (fun k_ hk => (⟨hk, hk.2⟩ : _ ∧ k_ ≠ g539))) (fun _ hk => hk.2) (.slice Ao29 t530.length co29)) (fun _ hk => hk.2) (.slice Ao34 t533.length co34)) (fun _ hk => hk.2) (.int .i64 t536)) (fun _ hk => hk.2) (.bool t537)) (fun _ hk => ⟨hk.1.1.1, ⟨hk.1.1.2.1, ⟨hk.1.1.2.2, hk.1.2⟩⟩⟩)⟩, ⟨by (with_reducible repeat first | apply VA | apply VN | apply VD); exact Vm (Vf (p := ⟨g539, 3, none⟩) (Vf (p := ⟨g539, 2, none⟩) (Vf (p := ⟨g539, 1, none⟩) (Vf (p := ⟨g539, 0, none⟩) (Vm HO535.out (fun k_ hk => (⟨hk, hk.2⟩ : _ ∧ k_ ≠ g539))) (fun _ hk => hk.2) (.slice Ao29 t530.length co29)) (fun _ hk => hk.2) (.slice Ao34 t533.length co34)) (fun _ hk => hk.2) (.int .i64 t536)) (fun _ hk => hk.2) (.bool t537)) (fun _ hk => ⟨hk.1.1.1, ⟨hk.1.1.2.1, ⟨hk.1.1.2.2, hk.1.2⟩⟩⟩)⟩, ⟨by (with_reducible repeat first | refine qN ?_ _ | refine qD ?_ | refine qA ?_ _); (iterate 4 (refine qR ?_ NB515_539.out _; (with_reducible repeat first | refine qN ?_ _ | refine qD ?_ | refine qA ?_ _))); exact B515.out⟩, ⟨by (with_reducible repeat first | refine qN ?_ _ | refine qD ?_ | refine qA ?_ _); (iterate 4 (refine qR ?_ NB516_539.out _; (with_reducible repeat first | refine qN ?_ _ | refine qD ?_ | refine qA ?_ _))); exact B516.out⟩, ⟨by (with_reducible repeat first | refine qN ?_ _ | refine qD ?_ | refine qA ?_ _); (iterate 4 (refine qR ?_ NB527_539.out _; (with_reducible repeat first | refine qN ?_ _ | refine qD ?_ | refine qA ?_ _))); exact B527.out⟩, ⟨by (with_reducible repeat first | refine qN ?_ _ | refine qD ?_ | refine qA ?_ _); apply puts4; (with_reducible repeat first | refine qN ?_ _ | refine qD ?_ | refine qA ?_ _); exact B539.out⟩, ⟨by repeat (first | (with_reducible first | exact HB.out | apply eA | apply eN | apply eD | refine eS ?_ GE515.out | refine eS ?_ GE516.out | refine eS ?_ GE527.out | refine eS ?_ GE539.out) | exact HB.out)⟩⟩
  ·rw [if_neg c35] at H
   have c35b0 : (t526 == 0) = false := beq_eq_false_iff_ne.mpr c35
   have c35b1 : (t526 != 0) = true := bne_iff_ne.mpr c35
   (first | rw [c35b0] | (simp only [i64_w, i32_w]; rw [c35b0]) | skip)
   have H' := qM H
   clear H
   go_wp2
   go_meet
   case rel => exact ⟨_, (true), (by first | rfl | (simp; done) | (simp [*]; done)), H', ⟨by first | omega | exact Nat.le_refl _⟩, ⟨by (with_reducible repeat first | apply VA | apply VN | apply VD); exact Vm (Vf (p := ⟨g539, 3, none⟩) (Vf (p := ⟨g539, 2, none⟩) (Vf (p := ⟨g539, 1, none⟩) (Vf (p := ⟨g539, 0, none⟩) (Vm HO520.out (fun k_ hk => (⟨hk, hk.2⟩ : _ ∧ k_ ≠ g539))) (fun _ hk => hk.2) (.slice Ao29 t530.length co29)) (fun _ hk => hk.2) (.slice Ao34 t533.length co34)) (fun _ hk => hk.2) (.int .i64 t536)) (fun _ hk => hk.2) (.bool t537)) (fun _ hk => ⟨hk.1.1.1.1, ⟨hk.1.1.1.2, ⟨hk.1.1.2, hk.1.2⟩⟩⟩)⟩, ⟨by (with_reducible repeat first | apply VA | apply VN | apply VD); exact Vm (Vf (p := ⟨g539, 3, none⟩) (Vf (p := ⟨g539, 2, none⟩) (Vf (p := ⟨g539, 1, none⟩) (Vf (p := ⟨g539, 0, none⟩) (Vm HO523.out (fun k_ hk => (⟨hk, hk.2⟩ : _ ∧ k_ ≠ g539))) (fun _ hk => hk.2) (.slice Ao29 t530.length co29)) (fun _ hk => hk.2) (.slice Ao34 t533.length co34)) (fun _ hk => hk.2) (.int .i64 t536)) (fun _ hk => hk.2) (.bool t537)) (fun _ hk => ⟨hk.1.1.1.1, ⟨hk.1.1.1.2, ⟨hk.1.1.2, hk.1.2⟩⟩⟩)⟩, ⟨by (with_reducible repeat first | apply VA | apply VN | apply VD); exact Vm (Vf (p := ⟨g539, 3, none⟩) (Vf (p := ⟨g539, 2, none⟩) (Vf (p := ⟨g539, 1, none⟩) (Vf (p := ⟨g539, 0, none⟩) (Vm HO532.out (fun k_ hk => (⟨hk, hk.2⟩ : _ ∧ k_ ≠ g539))) (fun _ hk => hk.2) (.slice Ao29 t530.length co29)) (fun _ hk => hk.2) (.slice Ao34 t533.length co34)) (fun _ hk => hk.2) (.int .i64 t536)) (fun _ hk => hk.2) (.bool t537)) (fun _ hk => ⟨hk.1.1.1, ⟨hk.1.1.2.1, ⟨hk.1.1.2.2, hk.1.2⟩⟩⟩)⟩, ⟨by (with_reducible repeat first | apply VA | apply VN | apply VD); exact Vm (Vf (p := ⟨g539, 3, none⟩) (Vf (p := ⟨g539, 2, none⟩) (Vf (p := ⟨g539, 1, none⟩) (Vf (p := ⟨g539, 0, none⟩) (Vm HO535.out (fun k_ hk => (⟨hk, hk.2⟩ : _ ∧ k_ ≠ g539))) (fun _ hk => hk.2) (.slice Ao29 t530.length co29)) (fun _ hk => hk.2) (.slice Ao34 t533.length co34)) (fun _ hk => hk.2) (.int .i64 t536)) (fun _ hk => hk.2) (.bool t537)) (fun _ hk => ⟨hk.1.1.1, ⟨hk.1.1.2.1, ⟨hk.1.1.2.2, hk.1.2⟩⟩⟩)⟩, ⟨by (with_reducible repeat first | refine qN ?_ _ | refine qD ?_ | refine qA ?_ _); (iterate 4 (refine qR ?_ NB515_539.out _; (with_reducible repeat first | refine qN ?_ _ | refine qD ?_ | refine qA ?_ _))); exact B515.out⟩, ⟨by (with_reducible repeat first | refine qN ?_ _ | refine qD ?_ | refine qA ?_ _); (iterate 4 (refine qR ?_ NB516_539.out _; (with_reducible repeat first | refine qN ?_ _ | refine qD ?_ | refine qA ?_ _))); exact B516.out⟩, ⟨by (with_reducible repeat first | refine qN ?_ _ | refine qD ?_ | refine qA ?_ _); (iterate 4 (refine qR ?_ NB527_539.out _; (with_reducible repeat first | refine qN ?_ _ | refine qD ?_ | refine qA ?_ _))); exact B527.out⟩, ⟨by (with_reducible repeat first | refine qN ?_ _ | refine qD ?_ | refine qA ?_ _); apply puts4; (with_reducible repeat first | refine qN ?_ _ | refine qD ?_ | refine qA ?_ _); exact B539.out⟩, ⟨by repeat (first | (with_reducible first | exact HB.out | apply eA | apply eN | apply eD | refine eS ?_ GE515.out | refine eS ?_ GE516.out | refine eS ?_ GE527.out | refine eS ?_ GE539.out) | exact HB.out)⟩⟩
 case rest =>
  clear HC8
  try clear c1
  try clear c2
  try clear p2
  try clear c3
  try clear c8
  try clear c11
  try clear c12
  try clear c18
  try clear c20
  try clear c21
  try clear c22
  try clear c29
  try clear c30
  try clear c31
  try clear c32
  try clear c35
  try clear c35b0
  try clear c35b1
  try clear c36
  try clear c36b0
  try clear c36b1
  try clear z13_0
  try clear z13_1
  try clear z13_2
  try clear z13_3
  try clear z16_0
  try clear z16_1
  try clear z16_2
  try clear z16_3
  try clear z18_0
  try clear z18_1
  try clear z18_2
  try clear z22_0
  try clear z22_1
  try clear z23_0
  try clear z23_1
  try clear z23_2
  try clear z23_3
  try clear z25_0
  try clear z25_1
  try clear z25_2
  try clear z25_3
  try clear z26_0
  try clear z26_1
  try clear z26_2
  try clear z33_0
  try clear z33_1
  try clear z33_2
  try clear z33_3
  try clear f13_0
  try clear f13_1
  try clear f13_2
  try clear f13_3
  try clear f16_0
  try clear f16_1
  try clear f16_2
  try clear f16_3
  try clear f18_0
  try clear f18_1
  try clear f18_2
  try clear f22_0
  try clear f22_1
  try clear f23_0
  try clear f23_1
  try clear f23_2
  try clear f23_3
  try clear f25_0
  try clear f25_1
  try clear f25_2
  try clear f25_3
  try clear f26_0
  try clear f26_1
  try clear f26_2
  try clear f33_0
  try clear f33_1
  try clear f33_2
  try clear f33_3
  obtain ⟨kq, x48_7, rfl, HA, HJ7, HO_516000, HO_516001, HO_540000, HO_540001, B515, B516, B527, B539, HB⟩ := hcut
  cases kq with
  | zero => exact absurd HA.out (by simp [hogsheadlaw10_ShelfTorn.j0])
  | succ kj7 =>
   have H := HA.out
   clear HA
   simp only [hogsheadlaw10_ShelfTorn.j0] at H
   by_cases c37 : x48_7 = true
   ·subst c37
    have H1 : (some t517) = some r := by rw [if_pos rfl] at H; exact H
    clear H
    have H := H1
    clear H1
    obtain rfl := Option.some.inj H
    go_wp2
    go_ret
    exact ⟨by first | rfl | (simp [errW_none, errW_some] <;> rfl) | (simp [*, errW_none, errW_some] <;> rfl), by repeat (first | (with_reducible first | exact HB.out | apply eA | apply eN | apply eD | refine eS ?_ GE515.out | refine eS ?_ GE516.out | refine eS ?_ GE527.out | refine eS ?_ GE539.out) | exact HB.out)⟩
   ·replace c37 := Bool.eq_false_iff.mpr c37
    subst c37
    have H1 : ((hogsheadref08_Crash.f kj7 t530 t533 t536 t537 0 a2).bind fun bt540 => ((shelf_Find.f kj7 bt540.1 bt540.2.1 bt540.2.2.1 bt540.2.2.2 a1_0 a1_1).bind fun bt548 => (if t517 = true then (if bt548.2 = 7 then (hogsheadlaw10_ShelfTorn.j1 kj7 true) else (if bt548.2 = 0 then (hogsheadlaw10_ShelfTorn.j1 kj7 (bt548.1.toList == a1_2.toList)) else (hogsheadlaw10_ShelfTorn.j1 kj7 false))) else (hogsheadlaw10_ShelfTorn.j1 kj7 false)))) = some r := by rw [if_neg (show ¬ (false = true) by decide)] at H; exact H
    clear H
    have H := H1
    clear H1
    replace H := Option.bind_eq_some_iff.mp H
    obtain ⟨⟨t540, t543, t546, t547⟩, A380, H⟩ := H
    replace H : ((shelf_Find.f kj7 t540 t543 t546 t547 a1_0 a1_1).bind fun bt548 => (if t517 = true then (if bt548.2 = 7 then (hogsheadlaw10_ShelfTorn.j1 kj7 true) else (if bt548.2 = 0 then (hogsheadlaw10_ShelfTorn.j1 kj7 (bt548.1.toList == a1_2.toList)) else (hogsheadlaw10_ShelfTorn.j1 kj7 false))) else (hogsheadlaw10_ShelfTorn.j1 kj7 false))) = some r := H
    have A38 := qM A380
    clear A380
    replace H := Option.bind_eq_some_iff.mp H
    obtain ⟨⟨t548, t549⟩, A390, H⟩ := H
    replace H : (if t517 = true then (if t549 = 7 then (hogsheadlaw10_ShelfTorn.j1 kj7 true) else (if t549 = 0 then (hogsheadlaw10_ShelfTorn.j1 kj7 (t548.toList == a1_2.toList)) else (hogsheadlaw10_ShelfTorn.j1 kj7 false))) else (hogsheadlaw10_ShelfTorn.j1 kj7 false)) = some r := H
    have A39 := qM A390
    clear A390
    have HC40 := qM H
    clear H
    try go_wp2
    have n0_ := qM (Kd.V_drew HO_516000.out)
    have n1_ := qM (Kd.V_drew HO_516001.out)
    have n2_ := qM (Kd.V_drew HO_540000.out)
    have n3_ := qM (Kd.V_drew HO_540001.out)
    have n4_ := qM (blk_drew B515.out)
    have n5_ := qM (blk_drew B516.out)
    have n6_ := qM (blk_drew B527.out)
    have n7_ := qM (blk_drew B539.out)
    have n8_ := qM (below_drew1 HB.out)
    clear HO_516000
    clear HO_516001
    clear HO_540000
    clear HO_540001
    clear B515
    clear B516
    clear B527
    clear B539
    clear HB
    have HO_516000 := n0_
    have HO_516001 := n1_
    have HO_540000 := n2_
    have HO_540001 := n3_
    have B515 := n4_
    have B516 := n5_
    have B527 := n6_
    have B539 := n7_
    have HB := n8_
    clear n0_ n1_ n2_ n3_ n4_ n5_ n6_ n7_ n8_
    refine start_ (n := 10) (S := fun w' => w'.cell? ⟨g539, 0, none⟩ = some (.slice Ao29 t530.length co29) ∧ w'.cell? ⟨g539, 1, none⟩ = some (.slice Ao34 t533.length co34) ∧ w'.cell? ⟨g539, 2, none⟩ = some (.int .i64 t536) ∧ w'.cell? ⟨g539, 3, none⟩ = some (.bool t537) ∧ w'.cell? ⟨g527, 0, none⟩ = some (.int .i64 a1_0) ∧ w'.cell? ⟨g527, 1, none⟩ = some (.int .i64 a1_1)) (ds := []) #[false, false, false, false, false, false, false, false, false, false] (by kernel_rfl) rfl rfl ⟨(qC B539.out 0).trans rfl, (qC B539.out 1).trans rfl, (qC B539.out 2).trans rfl, (qC B539.out 3).trans rfl, (qC B527.out 0).trans rfl, (qC B527.out 1).trans rfl⟩ (fun hHeld => ?_); refine with_tabW hogsheadlaw10_ShelfTorn.tab8 hogsheadlaw10_ShelfTorn.bits8 (fun HT_ HW_ => ?_)
    generalize wc.drew = w41 at HO_516000 HO_516001 HO_540000 HO_540001 B515 B516 B527 B539 HB hHeld ⊢
    refine pure_ (i := 1) (N := some 52) (v := ?_) (a' := ?_) #[false, true, false, false, false, false, false, false, false, false] rfl rfl (any_of HT_.out (by kernel_rfl)) (fun _ _ _ h => h) (Or.inl ⟨by rfl, ?_⟩) ?_ ?_
    rotate_left
    ·intro w'; go_simp; with_reducible rfl
    rotate_left
    ·simp only [Act.put, xA, xZ, xS, i64_w, i32_w]; rfl
    refine take_ (i := 0) (N := some 51) (v := ?_) (a' := ?_) #[true, true, false, false, false, false, false, false, false, false] rfl rfl (take_ofW HT_.out HW_.out (by kernel_rfl)) (fun _ _ _ h => h) (Or.inl ⟨by rfl, ?_⟩) hHeld ?_ ?_
    rotate_left
    ·rintro w' ⟨s0, s1, s2, s3, s4, s5⟩; go_simp; with_reducible rfl
    rotate_left
    ·simp only [Act.put, xA, xZ, xS, i64_w, i32_w]; rfl
    refine take_ (i := 3) (N := some 54) (v := ?_) (a' := ?_) #[true, true, false, true, false, false, false, false, false, false] rfl rfl (take_ofW HT_.out HW_.out (by kernel_rfl)) (fun _ _ _ h => h) (Or.inl ⟨by rfl, ?_⟩) hHeld ?_ ?_
    rotate_left
    ·rintro w' ⟨s0, s1, s2, s3, s4, s5⟩; go_simp; with_reducible rfl
    rotate_left
    ·simp only [Act.put, xA, xZ, xS, i64_w, i32_w]; rfl
    refine one_ (i := 2) (N := some 53) #[true, true, true, true, false, false, false, false, false, false] rfl rfl (one_of HT_.out (by kernel_rfl)) (by decide) (fun K hK => ?_)
    refine goes_ Try.func30 (by kernel_rfl) rfl #[.agg #[.slice Ao29 t530.length co29, .slice Ao34 t533.length co34, .int .i64 t536, .bool t537], .int .i64 0, .int .i64 a2] (by rfl) rfl rfl (by (try simp only [List.map_toArray, List.map_cons, List.map_nil]); first | done | rfl | (simp only [List.length_drop, List.length_take]; rfl)) ?_
    with_reducible refine (hogsheadref08_Crash.calls kj7 _ _ t530 _ _ t533 t536 t537 0 a2 t540 t543 t546 t547 _ ?side1 ?side2 ?side3 ?side4 A38.out).mono ?_
    (case side1 => repeat (first | exact (Kd.V_reads' HO_540000.out).2.2 | (with_reducible refine Kd.C_alloc ?_ _) | (with_reducible refine Kd.C_drewN ?_ _) | (with_reducible refine Kd.C_drew ?_)))
    (case side2 => exact (Kd.V_reads' HO_540000.out).2.1)
    (case side3 => repeat (first | exact (Kd.V_reads' HO_540001.out).2.2 | (with_reducible refine Kd.C_alloc ?_ _) | (with_reducible refine Kd.C_drewN ?_ _) | (with_reducible refine Kd.C_drew ?_)))
    (case side4 => exact (Kd.V_reads' HO_540001.out).2.1)
    rintro e w42 ⟨v541, v544, rfl, ho0, ho1, hb⟩
    refine ⟨_, rfl, ?_⟩
    have n0_ := qM (Vm (Kd.V_told (Kd.V_told (Kd.V_old (by (with_reducible repeat first | apply VA | apply VN | apply VD); exact HO_516000.out) hb) (Kd.R_base ho0)) (Kd.R_base ho1)) (fun _ h_ => h_.1))
    have n1_ := qM (Vm (Kd.V_told (Kd.V_told (Kd.V_old (by (with_reducible repeat first | apply VA | apply VN | apply VD); exact HO_516001.out) hb) (Kd.R_base ho0)) (Kd.R_base ho1)) (fun _ h_ => h_.1))
    have n2_ := qM (Vm (Kd.V_told (Kd.V_told (Kd.V_old (by (with_reducible repeat first | apply VA | apply VN | apply VD); exact HO_540000.out) hb) (Kd.R_base ho0)) (Kd.R_base ho1)) (fun _ h_ => h_.1))
    have n3_ := qM (Vm (Kd.V_told (Kd.V_told (Kd.V_old (by (with_reducible repeat first | apply VA | apply VN | apply VD); exact HO_540001.out) hb) (Kd.R_base ho0)) (Kd.R_base ho1)) (fun _ h_ => h_.1))
    have n4_ := qM (Kd.R_lower ho0 (eZ (by repeat (first | (with_reducible first | exact HB.out | apply eA | apply eN | apply eD | refine eU ?_ (by assumption)) | exact HB.out))))
    have n5_ := qM (Kd.R_lower ho1 (eZ (by repeat (first | (with_reducible first | exact HB.out | apply eA | apply eN | apply eD | refine eU ?_ (by assumption)) | exact HB.out))))
    have n6_ := qM (qB (g := g515) (by (with_reducible repeat first | refine qN ?_ _ | refine qD ?_ | refine qA ?_ _); exact B515.out) hb)
    have n7_ := qM (qB (g := g516) (by (with_reducible repeat first | refine qN ?_ _ | refine qD ?_ | refine qA ?_ _); exact B516.out) hb)
    have n8_ := qM (qB (g := g527) (by (with_reducible repeat first | refine qN ?_ _ | refine qD ?_ | refine qA ?_ _); exact B527.out) hb)
    have n9_ := qM (qB (g := g539) (by (with_reducible repeat first | refine qN ?_ _ | refine qD ?_ | refine qA ?_ _); exact B539.out) hb)
    have n10_ := qM (eT (by repeat (first | (with_reducible first | exact HB.out | apply eA | apply eN | apply eD | refine eU ?_ (by assumption)) | exact HB.out)) hb)
    clear HO_516000
    clear HO_516001
    clear HO_540000
    clear HO_540001
    clear B515
    clear B516
    clear B527
    clear B539
    clear HB
    have HO_516000 := n0_
    have HO_516001 := n1_
    have HO_540000 := n2_
    have HO_540001 := n3_
    have HO542 := n4_
    have HO545 := n5_
    have B515 := n6_
    have B516 := n7_
    have B527 := n8_
    have B539 := n9_
    have HB := n10_
    clear n0_ n1_ n2_ n3_ n4_ n5_ n6_ n7_ n8_ n9_ n10_
    (try clear hb)
    (try clear hb2)
    (try clear hk)
    (try clear hi)
    (try clear ho0)
    (try clear ho1)
    obtain ⟨Ao43, co43, eo43⟩ := Kd.R_slice HO542.out
    (first | subst eo43 | (injection eo43 with f1_ f2_ f3_; have f4_ := f1_.symm; have f5_ := f3_.symm; clear f1_ f2_ f3_; subst f4_; subst f5_))
    obtain ⟨Ao44, co44, eo44⟩ := Kd.R_slice HO545.out
    (first | subst eo44 | (injection eo44 with f1_ f2_ f3_; have f4_ := f1_.symm; have f5_ := f3_.symm; clear f1_ f2_ f3_; subst f4_; subst f5_))
    refine hK.out _ _ ⟨(qC B539.out 0).trans rfl, (qC B539.out 1).trans rfl, (qC B539.out 2).trans rfl, (qC B539.out 3).trans rfl, (qC B527.out 0).trans rfl, (qC B527.out 1).trans rfl⟩ (fun hHeld => ?_)
    clear hK K
    refine norm_ (a' := ?_) ?_ ?_
    rotate_left
    ·show Act.put _ (some 53) _ = _
     simp only [Act.put, xA, xZ, xS, i64_w, i32_w]
     rfl
    refine one_ (i := 4) (N := some 55) #[true, true, true, true, true, false, false, false, false, false] rfl rfl (one_of HT_.out (by kernel_rfl)) (by decide) (fun K hK => ?_)
    refine goes_ Try.func18 (by kernel_rfl) rfl #[.agg #[.slice Ao43 t540.length co43, .slice Ao44 t543.length co44, .int .i64 t546, .bool t547], .agg #[.int .i64 a1_0, .int .i64 a1_1]] (by rfl) rfl rfl (by (try simp only [List.map_toArray, List.map_cons, List.map_nil]); first | done | rfl | (simp only [List.length_drop, List.length_take]; rfl)) ?_
    with_reducible refine (shelf_Find.calls kj7 _ _ t540 _ _ t543 t546 t547 a1_0 a1_1 t548 t549 _ ?side1 ?side2 ?side3 ?side4 A39.out).mono ?_
    (case side1 => repeat (first | exact (Kd.R_reads' HO542.out).2.2 | (with_reducible refine Kd.C_alloc ?_ _) | (with_reducible refine Kd.C_drewN ?_ _) | (with_reducible refine Kd.C_drew ?_)))
    (case side2 => exact (Kd.R_reads' HO542.out).2.1)
    (case side3 => repeat (first | exact (Kd.R_reads' HO545.out).2.2 | (with_reducible refine Kd.C_alloc ?_ _) | (with_reducible refine Kd.C_drewN ?_ _) | (with_reducible refine Kd.C_drew ?_)))
    (case side4 => exact (Kd.R_reads' HO545.out).2.1)
    rintro e w45 ⟨rfl, hb⟩
    refine ⟨_, rfl, ?_⟩
    have n0_ := qM (Vb (by (with_reducible repeat first | apply VA | apply VN | apply VD); exact HO_516000.out) hb)
    have n1_ := qM (Vb (by (with_reducible repeat first | apply VA | apply VN | apply VD); exact HO_516001.out) hb)
    have n2_ := qM (Vb (by (with_reducible repeat first | apply VA | apply VN | apply VD); exact HO_540000.out) hb)
    have n3_ := qM (Vb (by (with_reducible repeat first | apply VA | apply VN | apply VD); exact HO_540001.out) hb)
    have n4_ := qM (Kd.R_below (by (with_reducible repeat first | apply RA | apply RN | apply RD); exact HO542.out) hb)
    have n5_ := qM (Kd.R_below (by (with_reducible repeat first | apply RA | apply RN | apply RD); exact HO545.out) hb)
    have n6_ := qM (qB (g := g515) (by (with_reducible repeat first | refine qN ?_ _ | refine qD ?_ | refine qA ?_ _); exact B515.out) hb)
    have n7_ := qM (qB (g := g516) (by (with_reducible repeat first | refine qN ?_ _ | refine qD ?_ | refine qA ?_ _); exact B516.out) hb)
    have n8_ := qM (qB (g := g527) (by (with_reducible repeat first | refine qN ?_ _ | refine qD ?_ | refine qA ?_ _); exact B527.out) hb)
    have n9_ := qM (qB (g := g539) (by (with_reducible repeat first | refine qN ?_ _ | refine qD ?_ | refine qA ?_ _); exact B539.out) hb)
    have n10_ := qM (eT (by repeat (first | (with_reducible first | exact HB.out | apply eA | apply eN | apply eD | refine eU ?_ (by assumption)) | exact HB.out)) hb)
    clear HO_516000
    clear HO_516001
    clear HO_540000
    clear HO_540001
    clear HO542
    clear HO545
    clear B515
    clear B516
    clear B527
    clear B539
    clear HB
    have HO_516000 := n0_
    have HO_516001 := n1_
    have HO_540000 := n2_
    have HO_540001 := n3_
    have HO542 := n4_
    have HO545 := n5_
    have B515 := n6_
    have B516 := n7_
    have B527 := n8_
    have B539 := n9_
    have HB := n10_
    clear n0_ n1_ n2_ n3_ n4_ n5_ n6_ n7_ n8_ n9_ n10_
    (try clear hb)
    (try clear hb2)
    (try clear hk)
    (try clear hi)
    refine hK.out _ _ ⟨(qC B539.out 0).trans rfl, (qC B539.out 1).trans rfl, (qC B539.out 2).trans rfl, (qC B539.out 3).trans rfl, (qC B527.out 0).trans rfl, (qC B527.out 1).trans rfl⟩ (fun hHeld => ?_)
    clear hK K
    refine norm_ (a' := ?_) ?_ ?_
    rotate_left
    ·show Act.put _ (some 55) _ = _
     simp only [Act.put, xA, xZ, xS, i64_w, i32_w]
     rfl
    refine pure_ (i := 5) (N := some 50) (v := ?_) (a' := ?_) #[true, true, true, true, true, true, false, false, false, false] rfl rfl (any_of HT_.out (by kernel_rfl)) (fun _ _ _ h => h) (Or.inl ⟨by rfl, ?_⟩) ?_ ?_
    rotate_left
    ·intro w'; go_simp; with_reducible rfl
    rotate_left
    ·simp only [Act.put, xA, xZ, xS, i64_w, i32_w]; rfl
    refine pure_ (i := 6) (N := some 56) (v := ?_) (a' := ?_) #[true, true, true, true, true, true, true, false, false, false] rfl rfl (any_of HT_.out (by kernel_rfl)) (fun _ _ _ h => h) (Or.inl ⟨by rfl, ?_⟩) ?_ ?_
    rotate_left
    ·intro w'; go_simp; with_reducible rfl
    rotate_left
    ·simp only [Act.put, xA, xZ, xS, i64_w, i32_w]; rfl
    refine pure_ (i := 7) (N := some 57) (v := ?_) (a' := ?_) #[true, true, true, true, true, true, true, true, false, false] rfl rfl (any_of HT_.out (by kernel_rfl)) (fun _ _ _ h => h) (Or.inl ⟨by rfl, ?_⟩) ?_ ?_
    rotate_left
    ·intro w'; go_simp; with_reducible rfl
    rotate_left
    ·simp only [Act.put, xA, xZ, xS, i64_w, i32_w]; rfl
    refine pure_ (i := 8) (N := some 14) (v := ?_) (a' := ?_) #[true, true, true, true, true, true, true, true, true, false] rfl rfl (any_of HT_.out (by kernel_rfl)) (fun _ _ _ h => h) (Or.inl ⟨by rfl, ?_⟩) ?_ ?_
    rotate_left
    ·intro w'; go_simp; with_reducible rfl
    rotate_left
    ·simp only [Act.put, xA, xZ, xS, i64_w, i32_w]; rfl
    refine pure_ (i := 9) (N := some 15) (v := ?_) (a' := ?_) #[true, true, true, true, true, true, true, true, true, true] rfl rfl (any_of HT_.out (by kernel_rfl)) (fun _ _ _ h => h) (Or.inl ⟨by rfl, ?_⟩) ?_ ?_
    rotate_left
    ·intro w'; go_simp; with_reducible rfl
    rotate_left
    ·simp only [Act.put, xA, xZ, xS, i64_w, i32_w]; rfl
    refine done_ (done_of HT_.out (by kernel_rfl)) ?_
    go_upto_region 9 with (fail)
    go_cut [6] (fun v6 wc => ∃ (kq : Nat) (x6_39 : Bool), v6 = .bool x6_39 ∧ Aside0 (hogsheadlaw10_ShelfTorn.j1 kq x6_39 = some r) ∧ Aside0 (kq ≤ kj7) ∧ Aside0 (Kd.V Kd.string 9 wc w.heap.size (fun k_ => k_ ≠ g515 ∧ k_ ≠ g516 ∧ k_ ≠ g527 ∧ k_ ≠ g539) (.slice Ao15 t518.length co15) t518) ∧ Aside0 (Kd.V k94 94 wc w.heap.size (fun k_ => k_ ≠ g515 ∧ k_ ≠ g516 ∧ k_ ≠ g527 ∧ k_ ≠ g539) (.slice Ao17 t521.length co17) t521) ∧ Aside0 (Kd.V Kd.string 9 wc w.heap.size (fun k_ => k_ ≠ g515 ∧ k_ ≠ g516 ∧ k_ ≠ g527 ∧ k_ ≠ g539) (.slice Ao29 t530.length co29) t530) ∧ Aside0 (Kd.V k94 94 wc w.heap.size (fun k_ => k_ ≠ g515 ∧ k_ ≠ g516 ∧ k_ ≠ g527 ∧ k_ ≠ g539) (.slice Ao34 t533.length co34) t533) ∧ Aside0 (wc.heap[g515]? = some (.cells #[(.slice Ao15 t518.length co15), (.slice Ao17 t521.length co17), .int .i64 t524, .bool t525] 25 (0, 0))) ∧ Aside0 (wc.heap[g516]? = some (.cells #[.int .i64 a1_0, .int .i64 a1_1, .string a1_2] 43 (0, 0))) ∧ Aside0 (wc.heap[g527]? = some (.cells #[.int .i64 a1_0, .int .i64 a1_1] 27 (0, 0))) ∧ Aside0 (wc.heap[g539]? = some (.cells #[(.slice Ao29 t530.length co29), (.slice Ao34 t533.length co34), .int .i64 t536, .bool t537] 25 (0, 0))) ∧ Aside0 (Below w.heap.size w wc))
    case first =>
     have H := HC40.out
     clear HC40
     by_cases c46 : t517 = true
     ·subst c46
      have H1 : (if t549 = 7 then (hogsheadlaw10_ShelfTorn.j1 kj7 true) else (if t549 = 0 then (hogsheadlaw10_ShelfTorn.j1 kj7 (t548.toList == a1_2.toList)) else (hogsheadlaw10_ShelfTorn.j1 kj7 false))) = some r := by rw [if_pos rfl] at H; exact H
      clear H
      have H := H1
      clear H1
      by_cases c47 : t549 = 7
      ·rw [if_pos c47] at H
       have c47b0 : (t549 == 7) = true := beq_iff_eq.mpr c47
       have c47b1 : (t549 != 7) = false := bne_eq_false_iff_eq.mpr c47
       clear c47
       (first | rw [c47b0] | (simp only [i64_w, i32_w]; rw [c47b0]) | skip)
       have H' := qM H
       clear H
       go_wp2
       go_meet
       case rel => exact ⟨_, (true), (by first | rfl | (simp; done) | (simp [*]; done)), H', ⟨by have := HJ7.out; first | omega | exact Nat.le_refl _⟩, ⟨by (with_reducible repeat first | apply VA | apply VN | apply VD); exact Vm HO_516000.out (fun _ hk => ⟨hk.1.1.1, ⟨hk.1.1.2.1, ⟨hk.1.1.2.2.1, hk.1.1.2.2.2⟩⟩⟩)⟩, ⟨by (with_reducible repeat first | apply VA | apply VN | apply VD); exact Vm HO_516001.out (fun _ hk => ⟨hk.1.1.1, ⟨hk.1.1.2.1, ⟨hk.1.1.2.2.1, hk.1.1.2.2.2⟩⟩⟩)⟩, ⟨by (with_reducible repeat first | apply VA | apply VN | apply VD); exact Vm HO_540000.out (fun _ hk => ⟨hk.1.1.1, ⟨hk.1.1.2.1, ⟨hk.1.1.2.2.1, hk.1.1.2.2.2⟩⟩⟩)⟩, ⟨by (with_reducible repeat first | apply VA | apply VN | apply VD); exact Vm HO_540001.out (fun _ hk => ⟨hk.1.1.1, ⟨hk.1.1.2.1, ⟨hk.1.1.2.2.1, hk.1.1.2.2.2⟩⟩⟩)⟩, ⟨by (with_reducible repeat first | refine qN ?_ _ | refine qD ?_ | refine qA ?_ _); exact B515.out⟩, ⟨by (with_reducible repeat first | refine qN ?_ _ | refine qD ?_ | refine qA ?_ _); exact B516.out⟩, ⟨by (with_reducible repeat first | refine qN ?_ _ | refine qD ?_ | refine qA ?_ _); exact B527.out⟩, ⟨by (with_reducible repeat first | refine qN ?_ _ | refine qD ?_ | refine qA ?_ _); exact B539.out⟩, ⟨by repeat (first | (with_reducible first | exact HB.out | apply eA | apply eN | apply eD | refine eS ?_ GE515.out | refine eS ?_ GE516.out | refine eS ?_ GE527.out | refine eS ?_ GE539.out) | exact HB.out)⟩⟩
      ·rw [if_neg c47] at H
       have c47b0 : (t549 == 7) = false := beq_eq_false_iff_ne.mpr c47
       have c47b1 : (t549 != 7) = true := bne_iff_ne.mpr c47
       (first | rw [c47b0] | (simp only [i64_w, i32_w]; rw [c47b0]) | skip)
       by_cases c48 : t549 = 0
       ·rw [if_pos c48] at H
        have c48b0 : (t549 == 0) = true := beq_iff_eq.mpr c48
        have c48b1 : (t549 != 0) = false := bne_eq_false_iff_eq.mpr c48
        clear c48
        have H' := qM H
        clear H
        have hnb49 := NB516_515.out
        have hnc49 := NB515_516.out
        have hnb50 := NB516_527.out
        have hnc50 := NB527_516.out
        have hnb51 := NB516_539.out
        have hnc51 := NB539_516.out
        obtain ⟨z52_0, z52_1, z52_2, f52_0, f52_1, f52_2⟩ := cells3 B516.out
        go_wp2
        go_meet
        case rel => exact ⟨_, ((t548.toList == a1_2.toList)), (by first | rfl | (simp; done) | (simp [*]; done)), H', ⟨by have := HJ7.out; first | omega | exact Nat.le_refl _⟩, ⟨by (with_reducible repeat first | apply VA | apply VN | apply VD); exact Vm HO_516000.out (fun _ hk => ⟨hk.1.1.1, ⟨hk.1.1.2.1, ⟨hk.1.1.2.2.1, hk.1.1.2.2.2⟩⟩⟩)⟩, ⟨by (with_reducible repeat first | apply VA | apply VN | apply VD); exact Vm HO_516001.out (fun _ hk => ⟨hk.1.1.1, ⟨hk.1.1.2.1, ⟨hk.1.1.2.2.1, hk.1.1.2.2.2⟩⟩⟩)⟩, ⟨by (with_reducible repeat first | apply VA | apply VN | apply VD); exact Vm HO_540000.out (fun _ hk => ⟨hk.1.1.1, ⟨hk.1.1.2.1, ⟨hk.1.1.2.2.1, hk.1.1.2.2.2⟩⟩⟩)⟩, ⟨by (with_reducible repeat first | apply VA | apply VN | apply VD); exact Vm HO_540001.out (fun _ hk => ⟨hk.1.1.1, ⟨hk.1.1.2.1, ⟨hk.1.1.2.2.1, hk.1.1.2.2.2⟩⟩⟩)⟩, ⟨by (with_reducible repeat first | refine qN ?_ _ | refine qD ?_ | refine qA ?_ _); exact B515.out⟩, ⟨by (with_reducible repeat first | refine qN ?_ _ | refine qD ?_ | refine qA ?_ _); exact B516.out⟩, ⟨by (with_reducible repeat first | refine qN ?_ _ | refine qD ?_ | refine qA ?_ _); exact B527.out⟩, ⟨by (with_reducible repeat first | refine qN ?_ _ | refine qD ?_ | refine qA ?_ _); exact B539.out⟩, ⟨by repeat (first | (with_reducible first | exact HB.out | apply eA | apply eN | apply eD | refine eS ?_ GE515.out | refine eS ?_ GE516.out | refine eS ?_ GE527.out | refine eS ?_ GE539.out) | exact HB.out)⟩⟩
       ·rw [if_neg c48] at H
        have c48b0 : (t549 == 0) = false := beq_eq_false_iff_ne.mpr c48
        have c48b1 : (t549 != 0) = true := bne_iff_ne.mpr c48
        have H' := qM H
        clear H
        go_wp2
        go_meet
        case rel => exact ⟨_, (false), (by first | rfl | (simp; done) | (simp [*]; done)), H', ⟨by have := HJ7.out; first | omega | exact Nat.le_refl _⟩, ⟨by (with_reducible repeat first | apply VA | apply VN | apply VD); exact Vm HO_516000.out (fun _ hk => ⟨hk.1.1.1, ⟨hk.1.1.2.1, ⟨hk.1.1.2.2.1, hk.1.1.2.2.2⟩⟩⟩)⟩, ⟨by (with_reducible repeat first | apply VA | apply VN | apply VD); exact Vm HO_516001.out (fun _ hk => ⟨hk.1.1.1, ⟨hk.1.1.2.1, ⟨hk.1.1.2.2.1, hk.1.1.2.2.2⟩⟩⟩)⟩, ⟨by (with_reducible repeat first | apply VA | apply VN | apply VD); exact Vm HO_540000.out (fun _ hk => ⟨hk.1.1.1, ⟨hk.1.1.2.1, ⟨hk.1.1.2.2.1, hk.1.1.2.2.2⟩⟩⟩)⟩, ⟨by (with_reducible repeat first | apply VA | apply VN | apply VD); exact Vm HO_540001.out (fun _ hk => ⟨hk.1.1.1, ⟨hk.1.1.2.1, ⟨hk.1.1.2.2.1, hk.1.1.2.2.2⟩⟩⟩)⟩, ⟨by (with_reducible repeat first | refine qN ?_ _ | refine qD ?_ | refine qA ?_ _); exact B515.out⟩, ⟨by (with_reducible repeat first | refine qN ?_ _ | refine qD ?_ | refine qA ?_ _); exact B516.out⟩, ⟨by (with_reducible repeat first | refine qN ?_ _ | refine qD ?_ | refine qA ?_ _); exact B527.out⟩, ⟨by (with_reducible repeat first | refine qN ?_ _ | refine qD ?_ | refine qA ?_ _); exact B539.out⟩, ⟨by repeat (first | (with_reducible first | exact HB.out | apply eA | apply eN | apply eD | refine eS ?_ GE515.out | refine eS ?_ GE516.out | refine eS ?_ GE527.out | refine eS ?_ GE539.out) | exact HB.out)⟩⟩
     ·replace c46 := Bool.eq_false_iff.mpr c46
      subst c46
      have H1 : (hogsheadlaw10_ShelfTorn.j1 kj7 false) = some r := by rw [if_neg (show ¬ (false = true) by decide)] at H; exact H
      clear H
      have H := H1
      clear H1
      have H' := qM H
      clear H
      go_wp2
      go_meet
      case rel => exact ⟨_, (false), (by first | rfl | (simp; done) | (simp [*]; done)), H', ⟨by have := HJ7.out; first | omega | exact Nat.le_refl _⟩, ⟨by (with_reducible repeat first | apply VA | apply VN | apply VD); exact Vm HO_516000.out (fun _ hk => ⟨hk.1.1.1, ⟨hk.1.1.2.1, ⟨hk.1.1.2.2.1, hk.1.1.2.2.2⟩⟩⟩)⟩, ⟨by (with_reducible repeat first | apply VA | apply VN | apply VD); exact Vm HO_516001.out (fun _ hk => ⟨hk.1.1.1, ⟨hk.1.1.2.1, ⟨hk.1.1.2.2.1, hk.1.1.2.2.2⟩⟩⟩)⟩, ⟨by (with_reducible repeat first | apply VA | apply VN | apply VD); exact Vm HO_540000.out (fun _ hk => ⟨hk.1.1.1, ⟨hk.1.1.2.1, ⟨hk.1.1.2.2.1, hk.1.1.2.2.2⟩⟩⟩)⟩, ⟨by (with_reducible repeat first | apply VA | apply VN | apply VD); exact Vm HO_540001.out (fun _ hk => ⟨hk.1.1.1, ⟨hk.1.1.2.1, ⟨hk.1.1.2.2.1, hk.1.1.2.2.2⟩⟩⟩)⟩, ⟨by (with_reducible repeat first | refine qN ?_ _ | refine qD ?_ | refine qA ?_ _); exact B515.out⟩, ⟨by (with_reducible repeat first | refine qN ?_ _ | refine qD ?_ | refine qA ?_ _); exact B516.out⟩, ⟨by (with_reducible repeat first | refine qN ?_ _ | refine qD ?_ | refine qA ?_ _); exact B527.out⟩, ⟨by (with_reducible repeat first | refine qN ?_ _ | refine qD ?_ | refine qA ?_ _); exact B539.out⟩, ⟨by repeat (first | (with_reducible first | exact HB.out | apply eA | apply eN | apply eD | refine eS ?_ GE515.out | refine eS ?_ GE516.out | refine eS ?_ GE527.out | refine eS ?_ GE539.out) | exact HB.out)⟩⟩
    case rest =>
     clear HC40
     try clear c1
     try clear c2
     try clear p2
     try clear c3
     try clear c4
     try clear c5
     try clear c8
     try clear c11
     try clear c12
     try clear c18
     try clear c20
     try clear c21
     try clear c22
     try clear c29
     try clear c30
     try clear c31
     try clear c32
     try clear c35
     try clear c35b0
     try clear c35b1
     try clear c36
     try clear c36b0
     try clear c36b1
     try clear c37
     try clear c46
     try clear c47
     try clear c47b0
     try clear c47b1
     try clear c48
     try clear c48b0
     try clear c48b1
     try clear c49
     try clear c50
     try clear c51
     try clear z13_0
     try clear z13_1
     try clear z13_2
     try clear z13_3
     try clear z16_0
     try clear z16_1
     try clear z16_2
     try clear z16_3
     try clear z18_0
     try clear z18_1
     try clear z18_2
     try clear z22_0
     try clear z22_1
     try clear z23_0
     try clear z23_1
     try clear z23_2
     try clear z23_3
     try clear z25_0
     try clear z25_1
     try clear z25_2
     try clear z25_3
     try clear z26_0
     try clear z26_1
     try clear z26_2
     try clear z33_0
     try clear z33_1
     try clear z33_2
     try clear z33_3
     try clear z52_0
     try clear z52_1
     try clear z52_2
     try clear f13_0
     try clear f13_1
     try clear f13_2
     try clear f13_3
     try clear f16_0
     try clear f16_1
     try clear f16_2
     try clear f16_3
     try clear f18_0
     try clear f18_1
     try clear f18_2
     try clear f22_0
     try clear f22_1
     try clear f23_0
     try clear f23_1
     try clear f23_2
     try clear f23_3
     try clear f25_0
     try clear f25_1
     try clear f25_2
     try clear f25_3
     try clear f26_0
     try clear f26_1
     try clear f26_2
     try clear f33_0
     try clear f33_1
     try clear f33_2
     try clear f33_3
     try clear f52_0
     try clear f52_1
     try clear f52_2
     try clear p2
     obtain ⟨kq, x6_39, rfl, HA, HJ39, HO_516000, HO_516001, HO_540000, HO_540001, B515, B516, B527, B539, HB⟩ := hcut
     cases kq with
     | zero => exact absurd HA.out (by simp [hogsheadlaw10_ShelfTorn.j1])
     | succ kj39 =>
      have H := HA.out
      clear HA
      simp only [hogsheadlaw10_ShelfTorn.j1] at H
      obtain rfl := Option.some.inj H
      go_wp2
      go_ret
      exact ⟨by first | rfl | (simp [errW_none, errW_some] <;> rfl) | (simp [*, errW_none, errW_some] <;> rfl), by repeat (first | (with_reducible first | exact HB.out | apply eA | apply eN | apply eD | refine eS ?_ GE515.out | refine eS ?_ GE516.out | refine eS ?_ GE527.out | refine eS ?_ GE539.out) | exact HB.out)⟩

end Go.Proofs.Ytffjbbedjddpmaa.PAll
