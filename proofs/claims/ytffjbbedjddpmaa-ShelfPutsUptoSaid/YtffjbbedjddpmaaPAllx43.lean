/- Functions of the program as plain Lean functions, and that each call comes to what they say. Laid by a program of this session (hprint.py); Lean checks it. -/
import Derived.Test.YtffjbbedjddpmaaPAllx0
import Derived.Test.YtffjbbedjddpmaaPAllx17
import Derived.Test.YtffjbbedjddpmaaPAllx19
import Derived.Test.YtffjbbedjddpmaaPAllx38
import Derived.Test.YtffjbbedjddpmaaPAllx39
import Derived.Test.YtffjbbedjddpmaaPAllx40
import Derived.Test.YtffjbbedjddpmaaPAllx42
namespace Go.Proofs.Ytffjbbedjddpmaa.PAll
open Go.RowKit Go.Proofs.YtffjbbedjddpmaaW.PrintWords Go.Proofs.YtffjbbedjddpmaaW.PrintLast Go.Proofs.YtffjbbedjddpmaaW.PrintMore
attribute [local go_sem] max2_int min2_int max_two min_two max_three min_three max_four min_four   -- for this text's walks alone
set_option linter.unusedVariables false
set_option linter.unusedSimpArgs false
attribute [local irreducible] World.setCell

/-! ### hogsheadlaw10_ShelfPuts: function 9 -/
mutual
def hogsheadlaw10_ShelfPuts.j0 : Nat → Bool → Int → Int → Int → Int → Bool → Option (Bool)
 | 0, _, _, _, _, _, _ => none
 | k + 1, x7, x9, x11, x13, x15, x16 => if x7 = true then (if x16 = true then (if x9 = x11 then (hogsheadlaw10_ShelfPuts.j1 k (x13 == x15)) else (hogsheadlaw10_ShelfPuts.j1 k false)) else (hogsheadlaw10_ShelfPuts.j1 k false)) else (hogsheadlaw10_ShelfPuts.j1 k false)
def hogsheadlaw10_ShelfPuts.j1 : Nat → Bool → Option (Bool)
 | 0, _ => none
 | k + 1, x6 => some x6
end
def hogsheadlaw10_ShelfPuts.f (k : Nat) (l0_0 : List ByteArray) (l0_1 : List (S94)) (a0_2 : Int) (a0_3 : Bool) (a1_0 : Int) (a1_1 : Int) (a1_2 : ByteArray) (a2_0 : Int) (a2_1 : Int) : Option (Bool) := (hogsheadlaw10_shown.f k).bind fun t371 => ((shelf_Put.f k l0_0 l0_1 a0_2 a0_3 a1_0 a1_1 a1_2).bind fun bt372 => ((hogsheadref10_Put.f k l0_0 l0_1 a0_2 a0_3 a1_0 a1_1 a1_2).bind fun bt382 => ((shelf_Drop.f k l0_0 l0_1 a0_2 a0_3 a2_0 a2_1).bind fun bt392 => ((hogsheadref10_Drop.f k l0_0 l0_1 a0_2 a0_3 a2_0 a2_1).bind fun bt402 => ((hogsheadref08_Same.f k bt372.1 bt372.2.1 bt372.2.2.1 bt372.2.2.2.1 bt382.1 bt382.2.1 bt382.2.2.1 bt382.2.2.2.1).bind fun t412 => (if t412 = true then ((hogsheadref08_Same.f k bt392.1 bt392.2.1 bt392.2.2.1 bt392.2.2.2.1 bt402.1 bt402.2.1 bt402.2.2.1 bt402.2.2.2.1).bind fun t413 => (hogsheadlaw10_ShelfPuts.j0 k t371 bt372.2.2.2.2 bt382.2.2.2.2 bt392.2.2.2.2 bt402.2.2.2.2 t413)) else (hogsheadlaw10_ShelfPuts.j0 k t371 bt372.2.2.2.2 bt382.2.2.2.2 bt392.2.2.2.2 bt402.2.2.2.2 false)))))))
theorem hogsheadlaw10_ShelfPuts.mono_l : ∀ k, (∀ y0 y1 y2 y3 y4 y5, LeO (hogsheadlaw10_ShelfPuts.j0 k y0 y1 y2 y3 y4 y5) (hogsheadlaw10_ShelfPuts.j0 (k + 1) y0 y1 y2 y3 y4 y5)) ∧ (∀ y0, LeO (hogsheadlaw10_ShelfPuts.j1 k y0) (hogsheadlaw10_ShelfPuts.j1 (k + 1) y0))
 | 0 => ⟨fun _ _ _ _ _ _ r h => by simp [hogsheadlaw10_ShelfPuts.j0] at h, fun _ r h => by simp [hogsheadlaw10_ShelfPuts.j1] at h⟩
 | k + 1 => by
  obtain ⟨ih0, ih1⟩ := hogsheadlaw10_ShelfPuts.mono_l k
  refine ⟨?_, ?_⟩
  ·intro y0 y1 y2 y3 y4 y5
   unfold hogsheadlaw10_ShelfPuts.j0
   repeat' first
   | (with_reducible exact ih0 _ _ _ _ _ _)
   | (with_reducible exact ih1 _)
   | (with_reducible exact hogsheadlaw10_shown.mono _)
   | (with_reducible exact hogsheadref08_Same.mono _ _ _ _ _ _ _ _ _)
   | (with_reducible exact hogsheadref10_Drop.mono _ _ _ _ _ _ _)
   | (with_reducible exact hogsheadref10_Put.mono _ _ _ _ _ _ _ _)
   | (with_reducible exact shelf_Drop.mono _ _ _ _ _ _ _)
   | (with_reducible exact shelf_Put.mono _ _ _ _ _ _ _ _)
   | (with_reducible exact LeO.refl _)
   | (with_reducible exact LeO.none _)
   | (with_reducible refine LeO.ite ?_ ?_)
   | (with_reducible refine LeO.bind ?_ (fun _ => ?_))
   | exact ih0 _ _ _ _ _ _
   | exact ih1 _
   | exact hogsheadlaw10_shown.mono _
   | exact hogsheadref08_Same.mono _ _ _ _ _ _ _ _ _
   | exact hogsheadref10_Drop.mono _ _ _ _ _ _ _
   | exact hogsheadref10_Put.mono _ _ _ _ _ _ _ _
   | exact shelf_Drop.mono _ _ _ _ _ _ _
   | exact shelf_Put.mono _ _ _ _ _ _ _ _
   | exact LeO.none _
   | refine LeO.ite ?_ ?_
   | refine LeO.bind ?_ (fun _ => ?_)
  ·intro y0
   unfold hogsheadlaw10_ShelfPuts.j1
   repeat' first
   | (with_reducible exact ih0 _ _ _ _ _ _)
   | (with_reducible exact ih1 _)
   | (with_reducible exact hogsheadlaw10_shown.mono _)
   | (with_reducible exact hogsheadref08_Same.mono _ _ _ _ _ _ _ _ _)
   | (with_reducible exact hogsheadref10_Drop.mono _ _ _ _ _ _ _)
   | (with_reducible exact hogsheadref10_Put.mono _ _ _ _ _ _ _ _)
   | (with_reducible exact shelf_Drop.mono _ _ _ _ _ _ _)
   | (with_reducible exact shelf_Put.mono _ _ _ _ _ _ _ _)
   | (with_reducible exact LeO.refl _)
   | (with_reducible exact LeO.none _)
   | (with_reducible refine LeO.ite ?_ ?_)
   | (with_reducible refine LeO.bind ?_ (fun _ => ?_))
   | exact ih0 _ _ _ _ _ _
   | exact ih1 _
   | exact hogsheadlaw10_shown.mono _
   | exact hogsheadref08_Same.mono _ _ _ _ _ _ _ _ _
   | exact hogsheadref10_Drop.mono _ _ _ _ _ _ _
   | exact hogsheadref10_Put.mono _ _ _ _ _ _ _ _
   | exact shelf_Drop.mono _ _ _ _ _ _ _
   | exact shelf_Put.mono _ _ _ _ _ _ _ _
   | exact LeO.none _
   | refine LeO.ite ?_ ?_
   | refine LeO.bind ?_ (fun _ => ?_)
theorem hogsheadlaw10_ShelfPuts.mono : ∀ a0 a1 a2 a3 a4 a5 a6 a7 a8 k, LeO (hogsheadlaw10_ShelfPuts.f k a0 a1 a2 a3 a4 a5 a6 a7 a8) (hogsheadlaw10_ShelfPuts.f (k + 1) a0 a1 a2 a3 a4 a5 a6 a7 a8) := by
 intro a0 a1 a2 a3 a4 a5 a6 a7 a8 k
 obtain ⟨ih0, ih1⟩ := hogsheadlaw10_ShelfPuts.mono_l k
 unfold hogsheadlaw10_ShelfPuts.f
 repeat' first
   | (with_reducible exact ih0 _ _ _ _ _ _)
   | (with_reducible exact ih1 _)
   | (with_reducible exact hogsheadlaw10_shown.mono _)
   | (with_reducible exact hogsheadref08_Same.mono _ _ _ _ _ _ _ _ _)
   | (with_reducible exact hogsheadref10_Drop.mono _ _ _ _ _ _ _)
   | (with_reducible exact hogsheadref10_Put.mono _ _ _ _ _ _ _ _)
   | (with_reducible exact shelf_Drop.mono _ _ _ _ _ _ _)
   | (with_reducible exact shelf_Put.mono _ _ _ _ _ _ _ _)
   | (with_reducible exact LeO.refl _)
   | (with_reducible exact LeO.none _)
   | (with_reducible refine LeO.ite ?_ ?_)
   | (with_reducible refine LeO.bind ?_ (fun _ => ?_))
   | exact ih0 _ _ _ _ _ _
   | exact ih1 _
   | exact hogsheadlaw10_shown.mono _
   | exact hogsheadref08_Same.mono _ _ _ _ _ _ _ _ _
   | exact hogsheadref10_Drop.mono _ _ _ _ _ _ _
   | exact hogsheadref10_Put.mono _ _ _ _ _ _ _ _
   | exact shelf_Drop.mono _ _ _ _ _ _ _
   | exact shelf_Put.mono _ _ _ _ _ _ _ _
   | exact LeO.none _
   | refine LeO.ite ?_ ?_
   | refine LeO.bind ?_ (fun _ => ?_)
set_option maxHeartbeats 40000000 in
set_option maxRecDepth 100000 in
theorem hogsheadlaw10_ShelfPuts.calls (k : Nat) (A0_0 : Option Addr) (c0_0 : Nat) (l0_0 : List ByteArray) (A0_1 : Option Addr) (c0_1 : Nat) (l0_1 : List (S94)) (a0_2 : Int) (a0_3 : Bool) (a1_0 : Int) (a1_1 : Int) (a1_2 : ByteArray) (a2_0 : Int) (a2_1 : Int) (r : Bool) (w : World) (hr0_0 : Kd.C Kd.string w A0_0 l0_0.length l0_0) (hc0_0 : l0_0.length ≤ c0_0) (hr0_1 : Kd.C k94 w A0_1 l0_1.length l0_1) (hc0_1 : l0_1.length ≤ c0_1) (h : hogsheadlaw10_ShelfPuts.f k l0_0 l0_1 a0_2 a0_3 a1_0 a1_1 a1_2 a2_0 a2_1 = some r) :
  Calls Try.prog 9 #[.agg #[.slice A0_0 l0_0.length c0_0, .slice A0_1 l0_1.length c0_1, .int .i64 a0_2, .bool a0_3], .agg #[.int .i64 a1_0, .int .i64 a1_1, .string a1_2], .agg #[.int .i64 a2_0, .int .i64 a2_1]] w fun e w' => e = .returned (.bool r) ∧ Below w.heap.size w w' := by
 have hu25 := Try.underlying25
 have hu43 := Try.underlying43
 have hu27 := Try.underlying27
 have HR0_0 := qM hr0_0
 have HC0_0 := qM hc0_0
 clear hr0_0 hc0_0
 have HR0_1 := qM hr0_1
 have HC0_1 := qM hc0_1
 clear hr0_1 hc0_1
 have HB := qM (Below.refl w.heap.size w)
 have H : ((hogsheadlaw10_shown.f k).bind fun t371 => ((shelf_Put.f k l0_0 l0_1 a0_2 a0_3 a1_0 a1_1 a1_2).bind fun bt372 => ((hogsheadref10_Put.f k l0_0 l0_1 a0_2 a0_3 a1_0 a1_1 a1_2).bind fun bt382 => ((shelf_Drop.f k l0_0 l0_1 a0_2 a0_3 a2_0 a2_1).bind fun bt392 => ((hogsheadref10_Drop.f k l0_0 l0_1 a0_2 a0_3 a2_0 a2_1).bind fun bt402 => ((hogsheadref08_Same.f k bt372.1 bt372.2.1 bt372.2.2.1 bt372.2.2.2.1 bt382.1 bt382.2.1 bt382.2.2.1 bt382.2.2.2.1).bind fun t412 => (if t412 = true then ((hogsheadref08_Same.f k bt392.1 bt392.2.1 bt392.2.2.1 bt392.2.2.2.1 bt402.1 bt402.2.1 bt402.2.2.1 bt402.2.2.2.1).bind fun t413 => (hogsheadlaw10_ShelfPuts.j0 k t371 bt372.2.2.2.2 bt382.2.2.2.2 bt392.2.2.2.2 bt402.2.2.2.2 t413)) else (hogsheadlaw10_ShelfPuts.j0 k t371 bt372.2.2.2.2 bt382.2.2.2.2 bt392.2.2.2.2 bt402.2.2.2.2 false)))))))) = some r := h
 clear h
 replace H := Option.bind_eq_some_iff.mp H
 obtain ⟨t371, A40, H⟩ := H
 replace H : ((shelf_Put.f k l0_0 l0_1 a0_2 a0_3 a1_0 a1_1 a1_2).bind fun bt372 => ((hogsheadref10_Put.f k l0_0 l0_1 a0_2 a0_3 a1_0 a1_1 a1_2).bind fun bt382 => ((shelf_Drop.f k l0_0 l0_1 a0_2 a0_3 a2_0 a2_1).bind fun bt392 => ((hogsheadref10_Drop.f k l0_0 l0_1 a0_2 a0_3 a2_0 a2_1).bind fun bt402 => ((hogsheadref08_Same.f k bt372.1 bt372.2.1 bt372.2.2.1 bt372.2.2.2.1 bt382.1 bt382.2.1 bt382.2.2.1 bt382.2.2.2.1).bind fun t412 => (if t412 = true then ((hogsheadref08_Same.f k bt392.1 bt392.2.1 bt392.2.2.1 bt392.2.2.2.1 bt402.1 bt402.2.1 bt402.2.2.1 bt402.2.2.2.1).bind fun t413 => (hogsheadlaw10_ShelfPuts.j0 k t371 bt372.2.2.2.2 bt382.2.2.2.2 bt392.2.2.2.2 bt402.2.2.2.2 t413)) else (hogsheadlaw10_ShelfPuts.j0 k t371 bt372.2.2.2.2 bt382.2.2.2.2 bt392.2.2.2.2 bt402.2.2.2.2 false))))))) = some r := H
 have A4 := qM A40
 clear A40
 replace H := Option.bind_eq_some_iff.mp H
 obtain ⟨⟨t372, t375, t378, t379, t380⟩, A50, H⟩ := H
 replace H : ((hogsheadref10_Put.f k l0_0 l0_1 a0_2 a0_3 a1_0 a1_1 a1_2).bind fun bt382 => ((shelf_Drop.f k l0_0 l0_1 a0_2 a0_3 a2_0 a2_1).bind fun bt392 => ((hogsheadref10_Drop.f k l0_0 l0_1 a0_2 a0_3 a2_0 a2_1).bind fun bt402 => ((hogsheadref08_Same.f k t372 t375 t378 t379 bt382.1 bt382.2.1 bt382.2.2.1 bt382.2.2.2.1).bind fun t412 => (if t412 = true then ((hogsheadref08_Same.f k bt392.1 bt392.2.1 bt392.2.2.1 bt392.2.2.2.1 bt402.1 bt402.2.1 bt402.2.2.1 bt402.2.2.2.1).bind fun t413 => (hogsheadlaw10_ShelfPuts.j0 k t371 t380 bt382.2.2.2.2 bt392.2.2.2.2 bt402.2.2.2.2 t413)) else (hogsheadlaw10_ShelfPuts.j0 k t371 t380 bt382.2.2.2.2 bt392.2.2.2.2 bt402.2.2.2.2 false)))))) = some r := H
 have A5 := qM A50
 clear A50
 replace H := Option.bind_eq_some_iff.mp H
 obtain ⟨⟨t382, t385, t388, t389, t390⟩, A60, H⟩ := H
 replace H : ((shelf_Drop.f k l0_0 l0_1 a0_2 a0_3 a2_0 a2_1).bind fun bt392 => ((hogsheadref10_Drop.f k l0_0 l0_1 a0_2 a0_3 a2_0 a2_1).bind fun bt402 => ((hogsheadref08_Same.f k t372 t375 t378 t379 t382 t385 t388 t389).bind fun t412 => (if t412 = true then ((hogsheadref08_Same.f k bt392.1 bt392.2.1 bt392.2.2.1 bt392.2.2.2.1 bt402.1 bt402.2.1 bt402.2.2.1 bt402.2.2.2.1).bind fun t413 => (hogsheadlaw10_ShelfPuts.j0 k t371 t380 t390 bt392.2.2.2.2 bt402.2.2.2.2 t413)) else (hogsheadlaw10_ShelfPuts.j0 k t371 t380 t390 bt392.2.2.2.2 bt402.2.2.2.2 false))))) = some r := H
 have A6 := qM A60
 clear A60
 replace H := Option.bind_eq_some_iff.mp H
 obtain ⟨⟨t392, t395, t398, t399, t400⟩, A70, H⟩ := H
 replace H : ((hogsheadref10_Drop.f k l0_0 l0_1 a0_2 a0_3 a2_0 a2_1).bind fun bt402 => ((hogsheadref08_Same.f k t372 t375 t378 t379 t382 t385 t388 t389).bind fun t412 => (if t412 = true then ((hogsheadref08_Same.f k t392 t395 t398 t399 bt402.1 bt402.2.1 bt402.2.2.1 bt402.2.2.2.1).bind fun t413 => (hogsheadlaw10_ShelfPuts.j0 k t371 t380 t390 t400 bt402.2.2.2.2 t413)) else (hogsheadlaw10_ShelfPuts.j0 k t371 t380 t390 t400 bt402.2.2.2.2 false)))) = some r := H
 have A7 := qM A70
 clear A70
 replace H := Option.bind_eq_some_iff.mp H
 obtain ⟨⟨t402, t405, t408, t409, t410⟩, A80, H⟩ := H
 replace H : ((hogsheadref08_Same.f k t372 t375 t378 t379 t382 t385 t388 t389).bind fun t412 => (if t412 = true then ((hogsheadref08_Same.f k t392 t395 t398 t399 t402 t405 t408 t409).bind fun t413 => (hogsheadlaw10_ShelfPuts.j0 k t371 t380 t390 t400 t410 t413)) else (hogsheadlaw10_ShelfPuts.j0 k t371 t380 t390 t400 t410 false))) = some r := H
 have A8 := qM A80
 clear A80
 have HC9 := qM H
 clear H
 go_enter Try.func9, Try.ntmps9
 go_upto_region 6 with (first | ((with_reducible refine gate_dst (N := 3) rfl ?_); refine box_event ?hg (N := 3) ?hd (cs := #[.slice A0_0 l0_0.length c0_0, .slice A0_1 l0_1.length c0_1, .int .i64 a0_2, .bool a0_3]) (t := 25) ?hr ?_; (case hd => rfl); (case hg => rfl); (case hr => first | (go_simp; done) | (go_simp; rfl)); intro g368 hg w10 hbox hb; have n0_ := qM (eT (by repeat (first | (with_reducible first | exact HB.out | apply eA | apply eN | apply eD) | exact HB.out)) hb); have n1_ := qM (hbox); have n2_ := qM ((by rw [hg]; exact (eZ (by repeat (first | (with_reducible first | exact HB.out | apply eA | apply eN | apply eD) | exact HB.out))) : w.heap.size ≤ g368)); have n3_ := n2_; clear HB; have HB := n0_; have B368 := n1_; have GW368 := n2_; have GE368 := n3_; clear n0_ n1_ n2_ n3_; clear hb hbox hg) | ((with_reducible refine gate_dst (N := 4) rfl ?_); refine box_event ?hg (N := 4) ?hd (cs := #[.int .i64 a1_0, .int .i64 a1_1, .string a1_2]) (t := 43) ?hr ?_; (case hd => rfl); (case hg => rfl); (case hr => first | (go_simp; done) | (go_simp; rfl)); intro g369 hg w11 hbox hb; have n0_ := qM (qB (g := g368) (by (with_reducible repeat first | refine qN ?_ _ | refine qD ?_ | refine qA ?_ _); exact B368.out) hb); have n1_ := qM (eT (by repeat (first | (with_reducible first | exact HB.out | apply eA | apply eN | apply eD | refine eU ?_ (by assumption)) | exact HB.out)) hb); have n2_ := qM (hbox); have n3_ := qM ((by rw [hg]; exact (eZ (by repeat (first | (with_reducible first | exact HB.out | apply eA | apply eN | apply eD | refine eU ?_ (by assumption)) | exact HB.out))) : w.heap.size ≤ g369)); have n4_ := n3_; have n5_ := qM ((by rw [hg]; exact Nat.ne_of_lt (qL (g := g368) (by (with_reducible repeat first | refine qN ?_ _ | refine qD ?_ | refine qA ?_ _); exact B368.out)) : g368 ≠ g369)); have n6_ := qM (Ne.symm n5_.out); clear B368 HB; have B368 := n0_; have HB := n1_; have B369 := n2_; have GW369 := n3_; have GE369 := n4_; have NB368_369 := n5_; have NB369_368 := n6_; clear n0_ n1_ n2_ n3_ n4_ n5_ n6_; clear hb hbox hg) | ((with_reducible refine gate_dst (N := 5) rfl ?_); refine box_event ?hg (N := 5) ?hd (cs := #[.int .i64 a2_0, .int .i64 a2_1]) (t := 27) ?hr ?_; (case hd => rfl); (case hg => rfl); (case hr => first | (go_simp; done) | (go_simp; rfl)); intro g370 hg w12 hbox hb; have n0_ := qM (qB (g := g368) (by (with_reducible repeat first | refine qN ?_ _ | refine qD ?_ | refine qA ?_ _); exact B368.out) hb); have n1_ := qM (qB (g := g369) (by (with_reducible repeat first | refine qN ?_ _ | refine qD ?_ | refine qA ?_ _); exact B369.out) hb); have n2_ := qM (eT (by repeat (first | (with_reducible first | exact HB.out | apply eA | apply eN | apply eD | refine eU ?_ (by assumption)) | exact HB.out)) hb); have n3_ := qM (hbox); have n4_ := qM ((by rw [hg]; exact (eZ (by repeat (first | (with_reducible first | exact HB.out | apply eA | apply eN | apply eD | refine eU ?_ (by assumption)) | exact HB.out))) : w.heap.size ≤ g370)); have n5_ := n4_; have n6_ := qM ((by rw [hg]; exact Nat.ne_of_lt (qL (g := g368) (by (with_reducible repeat first | refine qN ?_ _ | refine qD ?_ | refine qA ?_ _); exact B368.out)) : g368 ≠ g370)); have n7_ := qM (Ne.symm n6_.out); have n8_ := qM ((by rw [hg]; exact Nat.ne_of_lt (qL (g := g369) (by (with_reducible repeat first | refine qN ?_ _ | refine qD ?_ | refine qA ?_ _); exact B369.out)) : g369 ≠ g370)); have n9_ := qM (Ne.symm n8_.out); clear B368 B369 HB; have B368 := n0_; have B369 := n1_; have HB := n2_; have B370 := n3_; have GW370 := n4_; have GE370 := n5_; have NB368_370 := n6_; have NB370_368 := n7_; have NB369_370 := n8_; have NB370_369 := n9_; clear n0_ n1_ n2_ n3_ n4_ n5_ n6_ n7_ n8_ n9_; clear hb hbox hg) | ((with_reducible refine gate_callee (f := 11) rfl ?_); refine goesL_ (some 17) rfl rfl Try.func11 (by kernel_rfl) rfl #[] rfl (by (try simp only [List.map_toArray, List.map_cons, List.map_nil]); first | done | rfl | (simp only [List.length_drop, List.length_take]; rfl)) ?_; (with_reducible refine (hogsheadlaw10_shown.calls k  t371 _ A4.out).mono ?_); rintro e w13 ⟨rfl, hb⟩; refine ⟨_, rfl, ?_⟩; have n0_ := qM (qB (g := g368) (by (with_reducible repeat first | refine qN ?_ _ | refine qD ?_ | refine qA ?_ _); exact B368.out) hb); have n1_ := qM (qB (g := g369) (by (with_reducible repeat first | refine qN ?_ _ | refine qD ?_ | refine qA ?_ _); exact B369.out) hb); have n2_ := qM (qB (g := g370) (by (with_reducible repeat first | refine qN ?_ _ | refine qD ?_ | refine qA ?_ _); exact B370.out) hb); have n3_ := qM (eT (by repeat (first | (with_reducible first | exact HB.out | apply eA | apply eN | apply eD | refine eU ?_ (by assumption)) | exact HB.out)) hb); clear B368 B369 B370 HB; have B368 := n0_; have B369 := n1_; have B370 := n2_; have HB := n3_; clear n0_ n1_ n2_ n3_; (try clear hb); (try clear hb2); (try clear hk); (try clear hi); have hnb14 := NB368_369.out; have hnc14 := NB369_368.out; have hnb15 := NB368_370.out; have hnc15 := NB370_368.out; obtain ⟨z16_0, z16_1, z16_2, z16_3, f16_0, f16_1, f16_2, f16_3⟩ := cells4 B368.out; have hnb17 := NB369_370.out; have hnc17 := NB370_369.out; obtain ⟨z18_0, z18_1, z18_2, f18_0, f18_1, f18_2⟩ := cells3 B369.out) | ((with_reducible refine gate_callee (f := 22) rfl ?_); refine goesL_ (some 21) rfl rfl Try.func22 (by kernel_rfl) rfl #[.agg #[.slice A0_0 l0_0.length c0_0, .slice A0_1 l0_1.length c0_1, .int .i64 a0_2, .bool a0_3], .agg #[.int .i64 a1_0, .int .i64 a1_1, .string a1_2]] rfl (by (try simp only [List.map_toArray, List.map_cons, List.map_nil]); first | done | rfl | (simp only [List.length_drop, List.length_take]; rfl)) ?_; (with_reducible refine (shelf_Put.calls k (fun k_ => k_ < w.heap.size) _ _ l0_0 (fun k_ => k_ < w.heap.size) _ _ l0_1 a0_2 a0_3 a1_0 a1_1 a1_2 t372 t375 t378 t379 t380 _ ?side1 ?side2 A5.out).mono ?_); (case side1 => exact Kd.V_mk HC0_0.out (Kd.F_below (Kd.C_F Kd.heap_string HR0_0.out) (by repeat (first | (with_reducible first | exact HB.out | apply eA | apply eN | apply eD | refine eU ?_ (by assumption)) | exact HB.out)))); (case side2 => exact Kd.V_mk HC0_1.out (Kd.F_below (Kd.C_F k94_heap HR0_1.out) (by repeat (first | (with_reducible first | exact HB.out | apply eA | apply eN | apply eD | refine eU ?_ (by assumption)) | exact HB.out)))); rintro e w19 ⟨v373, v376, rfl, ho0, ho1, hb⟩; refine ⟨_, rfl, ?_⟩; have n0_ := qM (Vl (Vm (ok' := fun k_ => k_ ≠ g368 ∧ k_ ≠ g369 ∧ k_ ≠ g370) ho0 (fun k_ hk_ => ⟨Or.elim hk_ (fun hs_ => Or.elim hs_ (nL GW368) (nL GW368)) (fun hn_ => (Fb (g := g368) (by (with_reducible repeat first | refine qN ?_ _ | refine qD ?_ | refine qA ?_ _); exact B368.out) k_ hn_)), Or.elim hk_ (fun hs_ => Or.elim hs_ (nL GW369) (nL GW369)) (fun hn_ => (Fb (g := g369) (by (with_reducible repeat first | refine qN ?_ _ | refine qD ?_ | refine qA ?_ _); exact B369.out) k_ hn_)), Or.elim hk_ (fun hs_ => Or.elim hs_ (nL GW370) (nL GW370)) (fun hn_ => (Fb (g := g370) (by (with_reducible repeat first | refine qN ?_ _ | refine qD ?_ | refine qA ?_ _); exact B370.out) k_ hn_))⟩)) (eZ (by repeat (first | (with_reducible first | exact HB.out | apply eA | apply eN | apply eD | refine eU ?_ (by assumption)) | exact HB.out)))); have n1_ := qM (Vl (Vm (ok' := fun k_ => k_ ≠ g368 ∧ k_ ≠ g369 ∧ k_ ≠ g370) ho1 (fun k_ hk_ => ⟨Or.elim hk_ (fun hs_ => Or.elim hs_ (nL GW368) (nL GW368)) (fun hn_ => (Fb (g := g368) (by (with_reducible repeat first | refine qN ?_ _ | refine qD ?_ | refine qA ?_ _); exact B368.out) k_ hn_)), Or.elim hk_ (fun hs_ => Or.elim hs_ (nL GW369) (nL GW369)) (fun hn_ => (Fb (g := g369) (by (with_reducible repeat first | refine qN ?_ _ | refine qD ?_ | refine qA ?_ _); exact B369.out) k_ hn_)), Or.elim hk_ (fun hs_ => Or.elim hs_ (nL GW370) (nL GW370)) (fun hn_ => (Fb (g := g370) (by (with_reducible repeat first | refine qN ?_ _ | refine qD ?_ | refine qA ?_ _); exact B370.out) k_ hn_))⟩)) (eZ (by repeat (first | (with_reducible first | exact HB.out | apply eA | apply eN | apply eD | refine eU ?_ (by assumption)) | exact HB.out)))); have n2_ := qM (qB (g := g368) (by (with_reducible repeat first | refine qN ?_ _ | refine qD ?_ | refine qA ?_ _); exact B368.out) hb); have n3_ := qM (qB (g := g369) (by (with_reducible repeat first | refine qN ?_ _ | refine qD ?_ | refine qA ?_ _); exact B369.out) hb); have n4_ := qM (qB (g := g370) (by (with_reducible repeat first | refine qN ?_ _ | refine qD ?_ | refine qA ?_ _); exact B370.out) hb); have n5_ := qM (eT (by repeat (first | (with_reducible first | exact HB.out | apply eA | apply eN | apply eD | refine eU ?_ (by assumption)) | exact HB.out)) hb); clear B368 B369 B370 HB; have HO374 := n0_; have HO377 := n1_; have B368 := n2_; have B369 := n3_; have B370 := n4_; have HB := n5_; clear n0_ n1_ n2_ n3_ n4_ n5_; (try clear hb); (try clear hb2); (try clear hk); (try clear hi); (try clear ho0); (try clear ho1)) | ((with_reducible refine gate_dst (N := 8) rfl ?_); refine box_event ?hg (N := 8) ?hd (cs := #[.slice none 0 0, .slice none 0 0, .int .i64 0, .bool false]) (t := 25) ?hr ?_; (case hd => rfl); (case hg => rfl); (case hr => first | (go_simp; done) | (go_simp; rfl)); intro g381 hg w20 hbox hb; have n0_ := qM (Vb (Kd.V_elderB (by (with_reducible repeat first | apply VA | apply VN | apply VD); exact HO374.out) g381 (Nat.le_of_eq hg.symm)) hb); have n1_ := qM (Vb (Kd.V_elderB (by (with_reducible repeat first | apply VA | apply VN | apply VD); exact HO377.out) g381 (Nat.le_of_eq hg.symm)) hb); have n2_ := qM (qB (g := g368) (by (with_reducible repeat first | refine qN ?_ _ | refine qD ?_ | refine qA ?_ _); exact B368.out) hb); have n3_ := qM (qB (g := g369) (by (with_reducible repeat first | refine qN ?_ _ | refine qD ?_ | refine qA ?_ _); exact B369.out) hb); have n4_ := qM (qB (g := g370) (by (with_reducible repeat first | refine qN ?_ _ | refine qD ?_ | refine qA ?_ _); exact B370.out) hb); have n5_ := qM (eT (by repeat (first | (with_reducible first | exact HB.out | apply eA | apply eN | apply eD | refine eU ?_ (by assumption)) | exact HB.out)) hb); have n6_ := qM (hbox); have n7_ := qM ((by rw [hg]; exact (eZ (by repeat (first | (with_reducible first | exact HB.out | apply eA | apply eN | apply eD | refine eU ?_ (by assumption)) | exact HB.out))) : w.heap.size ≤ g381)); have n8_ := n7_; have n9_ := qM ((by rw [hg]; exact Nat.ne_of_lt (qL (g := g368) (by (with_reducible repeat first | refine qN ?_ _ | refine qD ?_ | refine qA ?_ _); exact B368.out)) : g368 ≠ g381)); have n10_ := qM (Ne.symm n9_.out); have n11_ := qM ((by rw [hg]; exact Nat.ne_of_lt (qL (g := g369) (by (with_reducible repeat first | refine qN ?_ _ | refine qD ?_ | refine qA ?_ _); exact B369.out)) : g369 ≠ g381)); have n12_ := qM (Ne.symm n11_.out); have n13_ := qM ((by rw [hg]; exact Nat.ne_of_lt (qL (g := g370) (by (with_reducible repeat first | refine qN ?_ _ | refine qD ?_ | refine qA ?_ _); exact B370.out)) : g370 ≠ g381)); have n14_ := qM (Ne.symm n13_.out); clear HO374 HO377 B368 B369 B370 HB; have HO374 := n0_; have HO377 := n1_; have B368 := n2_; have B369 := n3_; have B370 := n4_; have HB := n5_; have B381 := n6_; have GW381 := n7_; have GE381 := n8_; have NB368_381 := n9_; have NB381_368 := n10_; have NB369_381 := n11_; have NB381_369 := n12_; have NB370_381 := n13_; have NB381_370 := n14_; clear n0_ n1_ n2_ n3_ n4_ n5_ n6_ n7_ n8_ n9_ n10_ n11_ n12_ n13_ n14_; clear hb hbox hg; obtain ⟨Ao21, co21, eo21⟩ := Kd.V_slice HO374.out; subst eo21; have hnb22 := NB381_368.out; have hnc22 := NB368_381.out; have hnb23 := NB381_369.out; have hnc23 := NB369_381.out; have hnb24 := NB381_370.out; have hnc24 := NB370_381.out; obtain ⟨z25_0, z25_1, z25_2, z25_3, f25_0, f25_1, f25_2, f25_3⟩ := cells4 B381.out; obtain ⟨Ao26, co26, eo26⟩ := Kd.V_slice HO377.out; subst eo26) | ((with_reducible refine gate_store (t := 25) (p := 8) rfl ?_); refine store_event (t := 25) (p := 8) (v := ?vo_w27) (w1 := ((((w20.setCell ⟨g381, 0, none⟩ (.slice Ao21 t372.length co21)).setCell ⟨g381, 1, none⟩ (.slice Ao26 t375.length co26)).setCell ⟨g381, 2, none⟩ (.int .i64 t378)).setCell ⟨g381, 3, none⟩ (.bool t379))) ?hg ?ho ?hn ?hr ?_; (case ho => rfl); (case hg => rfl); (case hn => rfl); (case hr => first | (go_simp; done) | (go_simp; rfl)); intro w27 hw; have n0_ : Aside0 (Kd.V Kd.string 9 w27 w.heap.size (fun k_ => k_ ≠ g368 ∧ k_ ≠ g369 ∧ k_ ≠ g370 ∧ k_ ≠ g381) (.slice Ao21 t372.length co21) t372) := ⟨(by rw [hw]; exact (by (with_reducible repeat first | apply VA | apply VN | apply VD); exact Vm (Vf (p := ⟨g381, 3, none⟩) (Vf (p := ⟨g381, 2, none⟩) (Vf (p := ⟨g381, 1, none⟩) (Vf (p := ⟨g381, 0, none⟩) (Vm HO374.out (fun k_ hk => (⟨hk, hk.2⟩ : _ ∧ k_ ≠ g381))) (fun _ hk => hk.2) (.slice Ao21 t372.length co21)) (fun _ hk => hk.2) (.slice Ao26 t375.length co26)) (fun _ hk => hk.2) (.int .i64 t378)) (fun _ hk => hk.2) (.bool t379)) (fun _ hk => ⟨hk.1.1.1, ⟨hk.1.1.2.1, ⟨hk.1.1.2.2, hk.1.2⟩⟩⟩)))⟩; have n1_ : Aside0 (Kd.V k94 94 w27 w.heap.size (fun k_ => k_ ≠ g368 ∧ k_ ≠ g369 ∧ k_ ≠ g370 ∧ k_ ≠ g381) (.slice Ao26 t375.length co26) t375) := ⟨(by rw [hw]; exact (by (with_reducible repeat first | apply VA | apply VN | apply VD); exact Vm (Vf (p := ⟨g381, 3, none⟩) (Vf (p := ⟨g381, 2, none⟩) (Vf (p := ⟨g381, 1, none⟩) (Vf (p := ⟨g381, 0, none⟩) (Vm HO377.out (fun k_ hk => (⟨hk, hk.2⟩ : _ ∧ k_ ≠ g381))) (fun _ hk => hk.2) (.slice Ao21 t372.length co21)) (fun _ hk => hk.2) (.slice Ao26 t375.length co26)) (fun _ hk => hk.2) (.int .i64 t378)) (fun _ hk => hk.2) (.bool t379)) (fun _ hk => ⟨hk.1.1.1, ⟨hk.1.1.2.1, ⟨hk.1.1.2.2, hk.1.2⟩⟩⟩)))⟩; have n2_ : Aside0 (w27.heap[g368]? = some (.cells #[.slice A0_0 l0_0.length c0_0, .slice A0_1 l0_1.length c0_1, .int .i64 a0_2, .bool a0_3] 25 (0, 0))) := ⟨(by rw [hw]; exact (by (with_reducible repeat first | refine qN ?_ _ | refine qD ?_ | refine qA ?_ _); (iterate 4 (refine qR ?_ NB368_381.out _; (with_reducible repeat first | refine qN ?_ _ | refine qD ?_ | refine qA ?_ _))); exact B368.out))⟩; have n3_ : Aside0 (w27.heap[g369]? = some (.cells #[.int .i64 a1_0, .int .i64 a1_1, .string a1_2] 43 (0, 0))) := ⟨(by rw [hw]; exact (by (with_reducible repeat first | refine qN ?_ _ | refine qD ?_ | refine qA ?_ _); (iterate 4 (refine qR ?_ NB369_381.out _; (with_reducible repeat first | refine qN ?_ _ | refine qD ?_ | refine qA ?_ _))); exact B369.out))⟩; have n4_ : Aside0 (w27.heap[g370]? = some (.cells #[.int .i64 a2_0, .int .i64 a2_1] 27 (0, 0))) := ⟨(by rw [hw]; exact (by (with_reducible repeat first | refine qN ?_ _ | refine qD ?_ | refine qA ?_ _); (iterate 4 (refine qR ?_ NB370_381.out _; (with_reducible repeat first | refine qN ?_ _ | refine qD ?_ | refine qA ?_ _))); exact B370.out))⟩; have n5_ : Aside0 (w27.heap[g381]? = some (.cells #[.slice Ao21 t372.length co21, .slice Ao26 t375.length co26, .int .i64 t378, .bool t379] 25 (0, 0))) := ⟨(by rw [hw]; exact (by (with_reducible repeat first | refine qN ?_ _ | refine qD ?_ | refine qA ?_ _); apply puts4; (with_reducible repeat first | refine qN ?_ _ | refine qD ?_ | refine qA ?_ _); exact B381.out))⟩; have n6_ : Aside0 (Below w.heap.size w w27) := ⟨(by rw [hw]; exact (by repeat (first | (with_reducible first | exact HB.out | apply eA | apply eN | apply eD | refine eU ?_ (by assumption)) | exact HB.out)))⟩; clear hw HO374 HO377 B368 B369 B370 B381 HB; have HO374 := n0_; have HO377 := n1_; have B368 := n2_; have B369 := n3_; have B370 := n4_; have B381 := n5_; have HB := n6_; clear n0_ n1_ n2_ n3_ n4_ n5_ n6_; obtain ⟨z28_0, z28_1, z28_2, z28_3, f28_0, f28_1, f28_2, f28_3⟩ := cells4 B368.out; obtain ⟨z29_0, z29_1, z29_2, f29_0, f29_1, f29_2⟩ := cells3 B369.out) | ((with_reducible refine gate_callee (f := 31) rfl ?_); refine goesL_ (some 27) rfl rfl Try.func31 (by kernel_rfl) rfl #[.agg #[.slice A0_0 l0_0.length c0_0, .slice A0_1 l0_1.length c0_1, .int .i64 a0_2, .bool a0_3], .agg #[.int .i64 a1_0, .int .i64 a1_1, .string a1_2]] rfl (by (try simp only [List.map_toArray, List.map_cons, List.map_nil]); first | done | rfl | (simp only [List.length_drop, List.length_take]; rfl)) ?_; (with_reducible refine (hogsheadref10_Put.calls k (fun k_ => k_ < w.heap.size) _ _ l0_0 (fun k_ => k_ < w.heap.size) _ _ l0_1 a0_2 a0_3 a1_0 a1_1 a1_2 t382 t385 t388 t389 t390 _ ?side1 ?side2 A6.out).mono ?_); (case side1 => exact Kd.V_mk HC0_0.out (Kd.F_below (Kd.C_F Kd.heap_string HR0_0.out) (by repeat (first | (with_reducible first | exact HB.out | apply eA | apply eN | apply eD | refine eU ?_ (by assumption)) | exact HB.out)))); (case side2 => exact Kd.V_mk HC0_1.out (Kd.F_below (Kd.C_F k94_heap HR0_1.out) (by repeat (first | (with_reducible first | exact HB.out | apply eA | apply eN | apply eD | refine eU ?_ (by assumption)) | exact HB.out)))); rintro e w30 ⟨v383, v386, rfl, ho0, ho1, hb⟩; refine ⟨_, rfl, ?_⟩; have n0_ := qM (Vb (by (with_reducible repeat first | apply VA | apply VN | apply VD); exact HO374.out) hb); have n1_ := qM (Vb (by (with_reducible repeat first | apply VA | apply VN | apply VD); exact HO377.out) hb); have n2_ := qM (Vl (Vm (ok' := fun k_ => k_ ≠ g368 ∧ k_ ≠ g369 ∧ k_ ≠ g370 ∧ k_ ≠ g381) ho0 (fun k_ hk_ => ⟨Or.elim hk_ (fun hs_ => Or.elim hs_ (nL GW368) (nL GW368)) (fun hn_ => (Fb (g := g368) (by (with_reducible repeat first | refine qN ?_ _ | refine qD ?_ | refine qA ?_ _); exact B368.out) k_ hn_)), Or.elim hk_ (fun hs_ => Or.elim hs_ (nL GW369) (nL GW369)) (fun hn_ => (Fb (g := g369) (by (with_reducible repeat first | refine qN ?_ _ | refine qD ?_ | refine qA ?_ _); exact B369.out) k_ hn_)), Or.elim hk_ (fun hs_ => Or.elim hs_ (nL GW370) (nL GW370)) (fun hn_ => (Fb (g := g370) (by (with_reducible repeat first | refine qN ?_ _ | refine qD ?_ | refine qA ?_ _); exact B370.out) k_ hn_)), Or.elim hk_ (fun hs_ => Or.elim hs_ (nL GW381) (nL GW381)) (fun hn_ => (Fb (g := g381) (by (with_reducible repeat first | refine qN ?_ _ | refine qD ?_ | refine qA ?_ _); exact B381.out) k_ hn_))⟩)) (eZ (by repeat (first | (with_reducible first | exact HB.out | apply eA | apply eN | apply eD | refine eU ?_ (by assumption)) | exact HB.out)))); have n3_ := qM (Vl (Vm (ok' := fun k_ => k_ ≠ g368 ∧ k_ ≠ g369 ∧ k_ ≠ g370 ∧ k_ ≠ g381) ho1 (fun k_ hk_ => ⟨Or.elim hk_ (fun hs_ => Or.elim hs_ (nL GW368) (nL GW368)) (fun hn_ => (Fb (g := g368) (by (with_reducible repeat first | refine qN ?_ _ | refine qD ?_ | refine qA ?_ _); exact B368.out) k_ hn_)), Or.elim hk_ (fun hs_ => Or.elim hs_ (nL GW369) (nL GW369)) (fun hn_ => (Fb (g := g369) (by (with_reducible repeat first | refine qN ?_ _ | refine qD ?_ | refine qA ?_ _); exact B369.out) k_ hn_)), Or.elim hk_ (fun hs_ => Or.elim hs_ (nL GW370) (nL GW370)) (fun hn_ => (Fb (g := g370) (by (with_reducible repeat first | refine qN ?_ _ | refine qD ?_ | refine qA ?_ _); exact B370.out) k_ hn_)), Or.elim hk_ (fun hs_ => Or.elim hs_ (nL GW381) (nL GW381)) (fun hn_ => (Fb (g := g381) (by (with_reducible repeat first | refine qN ?_ _ | refine qD ?_ | refine qA ?_ _); exact B381.out) k_ hn_))⟩)) (eZ (by repeat (first | (with_reducible first | exact HB.out | apply eA | apply eN | apply eD | refine eU ?_ (by assumption)) | exact HB.out)))); have n4_ := qM (qB (g := g368) (by (with_reducible repeat first | refine qN ?_ _ | refine qD ?_ | refine qA ?_ _); exact B368.out) hb); have n5_ := qM (qB (g := g369) (by (with_reducible repeat first | refine qN ?_ _ | refine qD ?_ | refine qA ?_ _); exact B369.out) hb); have n6_ := qM (qB (g := g370) (by (with_reducible repeat first | refine qN ?_ _ | refine qD ?_ | refine qA ?_ _); exact B370.out) hb); have n7_ := qM (qB (g := g381) (by (with_reducible repeat first | refine qN ?_ _ | refine qD ?_ | refine qA ?_ _); exact B381.out) hb); have n8_ := qM (eT (by repeat (first | (with_reducible first | exact HB.out | apply eA | apply eN | apply eD | refine eU ?_ (by assumption)) | exact HB.out)) hb); clear HO374 HO377 B368 B369 B370 B381 HB; have HO374 := n0_; have HO377 := n1_; have HO384 := n2_; have HO387 := n3_; have B368 := n4_; have B369 := n5_; have B370 := n6_; have B381 := n7_; have HB := n8_; clear n0_ n1_ n2_ n3_ n4_ n5_ n6_ n7_ n8_; (try clear hb); (try clear hb2); (try clear hk); (try clear hi); (try clear ho0); (try clear ho1)) | ((with_reducible refine gate_dst (N := 10) rfl ?_); refine box_event ?hg (N := 10) ?hd (cs := #[.slice none 0 0, .slice none 0 0, .int .i64 0, .bool false]) (t := 25) ?hr ?_; (case hd => rfl); (case hg => rfl); (case hr => first | (go_simp; done) | (go_simp; rfl)); intro g391 hg w31 hbox hb; have n0_ := qM (Vb (Kd.V_elderB (by (with_reducible repeat first | apply VA | apply VN | apply VD); exact HO374.out) g391 (Nat.le_of_eq hg.symm)) hb); have n1_ := qM (Vb (Kd.V_elderB (by (with_reducible repeat first | apply VA | apply VN | apply VD); exact HO377.out) g391 (Nat.le_of_eq hg.symm)) hb); have n2_ := qM (Vb (Kd.V_elderB (by (with_reducible repeat first | apply VA | apply VN | apply VD); exact HO384.out) g391 (Nat.le_of_eq hg.symm)) hb); have n3_ := qM (Vb (Kd.V_elderB (by (with_reducible repeat first | apply VA | apply VN | apply VD); exact HO387.out) g391 (Nat.le_of_eq hg.symm)) hb); have n4_ := qM (qB (g := g368) (by (with_reducible repeat first | refine qN ?_ _ | refine qD ?_ | refine qA ?_ _); exact B368.out) hb); have n5_ := qM (qB (g := g369) (by (with_reducible repeat first | refine qN ?_ _ | refine qD ?_ | refine qA ?_ _); exact B369.out) hb); have n6_ := qM (qB (g := g370) (by (with_reducible repeat first | refine qN ?_ _ | refine qD ?_ | refine qA ?_ _); exact B370.out) hb); have n7_ := qM (qB (g := g381) (by (with_reducible repeat first | refine qN ?_ _ | refine qD ?_ | refine qA ?_ _); exact B381.out) hb); have n8_ := qM (eT (by repeat (first | (with_reducible first | exact HB.out | apply eA | apply eN | apply eD | refine eU ?_ (by assumption)) | exact HB.out)) hb); have n9_ := qM (hbox); have n10_ := qM ((by rw [hg]; exact (eZ (by repeat (first | (with_reducible first | exact HB.out | apply eA | apply eN | apply eD | refine eU ?_ (by assumption)) | exact HB.out))) : w.heap.size ≤ g391)); have n11_ := n10_; have n12_ := qM ((by rw [hg]; exact Nat.ne_of_lt (qL (g := g368) (by (with_reducible repeat first | refine qN ?_ _ | refine qD ?_ | refine qA ?_ _); exact B368.out)) : g368 ≠ g391)); have n13_ := qM (Ne.symm n12_.out); have n14_ := qM ((by rw [hg]; exact Nat.ne_of_lt (qL (g := g369) (by (with_reducible repeat first | refine qN ?_ _ | refine qD ?_ | refine qA ?_ _); exact B369.out)) : g369 ≠ g391)); have n15_ := qM (Ne.symm n14_.out); have n16_ := qM ((by rw [hg]; exact Nat.ne_of_lt (qL (g := g370) (by (with_reducible repeat first | refine qN ?_ _ | refine qD ?_ | refine qA ?_ _); exact B370.out)) : g370 ≠ g391)); have n17_ := qM (Ne.symm n16_.out); have n18_ := qM ((by rw [hg]; exact Nat.ne_of_lt (qL (g := g381) (by (with_reducible repeat first | refine qN ?_ _ | refine qD ?_ | refine qA ?_ _); exact B381.out)) : g381 ≠ g391)); have n19_ := qM (Ne.symm n18_.out); clear HO374 HO377 HO384 HO387 B368 B369 B370 B381 HB; have HO374 := n0_; have HO377 := n1_; have HO384 := n2_; have HO387 := n3_; have B368 := n4_; have B369 := n5_; have B370 := n6_; have B381 := n7_; have HB := n8_; have B391 := n9_; have GW391 := n10_; have GE391 := n11_; have NB368_391 := n12_; have NB391_368 := n13_; have NB369_391 := n14_; have NB391_369 := n15_; have NB370_391 := n16_; have NB391_370 := n17_; have NB381_391 := n18_; have NB391_381 := n19_; clear n0_ n1_ n2_ n3_ n4_ n5_ n6_ n7_ n8_ n9_ n10_ n11_ n12_ n13_ n14_ n15_ n16_ n17_ n18_ n19_; clear hb hbox hg; obtain ⟨Ao32, co32, eo32⟩ := Kd.V_slice HO384.out; subst eo32; have hnb33 := NB391_368.out; have hnc33 := NB368_391.out; have hnb34 := NB391_369.out; have hnc34 := NB369_391.out; have hnb35 := NB391_370.out; have hnc35 := NB370_391.out; have hnb36 := NB391_381.out; have hnc36 := NB381_391.out; obtain ⟨z37_0, z37_1, z37_2, z37_3, f37_0, f37_1, f37_2, f37_3⟩ := cells4 B391.out; obtain ⟨Ao38, co38, eo38⟩ := Kd.V_slice HO387.out; subst eo38) | ((with_reducible refine gate_store (t := 25) (p := 10) rfl ?_); refine store_event (t := 25) (p := 10) (v := ?vo_w39) (w1 := ((((w31.setCell ⟨g391, 0, none⟩ (.slice Ao32 t382.length co32)).setCell ⟨g391, 1, none⟩ (.slice Ao38 t385.length co38)).setCell ⟨g391, 2, none⟩ (.int .i64 t388)).setCell ⟨g391, 3, none⟩ (.bool t389))) ?hg ?ho ?hn ?hr ?_; (case ho => rfl); (case hg => rfl); (case hn => rfl); (case hr => first | (go_simp; done) | (go_simp; rfl)); intro w39 hw; have n0_ : Aside0 (Kd.V Kd.string 9 w39 w.heap.size (fun k_ => k_ ≠ g368 ∧ k_ ≠ g369 ∧ k_ ≠ g370 ∧ k_ ≠ g381 ∧ k_ ≠ g391) (.slice Ao21 t372.length co21) t372) := ⟨(by rw [hw]; exact (by (with_reducible repeat first | apply VA | apply VN | apply VD); exact Vm (Vf (p := ⟨g391, 3, none⟩) (Vf (p := ⟨g391, 2, none⟩) (Vf (p := ⟨g391, 1, none⟩) (Vf (p := ⟨g391, 0, none⟩) (Vm HO374.out (fun k_ hk => (⟨hk, hk.2⟩ : _ ∧ k_ ≠ g391))) (fun _ hk => hk.2) (.slice Ao32 t382.length co32)) (fun _ hk => hk.2) (.slice Ao38 t385.length co38)) (fun _ hk => hk.2) (.int .i64 t388)) (fun _ hk => hk.2) (.bool t389)) (fun _ hk => ⟨hk.1.1.1, ⟨hk.1.1.2.1, ⟨hk.1.1.2.2.1, ⟨hk.1.1.2.2.2, hk.1.2⟩⟩⟩⟩)))⟩; have n1_ : Aside0 (Kd.V k94 94 w39 w.heap.size (fun k_ => k_ ≠ g368 ∧ k_ ≠ g369 ∧ k_ ≠ g370 ∧ k_ ≠ g381 ∧ k_ ≠ g391) (.slice Ao26 t375.length co26) t375) := ⟨(by rw [hw]; exact (by (with_reducible repeat first | apply VA | apply VN | apply VD); exact Vm (Vf (p := ⟨g391, 3, none⟩) (Vf (p := ⟨g391, 2, none⟩) (Vf (p := ⟨g391, 1, none⟩) (Vf (p := ⟨g391, 0, none⟩) (Vm HO377.out (fun k_ hk => (⟨hk, hk.2⟩ : _ ∧ k_ ≠ g391))) (fun _ hk => hk.2) (.slice Ao32 t382.length co32)) (fun _ hk => hk.2) (.slice Ao38 t385.length co38)) (fun _ hk => hk.2) (.int .i64 t388)) (fun _ hk => hk.2) (.bool t389)) (fun _ hk => ⟨hk.1.1.1, ⟨hk.1.1.2.1, ⟨hk.1.1.2.2.1, ⟨hk.1.1.2.2.2, hk.1.2⟩⟩⟩⟩)))⟩; have n2_ : Aside0 (Kd.V Kd.string 9 w39 w.heap.size (fun k_ => k_ ≠ g368 ∧ k_ ≠ g369 ∧ k_ ≠ g370 ∧ k_ ≠ g381 ∧ k_ ≠ g391) (.slice Ao32 t382.length co32) t382) := ⟨(by rw [hw]; exact (by (with_reducible repeat first | apply VA | apply VN | apply VD); exact Vm (Vf (p := ⟨g391, 3, none⟩) (Vf (p := ⟨g391, 2, none⟩) (Vf (p := ⟨g391, 1, none⟩) (Vf (p := ⟨g391, 0, none⟩) (Vm HO384.out (fun k_ hk => (⟨hk, hk.2⟩ : _ ∧ k_ ≠ g391))) (fun _ hk => hk.2) (.slice Ao32 t382.length co32)) (fun _ hk => hk.2) (.slice Ao38 t385.length co38)) (fun _ hk => hk.2) (.int .i64 t388)) (fun _ hk => hk.2) (.bool t389)) (fun _ hk => ⟨hk.1.1.1, ⟨hk.1.1.2.1, ⟨hk.1.1.2.2.1, ⟨hk.1.1.2.2.2, hk.1.2⟩⟩⟩⟩)))⟩; have n3_ : Aside0 (Kd.V k94 94 w39 w.heap.size (fun k_ => k_ ≠ g368 ∧ k_ ≠ g369 ∧ k_ ≠ g370 ∧ k_ ≠ g381 ∧ k_ ≠ g391) (.slice Ao38 t385.length co38) t385) := ⟨(by rw [hw]; exact (by (with_reducible repeat first | apply VA | apply VN | apply VD); exact Vm (Vf (p := ⟨g391, 3, none⟩) (Vf (p := ⟨g391, 2, none⟩) (Vf (p := ⟨g391, 1, none⟩) (Vf (p := ⟨g391, 0, none⟩) (Vm HO387.out (fun k_ hk => (⟨hk, hk.2⟩ : _ ∧ k_ ≠ g391))) (fun _ hk => hk.2) (.slice Ao32 t382.length co32)) (fun _ hk => hk.2) (.slice Ao38 t385.length co38)) (fun _ hk => hk.2) (.int .i64 t388)) (fun _ hk => hk.2) (.bool t389)) (fun _ hk => ⟨hk.1.1.1, ⟨hk.1.1.2.1, ⟨hk.1.1.2.2.1, ⟨hk.1.1.2.2.2, hk.1.2⟩⟩⟩⟩)))⟩; have n4_ : Aside0 (w39.heap[g368]? = some (.cells #[.slice A0_0 l0_0.length c0_0, .slice A0_1 l0_1.length c0_1, .int .i64 a0_2, .bool a0_3] 25 (0, 0))) := ⟨(by rw [hw]; exact (by (with_reducible repeat first | refine qN ?_ _ | refine qD ?_ | refine qA ?_ _); (iterate 4 (refine qR ?_ NB368_391.out _; (with_reducible repeat first | refine qN ?_ _ | refine qD ?_ | refine qA ?_ _))); exact B368.out))⟩; have n5_ : Aside0 (w39.heap[g369]? = some (.cells #[.int .i64 a1_0, .int .i64 a1_1, .string a1_2] 43 (0, 0))) := ⟨(by rw [hw]; exact (by (with_reducible repeat first | refine qN ?_ _ | refine qD ?_ | refine qA ?_ _); (iterate 4 (refine qR ?_ NB369_391.out _; (with_reducible repeat first | refine qN ?_ _ | refine qD ?_ | refine qA ?_ _))); exact B369.out))⟩; have n6_ : Aside0 (w39.heap[g370]? = some (.cells #[.int .i64 a2_0, .int .i64 a2_1] 27 (0, 0))) := ⟨(by rw [hw]; exact (by (with_reducible repeat first | refine qN ?_ _ | refine qD ?_ | refine qA ?_ _); (iterate 4 (refine qR ?_ NB370_391.out _; (with_reducible repeat first | refine qN ?_ _ | refine qD ?_ | refine qA ?_ _))); exact B370.out))⟩; have n7_ : Aside0 (w39.heap[g381]? = some (.cells #[.slice Ao21 t372.length co21, .slice Ao26 t375.length co26, .int .i64 t378, .bool t379] 25 (0, 0))) := ⟨(by rw [hw]; exact (by (with_reducible repeat first | refine qN ?_ _ | refine qD ?_ | refine qA ?_ _); (iterate 4 (refine qR ?_ NB381_391.out _; (with_reducible repeat first | refine qN ?_ _ | refine qD ?_ | refine qA ?_ _))); exact B381.out))⟩; have n8_ : Aside0 (w39.heap[g391]? = some (.cells #[.slice Ao32 t382.length co32, .slice Ao38 t385.length co38, .int .i64 t388, .bool t389] 25 (0, 0))) := ⟨(by rw [hw]; exact (by (with_reducible repeat first | refine qN ?_ _ | refine qD ?_ | refine qA ?_ _); apply puts4; (with_reducible repeat first | refine qN ?_ _ | refine qD ?_ | refine qA ?_ _); exact B391.out))⟩; have n9_ : Aside0 (Below w.heap.size w w39) := ⟨(by rw [hw]; exact (by repeat (first | (with_reducible first | exact HB.out | apply eA | apply eN | apply eD | refine eU ?_ (by assumption)) | exact HB.out)))⟩; clear hw HO374 HO377 HO384 HO387 B368 B369 B370 B381 B391 HB; have HO374 := n0_; have HO377 := n1_; have HO384 := n2_; have HO387 := n3_; have B368 := n4_; have B369 := n5_; have B370 := n6_; have B381 := n7_; have B391 := n8_; have HB := n9_; clear n0_ n1_ n2_ n3_ n4_ n5_ n6_ n7_ n8_ n9_; obtain ⟨z40_0, z40_1, z40_2, z40_3, f40_0, f40_1, f40_2, f40_3⟩ := cells4 B368.out; have z41_0 : w39.cell? ⟨g370, 0, none⟩ = some (.int .i64 a2_0) := (qC B370.out 0).trans rfl; have z41_1 : w39.cell? ⟨g370, 1, none⟩ = some (.int .i64 a2_1) := (qC B370.out 1).trans rfl; have f41_0 := qF B370.out 0; have f41_1 := qF B370.out 1) | ((with_reducible refine gate_callee (f := 32) rfl ?_); refine goesL_ (some 33) rfl rfl Try.func32 (by kernel_rfl) rfl #[.agg #[.slice A0_0 l0_0.length c0_0, .slice A0_1 l0_1.length c0_1, .int .i64 a0_2, .bool a0_3], .agg #[.int .i64 a2_0, .int .i64 a2_1]] rfl (by (try simp only [List.map_toArray, List.map_cons, List.map_nil]); first | done | rfl | (simp only [List.length_drop, List.length_take]; rfl)) ?_; (with_reducible refine (shelf_Drop.calls k (fun k_ => k_ < w.heap.size) _ _ l0_0 (fun k_ => k_ < w.heap.size) _ _ l0_1 a0_2 a0_3 a2_0 a2_1 t392 t395 t398 t399 t400 _ ?side1 ?side2 A7.out).mono ?_); (case side1 => exact Kd.V_mk HC0_0.out (Kd.F_below (Kd.C_F Kd.heap_string HR0_0.out) (by repeat (first | (with_reducible first | exact HB.out | apply eA | apply eN | apply eD | refine eU ?_ (by assumption)) | exact HB.out)))); (case side2 => exact Kd.V_mk HC0_1.out (Kd.F_below (Kd.C_F k94_heap HR0_1.out) (by repeat (first | (with_reducible first | exact HB.out | apply eA | apply eN | apply eD | refine eU ?_ (by assumption)) | exact HB.out)))); rintro e w42 ⟨v393, v396, rfl, ho0, ho1, hb⟩; refine ⟨_, rfl, ?_⟩; have n0_ := qM (Vb (by (with_reducible repeat first | apply VA | apply VN | apply VD); exact HO374.out) hb); have n1_ := qM (Vb (by (with_reducible repeat first | apply VA | apply VN | apply VD); exact HO377.out) hb); have n2_ := qM (Vb (by (with_reducible repeat first | apply VA | apply VN | apply VD); exact HO384.out) hb); have n3_ := qM (Vb (by (with_reducible repeat first | apply VA | apply VN | apply VD); exact HO387.out) hb); have n4_ := qM (Vl (Vm (ok' := fun k_ => k_ ≠ g368 ∧ k_ ≠ g369 ∧ k_ ≠ g370 ∧ k_ ≠ g381 ∧ k_ ≠ g391) ho0 (fun k_ hk_ => ⟨Or.elim hk_ (fun hs_ => Or.elim hs_ (nL GW368) (nL GW368)) (fun hn_ => (Fb (g := g368) (by (with_reducible repeat first | refine qN ?_ _ | refine qD ?_ | refine qA ?_ _); exact B368.out) k_ hn_)), Or.elim hk_ (fun hs_ => Or.elim hs_ (nL GW369) (nL GW369)) (fun hn_ => (Fb (g := g369) (by (with_reducible repeat first | refine qN ?_ _ | refine qD ?_ | refine qA ?_ _); exact B369.out) k_ hn_)), Or.elim hk_ (fun hs_ => Or.elim hs_ (nL GW370) (nL GW370)) (fun hn_ => (Fb (g := g370) (by (with_reducible repeat first | refine qN ?_ _ | refine qD ?_ | refine qA ?_ _); exact B370.out) k_ hn_)), Or.elim hk_ (fun hs_ => Or.elim hs_ (nL GW381) (nL GW381)) (fun hn_ => (Fb (g := g381) (by (with_reducible repeat first | refine qN ?_ _ | refine qD ?_ | refine qA ?_ _); exact B381.out) k_ hn_)), Or.elim hk_ (fun hs_ => Or.elim hs_ (nL GW391) (nL GW391)) (fun hn_ => (Fb (g := g391) (by (with_reducible repeat first | refine qN ?_ _ | refine qD ?_ | refine qA ?_ _); exact B391.out) k_ hn_))⟩)) (eZ (by repeat (first | (with_reducible first | exact HB.out | apply eA | apply eN | apply eD | refine eU ?_ (by assumption)) | exact HB.out)))); have n5_ := qM (Vl (Vm (ok' := fun k_ => k_ ≠ g368 ∧ k_ ≠ g369 ∧ k_ ≠ g370 ∧ k_ ≠ g381 ∧ k_ ≠ g391) ho1 (fun k_ hk_ => ⟨Or.elim hk_ (fun hs_ => Or.elim hs_ (nL GW368) (nL GW368)) (fun hn_ => (Fb (g := g368) (by (with_reducible repeat first | refine qN ?_ _ | refine qD ?_ | refine qA ?_ _); exact B368.out) k_ hn_)), Or.elim hk_ (fun hs_ => Or.elim hs_ (nL GW369) (nL GW369)) (fun hn_ => (Fb (g := g369) (by (with_reducible repeat first | refine qN ?_ _ | refine qD ?_ | refine qA ?_ _); exact B369.out) k_ hn_)), Or.elim hk_ (fun hs_ => Or.elim hs_ (nL GW370) (nL GW370)) (fun hn_ => (Fb (g := g370) (by (with_reducible repeat first | refine qN ?_ _ | refine qD ?_ | refine qA ?_ _); exact B370.out) k_ hn_)), Or.elim hk_ (fun hs_ => Or.elim hs_ (nL GW381) (nL GW381)) (fun hn_ => (Fb (g := g381) (by (with_reducible repeat first | refine qN ?_ _ | refine qD ?_ | refine qA ?_ _); exact B381.out) k_ hn_)), Or.elim hk_ (fun hs_ => Or.elim hs_ (nL GW391) (nL GW391)) (fun hn_ => (Fb (g := g391) (by (with_reducible repeat first | refine qN ?_ _ | refine qD ?_ | refine qA ?_ _); exact B391.out) k_ hn_))⟩)) (eZ (by repeat (first | (with_reducible first | exact HB.out | apply eA | apply eN | apply eD | refine eU ?_ (by assumption)) | exact HB.out)))); have n6_ := qM (qB (g := g368) (by (with_reducible repeat first | refine qN ?_ _ | refine qD ?_ | refine qA ?_ _); exact B368.out) hb); have n7_ := qM (qB (g := g369) (by (with_reducible repeat first | refine qN ?_ _ | refine qD ?_ | refine qA ?_ _); exact B369.out) hb); have n8_ := qM (qB (g := g370) (by (with_reducible repeat first | refine qN ?_ _ | refine qD ?_ | refine qA ?_ _); exact B370.out) hb); have n9_ := qM (qB (g := g381) (by (with_reducible repeat first | refine qN ?_ _ | refine qD ?_ | refine qA ?_ _); exact B381.out) hb); have n10_ := qM (qB (g := g391) (by (with_reducible repeat first | refine qN ?_ _ | refine qD ?_ | refine qA ?_ _); exact B391.out) hb); have n11_ := qM (eT (by repeat (first | (with_reducible first | exact HB.out | apply eA | apply eN | apply eD | refine eU ?_ (by assumption)) | exact HB.out)) hb); clear HO374 HO377 HO384 HO387 B368 B369 B370 B381 B391 HB; have HO374 := n0_; have HO377 := n1_; have HO384 := n2_; have HO387 := n3_; have HO394 := n4_; have HO397 := n5_; have B368 := n6_; have B369 := n7_; have B370 := n8_; have B381 := n9_; have B391 := n10_; have HB := n11_; clear n0_ n1_ n2_ n3_ n4_ n5_ n6_ n7_ n8_ n9_ n10_ n11_; (try clear hb); (try clear hb2); (try clear hk); (try clear hi); (try clear ho0); (try clear ho1)) | ((with_reducible refine gate_dst (N := 12) rfl ?_); refine box_event ?hg (N := 12) ?hd (cs := #[.slice none 0 0, .slice none 0 0, .int .i64 0, .bool false]) (t := 25) ?hr ?_; (case hd => rfl); (case hg => rfl); (case hr => first | (go_simp; done) | (go_simp; rfl)); intro g401 hg w43 hbox hb; have n0_ := qM (Vb (Kd.V_elderB (by (with_reducible repeat first | apply VA | apply VN | apply VD); exact HO374.out) g401 (Nat.le_of_eq hg.symm)) hb); have n1_ := qM (Vb (Kd.V_elderB (by (with_reducible repeat first | apply VA | apply VN | apply VD); exact HO377.out) g401 (Nat.le_of_eq hg.symm)) hb); have n2_ := qM (Vb (Kd.V_elderB (by (with_reducible repeat first | apply VA | apply VN | apply VD); exact HO384.out) g401 (Nat.le_of_eq hg.symm)) hb); have n3_ := qM (Vb (Kd.V_elderB (by (with_reducible repeat first | apply VA | apply VN | apply VD); exact HO387.out) g401 (Nat.le_of_eq hg.symm)) hb); have n4_ := qM (Vb (Kd.V_elderB (by (with_reducible repeat first | apply VA | apply VN | apply VD); exact HO394.out) g401 (Nat.le_of_eq hg.symm)) hb); have n5_ := qM (Vb (Kd.V_elderB (by (with_reducible repeat first | apply VA | apply VN | apply VD); exact HO397.out) g401 (Nat.le_of_eq hg.symm)) hb); have n6_ := qM (qB (g := g368) (by (with_reducible repeat first | refine qN ?_ _ | refine qD ?_ | refine qA ?_ _); exact B368.out) hb); have n7_ := qM (qB (g := g369) (by (with_reducible repeat first | refine qN ?_ _ | refine qD ?_ | refine qA ?_ _); exact B369.out) hb); have n8_ := qM (qB (g := g370) (by (with_reducible repeat first | refine qN ?_ _ | refine qD ?_ | refine qA ?_ _); exact B370.out) hb); have n9_ := qM (qB (g := g381) (by (with_reducible repeat first | refine qN ?_ _ | refine qD ?_ | refine qA ?_ _); exact B381.out) hb); have n10_ := qM (qB (g := g391) (by (with_reducible repeat first | refine qN ?_ _ | refine qD ?_ | refine qA ?_ _); exact B391.out) hb); have n11_ := qM (eT (by repeat (first | (with_reducible first | exact HB.out | apply eA | apply eN | apply eD | refine eU ?_ (by assumption)) | exact HB.out)) hb); have n12_ := qM (hbox); have n13_ := qM ((by rw [hg]; exact (eZ (by repeat (first | (with_reducible first | exact HB.out | apply eA | apply eN | apply eD | refine eU ?_ (by assumption)) | exact HB.out))) : w.heap.size ≤ g401)); have n14_ := n13_; have n15_ := qM ((by rw [hg]; exact Nat.ne_of_lt (qL (g := g368) (by (with_reducible repeat first | refine qN ?_ _ | refine qD ?_ | refine qA ?_ _); exact B368.out)) : g368 ≠ g401)); have n16_ := qM (Ne.symm n15_.out); have n17_ := qM ((by rw [hg]; exact Nat.ne_of_lt (qL (g := g369) (by (with_reducible repeat first | refine qN ?_ _ | refine qD ?_ | refine qA ?_ _); exact B369.out)) : g369 ≠ g401)); have n18_ := qM (Ne.symm n17_.out); have n19_ := qM ((by rw [hg]; exact Nat.ne_of_lt (qL (g := g370) (by (with_reducible repeat first | refine qN ?_ _ | refine qD ?_ | refine qA ?_ _); exact B370.out)) : g370 ≠ g401)); have n20_ := qM (Ne.symm n19_.out); have n21_ := qM ((by rw [hg]; exact Nat.ne_of_lt (qL (g := g381) (by (with_reducible repeat first | refine qN ?_ _ | refine qD ?_ | refine qA ?_ _); exact B381.out)) : g381 ≠ g401)); have n22_ := qM (Ne.symm n21_.out); have n23_ := qM ((by rw [hg]; exact Nat.ne_of_lt (qL (g := g391) (by (with_reducible repeat first | refine qN ?_ _ | refine qD ?_ | refine qA ?_ _); exact B391.out)) : g391 ≠ g401)); have n24_ := qM (Ne.symm n23_.out); clear HO374 HO377 HO384 HO387 HO394 HO397 B368 B369 B370 B381 B391 HB; have HO374 := n0_; have HO377 := n1_; have HO384 := n2_; have HO387 := n3_; have HO394 := n4_; have HO397 := n5_; have B368 := n6_; have B369 := n7_; have B370 := n8_; have B381 := n9_; have B391 := n10_; have HB := n11_; have B401 := n12_; have GW401 := n13_; have GE401 := n14_; have NB368_401 := n15_; have NB401_368 := n16_; have NB369_401 := n17_; have NB401_369 := n18_; have NB370_401 := n19_; have NB401_370 := n20_; have NB381_401 := n21_; have NB401_381 := n22_; have NB391_401 := n23_; have NB401_391 := n24_; clear n0_ n1_ n2_ n3_ n4_ n5_ n6_ n7_ n8_ n9_ n10_ n11_ n12_ n13_ n14_ n15_ n16_ n17_ n18_ n19_ n20_ n21_ n22_ n23_ n24_; clear hb hbox hg; obtain ⟨Ao44, co44, eo44⟩ := Kd.V_slice HO394.out; subst eo44; have hnb45 := NB401_368.out; have hnc45 := NB368_401.out; have hnb46 := NB401_369.out; have hnc46 := NB369_401.out; have hnb47 := NB401_370.out; have hnc47 := NB370_401.out; have hnb48 := NB401_381.out; have hnc48 := NB381_401.out; have hnb49 := NB401_391.out; have hnc49 := NB391_401.out; obtain ⟨z50_0, z50_1, z50_2, z50_3, f50_0, f50_1, f50_2, f50_3⟩ := cells4 B401.out; obtain ⟨Ao51, co51, eo51⟩ := Kd.V_slice HO397.out; subst eo51) | ((with_reducible refine gate_store (t := 25) (p := 12) rfl ?_); refine store_event (t := 25) (p := 12) (v := ?vo_w52) (w1 := ((((w43.setCell ⟨g401, 0, none⟩ (.slice Ao44 t392.length co44)).setCell ⟨g401, 1, none⟩ (.slice Ao51 t395.length co51)).setCell ⟨g401, 2, none⟩ (.int .i64 t398)).setCell ⟨g401, 3, none⟩ (.bool t399))) ?hg ?ho ?hn ?hr ?_; (case ho => rfl); (case hg => rfl); (case hn => rfl); (case hr => first | (go_simp; done) | (go_simp; rfl)); intro w52 hw; have n0_ : Aside0 (Kd.V Kd.string 9 w52 w.heap.size (fun k_ => k_ ≠ g368 ∧ k_ ≠ g369 ∧ k_ ≠ g370 ∧ k_ ≠ g381 ∧ k_ ≠ g391 ∧ k_ ≠ g401) (.slice Ao21 t372.length co21) t372) := ⟨(by rw [hw]; exact (by (with_reducible repeat first | apply VA | apply VN | apply VD); exact Vm (Vf (p := ⟨g401, 3, none⟩) (Vf (p := ⟨g401, 2, none⟩) (Vf (p := ⟨g401, 1, none⟩) (Vf (p := ⟨g401, 0, none⟩) (Vm HO374.out (fun k_ hk => (⟨hk, hk.2⟩ : _ ∧ k_ ≠ g401))) (fun _ hk => hk.2) (.slice Ao44 t392.length co44)) (fun _ hk => hk.2) (.slice Ao51 t395.length co51)) (fun _ hk => hk.2) (.int .i64 t398)) (fun _ hk => hk.2) (.bool t399)) (fun _ hk => ⟨hk.1.1.1, ⟨hk.1.1.2.1, ⟨hk.1.1.2.2.1, ⟨hk.1.1.2.2.2.1, ⟨hk.1.1.2.2.2.2, hk.1.2⟩⟩⟩⟩⟩)))⟩; have n1_ : Aside0 (Kd.V k94 94 w52 w.heap.size (fun k_ => k_ ≠ g368 ∧ k_ ≠ g369 ∧ k_ ≠ g370 ∧ k_ ≠ g381 ∧ k_ ≠ g391 ∧ k_ ≠ g401) (.slice Ao26 t375.length co26) t375) := ⟨(by rw [hw]; exact (by (with_reducible repeat first | apply VA | apply VN | apply VD); exact Vm (Vf (p := ⟨g401, 3, none⟩) (Vf (p := ⟨g401, 2, none⟩) (Vf (p := ⟨g401, 1, none⟩) (Vf (p := ⟨g401, 0, none⟩) (Vm HO377.out (fun k_ hk => (⟨hk, hk.2⟩ : _ ∧ k_ ≠ g401))) (fun _ hk => hk.2) (.slice Ao44 t392.length co44)) (fun _ hk => hk.2) (.slice Ao51 t395.length co51)) (fun _ hk => hk.2) (.int .i64 t398)) (fun _ hk => hk.2) (.bool t399)) (fun _ hk => ⟨hk.1.1.1, ⟨hk.1.1.2.1, ⟨hk.1.1.2.2.1, ⟨hk.1.1.2.2.2.1, ⟨hk.1.1.2.2.2.2, hk.1.2⟩⟩⟩⟩⟩)))⟩; have n2_ : Aside0 (Kd.V Kd.string 9 w52 w.heap.size (fun k_ => k_ ≠ g368 ∧ k_ ≠ g369 ∧ k_ ≠ g370 ∧ k_ ≠ g381 ∧ k_ ≠ g391 ∧ k_ ≠ g401) (.slice Ao32 t382.length co32) t382) := ⟨(by rw [hw]; exact (by (with_reducible repeat first | apply VA | apply VN | apply VD); exact Vm (Vf (p := ⟨g401, 3, none⟩) (Vf (p := ⟨g401, 2, none⟩) (Vf (p := ⟨g401, 1, none⟩) (Vf (p := ⟨g401, 0, none⟩) (Vm HO384.out (fun k_ hk => (⟨hk, hk.2⟩ : _ ∧ k_ ≠ g401))) (fun _ hk => hk.2) (.slice Ao44 t392.length co44)) (fun _ hk => hk.2) (.slice Ao51 t395.length co51)) (fun _ hk => hk.2) (.int .i64 t398)) (fun _ hk => hk.2) (.bool t399)) (fun _ hk => ⟨hk.1.1.1, ⟨hk.1.1.2.1, ⟨hk.1.1.2.2.1, ⟨hk.1.1.2.2.2.1, ⟨hk.1.1.2.2.2.2, hk.1.2⟩⟩⟩⟩⟩)))⟩; have n3_ : Aside0 (Kd.V k94 94 w52 w.heap.size (fun k_ => k_ ≠ g368 ∧ k_ ≠ g369 ∧ k_ ≠ g370 ∧ k_ ≠ g381 ∧ k_ ≠ g391 ∧ k_ ≠ g401) (.slice Ao38 t385.length co38) t385) := ⟨(by rw [hw]; exact (by (with_reducible repeat first | apply VA | apply VN | apply VD); exact Vm (Vf (p := ⟨g401, 3, none⟩) (Vf (p := ⟨g401, 2, none⟩) (Vf (p := ⟨g401, 1, none⟩) (Vf (p := ⟨g401, 0, none⟩) (Vm HO387.out (fun k_ hk => (⟨hk, hk.2⟩ : _ ∧ k_ ≠ g401))) (fun _ hk => hk.2) (.slice Ao44 t392.length co44)) (fun _ hk => hk.2) (.slice Ao51 t395.length co51)) (fun _ hk => hk.2) (.int .i64 t398)) (fun _ hk => hk.2) (.bool t399)) (fun _ hk => ⟨hk.1.1.1, ⟨hk.1.1.2.1, ⟨hk.1.1.2.2.1, ⟨hk.1.1.2.2.2.1, ⟨hk.1.1.2.2.2.2, hk.1.2⟩⟩⟩⟩⟩)))⟩; have n4_ : Aside0 (Kd.V Kd.string 9 w52 w.heap.size (fun k_ => k_ ≠ g368 ∧ k_ ≠ g369 ∧ k_ ≠ g370 ∧ k_ ≠ g381 ∧ k_ ≠ g391 ∧ k_ ≠ g401) (.slice Ao44 t392.length co44) t392) := ⟨(by rw [hw]; exact (by (with_reducible repeat first | apply VA | apply VN | apply VD); exact Vm (Vf (p := ⟨g401, 3, none⟩) (Vf (p := ⟨g401, 2, none⟩) (Vf (p := ⟨g401, 1, none⟩) (Vf (p := ⟨g401, 0, none⟩) (Vm HO394.out (fun k_ hk => (⟨hk, hk.2⟩ : _ ∧ k_ ≠ g401))) (fun _ hk => hk.2) (.slice Ao44 t392.length co44)) (fun _ hk => hk.2) (.slice Ao51 t395.length co51)) (fun _ hk => hk.2) (.int .i64 t398)) (fun _ hk => hk.2) (.bool t399)) (fun _ hk => ⟨hk.1.1.1, ⟨hk.1.1.2.1, ⟨hk.1.1.2.2.1, ⟨hk.1.1.2.2.2.1, ⟨hk.1.1.2.2.2.2, hk.1.2⟩⟩⟩⟩⟩)))⟩; have n5_ : Aside0 (Kd.V k94 94 w52 w.heap.size (fun k_ => k_ ≠ g368 ∧ k_ ≠ g369 ∧ k_ ≠ g370 ∧ k_ ≠ g381 ∧ k_ ≠ g391 ∧ k_ ≠ g401) (.slice Ao51 t395.length co51) t395) := ⟨(by rw [hw]; exact (by (with_reducible repeat first | apply VA | apply VN | apply VD); exact Vm (Vf (p := ⟨g401, 3, none⟩) (Vf (p := ⟨g401, 2, none⟩) (Vf (p := ⟨g401, 1, none⟩) (Vf (p := ⟨g401, 0, none⟩) (Vm HO397.out (fun k_ hk => (⟨hk, hk.2⟩ : _ ∧ k_ ≠ g401))) (fun _ hk => hk.2) (.slice Ao44 t392.length co44)) (fun _ hk => hk.2) (.slice Ao51 t395.length co51)) (fun _ hk => hk.2) (.int .i64 t398)) (fun _ hk => hk.2) (.bool t399)) (fun _ hk => ⟨hk.1.1.1, ⟨hk.1.1.2.1, ⟨hk.1.1.2.2.1, ⟨hk.1.1.2.2.2.1, ⟨hk.1.1.2.2.2.2, hk.1.2⟩⟩⟩⟩⟩)))⟩; have n6_ : Aside0 (w52.heap[g368]? = some (.cells #[.slice A0_0 l0_0.length c0_0, .slice A0_1 l0_1.length c0_1, .int .i64 a0_2, .bool a0_3] 25 (0, 0))) := ⟨(by rw [hw]; exact (by (with_reducible repeat first | refine qN ?_ _ | refine qD ?_ | refine qA ?_ _); (iterate 4 (refine qR ?_ NB368_401.out _; (with_reducible repeat first | refine qN ?_ _ | refine qD ?_ | refine qA ?_ _))); exact B368.out))⟩; have n7_ : Aside0 (w52.heap[g369]? = some (.cells #[.int .i64 a1_0, .int .i64 a1_1, .string a1_2] 43 (0, 0))) := ⟨(by rw [hw]; exact (by (with_reducible repeat first | refine qN ?_ _ | refine qD ?_ | refine qA ?_ _); (iterate 4 (refine qR ?_ NB369_401.out _; (with_reducible repeat first | refine qN ?_ _ | refine qD ?_ | refine qA ?_ _))); exact B369.out))⟩; have n8_ : Aside0 (w52.heap[g370]? = some (.cells #[.int .i64 a2_0, .int .i64 a2_1] 27 (0, 0))) := ⟨(by rw [hw]; exact (by (with_reducible repeat first | refine qN ?_ _ | refine qD ?_ | refine qA ?_ _); (iterate 4 (refine qR ?_ NB370_401.out _; (with_reducible repeat first | refine qN ?_ _ | refine qD ?_ | refine qA ?_ _))); exact B370.out))⟩; have n9_ : Aside0 (w52.heap[g381]? = some (.cells #[.slice Ao21 t372.length co21, .slice Ao26 t375.length co26, .int .i64 t378, .bool t379] 25 (0, 0))) := ⟨(by rw [hw]; exact (by (with_reducible repeat first | refine qN ?_ _ | refine qD ?_ | refine qA ?_ _); (iterate 4 (refine qR ?_ NB381_401.out _; (with_reducible repeat first | refine qN ?_ _ | refine qD ?_ | refine qA ?_ _))); exact B381.out))⟩; have n10_ : Aside0 (w52.heap[g391]? = some (.cells #[.slice Ao32 t382.length co32, .slice Ao38 t385.length co38, .int .i64 t388, .bool t389] 25 (0, 0))) := ⟨(by rw [hw]; exact (by (with_reducible repeat first | refine qN ?_ _ | refine qD ?_ | refine qA ?_ _); (iterate 4 (refine qR ?_ NB391_401.out _; (with_reducible repeat first | refine qN ?_ _ | refine qD ?_ | refine qA ?_ _))); exact B391.out))⟩; have n11_ : Aside0 (w52.heap[g401]? = some (.cells #[.slice Ao44 t392.length co44, .slice Ao51 t395.length co51, .int .i64 t398, .bool t399] 25 (0, 0))) := ⟨(by rw [hw]; exact (by (with_reducible repeat first | refine qN ?_ _ | refine qD ?_ | refine qA ?_ _); apply puts4; (with_reducible repeat first | refine qN ?_ _ | refine qD ?_ | refine qA ?_ _); exact B401.out))⟩; have n12_ : Aside0 (Below w.heap.size w w52) := ⟨(by rw [hw]; exact (by repeat (first | (with_reducible first | exact HB.out | apply eA | apply eN | apply eD | refine eU ?_ (by assumption)) | exact HB.out)))⟩; clear hw HO374 HO377 HO384 HO387 HO394 HO397 B368 B369 B370 B381 B391 B401 HB; have HO374 := n0_; have HO377 := n1_; have HO384 := n2_; have HO387 := n3_; have HO394 := n4_; have HO397 := n5_; have B368 := n6_; have B369 := n7_; have B370 := n8_; have B381 := n9_; have B391 := n10_; have B401 := n11_; have HB := n12_; clear n0_ n1_ n2_ n3_ n4_ n5_ n6_ n7_ n8_ n9_ n10_ n11_ n12_; obtain ⟨z53_0, z53_1, z53_2, z53_3, f53_0, f53_1, f53_2, f53_3⟩ := cells4 B368.out; have z54_0 : w52.cell? ⟨g370, 0, none⟩ = some (.int .i64 a2_0) := (qC B370.out 0).trans rfl; have z54_1 : w52.cell? ⟨g370, 1, none⟩ = some (.int .i64 a2_1) := (qC B370.out 1).trans rfl; have f54_0 := qF B370.out 0; have f54_1 := qF B370.out 1) | ((with_reducible refine gate_callee (f := 33) rfl ?_); refine goesL_ (some 39) rfl rfl Try.func33 (by kernel_rfl) rfl #[.agg #[.slice A0_0 l0_0.length c0_0, .slice A0_1 l0_1.length c0_1, .int .i64 a0_2, .bool a0_3], .agg #[.int .i64 a2_0, .int .i64 a2_1]] rfl (by (try simp only [List.map_toArray, List.map_cons, List.map_nil]); first | done | rfl | (simp only [List.length_drop, List.length_take]; rfl)) ?_; (with_reducible refine (hogsheadref10_Drop.calls k (fun k_ => k_ < w.heap.size) _ _ l0_0 (fun k_ => k_ < w.heap.size) _ _ l0_1 a0_2 a0_3 a2_0 a2_1 t402 t405 t408 t409 t410 _ ?side1 ?side2 A8.out).mono ?_); (case side1 => exact Kd.V_mk HC0_0.out (Kd.F_below (Kd.C_F Kd.heap_string HR0_0.out) (by repeat (first | (with_reducible first | exact HB.out | apply eA | apply eN | apply eD | refine eU ?_ (by assumption)) | exact HB.out)))); (case side2 => exact Kd.V_mk HC0_1.out (Kd.F_below (Kd.C_F k94_heap HR0_1.out) (by repeat (first | (with_reducible first | exact HB.out | apply eA | apply eN | apply eD | refine eU ?_ (by assumption)) | exact HB.out)))); rintro e w55 ⟨v403, v406, rfl, ho0, ho1, hb⟩; refine ⟨_, rfl, ?_⟩; have n0_ := qM (Vb (by (with_reducible repeat first | apply VA | apply VN | apply VD); exact HO374.out) hb); have n1_ := qM (Vb (by (with_reducible repeat first | apply VA | apply VN | apply VD); exact HO377.out) hb); have n2_ := qM (Vb (by (with_reducible repeat first | apply VA | apply VN | apply VD); exact HO384.out) hb); have n3_ := qM (Vb (by (with_reducible repeat first | apply VA | apply VN | apply VD); exact HO387.out) hb); have n4_ := qM (Vb (by (with_reducible repeat first | apply VA | apply VN | apply VD); exact HO394.out) hb); have n5_ := qM (Vb (by (with_reducible repeat first | apply VA | apply VN | apply VD); exact HO397.out) hb); have n6_ := qM (Vl (Vm (ok' := fun k_ => k_ ≠ g368 ∧ k_ ≠ g369 ∧ k_ ≠ g370 ∧ k_ ≠ g381 ∧ k_ ≠ g391 ∧ k_ ≠ g401) ho0 (fun k_ hk_ => ⟨Or.elim hk_ (fun hs_ => Or.elim hs_ (nL GW368) (nL GW368)) (fun hn_ => (Fb (g := g368) (by (with_reducible repeat first | refine qN ?_ _ | refine qD ?_ | refine qA ?_ _); exact B368.out) k_ hn_)), Or.elim hk_ (fun hs_ => Or.elim hs_ (nL GW369) (nL GW369)) (fun hn_ => (Fb (g := g369) (by (with_reducible repeat first | refine qN ?_ _ | refine qD ?_ | refine qA ?_ _); exact B369.out) k_ hn_)), Or.elim hk_ (fun hs_ => Or.elim hs_ (nL GW370) (nL GW370)) (fun hn_ => (Fb (g := g370) (by (with_reducible repeat first | refine qN ?_ _ | refine qD ?_ | refine qA ?_ _); exact B370.out) k_ hn_)), Or.elim hk_ (fun hs_ => Or.elim hs_ (nL GW381) (nL GW381)) (fun hn_ => (Fb (g := g381) (by (with_reducible repeat first | refine qN ?_ _ | refine qD ?_ | refine qA ?_ _); exact B381.out) k_ hn_)), Or.elim hk_ (fun hs_ => Or.elim hs_ (nL GW391) (nL GW391)) (fun hn_ => (Fb (g := g391) (by (with_reducible repeat first | refine qN ?_ _ | refine qD ?_ | refine qA ?_ _); exact B391.out) k_ hn_)), Or.elim hk_ (fun hs_ => Or.elim hs_ (nL GW401) (nL GW401)) (fun hn_ => (Fb (g := g401) (by (with_reducible repeat first | refine qN ?_ _ | refine qD ?_ | refine qA ?_ _); exact B401.out) k_ hn_))⟩)) (eZ (by repeat (first | (with_reducible first | exact HB.out | apply eA | apply eN | apply eD | refine eU ?_ (by assumption)) | exact HB.out)))); have n7_ := qM (Vl (Vm (ok' := fun k_ => k_ ≠ g368 ∧ k_ ≠ g369 ∧ k_ ≠ g370 ∧ k_ ≠ g381 ∧ k_ ≠ g391 ∧ k_ ≠ g401) ho1 (fun k_ hk_ => ⟨Or.elim hk_ (fun hs_ => Or.elim hs_ (nL GW368) (nL GW368)) (fun hn_ => (Fb (g := g368) (by (with_reducible repeat first | refine qN ?_ _ | refine qD ?_ | refine qA ?_ _); exact B368.out) k_ hn_)), Or.elim hk_ (fun hs_ => Or.elim hs_ (nL GW369) (nL GW369)) (fun hn_ => (Fb (g := g369) (by (with_reducible repeat first | refine qN ?_ _ | refine qD ?_ | refine qA ?_ _); exact B369.out) k_ hn_)), Or.elim hk_ (fun hs_ => Or.elim hs_ (nL GW370) (nL GW370)) (fun hn_ => (Fb (g := g370) (by (with_reducible repeat first | refine qN ?_ _ | refine qD ?_ | refine qA ?_ _); exact B370.out) k_ hn_)), Or.elim hk_ (fun hs_ => Or.elim hs_ (nL GW381) (nL GW381)) (fun hn_ => (Fb (g := g381) (by (with_reducible repeat first | refine qN ?_ _ | refine qD ?_ | refine qA ?_ _); exact B381.out) k_ hn_)), Or.elim hk_ (fun hs_ => Or.elim hs_ (nL GW391) (nL GW391)) (fun hn_ => (Fb (g := g391) (by (with_reducible repeat first | refine qN ?_ _ | refine qD ?_ | refine qA ?_ _); exact B391.out) k_ hn_)), Or.elim hk_ (fun hs_ => Or.elim hs_ (nL GW401) (nL GW401)) (fun hn_ => (Fb (g := g401) (by (with_reducible repeat first | refine qN ?_ _ | refine qD ?_ | refine qA ?_ _); exact B401.out) k_ hn_))⟩)) (eZ (by repeat (first | (with_reducible first | exact HB.out | apply eA | apply eN | apply eD | refine eU ?_ (by assumption)) | exact HB.out)))); have n8_ := qM (qB (g := g368) (by (with_reducible repeat first | refine qN ?_ _ | refine qD ?_ | refine qA ?_ _); exact B368.out) hb); have n9_ := qM (qB (g := g369) (by (with_reducible repeat first | refine qN ?_ _ | refine qD ?_ | refine qA ?_ _); exact B369.out) hb); have n10_ := qM (qB (g := g370) (by (with_reducible repeat first | refine qN ?_ _ | refine qD ?_ | refine qA ?_ _); exact B370.out) hb); have n11_ := qM (qB (g := g381) (by (with_reducible repeat first | refine qN ?_ _ | refine qD ?_ | refine qA ?_ _); exact B381.out) hb); have n12_ := qM (qB (g := g391) (by (with_reducible repeat first | refine qN ?_ _ | refine qD ?_ | refine qA ?_ _); exact B391.out) hb); have n13_ := qM (qB (g := g401) (by (with_reducible repeat first | refine qN ?_ _ | refine qD ?_ | refine qA ?_ _); exact B401.out) hb); have n14_ := qM (eT (by repeat (first | (with_reducible first | exact HB.out | apply eA | apply eN | apply eD | refine eU ?_ (by assumption)) | exact HB.out)) hb); clear HO374 HO377 HO384 HO387 HO394 HO397 B368 B369 B370 B381 B391 B401 HB; have HO374 := n0_; have HO377 := n1_; have HO384 := n2_; have HO387 := n3_; have HO394 := n4_; have HO397 := n5_; have HO404 := n6_; have HO407 := n7_; have B368 := n8_; have B369 := n9_; have B370 := n10_; have B381 := n11_; have B391 := n12_; have B401 := n13_; have HB := n14_; clear n0_ n1_ n2_ n3_ n4_ n5_ n6_ n7_ n8_ n9_ n10_ n11_ n12_ n13_ n14_; (try clear hb); (try clear hb2); (try clear hk); (try clear hi); (try clear ho0); (try clear ho1)) | ((with_reducible refine gate_dst (N := 14) rfl ?_); refine box_event ?hg (N := 14) ?hd (cs := #[.slice none 0 0, .slice none 0 0, .int .i64 0, .bool false]) (t := 25) ?hr ?_; (case hd => rfl); (case hg => rfl); (case hr => first | (go_simp; done) | (go_simp; rfl)); intro g411 hg w56 hbox hb; have n0_ := qM (Vb (Kd.V_elderB (by (with_reducible repeat first | apply VA | apply VN | apply VD); exact HO374.out) g411 (Nat.le_of_eq hg.symm)) hb); have n1_ := qM (Vb (Kd.V_elderB (by (with_reducible repeat first | apply VA | apply VN | apply VD); exact HO377.out) g411 (Nat.le_of_eq hg.symm)) hb); have n2_ := qM (Vb (Kd.V_elderB (by (with_reducible repeat first | apply VA | apply VN | apply VD); exact HO384.out) g411 (Nat.le_of_eq hg.symm)) hb); have n3_ := qM (Vb (Kd.V_elderB (by (with_reducible repeat first | apply VA | apply VN | apply VD); exact HO387.out) g411 (Nat.le_of_eq hg.symm)) hb); have n4_ := qM (Vb (Kd.V_elderB (by (with_reducible repeat first | apply VA | apply VN | apply VD); exact HO394.out) g411 (Nat.le_of_eq hg.symm)) hb); have n5_ := qM (Vb (Kd.V_elderB (by (with_reducible repeat first | apply VA | apply VN | apply VD); exact HO397.out) g411 (Nat.le_of_eq hg.symm)) hb); have n6_ := qM (Vb (Kd.V_elderB (by (with_reducible repeat first | apply VA | apply VN | apply VD); exact HO404.out) g411 (Nat.le_of_eq hg.symm)) hb); have n7_ := qM (Vb (Kd.V_elderB (by (with_reducible repeat first | apply VA | apply VN | apply VD); exact HO407.out) g411 (Nat.le_of_eq hg.symm)) hb); have n8_ := qM (qB (g := g368) (by (with_reducible repeat first | refine qN ?_ _ | refine qD ?_ | refine qA ?_ _); exact B368.out) hb); have n9_ := qM (qB (g := g369) (by (with_reducible repeat first | refine qN ?_ _ | refine qD ?_ | refine qA ?_ _); exact B369.out) hb); have n10_ := qM (qB (g := g370) (by (with_reducible repeat first | refine qN ?_ _ | refine qD ?_ | refine qA ?_ _); exact B370.out) hb); have n11_ := qM (qB (g := g381) (by (with_reducible repeat first | refine qN ?_ _ | refine qD ?_ | refine qA ?_ _); exact B381.out) hb); have n12_ := qM (qB (g := g391) (by (with_reducible repeat first | refine qN ?_ _ | refine qD ?_ | refine qA ?_ _); exact B391.out) hb); have n13_ := qM (qB (g := g401) (by (with_reducible repeat first | refine qN ?_ _ | refine qD ?_ | refine qA ?_ _); exact B401.out) hb); have n14_ := qM (eT (by repeat (first | (with_reducible first | exact HB.out | apply eA | apply eN | apply eD | refine eU ?_ (by assumption)) | exact HB.out)) hb); have n15_ := qM (hbox); have n16_ := qM ((by rw [hg]; exact (eZ (by repeat (first | (with_reducible first | exact HB.out | apply eA | apply eN | apply eD | refine eU ?_ (by assumption)) | exact HB.out))) : w.heap.size ≤ g411)); have n17_ := n16_; have n18_ := qM ((by rw [hg]; exact Nat.ne_of_lt (qL (g := g368) (by (with_reducible repeat first | refine qN ?_ _ | refine qD ?_ | refine qA ?_ _); exact B368.out)) : g368 ≠ g411)); have n19_ := qM (Ne.symm n18_.out); have n20_ := qM ((by rw [hg]; exact Nat.ne_of_lt (qL (g := g369) (by (with_reducible repeat first | refine qN ?_ _ | refine qD ?_ | refine qA ?_ _); exact B369.out)) : g369 ≠ g411)); have n21_ := qM (Ne.symm n20_.out); have n22_ := qM ((by rw [hg]; exact Nat.ne_of_lt (qL (g := g370) (by (with_reducible repeat first | refine qN ?_ _ | refine qD ?_ | refine qA ?_ _); exact B370.out)) : g370 ≠ g411)); have n23_ := qM (Ne.symm n22_.out); have n24_ := qM ((by rw [hg]; exact Nat.ne_of_lt (qL (g := g381) (by (with_reducible repeat first | refine qN ?_ _ | refine qD ?_ | refine qA ?_ _); exact B381.out)) : g381 ≠ g411)); have n25_ := qM (Ne.symm n24_.out); have n26_ := qM ((by rw [hg]; exact Nat.ne_of_lt (qL (g := g391) (by (with_reducible repeat first | refine qN ?_ _ | refine qD ?_ | refine qA ?_ _); exact B391.out)) : g391 ≠ g411)); have n27_ := qM (Ne.symm n26_.out); have n28_ := qM ((by rw [hg]; exact Nat.ne_of_lt (qL (g := g401) (by (with_reducible repeat first | refine qN ?_ _ | refine qD ?_ | refine qA ?_ _); exact B401.out)) : g401 ≠ g411)); have n29_ := qM (Ne.symm n28_.out); clear HO374 HO377 HO384 HO387 HO394 HO397 HO404 HO407 B368 B369 B370 B381 B391 B401 HB; have HO374 := n0_; have HO377 := n1_; have HO384 := n2_; have HO387 := n3_; have HO394 := n4_; have HO397 := n5_; have HO404 := n6_; have HO407 := n7_; have B368 := n8_; have B369 := n9_; have B370 := n10_; have B381 := n11_; have B391 := n12_; have B401 := n13_; have HB := n14_; have B411 := n15_; have GW411 := n16_; have GE411 := n17_; have NB368_411 := n18_; have NB411_368 := n19_; have NB369_411 := n20_; have NB411_369 := n21_; have NB370_411 := n22_; have NB411_370 := n23_; have NB381_411 := n24_; have NB411_381 := n25_; have NB391_411 := n26_; have NB411_391 := n27_; have NB401_411 := n28_; have NB411_401 := n29_; clear n0_ n1_ n2_ n3_ n4_ n5_ n6_ n7_ n8_ n9_ n10_ n11_ n12_ n13_ n14_ n15_ n16_ n17_ n18_ n19_ n20_ n21_ n22_ n23_ n24_ n25_ n26_ n27_ n28_ n29_; clear hb hbox hg; obtain ⟨Ao57, co57, eo57⟩ := Kd.V_slice HO404.out; subst eo57; have hnb58 := NB411_368.out; have hnc58 := NB368_411.out; have hnb59 := NB411_369.out; have hnc59 := NB369_411.out; have hnb60 := NB411_370.out; have hnc60 := NB370_411.out; have hnb61 := NB411_381.out; have hnc61 := NB381_411.out; have hnb62 := NB411_391.out; have hnc62 := NB391_411.out; have hnb63 := NB411_401.out; have hnc63 := NB401_411.out; obtain ⟨z64_0, z64_1, z64_2, z64_3, f64_0, f64_1, f64_2, f64_3⟩ := cells4 B411.out; obtain ⟨Ao65, co65, eo65⟩ := Kd.V_slice HO407.out; subst eo65))
 (try simp only [Act.put, List.setIfInBounds_toArray, List.set_cons_zero, List.set_cons_succ])
 go_cut [16] (fun v16 wc => ∃ (kq : Nat) (x16_8 : Bool), v16 = .bool x16_8 ∧ Aside0 (hogsheadlaw10_ShelfPuts.j0 kq t371 t380 t390 t400 t410 x16_8 = some r) ∧ Aside0 (kq ≤ k) ∧ Aside0 (Kd.V Kd.string 9 wc w.heap.size (fun k_ => k_ ≠ g368 ∧ k_ ≠ g369 ∧ k_ ≠ g370 ∧ k_ ≠ g381 ∧ k_ ≠ g391 ∧ k_ ≠ g401 ∧ k_ ≠ g411) (.slice Ao21 t372.length co21) t372) ∧ Aside0 (Kd.V k94 94 wc w.heap.size (fun k_ => k_ ≠ g368 ∧ k_ ≠ g369 ∧ k_ ≠ g370 ∧ k_ ≠ g381 ∧ k_ ≠ g391 ∧ k_ ≠ g401 ∧ k_ ≠ g411) (.slice Ao26 t375.length co26) t375) ∧ Aside0 (Kd.V Kd.string 9 wc w.heap.size (fun k_ => k_ ≠ g368 ∧ k_ ≠ g369 ∧ k_ ≠ g370 ∧ k_ ≠ g381 ∧ k_ ≠ g391 ∧ k_ ≠ g401 ∧ k_ ≠ g411) (.slice Ao32 t382.length co32) t382) ∧ Aside0 (Kd.V k94 94 wc w.heap.size (fun k_ => k_ ≠ g368 ∧ k_ ≠ g369 ∧ k_ ≠ g370 ∧ k_ ≠ g381 ∧ k_ ≠ g391 ∧ k_ ≠ g401 ∧ k_ ≠ g411) (.slice Ao38 t385.length co38) t385) ∧ Aside0 (Kd.V Kd.string 9 wc w.heap.size (fun k_ => k_ ≠ g368 ∧ k_ ≠ g369 ∧ k_ ≠ g370 ∧ k_ ≠ g381 ∧ k_ ≠ g391 ∧ k_ ≠ g401 ∧ k_ ≠ g411) (.slice Ao44 t392.length co44) t392) ∧ Aside0 (Kd.V k94 94 wc w.heap.size (fun k_ => k_ ≠ g368 ∧ k_ ≠ g369 ∧ k_ ≠ g370 ∧ k_ ≠ g381 ∧ k_ ≠ g391 ∧ k_ ≠ g401 ∧ k_ ≠ g411) (.slice Ao51 t395.length co51) t395) ∧ Aside0 (Kd.V Kd.string 9 wc w.heap.size (fun k_ => k_ ≠ g368 ∧ k_ ≠ g369 ∧ k_ ≠ g370 ∧ k_ ≠ g381 ∧ k_ ≠ g391 ∧ k_ ≠ g401 ∧ k_ ≠ g411) (.slice Ao57 t402.length co57) t402) ∧ Aside0 (Kd.V k94 94 wc w.heap.size (fun k_ => k_ ≠ g368 ∧ k_ ≠ g369 ∧ k_ ≠ g370 ∧ k_ ≠ g381 ∧ k_ ≠ g391 ∧ k_ ≠ g401 ∧ k_ ≠ g411) (.slice Ao65 t405.length co65) t405) ∧ Aside0 (wc.heap[g368]? = some (.cells #[(.slice A0_0 l0_0.length c0_0), (.slice A0_1 l0_1.length c0_1), .int .i64 a0_2, .bool a0_3] 25 (0, 0))) ∧ Aside0 (wc.heap[g369]? = some (.cells #[.int .i64 a1_0, .int .i64 a1_1, .string a1_2] 43 (0, 0))) ∧ Aside0 (wc.heap[g370]? = some (.cells #[.int .i64 a2_0, .int .i64 a2_1] 27 (0, 0))) ∧ Aside0 (wc.heap[g381]? = some (.cells #[(.slice Ao21 t372.length co21), (.slice Ao26 t375.length co26), .int .i64 t378, .bool t379] 25 (0, 0))) ∧ Aside0 (wc.heap[g391]? = some (.cells #[(.slice Ao32 t382.length co32), (.slice Ao38 t385.length co38), .int .i64 t388, .bool t389] 25 (0, 0))) ∧ Aside0 (wc.heap[g401]? = some (.cells #[(.slice Ao44 t392.length co44), (.slice Ao51 t395.length co51), .int .i64 t398, .bool t399] 25 (0, 0))) ∧ Aside0 (wc.heap[g411]? = some (.cells #[(.slice Ao57 t402.length co57), (.slice Ao65 t405.length co65), .int .i64 t408, .bool t409] 25 (0, 0))) ∧ Aside0 (Below w.heap.size w wc))
 case first =>
  have H := HC9.out
  clear HC9
  replace H := Option.bind_eq_some_iff.mp H
  obtain ⟨t412, A660, H⟩ := H
  replace H : (if t412 = true then ((hogsheadref08_Same.f k t392 t395 t398 t399 t402 t405 t408 t409).bind fun t413 => (hogsheadlaw10_ShelfPuts.j0 k t371 t380 t390 t400 t410 t413)) else (hogsheadlaw10_ShelfPuts.j0 k t371 t380 t390 t400 t410 false)) = some r := H
  have A66 := qM A660
  clear A660
  by_cases c67 : t412 = true
  ·subst c67
   have H1 : ((hogsheadref08_Same.f k t392 t395 t398 t399 t402 t405 t408 t409).bind fun t413 => (hogsheadlaw10_ShelfPuts.j0 k t371 t380 t390 t400 t410 t413)) = some r := by rw [if_pos rfl] at H; exact H
   clear H
   have H := H1
   clear H1
   replace H := Option.bind_eq_some_iff.mp H
   obtain ⟨t413, A680, H⟩ := H
   replace H : (hogsheadlaw10_ShelfPuts.j0 k t371 t380 t390 t400 t410 t413) = some r := H
   have A68 := qM A680
   clear A680
   have H' := qM H
   clear H
   have hnb69 := NB381_368.out
   have hnc69 := NB368_381.out
   have hnb70 := NB381_369.out
   have hnc70 := NB369_381.out
   have hnb71 := NB381_370.out
   have hnc71 := NB370_381.out
   have hnb72 := NB381_391.out
   have hnc72 := NB391_381.out
   have hnb73 := NB381_401.out
   have hnc73 := NB401_381.out
   have hnb74 := NB381_411.out
   have hnc74 := NB411_381.out
   obtain ⟨z75_0, z75_1, z75_2, z75_3, f75_0, f75_1, f75_2, f75_3⟩ := cells4 B381.out
   have hnb76 := NB391_368.out
   have hnc76 := NB368_391.out
   have hnb77 := NB391_369.out
   have hnc77 := NB369_391.out
   have hnb78 := NB391_370.out
   have hnc78 := NB370_391.out
   have hnb79 := NB391_401.out
   have hnc79 := NB401_391.out
   have hnb80 := NB391_411.out
   have hnc80 := NB411_391.out
   obtain ⟨z81_0, z81_1, z81_2, z81_3, f81_0, f81_1, f81_2, f81_3⟩ := cells4 B391.out
   go_wp2_with (first | ((with_reducible refine gate_callee (f := 34) rfl ?_); refine goesL_ (some 44) rfl rfl Try.func34 (by kernel_rfl) rfl #[.agg #[.slice Ao21 t372.length co21, .slice Ao26 t375.length co26, .int .i64 t378, .bool t379], .agg #[.slice Ao32 t382.length co32, .slice Ao38 t385.length co38, .int .i64 t388, .bool t389]] rfl (by (try simp only [List.map_toArray, List.map_cons, List.map_nil]); first | done | rfl | (simp only [List.length_drop, List.length_take]; rfl)) ?_; (with_reducible refine (hogsheadref08_Same.calls k _ _ t372 _ _ t375 t378 t379 _ _ t382 _ _ t385 t388 t389 true _ ?side1 ?side2 ?side3 ?side4 ?side5 ?side6 ?side7 ?side8 A66.out).mono ?_); (case side1 => refine (Kd.V_reads' (e := 9) (base := w.heap.size) (ok := fun k_ => ((k_ ≠ g368 ∧ (k_ ≠ g369 ∧ (k_ ≠ g370 ∧ (k_ ≠ g381 ∧ (k_ ≠ g391 ∧ k_ ≠ g401))))) ∧ k_ ≠ g411)) (n := t372.length) (c := co21) ?_).2.2; exact (by (with_reducible repeat first | apply VA | apply VN | apply VD); exact (Vm (Vf (p := ⟨g411, 3, none⟩) (Vf (p := ⟨g411, 2, none⟩) (Vf (p := ⟨g411, 1, none⟩) (Vf (p := ⟨g411, 0, none⟩) (Vm HO374.out (fun k_ hk => (⟨hk, hk.2⟩ : _ ∧ k_ ≠ g411))) (fun _ hk => hk.2) (.slice Ao57 t402.length co57)) (fun _ hk => hk.2) (.slice Ao65 t405.length co65)) (fun _ hk => hk.2) (.int .i64 t408)) (fun _ hk => hk.2) (.bool t409)) (fun _ h_ => h_.1)))); (case side2 => exact (Kd.V_reads' HO374.out).2.1); (case side3 => refine (Kd.V_reads' (e := 94) (base := w.heap.size) (ok := fun k_ => ((k_ ≠ g368 ∧ (k_ ≠ g369 ∧ (k_ ≠ g370 ∧ (k_ ≠ g381 ∧ (k_ ≠ g391 ∧ k_ ≠ g401))))) ∧ k_ ≠ g411)) (n := t375.length) (c := co26) ?_).2.2; exact (by (with_reducible repeat first | apply VA | apply VN | apply VD); exact (Vm (Vf (p := ⟨g411, 3, none⟩) (Vf (p := ⟨g411, 2, none⟩) (Vf (p := ⟨g411, 1, none⟩) (Vf (p := ⟨g411, 0, none⟩) (Vm HO377.out (fun k_ hk => (⟨hk, hk.2⟩ : _ ∧ k_ ≠ g411))) (fun _ hk => hk.2) (.slice Ao57 t402.length co57)) (fun _ hk => hk.2) (.slice Ao65 t405.length co65)) (fun _ hk => hk.2) (.int .i64 t408)) (fun _ hk => hk.2) (.bool t409)) (fun _ h_ => h_.1)))); (case side4 => exact (Kd.V_reads' HO377.out).2.1); (case side5 => refine (Kd.V_reads' (e := 9) (base := w.heap.size) (ok := fun k_ => ((k_ ≠ g368 ∧ (k_ ≠ g369 ∧ (k_ ≠ g370 ∧ (k_ ≠ g381 ∧ (k_ ≠ g391 ∧ k_ ≠ g401))))) ∧ k_ ≠ g411)) (n := t382.length) (c := co32) ?_).2.2; exact (by (with_reducible repeat first | apply VA | apply VN | apply VD); exact (Vm (Vf (p := ⟨g411, 3, none⟩) (Vf (p := ⟨g411, 2, none⟩) (Vf (p := ⟨g411, 1, none⟩) (Vf (p := ⟨g411, 0, none⟩) (Vm HO384.out (fun k_ hk => (⟨hk, hk.2⟩ : _ ∧ k_ ≠ g411))) (fun _ hk => hk.2) (.slice Ao57 t402.length co57)) (fun _ hk => hk.2) (.slice Ao65 t405.length co65)) (fun _ hk => hk.2) (.int .i64 t408)) (fun _ hk => hk.2) (.bool t409)) (fun _ h_ => h_.1)))); (case side6 => exact (Kd.V_reads' HO384.out).2.1); (case side7 => refine (Kd.V_reads' (e := 94) (base := w.heap.size) (ok := fun k_ => ((k_ ≠ g368 ∧ (k_ ≠ g369 ∧ (k_ ≠ g370 ∧ (k_ ≠ g381 ∧ (k_ ≠ g391 ∧ k_ ≠ g401))))) ∧ k_ ≠ g411)) (n := t385.length) (c := co38) ?_).2.2; exact (by (with_reducible repeat first | apply VA | apply VN | apply VD); exact (Vm (Vf (p := ⟨g411, 3, none⟩) (Vf (p := ⟨g411, 2, none⟩) (Vf (p := ⟨g411, 1, none⟩) (Vf (p := ⟨g411, 0, none⟩) (Vm HO387.out (fun k_ hk => (⟨hk, hk.2⟩ : _ ∧ k_ ≠ g411))) (fun _ hk => hk.2) (.slice Ao57 t402.length co57)) (fun _ hk => hk.2) (.slice Ao65 t405.length co65)) (fun _ hk => hk.2) (.int .i64 t408)) (fun _ hk => hk.2) (.bool t409)) (fun _ h_ => h_.1)))); (case side8 => exact (Kd.V_reads' HO387.out).2.1); rintro e w82 ⟨rfl, hb⟩; refine ⟨_, rfl, ?_⟩; have n0_ := qM (Vb (by (with_reducible repeat first | apply VA | apply VN | apply VD); exact (Vm (Vf (p := ⟨g411, 3, none⟩) (Vf (p := ⟨g411, 2, none⟩) (Vf (p := ⟨g411, 1, none⟩) (Vf (p := ⟨g411, 0, none⟩) (Vm HO374.out (fun k_ hk => (⟨hk, hk.2⟩ : _ ∧ k_ ≠ g411))) (fun _ hk => hk.2) (.slice Ao57 t402.length co57)) (fun _ hk => hk.2) (.slice Ao65 t405.length co65)) (fun _ hk => hk.2) (.int .i64 t408)) (fun _ hk => hk.2) (.bool t409)) (fun _ h_ => h_.1))) hb); have n1_ := qM (Vb (by (with_reducible repeat first | apply VA | apply VN | apply VD); exact (Vm (Vf (p := ⟨g411, 3, none⟩) (Vf (p := ⟨g411, 2, none⟩) (Vf (p := ⟨g411, 1, none⟩) (Vf (p := ⟨g411, 0, none⟩) (Vm HO377.out (fun k_ hk => (⟨hk, hk.2⟩ : _ ∧ k_ ≠ g411))) (fun _ hk => hk.2) (.slice Ao57 t402.length co57)) (fun _ hk => hk.2) (.slice Ao65 t405.length co65)) (fun _ hk => hk.2) (.int .i64 t408)) (fun _ hk => hk.2) (.bool t409)) (fun _ h_ => h_.1))) hb); have n2_ := qM (Vb (by (with_reducible repeat first | apply VA | apply VN | apply VD); exact (Vm (Vf (p := ⟨g411, 3, none⟩) (Vf (p := ⟨g411, 2, none⟩) (Vf (p := ⟨g411, 1, none⟩) (Vf (p := ⟨g411, 0, none⟩) (Vm HO384.out (fun k_ hk => (⟨hk, hk.2⟩ : _ ∧ k_ ≠ g411))) (fun _ hk => hk.2) (.slice Ao57 t402.length co57)) (fun _ hk => hk.2) (.slice Ao65 t405.length co65)) (fun _ hk => hk.2) (.int .i64 t408)) (fun _ hk => hk.2) (.bool t409)) (fun _ h_ => h_.1))) hb); have n3_ := qM (Vb (by (with_reducible repeat first | apply VA | apply VN | apply VD); exact (Vm (Vf (p := ⟨g411, 3, none⟩) (Vf (p := ⟨g411, 2, none⟩) (Vf (p := ⟨g411, 1, none⟩) (Vf (p := ⟨g411, 0, none⟩) (Vm HO387.out (fun k_ hk => (⟨hk, hk.2⟩ : _ ∧ k_ ≠ g411))) (fun _ hk => hk.2) (.slice Ao57 t402.length co57)) (fun _ hk => hk.2) (.slice Ao65 t405.length co65)) (fun _ hk => hk.2) (.int .i64 t408)) (fun _ hk => hk.2) (.bool t409)) (fun _ h_ => h_.1))) hb); have n4_ := qM (Vb (by (with_reducible repeat first | apply VA | apply VN | apply VD); exact (Vm (Vf (p := ⟨g411, 3, none⟩) (Vf (p := ⟨g411, 2, none⟩) (Vf (p := ⟨g411, 1, none⟩) (Vf (p := ⟨g411, 0, none⟩) (Vm HO394.out (fun k_ hk => (⟨hk, hk.2⟩ : _ ∧ k_ ≠ g411))) (fun _ hk => hk.2) (.slice Ao57 t402.length co57)) (fun _ hk => hk.2) (.slice Ao65 t405.length co65)) (fun _ hk => hk.2) (.int .i64 t408)) (fun _ hk => hk.2) (.bool t409)) (fun _ h_ => h_.1))) hb); have n5_ := qM (Vb (by (with_reducible repeat first | apply VA | apply VN | apply VD); exact (Vm (Vf (p := ⟨g411, 3, none⟩) (Vf (p := ⟨g411, 2, none⟩) (Vf (p := ⟨g411, 1, none⟩) (Vf (p := ⟨g411, 0, none⟩) (Vm HO397.out (fun k_ hk => (⟨hk, hk.2⟩ : _ ∧ k_ ≠ g411))) (fun _ hk => hk.2) (.slice Ao57 t402.length co57)) (fun _ hk => hk.2) (.slice Ao65 t405.length co65)) (fun _ hk => hk.2) (.int .i64 t408)) (fun _ hk => hk.2) (.bool t409)) (fun _ h_ => h_.1))) hb); have n6_ := qM (Vb (by (with_reducible repeat first | apply VA | apply VN | apply VD); exact (Vm (Vf (p := ⟨g411, 3, none⟩) (Vf (p := ⟨g411, 2, none⟩) (Vf (p := ⟨g411, 1, none⟩) (Vf (p := ⟨g411, 0, none⟩) (Vm HO404.out (fun k_ hk => (⟨hk, hk.2⟩ : _ ∧ k_ ≠ g411))) (fun _ hk => hk.2) (.slice Ao57 t402.length co57)) (fun _ hk => hk.2) (.slice Ao65 t405.length co65)) (fun _ hk => hk.2) (.int .i64 t408)) (fun _ hk => hk.2) (.bool t409)) (fun _ h_ => h_.1))) hb); have n7_ := qM (Vb (by (with_reducible repeat first | apply VA | apply VN | apply VD); exact (Vm (Vf (p := ⟨g411, 3, none⟩) (Vf (p := ⟨g411, 2, none⟩) (Vf (p := ⟨g411, 1, none⟩) (Vf (p := ⟨g411, 0, none⟩) (Vm HO407.out (fun k_ hk => (⟨hk, hk.2⟩ : _ ∧ k_ ≠ g411))) (fun _ hk => hk.2) (.slice Ao57 t402.length co57)) (fun _ hk => hk.2) (.slice Ao65 t405.length co65)) (fun _ hk => hk.2) (.int .i64 t408)) (fun _ hk => hk.2) (.bool t409)) (fun _ h_ => h_.1))) hb); have n8_ := qM (qB (g := g368) (o := .cells #[.slice A0_0 l0_0.length c0_0, .slice A0_1 l0_1.length c0_1, .int .i64 a0_2, .bool a0_3] 25 (0, 0)) (by (with_reducible repeat first | refine qN ?_ _ | refine qD ?_ | refine qA ?_ _); (iterate 4 (refine qR ?_ NB368_411.out _; (with_reducible repeat first | refine qN ?_ _ | refine qD ?_ | refine qA ?_ _))); exact B368.out) hb); have n9_ := qM (qB (g := g369) (o := .cells #[.int .i64 a1_0, .int .i64 a1_1, .string a1_2] 43 (0, 0)) (by (with_reducible repeat first | refine qN ?_ _ | refine qD ?_ | refine qA ?_ _); (iterate 4 (refine qR ?_ NB369_411.out _; (with_reducible repeat first | refine qN ?_ _ | refine qD ?_ | refine qA ?_ _))); exact B369.out) hb); have n10_ := qM (qB (g := g370) (o := .cells #[.int .i64 a2_0, .int .i64 a2_1] 27 (0, 0)) (by (with_reducible repeat first | refine qN ?_ _ | refine qD ?_ | refine qA ?_ _); (iterate 4 (refine qR ?_ NB370_411.out _; (with_reducible repeat first | refine qN ?_ _ | refine qD ?_ | refine qA ?_ _))); exact B370.out) hb); have n11_ := qM (qB (g := g381) (o := .cells #[.slice Ao21 t372.length co21, .slice Ao26 t375.length co26, .int .i64 t378, .bool t379] 25 (0, 0)) (by (with_reducible repeat first | refine qN ?_ _ | refine qD ?_ | refine qA ?_ _); (iterate 4 (refine qR ?_ NB381_411.out _; (with_reducible repeat first | refine qN ?_ _ | refine qD ?_ | refine qA ?_ _))); exact B381.out) hb); have n12_ := qM (qB (g := g391) (o := .cells #[.slice Ao32 t382.length co32, .slice Ao38 t385.length co38, .int .i64 t388, .bool t389] 25 (0, 0)) (by (with_reducible repeat first | refine qN ?_ _ | refine qD ?_ | refine qA ?_ _); (iterate 4 (refine qR ?_ NB391_411.out _; (with_reducible repeat first | refine qN ?_ _ | refine qD ?_ | refine qA ?_ _))); exact B391.out) hb); have n13_ := qM (qB (g := g401) (o := .cells #[.slice Ao44 t392.length co44, .slice Ao51 t395.length co51, .int .i64 t398, .bool t399] 25 (0, 0)) (by (with_reducible repeat first | refine qN ?_ _ | refine qD ?_ | refine qA ?_ _); (iterate 4 (refine qR ?_ NB401_411.out _; (with_reducible repeat first | refine qN ?_ _ | refine qD ?_ | refine qA ?_ _))); exact B401.out) hb); have n14_ := qM (qB (g := g411) (by (with_reducible repeat first | refine qN ?_ _ | refine qD ?_ | refine qA ?_ _); apply puts4; (with_reducible repeat first | refine qN ?_ _ | refine qD ?_ | refine qA ?_ _); exact B411.out) hb); have n15_ := qM (eT (by repeat (first | (with_reducible first | exact HB.out | apply eA | apply eN | apply eD | refine eU ?_ (by assumption)) | exact HB.out)) hb); clear HO374 HO377 HO384 HO387 HO394 HO397 HO404 HO407 B368 B369 B370 B381 B391 B401 B411 HB; have HO374 := n0_; have HO377 := n1_; have HO384 := n2_; have HO387 := n3_; have HO394 := n4_; have HO397 := n5_; have HO404 := n6_; have HO407 := n7_; have B368 := n8_; have B369 := n9_; have B370 := n10_; have B381 := n11_; have B391 := n12_; have B401 := n13_; have B411 := n14_; have HB := n15_; clear n0_ n1_ n2_ n3_ n4_ n5_ n6_ n7_ n8_ n9_ n10_ n11_ n12_ n13_ n14_ n15_; (try clear hb); (try clear hb2); (try clear hk); (try clear hi); have hnb83 := NB401_368.out; have hnc83 := NB368_401.out; have hnb84 := NB401_369.out; have hnc84 := NB369_401.out; have hnb85 := NB401_370.out; have hnc85 := NB370_401.out; have hnb86 := NB401_411.out; have hnc86 := NB411_401.out; obtain ⟨z87_0, z87_1, z87_2, z87_3, f87_0, f87_1, f87_2, f87_3⟩ := cells4 B401.out; have hnb88 := NB411_368.out; have hnc88 := NB368_411.out; have hnb89 := NB411_369.out; have hnc89 := NB369_411.out; have hnb90 := NB411_370.out; have hnc90 := NB370_411.out; obtain ⟨z91_0, z91_1, z91_2, z91_3, f91_0, f91_1, f91_2, f91_3⟩ := cells4 B411.out) | (go_at_call 34; (with_reducible refine (hogsheadref08_Same.calls k _ _ t392 _ _ t395 t398 t399 _ _ t402 _ _ t405 t408 t409 t413 _ ?side1 ?side2 ?side3 ?side4 ?side5 ?side6 ?side7 ?side8 A68.out).mono ?_); (case side1 => repeat (first | exact (Kd.V_reads' HO394.out).2.2 | (with_reducible refine Kd.C_alloc ?_ _) | (with_reducible refine Kd.C_drewN ?_ _) | (with_reducible refine Kd.C_drew ?_))); (case side2 => exact (Kd.V_reads' HO394.out).2.1); (case side3 => repeat (first | exact (Kd.V_reads' HO397.out).2.2 | (with_reducible refine Kd.C_alloc ?_ _) | (with_reducible refine Kd.C_drewN ?_ _) | (with_reducible refine Kd.C_drew ?_))); (case side4 => exact (Kd.V_reads' HO397.out).2.1); (case side5 => repeat (first | exact (Kd.V_reads' HO404.out).2.2 | (with_reducible refine Kd.C_alloc ?_ _) | (with_reducible refine Kd.C_drewN ?_ _) | (with_reducible refine Kd.C_drew ?_))); (case side6 => exact (Kd.V_reads' HO404.out).2.1); (case side7 => repeat (first | exact (Kd.V_reads' HO407.out).2.2 | (with_reducible refine Kd.C_alloc ?_ _) | (with_reducible refine Kd.C_drewN ?_ _) | (with_reducible refine Kd.C_drew ?_))); (case side8 => exact (Kd.V_reads' HO407.out).2.1); rintro e w92 ⟨rfl, hb⟩; have n0_ := qM (Vb (by (with_reducible repeat first | apply VA | apply VN | apply VD); exact HO374.out) hb); have n1_ := qM (Vb (by (with_reducible repeat first | apply VA | apply VN | apply VD); exact HO377.out) hb); have n2_ := qM (Vb (by (with_reducible repeat first | apply VA | apply VN | apply VD); exact HO384.out) hb); have n3_ := qM (Vb (by (with_reducible repeat first | apply VA | apply VN | apply VD); exact HO387.out) hb); have n4_ := qM (Vb (by (with_reducible repeat first | apply VA | apply VN | apply VD); exact HO394.out) hb); have n5_ := qM (Vb (by (with_reducible repeat first | apply VA | apply VN | apply VD); exact HO397.out) hb); have n6_ := qM (Vb (by (with_reducible repeat first | apply VA | apply VN | apply VD); exact HO404.out) hb); have n7_ := qM (Vb (by (with_reducible repeat first | apply VA | apply VN | apply VD); exact HO407.out) hb); have n8_ := qM (qB (g := g368) (by (with_reducible repeat first | refine qN ?_ _ | refine qD ?_ | refine qA ?_ _); exact B368.out) hb); have n9_ := qM (qB (g := g369) (by (with_reducible repeat first | refine qN ?_ _ | refine qD ?_ | refine qA ?_ _); exact B369.out) hb); have n10_ := qM (qB (g := g370) (by (with_reducible repeat first | refine qN ?_ _ | refine qD ?_ | refine qA ?_ _); exact B370.out) hb); have n11_ := qM (qB (g := g381) (by (with_reducible repeat first | refine qN ?_ _ | refine qD ?_ | refine qA ?_ _); exact B381.out) hb); have n12_ := qM (qB (g := g391) (by (with_reducible repeat first | refine qN ?_ _ | refine qD ?_ | refine qA ?_ _); exact B391.out) hb); have n13_ := qM (qB (g := g401) (by (with_reducible repeat first | refine qN ?_ _ | refine qD ?_ | refine qA ?_ _); exact B401.out) hb); have n14_ := qM (qB (g := g411) (by (with_reducible repeat first | refine qN ?_ _ | refine qD ?_ | refine qA ?_ _); exact B411.out) hb); have n15_ := qM (eT (by repeat (first | (with_reducible first | exact HB.out | apply eA | apply eN | apply eD | refine eU ?_ (by assumption)) | exact HB.out)) hb); clear HO374 HO377 HO384 HO387 HO394 HO397 HO404 HO407 B368 B369 B370 B381 B391 B401 B411 HB; have HO374 := n0_; have HO377 := n1_; have HO384 := n2_; have HO387 := n3_; have HO394 := n4_; have HO397 := n5_; have HO404 := n6_; have HO407 := n7_; have B368 := n8_; have B369 := n9_; have B370 := n10_; have B381 := n11_; have B391 := n12_; have B401 := n13_; have B411 := n14_; have HB := n15_; clear n0_ n1_ n2_ n3_ n4_ n5_ n6_ n7_ n8_ n9_ n10_ n11_ n12_ n13_ n14_ n15_; (try clear hb); (try clear hb2); (try clear hk); (try clear hi)))
   go_meet
   case rel => exact ⟨_, (t413), (by first | rfl | (simp; done) | (simp [*]; done)), H', ⟨by first | omega | exact Nat.le_refl _⟩, ⟨by (with_reducible repeat first | apply VA | apply VN | apply VD); exact Vm HO374.out (fun _ hk => ⟨hk.1.1, ⟨hk.1.2.1, ⟨hk.1.2.2.1, ⟨hk.1.2.2.2.1, ⟨hk.1.2.2.2.2.1, ⟨hk.1.2.2.2.2.2, hk.2⟩⟩⟩⟩⟩⟩)⟩, ⟨by (with_reducible repeat first | apply VA | apply VN | apply VD); exact Vm HO377.out (fun _ hk => ⟨hk.1.1, ⟨hk.1.2.1, ⟨hk.1.2.2.1, ⟨hk.1.2.2.2.1, ⟨hk.1.2.2.2.2.1, ⟨hk.1.2.2.2.2.2, hk.2⟩⟩⟩⟩⟩⟩)⟩, ⟨by (with_reducible repeat first | apply VA | apply VN | apply VD); exact Vm HO384.out (fun _ hk => ⟨hk.1.1, ⟨hk.1.2.1, ⟨hk.1.2.2.1, ⟨hk.1.2.2.2.1, ⟨hk.1.2.2.2.2.1, ⟨hk.1.2.2.2.2.2, hk.2⟩⟩⟩⟩⟩⟩)⟩, ⟨by (with_reducible repeat first | apply VA | apply VN | apply VD); exact Vm HO387.out (fun _ hk => ⟨hk.1.1, ⟨hk.1.2.1, ⟨hk.1.2.2.1, ⟨hk.1.2.2.2.1, ⟨hk.1.2.2.2.2.1, ⟨hk.1.2.2.2.2.2, hk.2⟩⟩⟩⟩⟩⟩)⟩, ⟨by (with_reducible repeat first | apply VA | apply VN | apply VD); exact Vm HO394.out (fun _ hk => ⟨hk.1.1, ⟨hk.1.2.1, ⟨hk.1.2.2.1, ⟨hk.1.2.2.2.1, ⟨hk.1.2.2.2.2.1, ⟨hk.1.2.2.2.2.2, hk.2⟩⟩⟩⟩⟩⟩)⟩, ⟨by (with_reducible repeat first | apply VA | apply VN | apply VD); exact Vm HO397.out (fun _ hk => ⟨hk.1.1, ⟨hk.1.2.1, ⟨hk.1.2.2.1, ⟨hk.1.2.2.2.1, ⟨hk.1.2.2.2.2.1, ⟨hk.1.2.2.2.2.2, hk.2⟩⟩⟩⟩⟩⟩)⟩, ⟨by (with_reducible repeat first | apply VA | apply VN | apply VD); exact Vm HO404.out (fun _ hk => ⟨hk.1.1, ⟨hk.1.2.1, ⟨hk.1.2.2.1, ⟨hk.1.2.2.2.1, ⟨hk.1.2.2.2.2.1, ⟨hk.1.2.2.2.2.2, hk.2⟩⟩⟩⟩⟩⟩)⟩, ⟨by (with_reducible repeat first | apply VA | apply VN | apply VD); exact Vm HO407.out (fun _ hk => ⟨hk.1.1, ⟨hk.1.2.1, ⟨hk.1.2.2.1, ⟨hk.1.2.2.2.1, ⟨hk.1.2.2.2.2.1, ⟨hk.1.2.2.2.2.2, hk.2⟩⟩⟩⟩⟩⟩)⟩, ⟨by (with_reducible repeat first | refine qN ?_ _ | refine qD ?_ | refine qA ?_ _); exact B368.out⟩, ⟨by (with_reducible repeat first | refine qN ?_ _ | refine qD ?_ | refine qA ?_ _); exact B369.out⟩, ⟨by (with_reducible repeat first | refine qN ?_ _ | refine qD ?_ | refine qA ?_ _); exact B370.out⟩, ⟨by (with_reducible repeat first | refine qN ?_ _ | refine qD ?_ | refine qA ?_ _); exact B381.out⟩, ⟨by (with_reducible repeat first | refine qN ?_ _ | refine qD ?_ | refine qA ?_ _); exact B391.out⟩, ⟨by (with_reducible repeat first | refine qN ?_ _ | refine qD ?_ | refine qA ?_ _); exact B401.out⟩, ⟨by (with_reducible repeat first | refine qN ?_ _ | refine qD ?_ | refine qA ?_ _); exact B411.out⟩, ⟨by repeat (first | (with_reducible first | exact HB.out | apply eA | apply eN | apply eD | refine eS ?_ GE368.out | refine eS ?_ GE369.out | refine eS ?_ GE370.out | refine eS ?_ GE381.out | refine eS ?_ GE391.out | refine eS ?_ GE401.out | refine eS ?_ GE411.out) | exact HB.out)⟩⟩
  ·replace c67 := Bool.eq_false_iff.mpr c67
   subst c67
   have H1 : (hogsheadlaw10_ShelfPuts.j0 k t371 t380 t390 t400 t410 false) = some r := by rw [if_neg (show ¬ (false = true) by decide)] at H; exact H
   clear H
   have H := H1
   clear H1
   have H' := qM H
   clear H
   have hnb93 := NB381_368.out
   have hnc93 := NB368_381.out
   have hnb94 := NB381_369.out
   have hnc94 := NB369_381.out
   have hnb95 := NB381_370.out
   have hnc95 := NB370_381.out
   have hnb96 := NB381_391.out
   have hnc96 := NB391_381.out
   have hnb97 := NB381_401.out
   have hnc97 := NB401_381.out
   have hnb98 := NB381_411.out
   have hnc98 := NB411_381.out
   obtain ⟨z99_0, z99_1, z99_2, z99_3, f99_0, f99_1, f99_2, f99_3⟩ := cells4 B381.out
   have hnb100 := NB391_368.out
   have hnc100 := NB368_391.out
   have hnb101 := NB391_369.out
   have hnc101 := NB369_391.out
   have hnb102 := NB391_370.out
   have hnc102 := NB370_391.out
   have hnb103 := NB391_401.out
   have hnc103 := NB401_391.out
   have hnb104 := NB391_411.out
   have hnc104 := NB411_391.out
   obtain ⟨z105_0, z105_1, z105_2, z105_3, f105_0, f105_1, f105_2, f105_3⟩ := cells4 B391.out
   go_wp2_with (first | ((with_reducible refine gate_callee (f := 34) rfl ?_); refine goesL_ (some 44) rfl rfl Try.func34 (by kernel_rfl) rfl #[.agg #[.slice Ao21 t372.length co21, .slice Ao26 t375.length co26, .int .i64 t378, .bool t379], .agg #[.slice Ao32 t382.length co32, .slice Ao38 t385.length co38, .int .i64 t388, .bool t389]] rfl (by (try simp only [List.map_toArray, List.map_cons, List.map_nil]); first | done | rfl | (simp only [List.length_drop, List.length_take]; rfl)) ?_; (with_reducible refine (hogsheadref08_Same.calls k _ _ t372 _ _ t375 t378 t379 _ _ t382 _ _ t385 t388 t389 false _ ?side1 ?side2 ?side3 ?side4 ?side5 ?side6 ?side7 ?side8 A66.out).mono ?_); (case side1 => refine (Kd.V_reads' (e := 9) (base := w.heap.size) (ok := fun k_ => ((k_ ≠ g368 ∧ (k_ ≠ g369 ∧ (k_ ≠ g370 ∧ (k_ ≠ g381 ∧ (k_ ≠ g391 ∧ k_ ≠ g401))))) ∧ k_ ≠ g411)) (n := t372.length) (c := co21) ?_).2.2; exact (by (with_reducible repeat first | apply VA | apply VN | apply VD); exact (Vm (Vf (p := ⟨g411, 3, none⟩) (Vf (p := ⟨g411, 2, none⟩) (Vf (p := ⟨g411, 1, none⟩) (Vf (p := ⟨g411, 0, none⟩) (Vm HO374.out (fun k_ hk => (⟨hk, hk.2⟩ : _ ∧ k_ ≠ g411))) (fun _ hk => hk.2) (.slice Ao57 t402.length co57)) (fun _ hk => hk.2) (.slice Ao65 t405.length co65)) (fun _ hk => hk.2) (.int .i64 t408)) (fun _ hk => hk.2) (.bool t409)) (fun _ h_ => h_.1)))); (case side2 => exact (Kd.V_reads' HO374.out).2.1); (case side3 => refine (Kd.V_reads' (e := 94) (base := w.heap.size) (ok := fun k_ => ((k_ ≠ g368 ∧ (k_ ≠ g369 ∧ (k_ ≠ g370 ∧ (k_ ≠ g381 ∧ (k_ ≠ g391 ∧ k_ ≠ g401))))) ∧ k_ ≠ g411)) (n := t375.length) (c := co26) ?_).2.2; exact (by (with_reducible repeat first | apply VA | apply VN | apply VD); exact (Vm (Vf (p := ⟨g411, 3, none⟩) (Vf (p := ⟨g411, 2, none⟩) (Vf (p := ⟨g411, 1, none⟩) (Vf (p := ⟨g411, 0, none⟩) (Vm HO377.out (fun k_ hk => (⟨hk, hk.2⟩ : _ ∧ k_ ≠ g411))) (fun _ hk => hk.2) (.slice Ao57 t402.length co57)) (fun _ hk => hk.2) (.slice Ao65 t405.length co65)) (fun _ hk => hk.2) (.int .i64 t408)) (fun _ hk => hk.2) (.bool t409)) (fun _ h_ => h_.1)))); (case side4 => exact (Kd.V_reads' HO377.out).2.1); (case side5 => refine (Kd.V_reads' (e := 9) (base := w.heap.size) (ok := fun k_ => ((k_ ≠ g368 ∧ (k_ ≠ g369 ∧ (k_ ≠ g370 ∧ (k_ ≠ g381 ∧ (k_ ≠ g391 ∧ k_ ≠ g401))))) ∧ k_ ≠ g411)) (n := t382.length) (c := co32) ?_).2.2; exact (by (with_reducible repeat first | apply VA | apply VN | apply VD); exact (Vm (Vf (p := ⟨g411, 3, none⟩) (Vf (p := ⟨g411, 2, none⟩) (Vf (p := ⟨g411, 1, none⟩) (Vf (p := ⟨g411, 0, none⟩) (Vm HO384.out (fun k_ hk => (⟨hk, hk.2⟩ : _ ∧ k_ ≠ g411))) (fun _ hk => hk.2) (.slice Ao57 t402.length co57)) (fun _ hk => hk.2) (.slice Ao65 t405.length co65)) (fun _ hk => hk.2) (.int .i64 t408)) (fun _ hk => hk.2) (.bool t409)) (fun _ h_ => h_.1)))); (case side6 => exact (Kd.V_reads' HO384.out).2.1); (case side7 => refine (Kd.V_reads' (e := 94) (base := w.heap.size) (ok := fun k_ => ((k_ ≠ g368 ∧ (k_ ≠ g369 ∧ (k_ ≠ g370 ∧ (k_ ≠ g381 ∧ (k_ ≠ g391 ∧ k_ ≠ g401))))) ∧ k_ ≠ g411)) (n := t385.length) (c := co38) ?_).2.2; exact (by (with_reducible repeat first | apply VA | apply VN | apply VD); exact (Vm (Vf (p := ⟨g411, 3, none⟩) (Vf (p := ⟨g411, 2, none⟩) (Vf (p := ⟨g411, 1, none⟩) (Vf (p := ⟨g411, 0, none⟩) (Vm HO387.out (fun k_ hk => (⟨hk, hk.2⟩ : _ ∧ k_ ≠ g411))) (fun _ hk => hk.2) (.slice Ao57 t402.length co57)) (fun _ hk => hk.2) (.slice Ao65 t405.length co65)) (fun _ hk => hk.2) (.int .i64 t408)) (fun _ hk => hk.2) (.bool t409)) (fun _ h_ => h_.1)))); (case side8 => exact (Kd.V_reads' HO387.out).2.1); rintro e w106 ⟨rfl, hb⟩; refine ⟨_, rfl, ?_⟩; have n0_ := qM (Vb (by (with_reducible repeat first | apply VA | apply VN | apply VD); exact (Vm (Vf (p := ⟨g411, 3, none⟩) (Vf (p := ⟨g411, 2, none⟩) (Vf (p := ⟨g411, 1, none⟩) (Vf (p := ⟨g411, 0, none⟩) (Vm HO374.out (fun k_ hk => (⟨hk, hk.2⟩ : _ ∧ k_ ≠ g411))) (fun _ hk => hk.2) (.slice Ao57 t402.length co57)) (fun _ hk => hk.2) (.slice Ao65 t405.length co65)) (fun _ hk => hk.2) (.int .i64 t408)) (fun _ hk => hk.2) (.bool t409)) (fun _ h_ => h_.1))) hb); have n1_ := qM (Vb (by (with_reducible repeat first | apply VA | apply VN | apply VD); exact (Vm (Vf (p := ⟨g411, 3, none⟩) (Vf (p := ⟨g411, 2, none⟩) (Vf (p := ⟨g411, 1, none⟩) (Vf (p := ⟨g411, 0, none⟩) (Vm HO377.out (fun k_ hk => (⟨hk, hk.2⟩ : _ ∧ k_ ≠ g411))) (fun _ hk => hk.2) (.slice Ao57 t402.length co57)) (fun _ hk => hk.2) (.slice Ao65 t405.length co65)) (fun _ hk => hk.2) (.int .i64 t408)) (fun _ hk => hk.2) (.bool t409)) (fun _ h_ => h_.1))) hb); have n2_ := qM (Vb (by (with_reducible repeat first | apply VA | apply VN | apply VD); exact (Vm (Vf (p := ⟨g411, 3, none⟩) (Vf (p := ⟨g411, 2, none⟩) (Vf (p := ⟨g411, 1, none⟩) (Vf (p := ⟨g411, 0, none⟩) (Vm HO384.out (fun k_ hk => (⟨hk, hk.2⟩ : _ ∧ k_ ≠ g411))) (fun _ hk => hk.2) (.slice Ao57 t402.length co57)) (fun _ hk => hk.2) (.slice Ao65 t405.length co65)) (fun _ hk => hk.2) (.int .i64 t408)) (fun _ hk => hk.2) (.bool t409)) (fun _ h_ => h_.1))) hb); have n3_ := qM (Vb (by (with_reducible repeat first | apply VA | apply VN | apply VD); exact (Vm (Vf (p := ⟨g411, 3, none⟩) (Vf (p := ⟨g411, 2, none⟩) (Vf (p := ⟨g411, 1, none⟩) (Vf (p := ⟨g411, 0, none⟩) (Vm HO387.out (fun k_ hk => (⟨hk, hk.2⟩ : _ ∧ k_ ≠ g411))) (fun _ hk => hk.2) (.slice Ao57 t402.length co57)) (fun _ hk => hk.2) (.slice Ao65 t405.length co65)) (fun _ hk => hk.2) (.int .i64 t408)) (fun _ hk => hk.2) (.bool t409)) (fun _ h_ => h_.1))) hb); have n4_ := qM (Vb (by (with_reducible repeat first | apply VA | apply VN | apply VD); exact (Vm (Vf (p := ⟨g411, 3, none⟩) (Vf (p := ⟨g411, 2, none⟩) (Vf (p := ⟨g411, 1, none⟩) (Vf (p := ⟨g411, 0, none⟩) (Vm HO394.out (fun k_ hk => (⟨hk, hk.2⟩ : _ ∧ k_ ≠ g411))) (fun _ hk => hk.2) (.slice Ao57 t402.length co57)) (fun _ hk => hk.2) (.slice Ao65 t405.length co65)) (fun _ hk => hk.2) (.int .i64 t408)) (fun _ hk => hk.2) (.bool t409)) (fun _ h_ => h_.1))) hb); have n5_ := qM (Vb (by (with_reducible repeat first | apply VA | apply VN | apply VD); exact (Vm (Vf (p := ⟨g411, 3, none⟩) (Vf (p := ⟨g411, 2, none⟩) (Vf (p := ⟨g411, 1, none⟩) (Vf (p := ⟨g411, 0, none⟩) (Vm HO397.out (fun k_ hk => (⟨hk, hk.2⟩ : _ ∧ k_ ≠ g411))) (fun _ hk => hk.2) (.slice Ao57 t402.length co57)) (fun _ hk => hk.2) (.slice Ao65 t405.length co65)) (fun _ hk => hk.2) (.int .i64 t408)) (fun _ hk => hk.2) (.bool t409)) (fun _ h_ => h_.1))) hb); have n6_ := qM (Vb (by (with_reducible repeat first | apply VA | apply VN | apply VD); exact (Vm (Vf (p := ⟨g411, 3, none⟩) (Vf (p := ⟨g411, 2, none⟩) (Vf (p := ⟨g411, 1, none⟩) (Vf (p := ⟨g411, 0, none⟩) (Vm HO404.out (fun k_ hk => (⟨hk, hk.2⟩ : _ ∧ k_ ≠ g411))) (fun _ hk => hk.2) (.slice Ao57 t402.length co57)) (fun _ hk => hk.2) (.slice Ao65 t405.length co65)) (fun _ hk => hk.2) (.int .i64 t408)) (fun _ hk => hk.2) (.bool t409)) (fun _ h_ => h_.1))) hb); have n7_ := qM (Vb (by (with_reducible repeat first | apply VA | apply VN | apply VD); exact (Vm (Vf (p := ⟨g411, 3, none⟩) (Vf (p := ⟨g411, 2, none⟩) (Vf (p := ⟨g411, 1, none⟩) (Vf (p := ⟨g411, 0, none⟩) (Vm HO407.out (fun k_ hk => (⟨hk, hk.2⟩ : _ ∧ k_ ≠ g411))) (fun _ hk => hk.2) (.slice Ao57 t402.length co57)) (fun _ hk => hk.2) (.slice Ao65 t405.length co65)) (fun _ hk => hk.2) (.int .i64 t408)) (fun _ hk => hk.2) (.bool t409)) (fun _ h_ => h_.1))) hb); have n8_ := qM (qB (g := g368) (o := .cells #[.slice A0_0 l0_0.length c0_0, .slice A0_1 l0_1.length c0_1, .int .i64 a0_2, .bool a0_3] 25 (0, 0)) (by (with_reducible repeat first | refine qN ?_ _ | refine qD ?_ | refine qA ?_ _); (iterate 4 (refine qR ?_ NB368_411.out _; (with_reducible repeat first | refine qN ?_ _ | refine qD ?_ | refine qA ?_ _))); exact B368.out) hb); have n9_ := qM (qB (g := g369) (o := .cells #[.int .i64 a1_0, .int .i64 a1_1, .string a1_2] 43 (0, 0)) (by (with_reducible repeat first | refine qN ?_ _ | refine qD ?_ | refine qA ?_ _); (iterate 4 (refine qR ?_ NB369_411.out _; (with_reducible repeat first | refine qN ?_ _ | refine qD ?_ | refine qA ?_ _))); exact B369.out) hb); have n10_ := qM (qB (g := g370) (o := .cells #[.int .i64 a2_0, .int .i64 a2_1] 27 (0, 0)) (by (with_reducible repeat first | refine qN ?_ _ | refine qD ?_ | refine qA ?_ _); (iterate 4 (refine qR ?_ NB370_411.out _; (with_reducible repeat first | refine qN ?_ _ | refine qD ?_ | refine qA ?_ _))); exact B370.out) hb); have n11_ := qM (qB (g := g381) (o := .cells #[.slice Ao21 t372.length co21, .slice Ao26 t375.length co26, .int .i64 t378, .bool t379] 25 (0, 0)) (by (with_reducible repeat first | refine qN ?_ _ | refine qD ?_ | refine qA ?_ _); (iterate 4 (refine qR ?_ NB381_411.out _; (with_reducible repeat first | refine qN ?_ _ | refine qD ?_ | refine qA ?_ _))); exact B381.out) hb); have n12_ := qM (qB (g := g391) (o := .cells #[.slice Ao32 t382.length co32, .slice Ao38 t385.length co38, .int .i64 t388, .bool t389] 25 (0, 0)) (by (with_reducible repeat first | refine qN ?_ _ | refine qD ?_ | refine qA ?_ _); (iterate 4 (refine qR ?_ NB391_411.out _; (with_reducible repeat first | refine qN ?_ _ | refine qD ?_ | refine qA ?_ _))); exact B391.out) hb); have n13_ := qM (qB (g := g401) (o := .cells #[.slice Ao44 t392.length co44, .slice Ao51 t395.length co51, .int .i64 t398, .bool t399] 25 (0, 0)) (by (with_reducible repeat first | refine qN ?_ _ | refine qD ?_ | refine qA ?_ _); (iterate 4 (refine qR ?_ NB401_411.out _; (with_reducible repeat first | refine qN ?_ _ | refine qD ?_ | refine qA ?_ _))); exact B401.out) hb); have n14_ := qM (qB (g := g411) (by (with_reducible repeat first | refine qN ?_ _ | refine qD ?_ | refine qA ?_ _); apply puts4; (with_reducible repeat first | refine qN ?_ _ | refine qD ?_ | refine qA ?_ _); exact B411.out) hb); have n15_ := qM (eT (by repeat (first | (with_reducible first | exact HB.out | apply eA | apply eN | apply eD | refine eU ?_ (by assumption)) | exact HB.out)) hb); clear HO374 HO377 HO384 HO387 HO394 HO397 HO404 HO407 B368 B369 B370 B381 B391 B401 B411 HB; have HO374 := n0_; have HO377 := n1_; have HO384 := n2_; have HO387 := n3_; have HO394 := n4_; have HO397 := n5_; have HO404 := n6_; have HO407 := n7_; have B368 := n8_; have B369 := n9_; have B370 := n10_; have B381 := n11_; have B391 := n12_; have B401 := n13_; have B411 := n14_; have HB := n15_; clear n0_ n1_ n2_ n3_ n4_ n5_ n6_ n7_ n8_ n9_ n10_ n11_ n12_ n13_ n14_ n15_; (try clear hb); (try clear hb2); (try clear hk); (try clear hi)))
   go_meet
   case rel => exact ⟨_, (false), (by first | rfl | (simp; done) | (simp [*]; done)), H', ⟨by first | omega | exact Nat.le_refl _⟩, ⟨by (with_reducible repeat first | apply VA | apply VN | apply VD); exact Vm HO374.out (fun _ hk => ⟨hk.1.1, ⟨hk.1.2.1, ⟨hk.1.2.2.1, ⟨hk.1.2.2.2.1, ⟨hk.1.2.2.2.2.1, ⟨hk.1.2.2.2.2.2, hk.2⟩⟩⟩⟩⟩⟩)⟩, ⟨by (with_reducible repeat first | apply VA | apply VN | apply VD); exact Vm HO377.out (fun _ hk => ⟨hk.1.1, ⟨hk.1.2.1, ⟨hk.1.2.2.1, ⟨hk.1.2.2.2.1, ⟨hk.1.2.2.2.2.1, ⟨hk.1.2.2.2.2.2, hk.2⟩⟩⟩⟩⟩⟩)⟩, ⟨by (with_reducible repeat first | apply VA | apply VN | apply VD); exact Vm HO384.out (fun _ hk => ⟨hk.1.1, ⟨hk.1.2.1, ⟨hk.1.2.2.1, ⟨hk.1.2.2.2.1, ⟨hk.1.2.2.2.2.1, ⟨hk.1.2.2.2.2.2, hk.2⟩⟩⟩⟩⟩⟩)⟩, ⟨by (with_reducible repeat first | apply VA | apply VN | apply VD); exact Vm HO387.out (fun _ hk => ⟨hk.1.1, ⟨hk.1.2.1, ⟨hk.1.2.2.1, ⟨hk.1.2.2.2.1, ⟨hk.1.2.2.2.2.1, ⟨hk.1.2.2.2.2.2, hk.2⟩⟩⟩⟩⟩⟩)⟩, ⟨by (with_reducible repeat first | apply VA | apply VN | apply VD); exact Vm HO394.out (fun _ hk => ⟨hk.1.1, ⟨hk.1.2.1, ⟨hk.1.2.2.1, ⟨hk.1.2.2.2.1, ⟨hk.1.2.2.2.2.1, ⟨hk.1.2.2.2.2.2, hk.2⟩⟩⟩⟩⟩⟩)⟩, ⟨by (with_reducible repeat first | apply VA | apply VN | apply VD); exact Vm HO397.out (fun _ hk => ⟨hk.1.1, ⟨hk.1.2.1, ⟨hk.1.2.2.1, ⟨hk.1.2.2.2.1, ⟨hk.1.2.2.2.2.1, ⟨hk.1.2.2.2.2.2, hk.2⟩⟩⟩⟩⟩⟩)⟩, ⟨by (with_reducible repeat first | apply VA | apply VN | apply VD); exact Vm HO404.out (fun _ hk => ⟨hk.1.1, ⟨hk.1.2.1, ⟨hk.1.2.2.1, ⟨hk.1.2.2.2.1, ⟨hk.1.2.2.2.2.1, ⟨hk.1.2.2.2.2.2, hk.2⟩⟩⟩⟩⟩⟩)⟩, ⟨by (with_reducible repeat first | apply VA | apply VN | apply VD); exact Vm HO407.out (fun _ hk => ⟨hk.1.1, ⟨hk.1.2.1, ⟨hk.1.2.2.1, ⟨hk.1.2.2.2.1, ⟨hk.1.2.2.2.2.1, ⟨hk.1.2.2.2.2.2, hk.2⟩⟩⟩⟩⟩⟩)⟩, ⟨by (with_reducible repeat first | refine qN ?_ _ | refine qD ?_ | refine qA ?_ _); exact B368.out⟩, ⟨by (with_reducible repeat first | refine qN ?_ _ | refine qD ?_ | refine qA ?_ _); exact B369.out⟩, ⟨by (with_reducible repeat first | refine qN ?_ _ | refine qD ?_ | refine qA ?_ _); exact B370.out⟩, ⟨by (with_reducible repeat first | refine qN ?_ _ | refine qD ?_ | refine qA ?_ _); exact B381.out⟩, ⟨by (with_reducible repeat first | refine qN ?_ _ | refine qD ?_ | refine qA ?_ _); exact B391.out⟩, ⟨by (with_reducible repeat first | refine qN ?_ _ | refine qD ?_ | refine qA ?_ _); exact B401.out⟩, ⟨by (with_reducible repeat first | refine qN ?_ _ | refine qD ?_ | refine qA ?_ _); exact B411.out⟩, ⟨by repeat (first | (with_reducible first | exact HB.out | apply eA | apply eN | apply eD | refine eS ?_ GE368.out | refine eS ?_ GE369.out | refine eS ?_ GE370.out | refine eS ?_ GE381.out | refine eS ?_ GE391.out | refine eS ?_ GE401.out | refine eS ?_ GE411.out) | exact HB.out)⟩⟩
 case rest =>
  clear HC9
  try clear c1
  try clear c2
  try clear p2
  try clear c3
  try clear c4
  try clear c5
  try clear c6
  try clear c7
  try clear c8
  try clear c9
  try clear c10
  try clear c11
  try clear c14
  try clear c15
  try clear c17
  try clear c22
  try clear c23
  try clear c24
  try clear c31
  try clear c32
  try clear c33
  try clear c34
  try clear c35
  try clear c36
  try clear c45
  try clear c46
  try clear c47
  try clear c48
  try clear c49
  try clear c58
  try clear c59
  try clear c60
  try clear c61
  try clear c62
  try clear c63
  try clear c67
  try clear c69
  try clear c70
  try clear c71
  try clear c72
  try clear c73
  try clear c74
  try clear c76
  try clear c77
  try clear c78
  try clear c79
  try clear c80
  try clear c83
  try clear c84
  try clear c85
  try clear c86
  try clear c88
  try clear c89
  try clear c90
  try clear c93
  try clear c94
  try clear c95
  try clear c96
  try clear c97
  try clear c98
  try clear c100
  try clear c101
  try clear c102
  try clear c103
  try clear c104
  try clear z105_0
  try clear z105_1
  try clear z105_2
  try clear z105_3
  try clear z16_0
  try clear z16_1
  try clear z16_2
  try clear z16_3
  try clear z18_0
  try clear z18_1
  try clear z18_2
  try clear z25_0
  try clear z25_1
  try clear z25_2
  try clear z25_3
  try clear z28_0
  try clear z28_1
  try clear z28_2
  try clear z28_3
  try clear z29_0
  try clear z29_1
  try clear z29_2
  try clear z37_0
  try clear z37_1
  try clear z37_2
  try clear z37_3
  try clear z40_0
  try clear z40_1
  try clear z40_2
  try clear z40_3
  try clear z41_0
  try clear z41_1
  try clear z50_0
  try clear z50_1
  try clear z50_2
  try clear z50_3
  try clear z53_0
  try clear z53_1
  try clear z53_2
  try clear z53_3
  try clear z54_0
  try clear z54_1
  try clear z64_0
  try clear z64_1
  try clear z64_2
  try clear z64_3
  try clear z75_0
  try clear z75_1
  try clear z75_2
  try clear z75_3
  try clear z81_0
  try clear z81_1
  try clear z81_2
  try clear z81_3
  try clear z87_0
  try clear z87_1
  try clear z87_2
  try clear z87_3
  try clear z91_0
  try clear z91_1
  try clear z91_2
  try clear z91_3
  try clear z99_0
  try clear z99_1
  try clear z99_2
  try clear z99_3
  try clear f105_0
  try clear f105_1
  try clear f105_2
  try clear f105_3
  try clear f16_0
  try clear f16_1
  try clear f16_2
  try clear f16_3
  try clear f18_0
  try clear f18_1
  try clear f18_2
  try clear f25_0
  try clear f25_1
  try clear f25_2
  try clear f25_3
  try clear f28_0
  try clear f28_1
  try clear f28_2
  try clear f28_3
  try clear f29_0
  try clear f29_1
  try clear f29_2
  try clear f37_0
  try clear f37_1
  try clear f37_2
  try clear f37_3
  try clear f40_0
  try clear f40_1
  try clear f40_2
  try clear f40_3
  try clear f41_0
  try clear f41_1
  try clear f50_0
  try clear f50_1
  try clear f50_2
  try clear f50_3
  try clear f53_0
  try clear f53_1
  try clear f53_2
  try clear f53_3
  try clear f54_0
  try clear f54_1
  try clear f64_0
  try clear f64_1
  try clear f64_2
  try clear f64_3
  try clear f75_0
  try clear f75_1
  try clear f75_2
  try clear f75_3
  try clear f81_0
  try clear f81_1
  try clear f81_2
  try clear f81_3
  try clear f87_0
  try clear f87_1
  try clear f87_2
  try clear f87_3
  try clear f91_0
  try clear f91_1
  try clear f91_2
  try clear f91_3
  try clear f99_0
  try clear f99_1
  try clear f99_2
  try clear f99_3
  obtain ⟨kq, x16_8, rfl, HA, HJ8, HO_382000, HO_382001, HO_392000, HO_392001, HO_402000, HO_402001, HO_412000, HO_412001, B368, B369, B370, B381, B391, B401, B411, HB⟩ := hcut
  cases kq with
  | zero => exact absurd HA.out (by simp [hogsheadlaw10_ShelfPuts.j0])
  | succ kj8 =>
   have H := HA.out
   clear HA
   simp only [hogsheadlaw10_ShelfPuts.j0] at H
   have HC107 := qM H
   clear H
   go_upto_region 7 with (fail)
   go_cut [6] (fun v6 wc => ∃ (kq : Nat) (x6_106 : Bool), v6 = .bool x6_106 ∧ Aside0 (hogsheadlaw10_ShelfPuts.j1 kq x6_106 = some r) ∧ Aside0 (kq ≤ kj8) ∧ Aside0 (Kd.V Kd.string 9 wc w.heap.size (fun k_ => k_ ≠ g368 ∧ k_ ≠ g369 ∧ k_ ≠ g370 ∧ k_ ≠ g381 ∧ k_ ≠ g391 ∧ k_ ≠ g401 ∧ k_ ≠ g411) (.slice Ao21 t372.length co21) t372) ∧ Aside0 (Kd.V k94 94 wc w.heap.size (fun k_ => k_ ≠ g368 ∧ k_ ≠ g369 ∧ k_ ≠ g370 ∧ k_ ≠ g381 ∧ k_ ≠ g391 ∧ k_ ≠ g401 ∧ k_ ≠ g411) (.slice Ao26 t375.length co26) t375) ∧ Aside0 (Kd.V Kd.string 9 wc w.heap.size (fun k_ => k_ ≠ g368 ∧ k_ ≠ g369 ∧ k_ ≠ g370 ∧ k_ ≠ g381 ∧ k_ ≠ g391 ∧ k_ ≠ g401 ∧ k_ ≠ g411) (.slice Ao32 t382.length co32) t382) ∧ Aside0 (Kd.V k94 94 wc w.heap.size (fun k_ => k_ ≠ g368 ∧ k_ ≠ g369 ∧ k_ ≠ g370 ∧ k_ ≠ g381 ∧ k_ ≠ g391 ∧ k_ ≠ g401 ∧ k_ ≠ g411) (.slice Ao38 t385.length co38) t385) ∧ Aside0 (Kd.V Kd.string 9 wc w.heap.size (fun k_ => k_ ≠ g368 ∧ k_ ≠ g369 ∧ k_ ≠ g370 ∧ k_ ≠ g381 ∧ k_ ≠ g391 ∧ k_ ≠ g401 ∧ k_ ≠ g411) (.slice Ao44 t392.length co44) t392) ∧ Aside0 (Kd.V k94 94 wc w.heap.size (fun k_ => k_ ≠ g368 ∧ k_ ≠ g369 ∧ k_ ≠ g370 ∧ k_ ≠ g381 ∧ k_ ≠ g391 ∧ k_ ≠ g401 ∧ k_ ≠ g411) (.slice Ao51 t395.length co51) t395) ∧ Aside0 (Kd.V Kd.string 9 wc w.heap.size (fun k_ => k_ ≠ g368 ∧ k_ ≠ g369 ∧ k_ ≠ g370 ∧ k_ ≠ g381 ∧ k_ ≠ g391 ∧ k_ ≠ g401 ∧ k_ ≠ g411) (.slice Ao57 t402.length co57) t402) ∧ Aside0 (Kd.V k94 94 wc w.heap.size (fun k_ => k_ ≠ g368 ∧ k_ ≠ g369 ∧ k_ ≠ g370 ∧ k_ ≠ g381 ∧ k_ ≠ g391 ∧ k_ ≠ g401 ∧ k_ ≠ g411) (.slice Ao65 t405.length co65) t405) ∧ Aside0 (wc.heap[g368]? = some (.cells #[(.slice A0_0 l0_0.length c0_0), (.slice A0_1 l0_1.length c0_1), .int .i64 a0_2, .bool a0_3] 25 (0, 0))) ∧ Aside0 (wc.heap[g369]? = some (.cells #[.int .i64 a1_0, .int .i64 a1_1, .string a1_2] 43 (0, 0))) ∧ Aside0 (wc.heap[g370]? = some (.cells #[.int .i64 a2_0, .int .i64 a2_1] 27 (0, 0))) ∧ Aside0 (wc.heap[g381]? = some (.cells #[(.slice Ao21 t372.length co21), (.slice Ao26 t375.length co26), .int .i64 t378, .bool t379] 25 (0, 0))) ∧ Aside0 (wc.heap[g391]? = some (.cells #[(.slice Ao32 t382.length co32), (.slice Ao38 t385.length co38), .int .i64 t388, .bool t389] 25 (0, 0))) ∧ Aside0 (wc.heap[g401]? = some (.cells #[(.slice Ao44 t392.length co44), (.slice Ao51 t395.length co51), .int .i64 t398, .bool t399] 25 (0, 0))) ∧ Aside0 (wc.heap[g411]? = some (.cells #[(.slice Ao57 t402.length co57), (.slice Ao65 t405.length co65), .int .i64 t408, .bool t409] 25 (0, 0))) ∧ Aside0 (Below w.heap.size w wc))
   case first =>
    have H := HC107.out
    clear HC107
    by_cases c108 : t371 = true
    ·subst c108
     have H1 : (if x16_8 = true then (if t380 = t390 then (hogsheadlaw10_ShelfPuts.j1 kj8 (t400 == t410)) else (hogsheadlaw10_ShelfPuts.j1 kj8 false)) else (hogsheadlaw10_ShelfPuts.j1 kj8 false)) = some r := by rw [if_pos rfl] at H; exact H
     clear H
     have H := H1
     clear H1
     by_cases c109 : x16_8 = true
     ·subst c109
      have H1 : (if t380 = t390 then (hogsheadlaw10_ShelfPuts.j1 kj8 (t400 == t410)) else (hogsheadlaw10_ShelfPuts.j1 kj8 false)) = some r := by rw [if_pos rfl] at H; exact H
      clear H
      have H := H1
      clear H1
      by_cases c110 : t380 = t390
      ·rw [if_pos c110] at H
       have c110b0 : (t380 == t390) = true := beq_iff_eq.mpr c110
       have c110b1 : (t380 != t390) = false := bne_eq_false_iff_eq.mpr c110
       clear c110
       (first | rw [c110b0] | (simp only [i64_w, i32_w]; rw [c110b0]) | skip)
       have H' := qM H
       clear H
       go_wp2
       go_meet
       case rel => exact ⟨_, ((t400 == t410)), (by first | rfl | (simp; done) | (simp [*]; done)), H', ⟨by have := HJ8.out; first | omega | exact Nat.le_refl _⟩, ⟨by (with_reducible repeat first | apply VA | apply VN | apply VD); exact HO_382000.out⟩, ⟨by (with_reducible repeat first | apply VA | apply VN | apply VD); exact HO_382001.out⟩, ⟨by (with_reducible repeat first | apply VA | apply VN | apply VD); exact HO_392000.out⟩, ⟨by (with_reducible repeat first | apply VA | apply VN | apply VD); exact HO_392001.out⟩, ⟨by (with_reducible repeat first | apply VA | apply VN | apply VD); exact HO_402000.out⟩, ⟨by (with_reducible repeat first | apply VA | apply VN | apply VD); exact HO_402001.out⟩, ⟨by (with_reducible repeat first | apply VA | apply VN | apply VD); exact HO_412000.out⟩, ⟨by (with_reducible repeat first | apply VA | apply VN | apply VD); exact HO_412001.out⟩, ⟨by (with_reducible repeat first | refine qN ?_ _ | refine qD ?_ | refine qA ?_ _); exact B368.out⟩, ⟨by (with_reducible repeat first | refine qN ?_ _ | refine qD ?_ | refine qA ?_ _); exact B369.out⟩, ⟨by (with_reducible repeat first | refine qN ?_ _ | refine qD ?_ | refine qA ?_ _); exact B370.out⟩, ⟨by (with_reducible repeat first | refine qN ?_ _ | refine qD ?_ | refine qA ?_ _); exact B381.out⟩, ⟨by (with_reducible repeat first | refine qN ?_ _ | refine qD ?_ | refine qA ?_ _); exact B391.out⟩, ⟨by (with_reducible repeat first | refine qN ?_ _ | refine qD ?_ | refine qA ?_ _); exact B401.out⟩, ⟨by (with_reducible repeat first | refine qN ?_ _ | refine qD ?_ | refine qA ?_ _); exact B411.out⟩, ⟨by repeat (first | (with_reducible first | exact HB.out | apply eA | apply eN | apply eD | refine eS ?_ GE368.out | refine eS ?_ GE369.out | refine eS ?_ GE370.out | refine eS ?_ GE381.out | refine eS ?_ GE391.out | refine eS ?_ GE401.out | refine eS ?_ GE411.out) | exact HB.out)⟩⟩
      ·rw [if_neg c110] at H
       have c110b0 : (t380 == t390) = false := beq_eq_false_iff_ne.mpr c110
       have c110b1 : (t380 != t390) = true := bne_iff_ne.mpr c110
       (first | rw [c110b0] | (simp only [i64_w, i32_w]; rw [c110b0]) | skip)
       have H' := qM H
       clear H
       go_wp2
       go_meet
       case rel => exact ⟨_, (false), (by first | rfl | (simp; done) | (simp [*]; done)), H', ⟨by have := HJ8.out; first | omega | exact Nat.le_refl _⟩, ⟨by (with_reducible repeat first | apply VA | apply VN | apply VD); exact HO_382000.out⟩, ⟨by (with_reducible repeat first | apply VA | apply VN | apply VD); exact HO_382001.out⟩, ⟨by (with_reducible repeat first | apply VA | apply VN | apply VD); exact HO_392000.out⟩, ⟨by (with_reducible repeat first | apply VA | apply VN | apply VD); exact HO_392001.out⟩, ⟨by (with_reducible repeat first | apply VA | apply VN | apply VD); exact HO_402000.out⟩, ⟨by (with_reducible repeat first | apply VA | apply VN | apply VD); exact HO_402001.out⟩, ⟨by (with_reducible repeat first | apply VA | apply VN | apply VD); exact HO_412000.out⟩, ⟨by (with_reducible repeat first | apply VA | apply VN | apply VD); exact HO_412001.out⟩, ⟨by (with_reducible repeat first | refine qN ?_ _ | refine qD ?_ | refine qA ?_ _); exact B368.out⟩, ⟨by (with_reducible repeat first | refine qN ?_ _ | refine qD ?_ | refine qA ?_ _); exact B369.out⟩, ⟨by (with_reducible repeat first | refine qN ?_ _ | refine qD ?_ | refine qA ?_ _); exact B370.out⟩, ⟨by (with_reducible repeat first | refine qN ?_ _ | refine qD ?_ | refine qA ?_ _); exact B381.out⟩, ⟨by (with_reducible repeat first | refine qN ?_ _ | refine qD ?_ | refine qA ?_ _); exact B391.out⟩, ⟨by (with_reducible repeat first | refine qN ?_ _ | refine qD ?_ | refine qA ?_ _); exact B401.out⟩, ⟨by (with_reducible repeat first | refine qN ?_ _ | refine qD ?_ | refine qA ?_ _); exact B411.out⟩, ⟨by repeat (first | (with_reducible first | exact HB.out | apply eA | apply eN | apply eD | refine eS ?_ GE368.out | refine eS ?_ GE369.out | refine eS ?_ GE370.out | refine eS ?_ GE381.out | refine eS ?_ GE391.out | refine eS ?_ GE401.out | refine eS ?_ GE411.out) | exact HB.out)⟩⟩
     ·replace c109 := Bool.eq_false_iff.mpr c109
      subst c109
      have H1 : (hogsheadlaw10_ShelfPuts.j1 kj8 false) = some r := by rw [if_neg (show ¬ (false = true) by decide)] at H; exact H
      clear H
      have H := H1
      clear H1
      have H' := qM H
      clear H
      go_wp2
      go_meet
      case rel => exact ⟨_, (false), (by first | rfl | (simp; done) | (simp [*]; done)), H', ⟨by have := HJ8.out; first | omega | exact Nat.le_refl _⟩, ⟨by (with_reducible repeat first | apply VA | apply VN | apply VD); exact HO_382000.out⟩, ⟨by (with_reducible repeat first | apply VA | apply VN | apply VD); exact HO_382001.out⟩, ⟨by (with_reducible repeat first | apply VA | apply VN | apply VD); exact HO_392000.out⟩, ⟨by (with_reducible repeat first | apply VA | apply VN | apply VD); exact HO_392001.out⟩, ⟨by (with_reducible repeat first | apply VA | apply VN | apply VD); exact HO_402000.out⟩, ⟨by (with_reducible repeat first | apply VA | apply VN | apply VD); exact HO_402001.out⟩, ⟨by (with_reducible repeat first | apply VA | apply VN | apply VD); exact HO_412000.out⟩, ⟨by (with_reducible repeat first | apply VA | apply VN | apply VD); exact HO_412001.out⟩, ⟨by (with_reducible repeat first | refine qN ?_ _ | refine qD ?_ | refine qA ?_ _); exact B368.out⟩, ⟨by (with_reducible repeat first | refine qN ?_ _ | refine qD ?_ | refine qA ?_ _); exact B369.out⟩, ⟨by (with_reducible repeat first | refine qN ?_ _ | refine qD ?_ | refine qA ?_ _); exact B370.out⟩, ⟨by (with_reducible repeat first | refine qN ?_ _ | refine qD ?_ | refine qA ?_ _); exact B381.out⟩, ⟨by (with_reducible repeat first | refine qN ?_ _ | refine qD ?_ | refine qA ?_ _); exact B391.out⟩, ⟨by (with_reducible repeat first | refine qN ?_ _ | refine qD ?_ | refine qA ?_ _); exact B401.out⟩, ⟨by (with_reducible repeat first | refine qN ?_ _ | refine qD ?_ | refine qA ?_ _); exact B411.out⟩, ⟨by repeat (first | (with_reducible first | exact HB.out | apply eA | apply eN | apply eD | refine eS ?_ GE368.out | refine eS ?_ GE369.out | refine eS ?_ GE370.out | refine eS ?_ GE381.out | refine eS ?_ GE391.out | refine eS ?_ GE401.out | refine eS ?_ GE411.out) | exact HB.out)⟩⟩
    ·replace c108 := Bool.eq_false_iff.mpr c108
     subst c108
     have H1 : (hogsheadlaw10_ShelfPuts.j1 kj8 false) = some r := by rw [if_neg (show ¬ (false = true) by decide)] at H; exact H
     clear H
     have H := H1
     clear H1
     have H' := qM H
     clear H
     go_wp2
     go_meet
     case rel => exact ⟨_, (false), (by first | rfl | (simp; done) | (simp [*]; done)), H', ⟨by have := HJ8.out; first | omega | exact Nat.le_refl _⟩, ⟨by (with_reducible repeat first | apply VA | apply VN | apply VD); exact HO_382000.out⟩, ⟨by (with_reducible repeat first | apply VA | apply VN | apply VD); exact HO_382001.out⟩, ⟨by (with_reducible repeat first | apply VA | apply VN | apply VD); exact HO_392000.out⟩, ⟨by (with_reducible repeat first | apply VA | apply VN | apply VD); exact HO_392001.out⟩, ⟨by (with_reducible repeat first | apply VA | apply VN | apply VD); exact HO_402000.out⟩, ⟨by (with_reducible repeat first | apply VA | apply VN | apply VD); exact HO_402001.out⟩, ⟨by (with_reducible repeat first | apply VA | apply VN | apply VD); exact HO_412000.out⟩, ⟨by (with_reducible repeat first | apply VA | apply VN | apply VD); exact HO_412001.out⟩, ⟨by (with_reducible repeat first | refine qN ?_ _ | refine qD ?_ | refine qA ?_ _); exact B368.out⟩, ⟨by (with_reducible repeat first | refine qN ?_ _ | refine qD ?_ | refine qA ?_ _); exact B369.out⟩, ⟨by (with_reducible repeat first | refine qN ?_ _ | refine qD ?_ | refine qA ?_ _); exact B370.out⟩, ⟨by (with_reducible repeat first | refine qN ?_ _ | refine qD ?_ | refine qA ?_ _); exact B381.out⟩, ⟨by (with_reducible repeat first | refine qN ?_ _ | refine qD ?_ | refine qA ?_ _); exact B391.out⟩, ⟨by (with_reducible repeat first | refine qN ?_ _ | refine qD ?_ | refine qA ?_ _); exact B401.out⟩, ⟨by (with_reducible repeat first | refine qN ?_ _ | refine qD ?_ | refine qA ?_ _); exact B411.out⟩, ⟨by repeat (first | (with_reducible first | exact HB.out | apply eA | apply eN | apply eD | refine eS ?_ GE368.out | refine eS ?_ GE369.out | refine eS ?_ GE370.out | refine eS ?_ GE381.out | refine eS ?_ GE391.out | refine eS ?_ GE401.out | refine eS ?_ GE411.out) | exact HB.out)⟩⟩
   case rest =>
    clear HC107
    try clear c1
    try clear c2
    try clear p2
    try clear c3
    try clear c4
    try clear c5
    try clear c6
    try clear c7
    try clear c8
    try clear c9
    try clear c10
    try clear c11
    try clear c14
    try clear c15
    try clear c17
    try clear c22
    try clear c23
    try clear c24
    try clear c31
    try clear c32
    try clear c33
    try clear c34
    try clear c35
    try clear c36
    try clear c45
    try clear c46
    try clear c47
    try clear c48
    try clear c49
    try clear c58
    try clear c59
    try clear c60
    try clear c61
    try clear c62
    try clear c63
    try clear c67
    try clear c69
    try clear c70
    try clear c71
    try clear c72
    try clear c73
    try clear c74
    try clear c76
    try clear c77
    try clear c78
    try clear c79
    try clear c80
    try clear c83
    try clear c84
    try clear c85
    try clear c86
    try clear c88
    try clear c89
    try clear c90
    try clear c93
    try clear c94
    try clear c95
    try clear c96
    try clear c97
    try clear c98
    try clear c100
    try clear c101
    try clear c102
    try clear c103
    try clear c104
    try clear c108
    try clear c109
    try clear c110
    try clear c110b0
    try clear c110b1
    try clear z105_0
    try clear z105_1
    try clear z105_2
    try clear z105_3
    try clear z16_0
    try clear z16_1
    try clear z16_2
    try clear z16_3
    try clear z18_0
    try clear z18_1
    try clear z18_2
    try clear z25_0
    try clear z25_1
    try clear z25_2
    try clear z25_3
    try clear z28_0
    try clear z28_1
    try clear z28_2
    try clear z28_3
    try clear z29_0
    try clear z29_1
    try clear z29_2
    try clear z37_0
    try clear z37_1
    try clear z37_2
    try clear z37_3
    try clear z40_0
    try clear z40_1
    try clear z40_2
    try clear z40_3
    try clear z41_0
    try clear z41_1
    try clear z50_0
    try clear z50_1
    try clear z50_2
    try clear z50_3
    try clear z53_0
    try clear z53_1
    try clear z53_2
    try clear z53_3
    try clear z54_0
    try clear z54_1
    try clear z64_0
    try clear z64_1
    try clear z64_2
    try clear z64_3
    try clear z75_0
    try clear z75_1
    try clear z75_2
    try clear z75_3
    try clear z81_0
    try clear z81_1
    try clear z81_2
    try clear z81_3
    try clear z87_0
    try clear z87_1
    try clear z87_2
    try clear z87_3
    try clear z91_0
    try clear z91_1
    try clear z91_2
    try clear z91_3
    try clear z99_0
    try clear z99_1
    try clear z99_2
    try clear z99_3
    try clear f105_0
    try clear f105_1
    try clear f105_2
    try clear f105_3
    try clear f16_0
    try clear f16_1
    try clear f16_2
    try clear f16_3
    try clear f18_0
    try clear f18_1
    try clear f18_2
    try clear f25_0
    try clear f25_1
    try clear f25_2
    try clear f25_3
    try clear f28_0
    try clear f28_1
    try clear f28_2
    try clear f28_3
    try clear f29_0
    try clear f29_1
    try clear f29_2
    try clear f37_0
    try clear f37_1
    try clear f37_2
    try clear f37_3
    try clear f40_0
    try clear f40_1
    try clear f40_2
    try clear f40_3
    try clear f41_0
    try clear f41_1
    try clear f50_0
    try clear f50_1
    try clear f50_2
    try clear f50_3
    try clear f53_0
    try clear f53_1
    try clear f53_2
    try clear f53_3
    try clear f54_0
    try clear f54_1
    try clear f64_0
    try clear f64_1
    try clear f64_2
    try clear f64_3
    try clear f75_0
    try clear f75_1
    try clear f75_2
    try clear f75_3
    try clear f81_0
    try clear f81_1
    try clear f81_2
    try clear f81_3
    try clear f87_0
    try clear f87_1
    try clear f87_2
    try clear f87_3
    try clear f91_0
    try clear f91_1
    try clear f91_2
    try clear f91_3
    try clear f99_0
    try clear f99_1
    try clear f99_2
    try clear f99_3
    try clear p2
    obtain ⟨kq, x6_106, rfl, HA, HJ106, HO_382000, HO_382001, HO_392000, HO_392001, HO_402000, HO_402001, HO_412000, HO_412001, B368, B369, B370, B381, B391, B401, B411, HB⟩ := hcut
    cases kq with
    | zero => exact absurd HA.out (by simp [hogsheadlaw10_ShelfPuts.j1])
    | succ kj106 =>
     have H := HA.out
     clear HA
     simp only [hogsheadlaw10_ShelfPuts.j1] at H
     obtain rfl := Option.some.inj H
     go_wp2
     go_ret
     exact ⟨by first | rfl | (simp [errW_none, errW_some] <;> rfl) | (simp [*, errW_none, errW_some] <;> rfl), by repeat (first | (with_reducible first | exact HB.out | apply eA | apply eN | apply eD | refine eS ?_ GE368.out | refine eS ?_ GE369.out | refine eS ?_ GE370.out | refine eS ?_ GE381.out | refine eS ?_ GE391.out | refine eS ?_ GE401.out | refine eS ?_ GE411.out) | exact HB.out)⟩

end Go.Proofs.Ytffjbbedjddpmaa.PAll
