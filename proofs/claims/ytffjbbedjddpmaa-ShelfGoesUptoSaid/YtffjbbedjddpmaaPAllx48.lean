/- Functions of the program as plain Lean functions, and that each call comes to what they say. Laid by a program of this session (hprint.py); Lean checks it. -/
import Derived.Test.YtffjbbedjddpmaaPAllx0
import Derived.Test.YtffjbbedjddpmaaPAllx1
import Derived.Test.YtffjbbedjddpmaaPAllx13
import Derived.Test.YtffjbbedjddpmaaPAllx19
import Derived.Test.YtffjbbedjddpmaaPAllx39
namespace Go.Proofs.Ytffjbbedjddpmaa.PAll
open Go.RowKit Go.Proofs.YtffjbbedjddpmaaW.PrintWords Go.Proofs.YtffjbbedjddpmaaW.PrintLast Go.Proofs.YtffjbbedjddpmaaW.PrintMore
attribute [local go_sem] max2_int min2_int max_two min_two max_three min_three max_four min_four   -- for this text's walks alone
set_option linter.unusedVariables false
set_option linter.unusedSimpArgs false
attribute [local irreducible] World.setCell

attribute [local go_sem high] eqA27
/-! ### hogsheadlaw10_ShelfGoes: function 10 -/
def hogsheadlaw10_ShelfGoes.j0 : Nat → Bool → Option (Bool)
 | 0, _ => none
 | k + 1, x6 => some x6
def hogsheadlaw10_ShelfGoes.f (k : Nat) (l0_0 : List ByteArray) (l0_1 : List (S94)) (a0_2 : Int) (a0_3 : Bool) (a1_0 : Int) (a1_1 : Int) (a2_0 : Int) (a2_1 : Int) : Option (Bool) := (hogsheadlaw10_shown.f k).bind fun t486 => ((shelf_Find.f k l0_0 l0_1 a0_2 a0_3 a2_0 a2_1).bind fun bt487 => ((shelf_Drop.f k l0_0 l0_1 a0_2 a0_3 a1_0 a1_1).bind fun bt489 => (if bt489.2.2.2.2 = 0 then ((shelf_Find.f k bt489.1 bt489.2.1 bt489.2.2.1 bt489.2.2.2.1 a1_0 a1_1).bind fun bt499 => ((shelf_Find.f k bt489.1 bt489.2.1 bt489.2.2.1 bt489.2.2.2.1 a2_0 a2_1).bind fun bt501 => (if t486 = true then (if bt499.2 = 7 then (if (a2_0 == a1_0 && (a2_1 == a1_1)) = true then (hogsheadlaw10_ShelfGoes.j0 k true) else (if bt501.1.toList = bt487.1.toList then (hogsheadlaw10_ShelfGoes.j0 k (bt501.2 == bt487.2)) else (hogsheadlaw10_ShelfGoes.j0 k false))) else (hogsheadlaw10_ShelfGoes.j0 k false)) else (hogsheadlaw10_ShelfGoes.j0 k false)))) else (some t486))))
theorem hogsheadlaw10_ShelfGoes.mono_l : ∀ k, (∀ y0, LeO (hogsheadlaw10_ShelfGoes.j0 k y0) (hogsheadlaw10_ShelfGoes.j0 (k + 1) y0))
 | 0 => fun _ r h => by simp [hogsheadlaw10_ShelfGoes.j0] at h
 | k + 1 => by
  have ih0 := hogsheadlaw10_ShelfGoes.mono_l k
  ·intro y0
   unfold hogsheadlaw10_ShelfGoes.j0
   repeat' first
   | (with_reducible exact ih0 _)
   | (with_reducible exact hogsheadlaw10_shown.mono _)
   | (with_reducible exact shelf_Drop.mono _ _ _ _ _ _ _)
   | (with_reducible exact shelf_Find.mono _ _ _ _ _ _ _)
   | (with_reducible exact LeO.refl _)
   | (with_reducible exact LeO.none _)
   | (with_reducible refine LeO.ite ?_ ?_)
   | (with_reducible refine LeO.bind ?_ (fun _ => ?_))
   | exact ih0 _
   | exact hogsheadlaw10_shown.mono _
   | exact shelf_Drop.mono _ _ _ _ _ _ _
   | exact shelf_Find.mono _ _ _ _ _ _ _
   | exact LeO.none _
   | refine LeO.ite ?_ ?_
   | refine LeO.bind ?_ (fun _ => ?_)
theorem hogsheadlaw10_ShelfGoes.mono : ∀ a0 a1 a2 a3 a4 a5 a6 a7 k, LeO (hogsheadlaw10_ShelfGoes.f k a0 a1 a2 a3 a4 a5 a6 a7) (hogsheadlaw10_ShelfGoes.f (k + 1) a0 a1 a2 a3 a4 a5 a6 a7) := by
 intro a0 a1 a2 a3 a4 a5 a6 a7 k
 have ih0 := hogsheadlaw10_ShelfGoes.mono_l k
 unfold hogsheadlaw10_ShelfGoes.f
 repeat' first
   | (with_reducible exact ih0 _)
   | (with_reducible exact hogsheadlaw10_shown.mono _)
   | (with_reducible exact shelf_Drop.mono _ _ _ _ _ _ _)
   | (with_reducible exact shelf_Find.mono _ _ _ _ _ _ _)
   | (with_reducible exact LeO.refl _)
   | (with_reducible exact LeO.none _)
   | (with_reducible refine LeO.ite ?_ ?_)
   | (with_reducible refine LeO.bind ?_ (fun _ => ?_))
   | exact ih0 _
   | exact hogsheadlaw10_shown.mono _
   | exact shelf_Drop.mono _ _ _ _ _ _ _
   | exact shelf_Find.mono _ _ _ _ _ _ _
   | exact LeO.none _
   | refine LeO.ite ?_ ?_
   | refine LeO.bind ?_ (fun _ => ?_)
set_option maxHeartbeats 40000000 in
set_option maxRecDepth 100000 in
theorem hogsheadlaw10_ShelfGoes.calls (k : Nat) (A0_0 : Option Addr) (c0_0 : Nat) (l0_0 : List ByteArray) (A0_1 : Option Addr) (c0_1 : Nat) (l0_1 : List (S94)) (a0_2 : Int) (a0_3 : Bool) (a1_0 : Int) (a1_1 : Int) (a2_0 : Int) (a2_1 : Int) (r : Bool) (w : World) (hr0_0 : Kd.C Kd.string w A0_0 l0_0.length l0_0) (hc0_0 : l0_0.length ≤ c0_0) (hr0_1 : Kd.C k94 w A0_1 l0_1.length l0_1) (hc0_1 : l0_1.length ≤ c0_1) (h : hogsheadlaw10_ShelfGoes.f k l0_0 l0_1 a0_2 a0_3 a1_0 a1_1 a2_0 a2_1 = some r) :
  Calls Try.prog 10 #[.agg #[.slice A0_0 l0_0.length c0_0, .slice A0_1 l0_1.length c0_1, .int .i64 a0_2, .bool a0_3], .agg #[.int .i64 a1_0, .int .i64 a1_1], .agg #[.int .i64 a2_0, .int .i64 a2_1]] w fun e w' => e = .returned (.bool r) ∧ Below w.heap.size w w' := by
 have hu25 := Try.underlying25
 have hu27 := Try.underlying27
 have HR0_0 := qM hr0_0
 have HC0_0 := qM hc0_0
 clear hr0_0 hc0_0
 have HR0_1 := qM hr0_1
 have HC0_1 := qM hc0_1
 clear hr0_1 hc0_1
 have HB := qM (Below.refl w.heap.size w)
 have H : ((hogsheadlaw10_shown.f k).bind fun t486 => ((shelf_Find.f k l0_0 l0_1 a0_2 a0_3 a2_0 a2_1).bind fun bt487 => ((shelf_Drop.f k l0_0 l0_1 a0_2 a0_3 a1_0 a1_1).bind fun bt489 => (if bt489.2.2.2.2 = 0 then ((shelf_Find.f k bt489.1 bt489.2.1 bt489.2.2.1 bt489.2.2.2.1 a1_0 a1_1).bind fun bt499 => ((shelf_Find.f k bt489.1 bt489.2.1 bt489.2.2.1 bt489.2.2.2.1 a2_0 a2_1).bind fun bt501 => (if t486 = true then (if bt499.2 = 7 then (if (a2_0 == a1_0 && (a2_1 == a1_1)) = true then (hogsheadlaw10_ShelfGoes.j0 k true) else (if bt501.1.toList = bt487.1.toList then (hogsheadlaw10_ShelfGoes.j0 k (bt501.2 == bt487.2)) else (hogsheadlaw10_ShelfGoes.j0 k false))) else (hogsheadlaw10_ShelfGoes.j0 k false)) else (hogsheadlaw10_ShelfGoes.j0 k false)))) else (some t486))))) = some r := h
 clear h
 replace H := Option.bind_eq_some_iff.mp H
 obtain ⟨t486, A40, H⟩ := H
 replace H : ((shelf_Find.f k l0_0 l0_1 a0_2 a0_3 a2_0 a2_1).bind fun bt487 => ((shelf_Drop.f k l0_0 l0_1 a0_2 a0_3 a1_0 a1_1).bind fun bt489 => (if bt489.2.2.2.2 = 0 then ((shelf_Find.f k bt489.1 bt489.2.1 bt489.2.2.1 bt489.2.2.2.1 a1_0 a1_1).bind fun bt499 => ((shelf_Find.f k bt489.1 bt489.2.1 bt489.2.2.1 bt489.2.2.2.1 a2_0 a2_1).bind fun bt501 => (if t486 = true then (if bt499.2 = 7 then (if (a2_0 == a1_0 && (a2_1 == a1_1)) = true then (hogsheadlaw10_ShelfGoes.j0 k true) else (if bt501.1.toList = bt487.1.toList then (hogsheadlaw10_ShelfGoes.j0 k (bt501.2 == bt487.2)) else (hogsheadlaw10_ShelfGoes.j0 k false))) else (hogsheadlaw10_ShelfGoes.j0 k false)) else (hogsheadlaw10_ShelfGoes.j0 k false)))) else (some t486)))) = some r := H
 have A4 := qM A40
 clear A40
 replace H := Option.bind_eq_some_iff.mp H
 obtain ⟨⟨t487, t488⟩, A50, H⟩ := H
 replace H : ((shelf_Drop.f k l0_0 l0_1 a0_2 a0_3 a1_0 a1_1).bind fun bt489 => (if bt489.2.2.2.2 = 0 then ((shelf_Find.f k bt489.1 bt489.2.1 bt489.2.2.1 bt489.2.2.2.1 a1_0 a1_1).bind fun bt499 => ((shelf_Find.f k bt489.1 bt489.2.1 bt489.2.2.1 bt489.2.2.2.1 a2_0 a2_1).bind fun bt501 => (if t486 = true then (if bt499.2 = 7 then (if (a2_0 == a1_0 && (a2_1 == a1_1)) = true then (hogsheadlaw10_ShelfGoes.j0 k true) else (if bt501.1.toList = t487.toList then (hogsheadlaw10_ShelfGoes.j0 k (bt501.2 == t488)) else (hogsheadlaw10_ShelfGoes.j0 k false))) else (hogsheadlaw10_ShelfGoes.j0 k false)) else (hogsheadlaw10_ShelfGoes.j0 k false)))) else (some t486))) = some r := H
 have A5 := qM A50
 clear A50
 replace H := Option.bind_eq_some_iff.mp H
 obtain ⟨⟨t489, t492, t495, t496, t497⟩, A60, H⟩ := H
 replace H : (if t497 = 0 then ((shelf_Find.f k t489 t492 t495 t496 a1_0 a1_1).bind fun bt499 => ((shelf_Find.f k t489 t492 t495 t496 a2_0 a2_1).bind fun bt501 => (if t486 = true then (if bt499.2 = 7 then (if (a2_0 == a1_0 && (a2_1 == a1_1)) = true then (hogsheadlaw10_ShelfGoes.j0 k true) else (if bt501.1.toList = t487.toList then (hogsheadlaw10_ShelfGoes.j0 k (bt501.2 == t488)) else (hogsheadlaw10_ShelfGoes.j0 k false))) else (hogsheadlaw10_ShelfGoes.j0 k false)) else (hogsheadlaw10_ShelfGoes.j0 k false)))) else (some t486)) = some r := H
 have A6 := qM A60
 clear A60
 by_cases c7 : t497 = 0
 ·rw [if_pos c7] at H
  have c7b0 : (t497 == 0) = true := beq_iff_eq.mpr c7
  have c7b1 : (t497 != 0) = false := bne_eq_false_iff_eq.mpr c7
  clear c7
  replace H := Option.bind_eq_some_iff.mp H
  obtain ⟨⟨t499, t500⟩, A80, H⟩ := H
  replace H : ((shelf_Find.f k t489 t492 t495 t496 a2_0 a2_1).bind fun bt501 => (if t486 = true then (if t500 = 7 then (if (a2_0 == a1_0 && (a2_1 == a1_1)) = true then (hogsheadlaw10_ShelfGoes.j0 k true) else (if bt501.1.toList = t487.toList then (hogsheadlaw10_ShelfGoes.j0 k (bt501.2 == t488)) else (hogsheadlaw10_ShelfGoes.j0 k false))) else (hogsheadlaw10_ShelfGoes.j0 k false)) else (hogsheadlaw10_ShelfGoes.j0 k false))) = some r := H
  have A8 := qM A80
  clear A80
  replace H := Option.bind_eq_some_iff.mp H
  obtain ⟨⟨t501, t502⟩, A90, H⟩ := H
  replace H : (if t486 = true then (if t500 = 7 then (if (a2_0 == a1_0 && (a2_1 == a1_1)) = true then (hogsheadlaw10_ShelfGoes.j0 k true) else (if t501.toList = t487.toList then (hogsheadlaw10_ShelfGoes.j0 k (t502 == t488)) else (hogsheadlaw10_ShelfGoes.j0 k false))) else (hogsheadlaw10_ShelfGoes.j0 k false)) else (hogsheadlaw10_ShelfGoes.j0 k false)) = some r := H
  have A9 := qM A90
  clear A90
  have HC10 := qM H
  clear H
  go_enter Try.func10, Try.ntmps10
  go_upto_region 8 with (first | ((with_reducible refine gate_dst (N := 3) rfl ?_); refine box_event ?hg (N := 3) ?hd (cs := #[.slice A0_0 l0_0.length c0_0, .slice A0_1 l0_1.length c0_1, .int .i64 a0_2, .bool a0_3]) (t := 25) ?hr ?_; (case hd => rfl); (case hg => rfl); (case hr => first | (go_simp; done) | (go_simp; rfl)); intro g483 hg w11 hbox hb; have n0_ := qM (eT (by repeat (first | (with_reducible first | exact HB.out | apply eA | apply eN | apply eD) | exact HB.out)) hb); have n1_ := qM (hbox); have n2_ := qM ((by rw [hg]; exact (eZ (by repeat (first | (with_reducible first | exact HB.out | apply eA | apply eN | apply eD) | exact HB.out))) : w.heap.size ≤ g483)); have n3_ := n2_; clear HB; have HB := n0_; have B483 := n1_; have GW483 := n2_; have GE483 := n3_; clear n0_ n1_ n2_ n3_; clear hb hbox hg) | ((with_reducible refine gate_dst (N := 4) rfl ?_); refine box_event ?hg (N := 4) ?hd (cs := #[.int .i64 a1_0, .int .i64 a1_1]) (t := 27) ?hr ?_; (case hd => rfl); (case hg => rfl); (case hr => first | (go_simp; done) | (go_simp; rfl)); intro g484 hg w12 hbox hb; have n0_ := qM (qB (g := g483) (by (with_reducible repeat first | refine qN ?_ _ | refine qD ?_ | refine qA ?_ _); exact B483.out) hb); have n1_ := qM (eT (by repeat (first | (with_reducible first | exact HB.out | apply eA | apply eN | apply eD | refine eU ?_ (by assumption)) | exact HB.out)) hb); have n2_ := qM (hbox); have n3_ := qM ((by rw [hg]; exact (eZ (by repeat (first | (with_reducible first | exact HB.out | apply eA | apply eN | apply eD | refine eU ?_ (by assumption)) | exact HB.out))) : w.heap.size ≤ g484)); have n4_ := n3_; have n5_ := qM ((by rw [hg]; exact Nat.ne_of_lt (qL (g := g483) (by (with_reducible repeat first | refine qN ?_ _ | refine qD ?_ | refine qA ?_ _); exact B483.out)) : g483 ≠ g484)); have n6_ := qM (Ne.symm n5_.out); clear B483 HB; have B483 := n0_; have HB := n1_; have B484 := n2_; have GW484 := n3_; have GE484 := n4_; have NB483_484 := n5_; have NB484_483 := n6_; clear n0_ n1_ n2_ n3_ n4_ n5_ n6_; clear hb hbox hg) | ((with_reducible refine gate_dst (N := 5) rfl ?_); refine box_event ?hg (N := 5) ?hd (cs := #[.int .i64 a2_0, .int .i64 a2_1]) (t := 27) ?hr ?_; (case hd => rfl); (case hg => rfl); (case hr => first | (go_simp; done) | (go_simp; rfl)); intro g485 hg w13 hbox hb; have n0_ := qM (qB (g := g483) (by (with_reducible repeat first | refine qN ?_ _ | refine qD ?_ | refine qA ?_ _); exact B483.out) hb); have n1_ := qM (qB (g := g484) (by (with_reducible repeat first | refine qN ?_ _ | refine qD ?_ | refine qA ?_ _); exact B484.out) hb); have n2_ := qM (eT (by repeat (first | (with_reducible first | exact HB.out | apply eA | apply eN | apply eD | refine eU ?_ (by assumption)) | exact HB.out)) hb); have n3_ := qM (hbox); have n4_ := qM ((by rw [hg]; exact (eZ (by repeat (first | (with_reducible first | exact HB.out | apply eA | apply eN | apply eD | refine eU ?_ (by assumption)) | exact HB.out))) : w.heap.size ≤ g485)); have n5_ := n4_; have n6_ := qM ((by rw [hg]; exact Nat.ne_of_lt (qL (g := g483) (by (with_reducible repeat first | refine qN ?_ _ | refine qD ?_ | refine qA ?_ _); exact B483.out)) : g483 ≠ g485)); have n7_ := qM (Ne.symm n6_.out); have n8_ := qM ((by rw [hg]; exact Nat.ne_of_lt (qL (g := g484) (by (with_reducible repeat first | refine qN ?_ _ | refine qD ?_ | refine qA ?_ _); exact B484.out)) : g484 ≠ g485)); have n9_ := qM (Ne.symm n8_.out); clear B483 B484 HB; have B483 := n0_; have B484 := n1_; have HB := n2_; have B485 := n3_; have GW485 := n4_; have GE485 := n5_; have NB483_485 := n6_; have NB485_483 := n7_; have NB484_485 := n8_; have NB485_484 := n9_; clear n0_ n1_ n2_ n3_ n4_ n5_ n6_ n7_ n8_ n9_; clear hb hbox hg) | ((with_reducible refine gate_callee (f := 11) rfl ?_); refine goesL_ (some 16) rfl rfl Try.func11 (by kernel_rfl) rfl #[] rfl (by (try simp only [List.map_toArray, List.map_cons, List.map_nil]); first | done | rfl | (simp only [List.length_drop, List.length_take]; rfl)) ?_; (with_reducible refine (hogsheadlaw10_shown.calls k  t486 _ A4.out).mono ?_); rintro e w14 ⟨rfl, hb⟩; refine ⟨_, rfl, ?_⟩; have n0_ := qM (qB (g := g483) (by (with_reducible repeat first | refine qN ?_ _ | refine qD ?_ | refine qA ?_ _); exact B483.out) hb); have n1_ := qM (qB (g := g484) (by (with_reducible repeat first | refine qN ?_ _ | refine qD ?_ | refine qA ?_ _); exact B484.out) hb); have n2_ := qM (qB (g := g485) (by (with_reducible repeat first | refine qN ?_ _ | refine qD ?_ | refine qA ?_ _); exact B485.out) hb); have n3_ := qM (eT (by repeat (first | (with_reducible first | exact HB.out | apply eA | apply eN | apply eD | refine eU ?_ (by assumption)) | exact HB.out)) hb); clear B483 B484 B485 HB; have B483 := n0_; have B484 := n1_; have B485 := n2_; have HB := n3_; clear n0_ n1_ n2_ n3_; (try clear hb); (try clear hb2); (try clear hk); (try clear hi); have hnb15 := NB483_484.out; have hnc15 := NB484_483.out; have hnb16 := NB483_485.out; have hnc16 := NB485_483.out; obtain ⟨z17_0, z17_1, z17_2, z17_3, f17_0, f17_1, f17_2, f17_3⟩ := cells4 B483.out; have hnb18 := NB485_484.out; have hnc18 := NB484_485.out; have z19_0 : w14.cell? ⟨g485, 0, none⟩ = some (.int .i64 a2_0) := (qC B485.out 0).trans rfl; have z19_1 : w14.cell? ⟨g485, 1, none⟩ = some (.int .i64 a2_1) := (qC B485.out 1).trans rfl; have f19_0 := qF B485.out 0; have f19_1 := qF B485.out 1) | ((with_reducible refine gate_callee (f := 18) rfl ?_); refine goesL_ (some 20) rfl rfl Try.func18 (by kernel_rfl) rfl #[.agg #[.slice A0_0 l0_0.length c0_0, .slice A0_1 l0_1.length c0_1, .int .i64 a0_2, .bool a0_3], .agg #[.int .i64 a2_0, .int .i64 a2_1]] rfl (by (try simp only [List.map_toArray, List.map_cons, List.map_nil]); first | done | rfl | (simp only [List.length_drop, List.length_take]; rfl)) ?_; (with_reducible refine (shelf_Find.calls k _ _ l0_0 _ _ l0_1 a0_2 a0_3 a2_0 a2_1 t487 t488 _ ?side1 ?side2 ?side3 ?side4 A5.out).mono ?_); (case side1 => repeat (first | exact (Kd.C_below HR0_0.out HB.out) | (with_reducible refine Kd.C_alloc ?_ _) | (with_reducible refine Kd.C_drewN ?_ _) | (with_reducible refine Kd.C_drew ?_))); (case side2 => exact HC0_0.out); (case side3 => repeat (first | exact (Kd.C_below HR0_1.out HB.out) | (with_reducible refine Kd.C_alloc ?_ _) | (with_reducible refine Kd.C_drewN ?_ _) | (with_reducible refine Kd.C_drew ?_))); (case side4 => exact HC0_1.out); rintro e w20 ⟨rfl, hb⟩; refine ⟨_, rfl, ?_⟩; have n0_ := qM (qB (g := g483) (by (with_reducible repeat first | refine qN ?_ _ | refine qD ?_ | refine qA ?_ _); exact B483.out) hb); have n1_ := qM (qB (g := g484) (by (with_reducible repeat first | refine qN ?_ _ | refine qD ?_ | refine qA ?_ _); exact B484.out) hb); have n2_ := qM (qB (g := g485) (by (with_reducible repeat first | refine qN ?_ _ | refine qD ?_ | refine qA ?_ _); exact B485.out) hb); have n3_ := qM (eT (by repeat (first | (with_reducible first | exact HB.out | apply eA | apply eN | apply eD | refine eU ?_ (by assumption)) | exact HB.out)) hb); clear B483 B484 B485 HB; have B483 := n0_; have B484 := n1_; have B485 := n2_; have HB := n3_; clear n0_ n1_ n2_ n3_; (try clear hb); (try clear hb2); (try clear hk); (try clear hi); obtain ⟨z21_0, z21_1, z21_2, z21_3, f21_0, f21_1, f21_2, f21_3⟩ := cells4 B483.out; have z22_0 : w20.cell? ⟨g484, 0, none⟩ = some (.int .i64 a1_0) := (qC B484.out 0).trans rfl; have z22_1 : w20.cell? ⟨g484, 1, none⟩ = some (.int .i64 a1_1) := (qC B484.out 1).trans rfl; have f22_0 := qF B484.out 0; have f22_1 := qF B484.out 1) | ((with_reducible refine gate_callee (f := 32) rfl ?_); refine goesL_ (some 26) rfl rfl Try.func32 (by kernel_rfl) rfl #[.agg #[.slice A0_0 l0_0.length c0_0, .slice A0_1 l0_1.length c0_1, .int .i64 a0_2, .bool a0_3], .agg #[.int .i64 a1_0, .int .i64 a1_1]] rfl (by (try simp only [List.map_toArray, List.map_cons, List.map_nil]); first | done | rfl | (simp only [List.length_drop, List.length_take]; rfl)) ?_; (with_reducible refine (shelf_Drop.calls k (fun k_ => k_ < w.heap.size) _ _ l0_0 (fun k_ => k_ < w.heap.size) _ _ l0_1 a0_2 a0_3 a1_0 a1_1 t489 t492 t495 t496 t497 _ ?side1 ?side2 A6.out).mono ?_); (case side1 => exact Kd.V_mk HC0_0.out (Kd.F_below (Kd.C_F Kd.heap_string HR0_0.out) (by repeat (first | (with_reducible first | exact HB.out | apply eA | apply eN | apply eD | refine eU ?_ (by assumption)) | exact HB.out)))); (case side2 => exact Kd.V_mk HC0_1.out (Kd.F_below (Kd.C_F k94_heap HR0_1.out) (by repeat (first | (with_reducible first | exact HB.out | apply eA | apply eN | apply eD | refine eU ?_ (by assumption)) | exact HB.out)))); rintro e w23 ⟨v490, v493, rfl, ho0, ho1, hb⟩; refine ⟨_, rfl, ?_⟩; have n0_ := qM (Vl (Vm (ok' := fun k_ => k_ ≠ g483 ∧ k_ ≠ g484 ∧ k_ ≠ g485) ho0 (fun k_ hk_ => ⟨Or.elim hk_ (fun hs_ => Or.elim hs_ (nL GW483) (nL GW483)) (fun hn_ => (Fb (g := g483) (by (with_reducible repeat first | refine qN ?_ _ | refine qD ?_ | refine qA ?_ _); exact B483.out) k_ hn_)), Or.elim hk_ (fun hs_ => Or.elim hs_ (nL GW484) (nL GW484)) (fun hn_ => (Fb (g := g484) (by (with_reducible repeat first | refine qN ?_ _ | refine qD ?_ | refine qA ?_ _); exact B484.out) k_ hn_)), Or.elim hk_ (fun hs_ => Or.elim hs_ (nL GW485) (nL GW485)) (fun hn_ => (Fb (g := g485) (by (with_reducible repeat first | refine qN ?_ _ | refine qD ?_ | refine qA ?_ _); exact B485.out) k_ hn_))⟩)) (eZ (by repeat (first | (with_reducible first | exact HB.out | apply eA | apply eN | apply eD | refine eU ?_ (by assumption)) | exact HB.out)))); have n1_ := qM (Vl (Vm (ok' := fun k_ => k_ ≠ g483 ∧ k_ ≠ g484 ∧ k_ ≠ g485) ho1 (fun k_ hk_ => ⟨Or.elim hk_ (fun hs_ => Or.elim hs_ (nL GW483) (nL GW483)) (fun hn_ => (Fb (g := g483) (by (with_reducible repeat first | refine qN ?_ _ | refine qD ?_ | refine qA ?_ _); exact B483.out) k_ hn_)), Or.elim hk_ (fun hs_ => Or.elim hs_ (nL GW484) (nL GW484)) (fun hn_ => (Fb (g := g484) (by (with_reducible repeat first | refine qN ?_ _ | refine qD ?_ | refine qA ?_ _); exact B484.out) k_ hn_)), Or.elim hk_ (fun hs_ => Or.elim hs_ (nL GW485) (nL GW485)) (fun hn_ => (Fb (g := g485) (by (with_reducible repeat first | refine qN ?_ _ | refine qD ?_ | refine qA ?_ _); exact B485.out) k_ hn_))⟩)) (eZ (by repeat (first | (with_reducible first | exact HB.out | apply eA | apply eN | apply eD | refine eU ?_ (by assumption)) | exact HB.out)))); have n2_ := qM (qB (g := g483) (by (with_reducible repeat first | refine qN ?_ _ | refine qD ?_ | refine qA ?_ _); exact B483.out) hb); have n3_ := qM (qB (g := g484) (by (with_reducible repeat first | refine qN ?_ _ | refine qD ?_ | refine qA ?_ _); exact B484.out) hb); have n4_ := qM (qB (g := g485) (by (with_reducible repeat first | refine qN ?_ _ | refine qD ?_ | refine qA ?_ _); exact B485.out) hb); have n5_ := qM (eT (by repeat (first | (with_reducible first | exact HB.out | apply eA | apply eN | apply eD | refine eU ?_ (by assumption)) | exact HB.out)) hb); clear B483 B484 B485 HB; have HO491 := n0_; have HO494 := n1_; have B483 := n2_; have B484 := n3_; have B485 := n4_; have HB := n5_; clear n0_ n1_ n2_ n3_ n4_ n5_; (try clear hb); (try clear hb2); (try clear hk); (try clear hi); (try clear ho0); (try clear ho1)) | ((with_reducible refine gate_dst (N := 10) rfl ?_); refine box_event ?hg (N := 10) ?hd (cs := #[.slice none 0 0, .slice none 0 0, .int .i64 0, .bool false]) (t := 25) ?hr ?_; (case hd => rfl); (case hg => rfl); (case hr => first | (go_simp; done) | (go_simp; rfl)); intro g498 hg w24 hbox hb; have n0_ := qM (Vb (Kd.V_elderB (by (with_reducible repeat first | apply VA | apply VN | apply VD); exact HO491.out) g498 (Nat.le_of_eq hg.symm)) hb); have n1_ := qM (Vb (Kd.V_elderB (by (with_reducible repeat first | apply VA | apply VN | apply VD); exact HO494.out) g498 (Nat.le_of_eq hg.symm)) hb); have n2_ := qM (qB (g := g483) (by (with_reducible repeat first | refine qN ?_ _ | refine qD ?_ | refine qA ?_ _); exact B483.out) hb); have n3_ := qM (qB (g := g484) (by (with_reducible repeat first | refine qN ?_ _ | refine qD ?_ | refine qA ?_ _); exact B484.out) hb); have n4_ := qM (qB (g := g485) (by (with_reducible repeat first | refine qN ?_ _ | refine qD ?_ | refine qA ?_ _); exact B485.out) hb); have n5_ := qM (eT (by repeat (first | (with_reducible first | exact HB.out | apply eA | apply eN | apply eD | refine eU ?_ (by assumption)) | exact HB.out)) hb); have n6_ := qM (hbox); have n7_ := qM ((by rw [hg]; exact (eZ (by repeat (first | (with_reducible first | exact HB.out | apply eA | apply eN | apply eD | refine eU ?_ (by assumption)) | exact HB.out))) : w.heap.size ≤ g498)); have n8_ := n7_; have n9_ := qM ((by rw [hg]; exact Nat.ne_of_lt (qL (g := g483) (by (with_reducible repeat first | refine qN ?_ _ | refine qD ?_ | refine qA ?_ _); exact B483.out)) : g483 ≠ g498)); have n10_ := qM (Ne.symm n9_.out); have n11_ := qM ((by rw [hg]; exact Nat.ne_of_lt (qL (g := g484) (by (with_reducible repeat first | refine qN ?_ _ | refine qD ?_ | refine qA ?_ _); exact B484.out)) : g484 ≠ g498)); have n12_ := qM (Ne.symm n11_.out); have n13_ := qM ((by rw [hg]; exact Nat.ne_of_lt (qL (g := g485) (by (with_reducible repeat first | refine qN ?_ _ | refine qD ?_ | refine qA ?_ _); exact B485.out)) : g485 ≠ g498)); have n14_ := qM (Ne.symm n13_.out); clear HO491 HO494 B483 B484 B485 HB; have HO491 := n0_; have HO494 := n1_; have B483 := n2_; have B484 := n3_; have B485 := n4_; have HB := n5_; have B498 := n6_; have GW498 := n7_; have GE498 := n8_; have NB483_498 := n9_; have NB498_483 := n10_; have NB484_498 := n11_; have NB498_484 := n12_; have NB485_498 := n13_; have NB498_485 := n14_; clear n0_ n1_ n2_ n3_ n4_ n5_ n6_ n7_ n8_ n9_ n10_ n11_ n12_ n13_ n14_; clear hb hbox hg; obtain ⟨Ao25, co25, eo25⟩ := Kd.V_slice HO491.out; subst eo25; have hnb26 := NB498_483.out; have hnc26 := NB483_498.out; have hnb27 := NB498_484.out; have hnc27 := NB484_498.out; have hnb28 := NB498_485.out; have hnc28 := NB485_498.out; obtain ⟨z29_0, z29_1, z29_2, z29_3, f29_0, f29_1, f29_2, f29_3⟩ := cells4 B498.out; obtain ⟨Ao30, co30, eo30⟩ := Kd.V_slice HO494.out; subst eo30; have z31_0 : w24.cell? ⟨g484, 0, none⟩ = some (.int .i64 a1_0) := (qC B484.out 0).trans rfl; have z31_1 : w24.cell? ⟨g484, 1, none⟩ = some (.int .i64 a1_1) := (qC B484.out 1).trans rfl; have f31_0 := qF B484.out 0; have f31_1 := qF B484.out 1) | ((with_reducible refine gate_callee (f := 18) rfl ?_); refine goesL_ (some 35) rfl rfl Try.func18 (by kernel_rfl) rfl #[.agg #[.slice Ao25 t489.length co25, .slice Ao30 t492.length co30, .int .i64 t495, .bool t496], .agg #[.int .i64 a1_0, .int .i64 a1_1]] rfl (by (try simp only [List.map_toArray, List.map_cons, List.map_nil]); first | done | rfl | (simp only [List.length_drop, List.length_take]; rfl)) ?_; (with_reducible refine (shelf_Find.calls k _ _ t489 _ _ t492 t495 t496 a1_0 a1_1 t499 t500 _ ?side1 ?side2 ?side3 ?side4 A8.out).mono ?_); (case side1 => refine (Kd.V_reads' (e := 9) (base := w.heap.size) (ok := fun k_ => ((k_ ≠ g483 ∧ (k_ ≠ g484 ∧ k_ ≠ g485)) ∧ k_ ≠ g498)) (n := t489.length) (c := co25) ?_).2.2; exact (by (with_reducible repeat first | apply VA | apply VN | apply VD); exact (Vm (Vf (p := ⟨g498, 3, none⟩) (Vf (p := ⟨g498, 2, none⟩) (Vf (p := ⟨g498, 1, none⟩) (Vf (p := ⟨g498, 0, none⟩) (Vm HO491.out (fun k_ hk => (⟨hk, hk.2⟩ : _ ∧ k_ ≠ g498))) (fun _ hk => hk.2) (.slice Ao25 t489.length co25)) (fun _ hk => hk.2) (.slice Ao30 t492.length co30)) (fun _ hk => hk.2) (.int .i64 t495)) (fun _ hk => hk.2) (.bool t496)) (fun _ h_ => h_.1)))); (case side2 => exact (Kd.V_reads' HO491.out).2.1); (case side3 => refine (Kd.V_reads' (e := 94) (base := w.heap.size) (ok := fun k_ => ((k_ ≠ g483 ∧ (k_ ≠ g484 ∧ k_ ≠ g485)) ∧ k_ ≠ g498)) (n := t492.length) (c := co30) ?_).2.2; exact (by (with_reducible repeat first | apply VA | apply VN | apply VD); exact (Vm (Vf (p := ⟨g498, 3, none⟩) (Vf (p := ⟨g498, 2, none⟩) (Vf (p := ⟨g498, 1, none⟩) (Vf (p := ⟨g498, 0, none⟩) (Vm HO494.out (fun k_ hk => (⟨hk, hk.2⟩ : _ ∧ k_ ≠ g498))) (fun _ hk => hk.2) (.slice Ao25 t489.length co25)) (fun _ hk => hk.2) (.slice Ao30 t492.length co30)) (fun _ hk => hk.2) (.int .i64 t495)) (fun _ hk => hk.2) (.bool t496)) (fun _ h_ => h_.1)))); (case side4 => exact (Kd.V_reads' HO494.out).2.1); rintro e w32 ⟨rfl, hb⟩; refine ⟨_, rfl, ?_⟩; have n0_ := qM (Vb (by (with_reducible repeat first | apply VA | apply VN | apply VD); exact (Vm (Vf (p := ⟨g498, 3, none⟩) (Vf (p := ⟨g498, 2, none⟩) (Vf (p := ⟨g498, 1, none⟩) (Vf (p := ⟨g498, 0, none⟩) (Vm HO491.out (fun k_ hk => (⟨hk, hk.2⟩ : _ ∧ k_ ≠ g498))) (fun _ hk => hk.2) (.slice Ao25 t489.length co25)) (fun _ hk => hk.2) (.slice Ao30 t492.length co30)) (fun _ hk => hk.2) (.int .i64 t495)) (fun _ hk => hk.2) (.bool t496)) (fun _ h_ => h_.1))) hb); have n1_ := qM (Vb (by (with_reducible repeat first | apply VA | apply VN | apply VD); exact (Vm (Vf (p := ⟨g498, 3, none⟩) (Vf (p := ⟨g498, 2, none⟩) (Vf (p := ⟨g498, 1, none⟩) (Vf (p := ⟨g498, 0, none⟩) (Vm HO494.out (fun k_ hk => (⟨hk, hk.2⟩ : _ ∧ k_ ≠ g498))) (fun _ hk => hk.2) (.slice Ao25 t489.length co25)) (fun _ hk => hk.2) (.slice Ao30 t492.length co30)) (fun _ hk => hk.2) (.int .i64 t495)) (fun _ hk => hk.2) (.bool t496)) (fun _ h_ => h_.1))) hb); have n2_ := qM (qB (g := g483) (o := .cells #[.slice A0_0 l0_0.length c0_0, .slice A0_1 l0_1.length c0_1, .int .i64 a0_2, .bool a0_3] 25 (0, 0)) (by (with_reducible repeat first | refine qN ?_ _ | refine qD ?_ | refine qA ?_ _); (iterate 4 (refine qR ?_ NB483_498.out _; (with_reducible repeat first | refine qN ?_ _ | refine qD ?_ | refine qA ?_ _))); exact B483.out) hb); have n3_ := qM (qB (g := g484) (o := .cells #[.int .i64 a1_0, .int .i64 a1_1] 27 (0, 0)) (by (with_reducible repeat first | refine qN ?_ _ | refine qD ?_ | refine qA ?_ _); (iterate 4 (refine qR ?_ NB484_498.out _; (with_reducible repeat first | refine qN ?_ _ | refine qD ?_ | refine qA ?_ _))); exact B484.out) hb); have n4_ := qM (qB (g := g485) (o := .cells #[.int .i64 a2_0, .int .i64 a2_1] 27 (0, 0)) (by (with_reducible repeat first | refine qN ?_ _ | refine qD ?_ | refine qA ?_ _); (iterate 4 (refine qR ?_ NB485_498.out _; (with_reducible repeat first | refine qN ?_ _ | refine qD ?_ | refine qA ?_ _))); exact B485.out) hb); have n5_ := qM (qB (g := g498) (by (with_reducible repeat first | refine qN ?_ _ | refine qD ?_ | refine qA ?_ _); apply puts4; (with_reducible repeat first | refine qN ?_ _ | refine qD ?_ | refine qA ?_ _); exact B498.out) hb); have n6_ := qM (eT (by repeat (first | (with_reducible first | exact HB.out | apply eA | apply eN | apply eD | refine eU ?_ (by assumption)) | exact HB.out)) hb); clear HO491 HO494 B483 B484 B485 B498 HB; have HO491 := n0_; have HO494 := n1_; have B483 := n2_; have B484 := n3_; have B485 := n4_; have B498 := n5_; have HB := n6_; clear n0_ n1_ n2_ n3_ n4_ n5_ n6_; (try clear hb); (try clear hb2); (try clear hk); (try clear hi); obtain ⟨z33_0, z33_1, z33_2, z33_3, f33_0, f33_1, f33_2, f33_3⟩ := cells4 B498.out; have z34_0 : w32.cell? ⟨g485, 0, none⟩ = some (.int .i64 a2_0) := (qC B485.out 0).trans rfl; have z34_1 : w32.cell? ⟨g485, 1, none⟩ = some (.int .i64 a2_1) := (qC B485.out 1).trans rfl; have f34_0 := qF B485.out 0; have f34_1 := qF B485.out 1) | ((with_reducible refine gate_callee (f := 18) rfl ?_); refine goesL_ (some 41) rfl rfl Try.func18 (by kernel_rfl) rfl #[.agg #[.slice Ao25 t489.length co25, .slice Ao30 t492.length co30, .int .i64 t495, .bool t496], .agg #[.int .i64 a2_0, .int .i64 a2_1]] rfl (by (try simp only [List.map_toArray, List.map_cons, List.map_nil]); first | done | rfl | (simp only [List.length_drop, List.length_take]; rfl)) ?_; (with_reducible refine (shelf_Find.calls k _ _ t489 _ _ t492 t495 t496 a2_0 a2_1 t501 t502 _ ?side1 ?side2 ?side3 ?side4 A9.out).mono ?_); (case side1 => repeat (first | exact (Kd.V_reads' HO491.out).2.2 | (with_reducible refine Kd.C_alloc ?_ _) | (with_reducible refine Kd.C_drewN ?_ _) | (with_reducible refine Kd.C_drew ?_))); (case side2 => exact (Kd.V_reads' HO491.out).2.1); (case side3 => repeat (first | exact (Kd.V_reads' HO494.out).2.2 | (with_reducible refine Kd.C_alloc ?_ _) | (with_reducible refine Kd.C_drewN ?_ _) | (with_reducible refine Kd.C_drew ?_))); (case side4 => exact (Kd.V_reads' HO494.out).2.1); rintro e w35 ⟨rfl, hb⟩; refine ⟨_, rfl, ?_⟩; have n0_ := qM (Vb (by (with_reducible repeat first | apply VA | apply VN | apply VD); exact HO491.out) hb); have n1_ := qM (Vb (by (with_reducible repeat first | apply VA | apply VN | apply VD); exact HO494.out) hb); have n2_ := qM (qB (g := g483) (by (with_reducible repeat first | refine qN ?_ _ | refine qD ?_ | refine qA ?_ _); exact B483.out) hb); have n3_ := qM (qB (g := g484) (by (with_reducible repeat first | refine qN ?_ _ | refine qD ?_ | refine qA ?_ _); exact B484.out) hb); have n4_ := qM (qB (g := g485) (by (with_reducible repeat first | refine qN ?_ _ | refine qD ?_ | refine qA ?_ _); exact B485.out) hb); have n5_ := qM (qB (g := g498) (by (with_reducible repeat first | refine qN ?_ _ | refine qD ?_ | refine qA ?_ _); exact B498.out) hb); have n6_ := qM (eT (by repeat (first | (with_reducible first | exact HB.out | apply eA | apply eN | apply eD | refine eU ?_ (by assumption)) | exact HB.out)) hb); clear HO491 HO494 B483 B484 B485 B498 HB; have HO491 := n0_; have HO494 := n1_; have B483 := n2_; have B484 := n3_; have B485 := n4_; have B498 := n5_; have HB := n6_; clear n0_ n1_ n2_ n3_ n4_ n5_ n6_; (try clear hb); (try clear hb2); (try clear hk); (try clear hi)))
  (try simp only [Act.put, List.setIfInBounds_toArray, List.set_cons_zero, List.set_cons_succ])
  go_cut [6] (fun v6 wc => ∃ (kq : Nat) (x6_9 : Bool), v6 = .bool x6_9 ∧ Aside0 (hogsheadlaw10_ShelfGoes.j0 kq x6_9 = some r) ∧ Aside0 (kq ≤ k) ∧ Aside0 (Kd.V Kd.string 9 wc w.heap.size (fun k_ => k_ ≠ g483 ∧ k_ ≠ g484 ∧ k_ ≠ g485 ∧ k_ ≠ g498) (.slice Ao25 t489.length co25) t489) ∧ Aside0 (Kd.V k94 94 wc w.heap.size (fun k_ => k_ ≠ g483 ∧ k_ ≠ g484 ∧ k_ ≠ g485 ∧ k_ ≠ g498) (.slice Ao30 t492.length co30) t492) ∧ Aside0 (wc.heap[g483]? = some (.cells #[(.slice A0_0 l0_0.length c0_0), (.slice A0_1 l0_1.length c0_1), .int .i64 a0_2, .bool a0_3] 25 (0, 0))) ∧ Aside0 (wc.heap[g484]? = some (.cells #[.int .i64 a1_0, .int .i64 a1_1] 27 (0, 0))) ∧ Aside0 (wc.heap[g485]? = some (.cells #[.int .i64 a2_0, .int .i64 a2_1] 27 (0, 0))) ∧ Aside0 (wc.heap[g498]? = some (.cells #[(.slice Ao25 t489.length co25), (.slice Ao30 t492.length co30), .int .i64 t495, .bool t496] 25 (0, 0))) ∧ Aside0 (Below w.heap.size w wc))
  case first =>
   have H := HC10.out
   clear HC10
   by_cases c36 : t486 = true
   ·subst c36
    have H1 : (if t500 = 7 then (if (a2_0 == a1_0 && (a2_1 == a1_1)) = true then (hogsheadlaw10_ShelfGoes.j0 k true) else (if t501.toList = t487.toList then (hogsheadlaw10_ShelfGoes.j0 k (t502 == t488)) else (hogsheadlaw10_ShelfGoes.j0 k false))) else (hogsheadlaw10_ShelfGoes.j0 k false)) = some r := by rw [if_pos rfl] at H; exact H
    clear H
    have H := H1
    clear H1
    by_cases c37 : t500 = 7
    ·rw [if_pos c37] at H
     have c37b0 : (t500 == 7) = true := beq_iff_eq.mpr c37
     have c37b1 : (t500 != 7) = false := bne_eq_false_iff_eq.mpr c37
     clear c37
     (first | rw [c37b0] | (simp only [i64_w, i32_w]; rw [c37b0]) | skip)
     by_cases c38 : (a2_0 == a1_0 && (a2_1 == a1_1)) = true
     ·rw [if_pos c38] at H
      have c38b0 : (a2_0 == a1_0 && (a2_1 == a1_1)) = true := c38
      (try (have c38b1 : decide (a2_0 = a1_0 && (a2_1 == a1_1)) = true := by simpa using c38))
      (try (have c38b2 : (a2_0 == a1_0 && (a2_1 == a1_1)) = true := by simpa using c38))
      clear c38
      have H' := qM H
      clear H
      have hnb39 := NB485_483.out
      have hnc39 := NB483_485.out
      have hnb40 := NB485_484.out
      have hnc40 := NB484_485.out
      have hnb41 := NB485_498.out
      have hnc41 := NB498_485.out
      have z42_0 : w35.cell? ⟨g485, 0, none⟩ = some (.int .i64 a2_0) := (qC B485.out 0).trans rfl
      have z42_1 : w35.cell? ⟨g485, 1, none⟩ = some (.int .i64 a2_1) := (qC B485.out 1).trans rfl
      have f42_0 := qF B485.out 0
      have f42_1 := qF B485.out 1
      have hnb43 := NB484_483.out
      have hnc43 := NB483_484.out
      have hnb44 := NB484_498.out
      have hnc44 := NB498_484.out
      have z45_0 : w35.cell? ⟨g484, 0, none⟩ = some (.int .i64 a1_0) := (qC B484.out 0).trans rfl
      have z45_1 : w35.cell? ⟨g484, 1, none⟩ = some (.int .i64 a1_1) := (qC B484.out 1).trans rfl
      have f45_0 := qF B484.out 0
      have f45_1 := qF B484.out 1
      go_wp2
      go_meet
      case rel => exact ⟨_, (true), (by first | rfl | (simp; done) | (simp [*]; done)), H', ⟨by first | omega | exact Nat.le_refl _⟩, ⟨by (with_reducible repeat first | apply VA | apply VN | apply VD); exact Vm HO491.out (fun _ hk => ⟨hk.1.1, ⟨hk.1.2.1, ⟨hk.1.2.2, hk.2⟩⟩⟩)⟩, ⟨by (with_reducible repeat first | apply VA | apply VN | apply VD); exact Vm HO494.out (fun _ hk => ⟨hk.1.1, ⟨hk.1.2.1, ⟨hk.1.2.2, hk.2⟩⟩⟩)⟩, ⟨by (with_reducible repeat first | refine qN ?_ _ | refine qD ?_ | refine qA ?_ _); exact B483.out⟩, ⟨by (with_reducible repeat first | refine qN ?_ _ | refine qD ?_ | refine qA ?_ _); exact B484.out⟩, ⟨by (with_reducible repeat first | refine qN ?_ _ | refine qD ?_ | refine qA ?_ _); exact B485.out⟩, ⟨by (with_reducible repeat first | refine qN ?_ _ | refine qD ?_ | refine qA ?_ _); exact B498.out⟩, ⟨by repeat (first | (with_reducible first | exact HB.out | apply eA | apply eN | apply eD | refine eS ?_ GE483.out | refine eS ?_ GE484.out | refine eS ?_ GE485.out | refine eS ?_ GE498.out) | exact HB.out)⟩⟩
     ·rw [if_neg c38] at H
      have c38b0 : (a2_0 == a1_0 && (a2_1 == a1_1)) = false := by simpa using c38
      (try (have c38b1 : decide (a2_0 = a1_0 && (a2_1 == a1_1)) = false := by simpa using c38))
      (try (have c38b2 : (a2_0 == a1_0 && (a2_1 == a1_1)) = false := by simpa using c38))
      (try (have c38b3 : ¬ (a2_0 = a1_0 && (a2_1 == a1_1)) := by simpa using c38))
      clear c38
      by_cases c46 : t501.toList = t487.toList
      ·rw [if_pos c46] at H
       have c46b0 : (t501.toList == t487.toList) = true := beq_iff_eq.mpr c46
       have c46b1 : (t501.toList != t487.toList) = false := bne_eq_false_iff_eq.mpr c46
       clear c46
       have H' := qM H
       clear H
       have hnb47 := NB485_483.out
       have hnc47 := NB483_485.out
       have hnb48 := NB485_484.out
       have hnc48 := NB484_485.out
       have hnb49 := NB485_498.out
       have hnc49 := NB498_485.out
       have z50_0 : w35.cell? ⟨g485, 0, none⟩ = some (.int .i64 a2_0) := (qC B485.out 0).trans rfl
       have z50_1 : w35.cell? ⟨g485, 1, none⟩ = some (.int .i64 a2_1) := (qC B485.out 1).trans rfl
       have f50_0 := qF B485.out 0
       have f50_1 := qF B485.out 1
       have hnb51 := NB484_483.out
       have hnc51 := NB483_484.out
       have hnb52 := NB484_498.out
       have hnc52 := NB498_484.out
       have z53_0 : w35.cell? ⟨g484, 0, none⟩ = some (.int .i64 a1_0) := (qC B484.out 0).trans rfl
       have z53_1 : w35.cell? ⟨g484, 1, none⟩ = some (.int .i64 a1_1) := (qC B484.out 1).trans rfl
       have f53_0 := qF B484.out 0
       have f53_1 := qF B484.out 1
       go_wp2
       go_meet
       case rel => exact ⟨_, ((t502 == t488)), (by first | rfl | (simp; done) | (simp [*]; done)), H', ⟨by first | omega | exact Nat.le_refl _⟩, ⟨by (with_reducible repeat first | apply VA | apply VN | apply VD); exact Vm HO491.out (fun _ hk => ⟨hk.1.1, ⟨hk.1.2.1, ⟨hk.1.2.2, hk.2⟩⟩⟩)⟩, ⟨by (with_reducible repeat first | apply VA | apply VN | apply VD); exact Vm HO494.out (fun _ hk => ⟨hk.1.1, ⟨hk.1.2.1, ⟨hk.1.2.2, hk.2⟩⟩⟩)⟩, ⟨by (with_reducible repeat first | refine qN ?_ _ | refine qD ?_ | refine qA ?_ _); exact B483.out⟩, ⟨by (with_reducible repeat first | refine qN ?_ _ | refine qD ?_ | refine qA ?_ _); exact B484.out⟩, ⟨by (with_reducible repeat first | refine qN ?_ _ | refine qD ?_ | refine qA ?_ _); exact B485.out⟩, ⟨by (with_reducible repeat first | refine qN ?_ _ | refine qD ?_ | refine qA ?_ _); exact B498.out⟩, ⟨by repeat (first | (with_reducible first | exact HB.out | apply eA | apply eN | apply eD | refine eS ?_ GE483.out | refine eS ?_ GE484.out | refine eS ?_ GE485.out | refine eS ?_ GE498.out) | exact HB.out)⟩⟩
      ·rw [if_neg c46] at H
       have c46b0 : (t501.toList == t487.toList) = false := beq_eq_false_iff_ne.mpr c46
       have c46b1 : (t501.toList != t487.toList) = true := bne_iff_ne.mpr c46
       have H' := qM H
       clear H
       have hnb54 := NB485_483.out
       have hnc54 := NB483_485.out
       have hnb55 := NB485_484.out
       have hnc55 := NB484_485.out
       have hnb56 := NB485_498.out
       have hnc56 := NB498_485.out
       have z57_0 : w35.cell? ⟨g485, 0, none⟩ = some (.int .i64 a2_0) := (qC B485.out 0).trans rfl
       have z57_1 : w35.cell? ⟨g485, 1, none⟩ = some (.int .i64 a2_1) := (qC B485.out 1).trans rfl
       have f57_0 := qF B485.out 0
       have f57_1 := qF B485.out 1
       have hnb58 := NB484_483.out
       have hnc58 := NB483_484.out
       have hnb59 := NB484_498.out
       have hnc59 := NB498_484.out
       have z60_0 : w35.cell? ⟨g484, 0, none⟩ = some (.int .i64 a1_0) := (qC B484.out 0).trans rfl
       have z60_1 : w35.cell? ⟨g484, 1, none⟩ = some (.int .i64 a1_1) := (qC B484.out 1).trans rfl
       have f60_0 := qF B484.out 0
       have f60_1 := qF B484.out 1
       go_wp2
       go_meet
       case rel => exact ⟨_, (false), (by first | rfl | (simp; done) | (simp [*]; done)), H', ⟨by first | omega | exact Nat.le_refl _⟩, ⟨by (with_reducible repeat first | apply VA | apply VN | apply VD); exact Vm HO491.out (fun _ hk => ⟨hk.1.1, ⟨hk.1.2.1, ⟨hk.1.2.2, hk.2⟩⟩⟩)⟩, ⟨by (with_reducible repeat first | apply VA | apply VN | apply VD); exact Vm HO494.out (fun _ hk => ⟨hk.1.1, ⟨hk.1.2.1, ⟨hk.1.2.2, hk.2⟩⟩⟩)⟩, ⟨by (with_reducible repeat first | refine qN ?_ _ | refine qD ?_ | refine qA ?_ _); exact B483.out⟩, ⟨by (with_reducible repeat first | refine qN ?_ _ | refine qD ?_ | refine qA ?_ _); exact B484.out⟩, ⟨by (with_reducible repeat first | refine qN ?_ _ | refine qD ?_ | refine qA ?_ _); exact B485.out⟩, ⟨by (with_reducible repeat first | refine qN ?_ _ | refine qD ?_ | refine qA ?_ _); exact B498.out⟩, ⟨by repeat (first | (with_reducible first | exact HB.out | apply eA | apply eN | apply eD | refine eS ?_ GE483.out | refine eS ?_ GE484.out | refine eS ?_ GE485.out | refine eS ?_ GE498.out) | exact HB.out)⟩⟩
    ·rw [if_neg c37] at H
     have c37b0 : (t500 == 7) = false := beq_eq_false_iff_ne.mpr c37
     have c37b1 : (t500 != 7) = true := bne_iff_ne.mpr c37
     (first | rw [c37b0] | (simp only [i64_w, i32_w]; rw [c37b0]) | skip)
     have H' := qM H
     clear H
     go_wp2
     go_meet
     case rel => exact ⟨_, (false), (by first | rfl | (simp; done) | (simp [*]; done)), H', ⟨by first | omega | exact Nat.le_refl _⟩, ⟨by (with_reducible repeat first | apply VA | apply VN | apply VD); exact Vm HO491.out (fun _ hk => ⟨hk.1.1, ⟨hk.1.2.1, ⟨hk.1.2.2, hk.2⟩⟩⟩)⟩, ⟨by (with_reducible repeat first | apply VA | apply VN | apply VD); exact Vm HO494.out (fun _ hk => ⟨hk.1.1, ⟨hk.1.2.1, ⟨hk.1.2.2, hk.2⟩⟩⟩)⟩, ⟨by (with_reducible repeat first | refine qN ?_ _ | refine qD ?_ | refine qA ?_ _); exact B483.out⟩, ⟨by (with_reducible repeat first | refine qN ?_ _ | refine qD ?_ | refine qA ?_ _); exact B484.out⟩, ⟨by (with_reducible repeat first | refine qN ?_ _ | refine qD ?_ | refine qA ?_ _); exact B485.out⟩, ⟨by (with_reducible repeat first | refine qN ?_ _ | refine qD ?_ | refine qA ?_ _); exact B498.out⟩, ⟨by repeat (first | (with_reducible first | exact HB.out | apply eA | apply eN | apply eD | refine eS ?_ GE483.out | refine eS ?_ GE484.out | refine eS ?_ GE485.out | refine eS ?_ GE498.out) | exact HB.out)⟩⟩
   ·replace c36 := Bool.eq_false_iff.mpr c36
    subst c36
    have H1 : (hogsheadlaw10_ShelfGoes.j0 k false) = some r := by rw [if_neg (show ¬ (false = true) by decide)] at H; exact H
    clear H
    have H := H1
    clear H1
    have H' := qM H
    clear H
    go_wp2
    go_meet
    case rel => exact ⟨_, (false), (by first | rfl | (simp; done) | (simp [*]; done)), H', ⟨by first | omega | exact Nat.le_refl _⟩, ⟨by (with_reducible repeat first | apply VA | apply VN | apply VD); exact Vm HO491.out (fun _ hk => ⟨hk.1.1, ⟨hk.1.2.1, ⟨hk.1.2.2, hk.2⟩⟩⟩)⟩, ⟨by (with_reducible repeat first | apply VA | apply VN | apply VD); exact Vm HO494.out (fun _ hk => ⟨hk.1.1, ⟨hk.1.2.1, ⟨hk.1.2.2, hk.2⟩⟩⟩)⟩, ⟨by (with_reducible repeat first | refine qN ?_ _ | refine qD ?_ | refine qA ?_ _); exact B483.out⟩, ⟨by (with_reducible repeat first | refine qN ?_ _ | refine qD ?_ | refine qA ?_ _); exact B484.out⟩, ⟨by (with_reducible repeat first | refine qN ?_ _ | refine qD ?_ | refine qA ?_ _); exact B485.out⟩, ⟨by (with_reducible repeat first | refine qN ?_ _ | refine qD ?_ | refine qA ?_ _); exact B498.out⟩, ⟨by repeat (first | (with_reducible first | exact HB.out | apply eA | apply eN | apply eD | refine eS ?_ GE483.out | refine eS ?_ GE484.out | refine eS ?_ GE485.out | refine eS ?_ GE498.out) | exact HB.out)⟩⟩
  case rest =>
   clear HC10
   try clear c1
   try clear c2
   try clear p2
   try clear c3
   try clear c4
   try clear c5
   try clear c7
   try clear c7b0
   try clear c7b1
   try clear c10
   try clear c11
   try clear c15
   try clear c16
   try clear c18
   try clear c26
   try clear c27
   try clear c28
   try clear c32
   try clear c36
   try clear c37
   try clear c37b0
   try clear c37b1
   try clear c38
   try clear c38b0
   try clear c38b1
   try clear c38b2
   try clear c39
   try clear c40
   try clear c41
   try clear c43
   try clear c44
   try clear c46
   try clear c46b0
   try clear c46b1
   try clear c47
   try clear c48
   try clear c49
   try clear c51
   try clear c52
   try clear c54
   try clear c55
   try clear c56
   try clear c58
   try clear c59
   try clear z17_0
   try clear z17_1
   try clear z17_2
   try clear z17_3
   try clear z19_0
   try clear z19_1
   try clear z21_0
   try clear z21_1
   try clear z21_2
   try clear z21_3
   try clear z22_0
   try clear z22_1
   try clear z29_0
   try clear z29_1
   try clear z29_2
   try clear z29_3
   try clear z31_0
   try clear z31_1
   try clear z33_0
   try clear z33_1
   try clear z33_2
   try clear z33_3
   try clear z34_0
   try clear z34_1
   try clear z42_0
   try clear z42_1
   try clear z45_0
   try clear z45_1
   try clear z50_0
   try clear z50_1
   try clear z53_0
   try clear z53_1
   try clear z57_0
   try clear z57_1
   try clear z60_0
   try clear z60_1
   try clear f17_0
   try clear f17_1
   try clear f17_2
   try clear f17_3
   try clear f19_0
   try clear f19_1
   try clear f21_0
   try clear f21_1
   try clear f21_2
   try clear f21_3
   try clear f22_0
   try clear f22_1
   try clear f29_0
   try clear f29_1
   try clear f29_2
   try clear f29_3
   try clear f31_0
   try clear f31_1
   try clear f33_0
   try clear f33_1
   try clear f33_2
   try clear f33_3
   try clear f34_0
   try clear f34_1
   try clear f42_0
   try clear f42_1
   try clear f45_0
   try clear f45_1
   try clear f50_0
   try clear f50_1
   try clear f53_0
   try clear f53_1
   try clear f57_0
   try clear f57_1
   try clear f60_0
   try clear f60_1
   obtain ⟨kq, x6_9, rfl, HA, HJ9, HO_499000, HO_499001, B483, B484, B485, B498, HB⟩ := hcut
   cases kq with
   | zero => exact absurd HA.out (by simp [hogsheadlaw10_ShelfGoes.j0])
   | succ kj9 =>
    have H := HA.out
    clear HA
    simp only [hogsheadlaw10_ShelfGoes.j0] at H
    obtain rfl := Option.some.inj H
    go_wp2
    go_ret
    exact ⟨by first | rfl | (simp [errW_none, errW_some] <;> rfl) | (simp [*, errW_none, errW_some] <;> rfl), by repeat (first | (with_reducible first | exact HB.out | apply eA | apply eN | apply eD | refine eS ?_ GE483.out | refine eS ?_ GE484.out | refine eS ?_ GE485.out | refine eS ?_ GE498.out) | exact HB.out)⟩
 ·rw [if_neg c7] at H
  have c7b0 : (t497 == 0) = false := beq_eq_false_iff_ne.mpr c7
  have c7b1 : (t497 != 0) = true := bne_iff_ne.mpr c7
  obtain rfl := Option.some.inj H
  go_enter Try.func10, Try.ntmps10
  go_wp2_with (first | ((with_reducible refine gate_dst (N := 3) rfl ?_); refine box_event ?hg (N := 3) ?hd (cs := #[.slice A0_0 l0_0.length c0_0, .slice A0_1 l0_1.length c0_1, .int .i64 a0_2, .bool a0_3]) (t := 25) ?hr ?_; (case hd => rfl); (case hg => rfl); (case hr => first | (go_simp; done) | (go_simp; rfl)); intro g483 hg w61 hbox hb; have n0_ := qM (eT (by repeat (first | (with_reducible first | exact HB.out | apply eA | apply eN | apply eD) | exact HB.out)) hb); have n1_ := qM (hbox); have n2_ := qM ((by rw [hg]; exact (eZ (by repeat (first | (with_reducible first | exact HB.out | apply eA | apply eN | apply eD) | exact HB.out))) : w.heap.size ≤ g483)); have n3_ := n2_; clear HB; have HB := n0_; have B483 := n1_; have GW483 := n2_; have GE483 := n3_; clear n0_ n1_ n2_ n3_; clear hb hbox hg) | ((with_reducible refine gate_dst (N := 4) rfl ?_); refine box_event ?hg (N := 4) ?hd (cs := #[.int .i64 a1_0, .int .i64 a1_1]) (t := 27) ?hr ?_; (case hd => rfl); (case hg => rfl); (case hr => first | (go_simp; done) | (go_simp; rfl)); intro g484 hg w62 hbox hb; have n0_ := qM (qB (g := g483) (by (with_reducible repeat first | refine qN ?_ _ | refine qD ?_ | refine qA ?_ _); exact B483.out) hb); have n1_ := qM (eT (by repeat (first | (with_reducible first | exact HB.out | apply eA | apply eN | apply eD | refine eU ?_ (by assumption)) | exact HB.out)) hb); have n2_ := qM (hbox); have n3_ := qM ((by rw [hg]; exact (eZ (by repeat (first | (with_reducible first | exact HB.out | apply eA | apply eN | apply eD | refine eU ?_ (by assumption)) | exact HB.out))) : w.heap.size ≤ g484)); have n4_ := n3_; have n5_ := qM ((by rw [hg]; exact Nat.ne_of_lt (qL (g := g483) (by (with_reducible repeat first | refine qN ?_ _ | refine qD ?_ | refine qA ?_ _); exact B483.out)) : g483 ≠ g484)); have n6_ := qM (Ne.symm n5_.out); clear B483 HB; have B483 := n0_; have HB := n1_; have B484 := n2_; have GW484 := n3_; have GE484 := n4_; have NB483_484 := n5_; have NB484_483 := n6_; clear n0_ n1_ n2_ n3_ n4_ n5_ n6_; clear hb hbox hg) | ((with_reducible refine gate_dst (N := 5) rfl ?_); refine box_event ?hg (N := 5) ?hd (cs := #[.int .i64 a2_0, .int .i64 a2_1]) (t := 27) ?hr ?_; (case hd => rfl); (case hg => rfl); (case hr => first | (go_simp; done) | (go_simp; rfl)); intro g485 hg w63 hbox hb; have n0_ := qM (qB (g := g483) (by (with_reducible repeat first | refine qN ?_ _ | refine qD ?_ | refine qA ?_ _); exact B483.out) hb); have n1_ := qM (qB (g := g484) (by (with_reducible repeat first | refine qN ?_ _ | refine qD ?_ | refine qA ?_ _); exact B484.out) hb); have n2_ := qM (eT (by repeat (first | (with_reducible first | exact HB.out | apply eA | apply eN | apply eD | refine eU ?_ (by assumption)) | exact HB.out)) hb); have n3_ := qM (hbox); have n4_ := qM ((by rw [hg]; exact (eZ (by repeat (first | (with_reducible first | exact HB.out | apply eA | apply eN | apply eD | refine eU ?_ (by assumption)) | exact HB.out))) : w.heap.size ≤ g485)); have n5_ := n4_; have n6_ := qM ((by rw [hg]; exact Nat.ne_of_lt (qL (g := g483) (by (with_reducible repeat first | refine qN ?_ _ | refine qD ?_ | refine qA ?_ _); exact B483.out)) : g483 ≠ g485)); have n7_ := qM (Ne.symm n6_.out); have n8_ := qM ((by rw [hg]; exact Nat.ne_of_lt (qL (g := g484) (by (with_reducible repeat first | refine qN ?_ _ | refine qD ?_ | refine qA ?_ _); exact B484.out)) : g484 ≠ g485)); have n9_ := qM (Ne.symm n8_.out); clear B483 B484 HB; have B483 := n0_; have B484 := n1_; have HB := n2_; have B485 := n3_; have GW485 := n4_; have GE485 := n5_; have NB483_485 := n6_; have NB485_483 := n7_; have NB484_485 := n8_; have NB485_484 := n9_; clear n0_ n1_ n2_ n3_ n4_ n5_ n6_ n7_ n8_ n9_; clear hb hbox hg) | ((with_reducible refine gate_callee (f := 11) rfl ?_); refine goesL_ (some 16) rfl rfl Try.func11 (by kernel_rfl) rfl #[] rfl (by (try simp only [List.map_toArray, List.map_cons, List.map_nil]); first | done | rfl | (simp only [List.length_drop, List.length_take]; rfl)) ?_; (with_reducible refine (hogsheadlaw10_shown.calls k  t486 _ A4.out).mono ?_); rintro e w64 ⟨rfl, hb⟩; refine ⟨_, rfl, ?_⟩; have n0_ := qM (qB (g := g483) (by (with_reducible repeat first | refine qN ?_ _ | refine qD ?_ | refine qA ?_ _); exact B483.out) hb); have n1_ := qM (qB (g := g484) (by (with_reducible repeat first | refine qN ?_ _ | refine qD ?_ | refine qA ?_ _); exact B484.out) hb); have n2_ := qM (qB (g := g485) (by (with_reducible repeat first | refine qN ?_ _ | refine qD ?_ | refine qA ?_ _); exact B485.out) hb); have n3_ := qM (eT (by repeat (first | (with_reducible first | exact HB.out | apply eA | apply eN | apply eD | refine eU ?_ (by assumption)) | exact HB.out)) hb); clear B483 B484 B485 HB; have B483 := n0_; have B484 := n1_; have B485 := n2_; have HB := n3_; clear n0_ n1_ n2_ n3_; (try clear hb); (try clear hb2); (try clear hk); (try clear hi); have hnb65 := NB483_484.out; have hnc65 := NB484_483.out; have hnb66 := NB483_485.out; have hnc66 := NB485_483.out; obtain ⟨z67_0, z67_1, z67_2, z67_3, f67_0, f67_1, f67_2, f67_3⟩ := cells4 B483.out; have hnb68 := NB485_484.out; have hnc68 := NB484_485.out; have z69_0 : w64.cell? ⟨g485, 0, none⟩ = some (.int .i64 a2_0) := (qC B485.out 0).trans rfl; have z69_1 : w64.cell? ⟨g485, 1, none⟩ = some (.int .i64 a2_1) := (qC B485.out 1).trans rfl; have f69_0 := qF B485.out 0; have f69_1 := qF B485.out 1) | ((with_reducible refine gate_callee (f := 18) rfl ?_); refine goesL_ (some 20) rfl rfl Try.func18 (by kernel_rfl) rfl #[.agg #[.slice A0_0 l0_0.length c0_0, .slice A0_1 l0_1.length c0_1, .int .i64 a0_2, .bool a0_3], .agg #[.int .i64 a2_0, .int .i64 a2_1]] rfl (by (try simp only [List.map_toArray, List.map_cons, List.map_nil]); first | done | rfl | (simp only [List.length_drop, List.length_take]; rfl)) ?_; (with_reducible refine (shelf_Find.calls k _ _ l0_0 _ _ l0_1 a0_2 a0_3 a2_0 a2_1 t487 t488 _ ?side1 ?side2 ?side3 ?side4 A5.out).mono ?_); (case side1 => repeat (first | exact (Kd.C_below HR0_0.out HB.out) | (with_reducible refine Kd.C_alloc ?_ _) | (with_reducible refine Kd.C_drewN ?_ _) | (with_reducible refine Kd.C_drew ?_))); (case side2 => exact HC0_0.out); (case side3 => repeat (first | exact (Kd.C_below HR0_1.out HB.out) | (with_reducible refine Kd.C_alloc ?_ _) | (with_reducible refine Kd.C_drewN ?_ _) | (with_reducible refine Kd.C_drew ?_))); (case side4 => exact HC0_1.out); rintro e w70 ⟨rfl, hb⟩; refine ⟨_, rfl, ?_⟩; have n0_ := qM (qB (g := g483) (by (with_reducible repeat first | refine qN ?_ _ | refine qD ?_ | refine qA ?_ _); exact B483.out) hb); have n1_ := qM (qB (g := g484) (by (with_reducible repeat first | refine qN ?_ _ | refine qD ?_ | refine qA ?_ _); exact B484.out) hb); have n2_ := qM (qB (g := g485) (by (with_reducible repeat first | refine qN ?_ _ | refine qD ?_ | refine qA ?_ _); exact B485.out) hb); have n3_ := qM (eT (by repeat (first | (with_reducible first | exact HB.out | apply eA | apply eN | apply eD | refine eU ?_ (by assumption)) | exact HB.out)) hb); clear B483 B484 B485 HB; have B483 := n0_; have B484 := n1_; have B485 := n2_; have HB := n3_; clear n0_ n1_ n2_ n3_; (try clear hb); (try clear hb2); (try clear hk); (try clear hi); obtain ⟨z71_0, z71_1, z71_2, z71_3, f71_0, f71_1, f71_2, f71_3⟩ := cells4 B483.out; have z72_0 : w70.cell? ⟨g484, 0, none⟩ = some (.int .i64 a1_0) := (qC B484.out 0).trans rfl; have z72_1 : w70.cell? ⟨g484, 1, none⟩ = some (.int .i64 a1_1) := (qC B484.out 1).trans rfl; have f72_0 := qF B484.out 0; have f72_1 := qF B484.out 1) | ((with_reducible refine gate_callee (f := 32) rfl ?_); refine goesL_ (some 26) rfl rfl Try.func32 (by kernel_rfl) rfl #[.agg #[.slice A0_0 l0_0.length c0_0, .slice A0_1 l0_1.length c0_1, .int .i64 a0_2, .bool a0_3], .agg #[.int .i64 a1_0, .int .i64 a1_1]] rfl (by (try simp only [List.map_toArray, List.map_cons, List.map_nil]); first | done | rfl | (simp only [List.length_drop, List.length_take]; rfl)) ?_; (with_reducible refine (shelf_Drop.calls k (fun k_ => k_ < w.heap.size) _ _ l0_0 (fun k_ => k_ < w.heap.size) _ _ l0_1 a0_2 a0_3 a1_0 a1_1 t489 t492 t495 t496 t497 _ ?side1 ?side2 A6.out).mono ?_); (case side1 => exact Kd.V_mk HC0_0.out (Kd.F_below (Kd.C_F Kd.heap_string HR0_0.out) (by repeat (first | (with_reducible first | exact HB.out | apply eA | apply eN | apply eD | refine eU ?_ (by assumption)) | exact HB.out)))); (case side2 => exact Kd.V_mk HC0_1.out (Kd.F_below (Kd.C_F k94_heap HR0_1.out) (by repeat (first | (with_reducible first | exact HB.out | apply eA | apply eN | apply eD | refine eU ?_ (by assumption)) | exact HB.out)))); rintro e w73 ⟨v490, v493, rfl, ho0, ho1, hb⟩; refine ⟨_, rfl, ?_⟩; have n0_ := qM (Vl (Vm (ok' := fun k_ => k_ ≠ g483 ∧ k_ ≠ g484 ∧ k_ ≠ g485) ho0 (fun k_ hk_ => ⟨Or.elim hk_ (fun hs_ => Or.elim hs_ (nL GW483) (nL GW483)) (fun hn_ => (Fb (g := g483) (by (with_reducible repeat first | refine qN ?_ _ | refine qD ?_ | refine qA ?_ _); exact B483.out) k_ hn_)), Or.elim hk_ (fun hs_ => Or.elim hs_ (nL GW484) (nL GW484)) (fun hn_ => (Fb (g := g484) (by (with_reducible repeat first | refine qN ?_ _ | refine qD ?_ | refine qA ?_ _); exact B484.out) k_ hn_)), Or.elim hk_ (fun hs_ => Or.elim hs_ (nL GW485) (nL GW485)) (fun hn_ => (Fb (g := g485) (by (with_reducible repeat first | refine qN ?_ _ | refine qD ?_ | refine qA ?_ _); exact B485.out) k_ hn_))⟩)) (eZ (by repeat (first | (with_reducible first | exact HB.out | apply eA | apply eN | apply eD | refine eU ?_ (by assumption)) | exact HB.out)))); have n1_ := qM (Vl (Vm (ok' := fun k_ => k_ ≠ g483 ∧ k_ ≠ g484 ∧ k_ ≠ g485) ho1 (fun k_ hk_ => ⟨Or.elim hk_ (fun hs_ => Or.elim hs_ (nL GW483) (nL GW483)) (fun hn_ => (Fb (g := g483) (by (with_reducible repeat first | refine qN ?_ _ | refine qD ?_ | refine qA ?_ _); exact B483.out) k_ hn_)), Or.elim hk_ (fun hs_ => Or.elim hs_ (nL GW484) (nL GW484)) (fun hn_ => (Fb (g := g484) (by (with_reducible repeat first | refine qN ?_ _ | refine qD ?_ | refine qA ?_ _); exact B484.out) k_ hn_)), Or.elim hk_ (fun hs_ => Or.elim hs_ (nL GW485) (nL GW485)) (fun hn_ => (Fb (g := g485) (by (with_reducible repeat first | refine qN ?_ _ | refine qD ?_ | refine qA ?_ _); exact B485.out) k_ hn_))⟩)) (eZ (by repeat (first | (with_reducible first | exact HB.out | apply eA | apply eN | apply eD | refine eU ?_ (by assumption)) | exact HB.out)))); have n2_ := qM (qB (g := g483) (by (with_reducible repeat first | refine qN ?_ _ | refine qD ?_ | refine qA ?_ _); exact B483.out) hb); have n3_ := qM (qB (g := g484) (by (with_reducible repeat first | refine qN ?_ _ | refine qD ?_ | refine qA ?_ _); exact B484.out) hb); have n4_ := qM (qB (g := g485) (by (with_reducible repeat first | refine qN ?_ _ | refine qD ?_ | refine qA ?_ _); exact B485.out) hb); have n5_ := qM (eT (by repeat (first | (with_reducible first | exact HB.out | apply eA | apply eN | apply eD | refine eU ?_ (by assumption)) | exact HB.out)) hb); clear B483 B484 B485 HB; have HO491 := n0_; have HO494 := n1_; have B483 := n2_; have B484 := n3_; have B485 := n4_; have HB := n5_; clear n0_ n1_ n2_ n3_ n4_ n5_; (try clear hb); (try clear hb2); (try clear hk); (try clear hi); (try clear ho0); (try clear ho1)) | ((with_reducible refine gate_dst (N := 10) rfl ?_); refine box_event ?hg (N := 10) ?hd (cs := #[.slice none 0 0, .slice none 0 0, .int .i64 0, .bool false]) (t := 25) ?hr ?_; (case hd => rfl); (case hg => rfl); (case hr => first | (go_simp; done) | (go_simp; rfl)); intro g498 hg w74 hbox hb; have n0_ := qM (Vb (Kd.V_elderB (by (with_reducible repeat first | apply VA | apply VN | apply VD); exact HO491.out) g498 (Nat.le_of_eq hg.symm)) hb); have n1_ := qM (Vb (Kd.V_elderB (by (with_reducible repeat first | apply VA | apply VN | apply VD); exact HO494.out) g498 (Nat.le_of_eq hg.symm)) hb); have n2_ := qM (qB (g := g483) (by (with_reducible repeat first | refine qN ?_ _ | refine qD ?_ | refine qA ?_ _); exact B483.out) hb); have n3_ := qM (qB (g := g484) (by (with_reducible repeat first | refine qN ?_ _ | refine qD ?_ | refine qA ?_ _); exact B484.out) hb); have n4_ := qM (qB (g := g485) (by (with_reducible repeat first | refine qN ?_ _ | refine qD ?_ | refine qA ?_ _); exact B485.out) hb); have n5_ := qM (eT (by repeat (first | (with_reducible first | exact HB.out | apply eA | apply eN | apply eD | refine eU ?_ (by assumption)) | exact HB.out)) hb); have n6_ := qM (hbox); have n7_ := qM ((by rw [hg]; exact (eZ (by repeat (first | (with_reducible first | exact HB.out | apply eA | apply eN | apply eD | refine eU ?_ (by assumption)) | exact HB.out))) : w.heap.size ≤ g498)); have n8_ := n7_; have n9_ := qM ((by rw [hg]; exact Nat.ne_of_lt (qL (g := g483) (by (with_reducible repeat first | refine qN ?_ _ | refine qD ?_ | refine qA ?_ _); exact B483.out)) : g483 ≠ g498)); have n10_ := qM (Ne.symm n9_.out); have n11_ := qM ((by rw [hg]; exact Nat.ne_of_lt (qL (g := g484) (by (with_reducible repeat first | refine qN ?_ _ | refine qD ?_ | refine qA ?_ _); exact B484.out)) : g484 ≠ g498)); have n12_ := qM (Ne.symm n11_.out); have n13_ := qM ((by rw [hg]; exact Nat.ne_of_lt (qL (g := g485) (by (with_reducible repeat first | refine qN ?_ _ | refine qD ?_ | refine qA ?_ _); exact B485.out)) : g485 ≠ g498)); have n14_ := qM (Ne.symm n13_.out); clear HO491 HO494 B483 B484 B485 HB; have HO491 := n0_; have HO494 := n1_; have B483 := n2_; have B484 := n3_; have B485 := n4_; have HB := n5_; have B498 := n6_; have GW498 := n7_; have GE498 := n8_; have NB483_498 := n9_; have NB498_483 := n10_; have NB484_498 := n11_; have NB498_484 := n12_; have NB485_498 := n13_; have NB498_485 := n14_; clear n0_ n1_ n2_ n3_ n4_ n5_ n6_ n7_ n8_ n9_ n10_ n11_ n12_ n13_ n14_; clear hb hbox hg; obtain ⟨Ao75, co75, eo75⟩ := Kd.V_slice HO491.out; subst eo75; have hnb76 := NB498_483.out; have hnc76 := NB483_498.out; have hnb77 := NB498_484.out; have hnc77 := NB484_498.out; have hnb78 := NB498_485.out; have hnc78 := NB485_498.out; obtain ⟨z79_0, z79_1, z79_2, z79_3, f79_0, f79_1, f79_2, f79_3⟩ := cells4 B498.out; obtain ⟨Ao80, co80, eo80⟩ := Kd.V_slice HO494.out; subst eo80))
  go_ret
  exact ⟨by first | rfl | (simp [errW_none, errW_some] <;> rfl) | (simp [*, errW_none, errW_some] <;> rfl), by repeat (first | (with_reducible first | exact HB.out | apply eA | apply eN | apply eD | refine eS ?_ GE483.out | refine eS ?_ GE484.out | refine eS ?_ GE485.out | refine eS ?_ GE498.out) | exact HB.out)⟩

end Go.Proofs.Ytffjbbedjddpmaa.PAll
