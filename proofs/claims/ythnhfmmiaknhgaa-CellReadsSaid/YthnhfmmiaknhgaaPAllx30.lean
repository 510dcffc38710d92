/- Functions of the program as plain Lean functions, and that each call comes to what they say. Laid by a program of this session (hprint.py); Lean checks it. -/
import Derived.Test.YthnhfmmiaknhgaaPAllx0
import Derived.Test.YthnhfmmiaknhgaaPAllx9
import Derived.Test.YthnhfmmiaknhgaaPAllx11
import Derived.Test.YthnhfmmiaknhgaaPAllx13
import Derived.Test.YthnhfmmiaknhgaaPAllx16
namespace Go.Proofs.Ythnhfmmiaknhgaa.PAll
open Go.RowKit Go.Proofs.YthnhfmmiaknhgaaW.PrintWords Go.Proofs.YthnhfmmiaknhgaaW.PrintLast Go.Proofs.YthnhfmmiaknhgaaW.PrintMore
attribute [local go_sem] max2_int min2_int max_two min_two max_three min_three max_four min_four   -- for this text's walks alone
set_option linter.unusedVariables false
set_option linter.unusedSimpArgs false

/-! ### hogsheadlaw09_CellReads: function 5 -/
def hogsheadlaw09_CellReads.j0 : Nat → Bool → Option (Bool)
 | 0, _ => none
 | k + 1, x6 => some x6
def hogsheadlaw09_CellReads.f (k : Nat) (l0_0 : List ByteArray) (l0_1 : List (S77)) (a0_2 : Int) (a0_3 : Bool) (a1 : Int) (a2 : ByteArray) : Option (Bool) := (hogsheadlaw09_shown.f k).bind fun t369 => ((cell_Read.f k l0_0 l0_1 a0_2 a0_3 a1).bind fun bt370 => ((cell_Write.f k l0_0 l0_1 a0_2 a0_3 a1 a2).bind fun bt373 => (if bt373.2.2.2.2 = 0 then ((cell_Read.f k bt373.1 bt373.2.1 bt373.2.2.1 bt373.2.2.2.1 a1).bind fun bt383 => ((hogsheadref08_Flush.f k bt373.1 bt373.2.1 bt373.2.2.1 bt373.2.2.2.1).bind fun bt386 => ((cell_Read.f k bt386.1 bt386.2.1 bt386.2.2.1 bt386.2.2.2.1 a1).bind fun bt396 => (if t369 = true then (if bt383.1.toList = a2.toList then (if bt383.2.2 = 0 then (if bt386.2.2.2.2 = 0 then (if bt396.1.toList = a2.toList then (if bt396.2.2 = 0 then (if bt383.2.1 = bt396.2.1 then (if bt370.2.2 = 0 then (hogsheadlaw09_CellReads.j0 k (bt383.2.1 == (IntKind.u64.wrap (bt370.2.1 + 1)))) else (hogsheadlaw09_CellReads.j0 k true)) else (hogsheadlaw09_CellReads.j0 k false)) else (hogsheadlaw09_CellReads.j0 k false)) else (hogsheadlaw09_CellReads.j0 k false)) else (hogsheadlaw09_CellReads.j0 k false)) else (hogsheadlaw09_CellReads.j0 k false)) else (hogsheadlaw09_CellReads.j0 k false)) else (hogsheadlaw09_CellReads.j0 k false))))) else (some t369))))
theorem hogsheadlaw09_CellReads.mono_l : ∀ k, (∀ y0, LeO (hogsheadlaw09_CellReads.j0 k y0) (hogsheadlaw09_CellReads.j0 (k + 1) y0))
 | 0 => fun _ r h => by simp [hogsheadlaw09_CellReads.j0] at h
 | k + 1 => by
  have ih0 := hogsheadlaw09_CellReads.mono_l k
  ·intro y0
   unfold hogsheadlaw09_CellReads.j0
   repeat' first
   | (with_reducible exact ih0 _)
   | (with_reducible exact cell_Read.mono _ _ _ _ _ _)
   | (with_reducible exact cell_Write.mono _ _ _ _ _ _ _)
   | (with_reducible exact hogsheadlaw09_shown.mono _)
   | (with_reducible exact hogsheadref08_Flush.mono _ _ _ _ _)
   | (with_reducible exact LeO.refl _)
   | (with_reducible exact LeO.none _)
   | (with_reducible refine LeO.ite ?_ ?_)
   | (with_reducible refine LeO.bind ?_ (fun _ => ?_))
   | exact ih0 _
   | exact cell_Read.mono _ _ _ _ _ _
   | exact cell_Write.mono _ _ _ _ _ _ _
   | exact hogsheadlaw09_shown.mono _
   | exact hogsheadref08_Flush.mono _ _ _ _ _
   | exact LeO.none _
   | refine LeO.ite ?_ ?_
   | refine LeO.bind ?_ (fun _ => ?_)
theorem hogsheadlaw09_CellReads.mono : ∀ a0 a1 a2 a3 a4 a5 k, LeO (hogsheadlaw09_CellReads.f k a0 a1 a2 a3 a4 a5) (hogsheadlaw09_CellReads.f (k + 1) a0 a1 a2 a3 a4 a5) := by
 intro a0 a1 a2 a3 a4 a5 k
 have ih0 := hogsheadlaw09_CellReads.mono_l k
 unfold hogsheadlaw09_CellReads.f
 repeat' first
   | (with_reducible exact ih0 _)
   | (with_reducible exact cell_Read.mono _ _ _ _ _ _)
   | (with_reducible exact cell_Write.mono _ _ _ _ _ _ _)
   | (with_reducible exact hogsheadlaw09_shown.mono _)
   | (with_reducible exact hogsheadref08_Flush.mono _ _ _ _ _)
   | (with_reducible exact LeO.refl _)
   | (with_reducible exact LeO.none _)
   | (with_reducible refine LeO.ite ?_ ?_)
   | (with_reducible refine LeO.bind ?_ (fun _ => ?_))
   | exact ih0 _
   | exact cell_Read.mono _ _ _ _ _ _
   | exact cell_Write.mono _ _ _ _ _ _ _
   | exact hogsheadlaw09_shown.mono _
   | exact hogsheadref08_Flush.mono _ _ _ _ _
   | exact LeO.none _
   | refine LeO.ite ?_ ?_
   | refine LeO.bind ?_ (fun _ => ?_)
set_option maxHeartbeats 40000000 in
set_option maxRecDepth 100000 in
theorem hogsheadlaw09_CellReads.calls (k : Nat) (A0_0 : Option Addr) (c0_0 : Nat) (l0_0 : List ByteArray) (A0_1 : Option Addr) (c0_1 : Nat) (l0_1 : List (S77)) (a0_2 : Int) (a0_3 : Bool) (a1 : Int) (a2 : ByteArray) (r : Bool) (w : World) (hr0_0 : Kd.C Kd.string w A0_0 l0_0.length l0_0) (hc0_0 : l0_0.length ≤ c0_0) (hr0_1 : Kd.C k77 w A0_1 l0_1.length l0_1) (hc0_1 : l0_1.length ≤ c0_1) (h : hogsheadlaw09_CellReads.f k l0_0 l0_1 a0_2 a0_3 a1 a2 = some r) :
  Calls Try.prog 5 #[.agg #[.slice A0_0 l0_0.length c0_0, .slice A0_1 l0_1.length c0_1, .int .i64 a0_2, .bool a0_3], .int .i64 a1, .string a2] w fun e w' => e = .returned (.bool r) ∧ Below w.heap.size w w' := by
 have hu37 := Try.underlying37
 have HR0_0 := qM hr0_0
 have HC0_0 := qM hc0_0
 clear hr0_0 hc0_0
 have HR0_1 := qM hr0_1
 have HC0_1 := qM hc0_1
 clear hr0_1 hc0_1
 have HB := qM (Below.refl w.heap.size w)
 have H : ((hogsheadlaw09_shown.f k).bind fun t369 => ((cell_Read.f k l0_0 l0_1 a0_2 a0_3 a1).bind fun bt370 => ((cell_Write.f k l0_0 l0_1 a0_2 a0_3 a1 a2).bind fun bt373 => (if bt373.2.2.2.2 = 0 then ((cell_Read.f k bt373.1 bt373.2.1 bt373.2.2.1 bt373.2.2.2.1 a1).bind fun bt383 => ((hogsheadref08_Flush.f k bt373.1 bt373.2.1 bt373.2.2.1 bt373.2.2.2.1).bind fun bt386 => ((cell_Read.f k bt386.1 bt386.2.1 bt386.2.2.1 bt386.2.2.2.1 a1).bind fun bt396 => (if t369 = true then (if bt383.1.toList = a2.toList then (if bt383.2.2 = 0 then (if bt386.2.2.2.2 = 0 then (if bt396.1.toList = a2.toList then (if bt396.2.2 = 0 then (if bt383.2.1 = bt396.2.1 then (if bt370.2.2 = 0 then (hogsheadlaw09_CellReads.j0 k (bt383.2.1 == (IntKind.u64.wrap (bt370.2.1 + 1)))) else (hogsheadlaw09_CellReads.j0 k true)) else (hogsheadlaw09_CellReads.j0 k false)) else (hogsheadlaw09_CellReads.j0 k false)) else (hogsheadlaw09_CellReads.j0 k false)) else (hogsheadlaw09_CellReads.j0 k false)) else (hogsheadlaw09_CellReads.j0 k false)) else (hogsheadlaw09_CellReads.j0 k false)) else (hogsheadlaw09_CellReads.j0 k false))))) else (some t369))))) = some r := h
 clear h
 replace H := Option.bind_eq_some_iff.mp H
 obtain ⟨t369, A40, H⟩ := H
 replace H : ((cell_Read.f k l0_0 l0_1 a0_2 a0_3 a1).bind fun bt370 => ((cell_Write.f k l0_0 l0_1 a0_2 a0_3 a1 a2).bind fun bt373 => (if bt373.2.2.2.2 = 0 then ((cell_Read.f k bt373.1 bt373.2.1 bt373.2.2.1 bt373.2.2.2.1 a1).bind fun bt383 => ((hogsheadref08_Flush.f k bt373.1 bt373.2.1 bt373.2.2.1 bt373.2.2.2.1).bind fun bt386 => ((cell_Read.f k bt386.1 bt386.2.1 bt386.2.2.1 bt386.2.2.2.1 a1).bind fun bt396 => (if t369 = true then (if bt383.1.toList = a2.toList then (if bt383.2.2 = 0 then (if bt386.2.2.2.2 = 0 then (if bt396.1.toList = a2.toList then (if bt396.2.2 = 0 then (if bt383.2.1 = bt396.2.1 then (if bt370.2.2 = 0 then (hogsheadlaw09_CellReads.j0 k (bt383.2.1 == (IntKind.u64.wrap (bt370.2.1 + 1)))) else (hogsheadlaw09_CellReads.j0 k true)) else (hogsheadlaw09_CellReads.j0 k false)) else (hogsheadlaw09_CellReads.j0 k false)) else (hogsheadlaw09_CellReads.j0 k false)) else (hogsheadlaw09_CellReads.j0 k false)) else (hogsheadlaw09_CellReads.j0 k false)) else (hogsheadlaw09_CellReads.j0 k false)) else (hogsheadlaw09_CellReads.j0 k false))))) else (some t369)))) = some r := H
 have A4 := qM A40
 clear A40
 replace H := Option.bind_eq_some_iff.mp H
 obtain ⟨⟨t370, t371, t372⟩, A50, H⟩ := H
 replace H : ((cell_Write.f k l0_0 l0_1 a0_2 a0_3 a1 a2).bind fun bt373 => (if bt373.2.2.2.2 = 0 then ((cell_Read.f k bt373.1 bt373.2.1 bt373.2.2.1 bt373.2.2.2.1 a1).bind fun bt383 => ((hogsheadref08_Flush.f k bt373.1 bt373.2.1 bt373.2.2.1 bt373.2.2.2.1).bind fun bt386 => ((cell_Read.f k bt386.1 bt386.2.1 bt386.2.2.1 bt386.2.2.2.1 a1).bind fun bt396 => (if t369 = true then (if bt383.1.toList = a2.toList then (if bt383.2.2 = 0 then (if bt386.2.2.2.2 = 0 then (if bt396.1.toList = a2.toList then (if bt396.2.2 = 0 then (if bt383.2.1 = bt396.2.1 then (if t372 = 0 then (hogsheadlaw09_CellReads.j0 k (bt383.2.1 == (IntKind.u64.wrap (t371 + 1)))) else (hogsheadlaw09_CellReads.j0 k true)) else (hogsheadlaw09_CellReads.j0 k false)) else (hogsheadlaw09_CellReads.j0 k false)) else (hogsheadlaw09_CellReads.j0 k false)) else (hogsheadlaw09_CellReads.j0 k false)) else (hogsheadlaw09_CellReads.j0 k false)) else (hogsheadlaw09_CellReads.j0 k false)) else (hogsheadlaw09_CellReads.j0 k false))))) else (some t369))) = some r := H
 have A5 := qM A50
 clear A50
 replace H := Option.bind_eq_some_iff.mp H
 obtain ⟨⟨t373, t376, t379, t380, t381⟩, A60, H⟩ := H
 replace H : (if t381 = 0 then ((cell_Read.f k t373 t376 t379 t380 a1).bind fun bt383 => ((hogsheadref08_Flush.f k t373 t376 t379 t380).bind fun bt386 => ((cell_Read.f k bt386.1 bt386.2.1 bt386.2.2.1 bt386.2.2.2.1 a1).bind fun bt396 => (if t369 = true then (if bt383.1.toList = a2.toList then (if bt383.2.2 = 0 then (if bt386.2.2.2.2 = 0 then (if bt396.1.toList = a2.toList then (if bt396.2.2 = 0 then (if bt383.2.1 = bt396.2.1 then (if t372 = 0 then (hogsheadlaw09_CellReads.j0 k (bt383.2.1 == (IntKind.u64.wrap (t371 + 1)))) else (hogsheadlaw09_CellReads.j0 k true)) else (hogsheadlaw09_CellReads.j0 k false)) else (hogsheadlaw09_CellReads.j0 k false)) else (hogsheadlaw09_CellReads.j0 k false)) else (hogsheadlaw09_CellReads.j0 k false)) else (hogsheadlaw09_CellReads.j0 k false)) else (hogsheadlaw09_CellReads.j0 k false)) else (hogsheadlaw09_CellReads.j0 k false))))) else (some t369)) = some r := H
 have A6 := qM A60
 clear A60
 by_cases c7 : t381 = 0
 ·rw [if_pos c7] at H
  have c7b0 : (t381 == 0) = true := beq_iff_eq.mpr c7
  have c7b1 : (t381 != 0) = false := bne_eq_false_iff_eq.mpr c7
  clear c7
  replace H := Option.bind_eq_some_iff.mp H
  obtain ⟨⟨t383, t384, t385⟩, A80, H⟩ := H
  replace H : ((hogsheadref08_Flush.f k t373 t376 t379 t380).bind fun bt386 => ((cell_Read.f k bt386.1 bt386.2.1 bt386.2.2.1 bt386.2.2.2.1 a1).bind fun bt396 => (if t369 = true then (if t383.toList = a2.toList then (if t385 = 0 then (if bt386.2.2.2.2 = 0 then (if bt396.1.toList = a2.toList then (if bt396.2.2 = 0 then (if t384 = bt396.2.1 then (if t372 = 0 then (hogsheadlaw09_CellReads.j0 k (t384 == (IntKind.u64.wrap (t371 + 1)))) else (hogsheadlaw09_CellReads.j0 k true)) else (hogsheadlaw09_CellReads.j0 k false)) else (hogsheadlaw09_CellReads.j0 k false)) else (hogsheadlaw09_CellReads.j0 k false)) else (hogsheadlaw09_CellReads.j0 k false)) else (hogsheadlaw09_CellReads.j0 k false)) else (hogsheadlaw09_CellReads.j0 k false)) else (hogsheadlaw09_CellReads.j0 k false)))) = some r := H
  have A8 := qM A80
  clear A80
  replace H := Option.bind_eq_some_iff.mp H
  obtain ⟨⟨t386, t389, t392, t393, t394⟩, A90, H⟩ := H
  replace H : ((cell_Read.f k t386 t389 t392 t393 a1).bind fun bt396 => (if t369 = true then (if t383.toList = a2.toList then (if t385 = 0 then (if t394 = 0 then (if bt396.1.toList = a2.toList then (if bt396.2.2 = 0 then (if t384 = bt396.2.1 then (if t372 = 0 then (hogsheadlaw09_CellReads.j0 k (t384 == (IntKind.u64.wrap (t371 + 1)))) else (hogsheadlaw09_CellReads.j0 k true)) else (hogsheadlaw09_CellReads.j0 k false)) else (hogsheadlaw09_CellReads.j0 k false)) else (hogsheadlaw09_CellReads.j0 k false)) else (hogsheadlaw09_CellReads.j0 k false)) else (hogsheadlaw09_CellReads.j0 k false)) else (hogsheadlaw09_CellReads.j0 k false)) else (hogsheadlaw09_CellReads.j0 k false))) = some r := H
  have A9 := qM A90
  clear A90
  replace H := Option.bind_eq_some_iff.mp H
  obtain ⟨⟨t396, t397, t398⟩, A100, H⟩ := H
  replace H : (if t369 = true then (if t383.toList = a2.toList then (if t385 = 0 then (if t394 = 0 then (if t396.toList = a2.toList then (if t398 = 0 then (if t384 = t397 then (if t372 = 0 then (hogsheadlaw09_CellReads.j0 k (t384 == (IntKind.u64.wrap (t371 + 1)))) else (hogsheadlaw09_CellReads.j0 k true)) else (hogsheadlaw09_CellReads.j0 k false)) else (hogsheadlaw09_CellReads.j0 k false)) else (hogsheadlaw09_CellReads.j0 k false)) else (hogsheadlaw09_CellReads.j0 k false)) else (hogsheadlaw09_CellReads.j0 k false)) else (hogsheadlaw09_CellReads.j0 k false)) else (hogsheadlaw09_CellReads.j0 k false)) = some r := H
  have A10 := qM A100
  clear A100
  have HC11 := qM H
  clear H
  go_enter Try.func5, Try.ntmps5
  go_upto_region 9 with (first | ((with_reducible refine gate_dst (N := 3) rfl ?_); refine box_event ?hg (N := 3) ?hd (cs := #[.slice A0_0 l0_0.length c0_0, .slice A0_1 l0_1.length c0_1, .int .i64 a0_2, .bool a0_3]) (t := 37) ?hr ?_; (case hd => rfl); (case hg => rfl); (case hr => first | (go_simp; done) | (go_simp; rfl)); intro g368 hg w12 hbox hb; have n0_ := qM (eT (by repeat (first | (with_reducible first | exact HB.out | apply eA | apply eN | apply eD) | exact HB.out)) hb); have n1_ := qM (hbox); have n2_ := qM ((by rw [hg]; exact (eZ (by repeat (first | (with_reducible first | exact HB.out | apply eA | apply eN | apply eD) | exact HB.out))) : w.heap.size ≤ g368)); have n3_ := n2_; clear HB; have HB := n0_; have B368 := n1_; have GW368 := n2_; have GE368 := n3_; clear n0_ n1_ n2_ n3_; clear hb hbox hg) | ((with_reducible refine gate_callee (f := 10) rfl ?_); refine goesL_ (some 21) rfl rfl Try.func10 (by kernel_rfl) rfl #[] rfl (by (try simp only [List.map_toArray, List.map_cons, List.map_nil]); first | done | rfl | (simp only [List.length_drop, List.length_take]; rfl)) ?_; (with_reducible refine (hogsheadlaw09_shown.calls k  t369 _ A4.out).mono ?_); rintro e w13 ⟨rfl, hb⟩; refine ⟨_, rfl, ?_⟩; have n0_ := qM (qB (g := g368) (by (with_reducible repeat first | refine qN ?_ _ | refine qD ?_ | refine qA ?_ _); exact B368.out) hb); have n1_ := qM (eT (by repeat (first | (with_reducible first | exact HB.out | apply eA | apply eN | apply eD | refine eS ?_ GE368.out) | exact HB.out)) hb); clear B368; clear HB; have B368 := n0_; have HB := n1_; clear n0_ n1_; (try clear hb); (try clear hb2); (try clear hk); (try clear hi); obtain ⟨z14_0, z14_1, z14_2, z14_3, f14_0, f14_1, f14_2, f14_3⟩ := cells4 B368.out) | ((with_reducible refine gate_callee (f := 15) rfl ?_); refine goesL_ (some 25) rfl rfl Try.func15 (by kernel_rfl) rfl #[.agg #[.slice A0_0 l0_0.length c0_0, .slice A0_1 l0_1.length c0_1, .int .i64 a0_2, .bool a0_3], .int .i64 a1] rfl (by (try simp only [List.map_toArray, List.map_cons, List.map_nil]); first | done | rfl | (simp only [List.length_drop, List.length_take]; rfl)) ?_; (with_reducible refine (cell_Read.calls k _ _ l0_0 _ _ l0_1 a0_2 a0_3 a1 t370 t371 t372 _ ?side1 ?side2 ?side3 ?side4 A5.out).mono ?_); (case side1 => repeat (first | exact (Kd.C_below HR0_0.out HB.out) | (with_reducible refine Kd.C_alloc ?_ _) | (with_reducible refine Kd.C_drewN ?_ _) | (with_reducible refine Kd.C_drew ?_))); (case side2 => exact HC0_0.out); (case side3 => repeat (first | exact (Kd.C_below HR0_1.out HB.out) | (with_reducible refine Kd.C_alloc ?_ _) | (with_reducible refine Kd.C_drewN ?_ _) | (with_reducible refine Kd.C_drew ?_))); (case side4 => exact HC0_1.out); rintro e w15 ⟨rfl, hb⟩; refine ⟨_, rfl, ?_⟩; have n0_ := qM (qB (g := g368) (by (with_reducible repeat first | refine qN ?_ _ | refine qD ?_ | refine qA ?_ _); exact B368.out) hb); have n1_ := qM (eT (by repeat (first | (with_reducible first | exact HB.out | apply eA | apply eN | apply eD | refine eS ?_ GE368.out) | exact HB.out)) hb); clear B368; clear HB; have B368 := n0_; have HB := n1_; clear n0_ n1_; (try clear hb); (try clear hb2); (try clear hk); (try clear hi); obtain ⟨z16_0, z16_1, z16_2, z16_3, f16_0, f16_1, f16_2, f16_3⟩ := cells4 B368.out) | ((with_reducible refine gate_callee (f := 17) rfl ?_); refine goesL_ (some 33) rfl rfl Try.func17 (by kernel_rfl) rfl #[.agg #[.slice A0_0 l0_0.length c0_0, .slice A0_1 l0_1.length c0_1, .int .i64 a0_2, .bool a0_3], .int .i64 a1, .string a2] rfl (by (try simp only [List.map_toArray, List.map_cons, List.map_nil]); first | done | rfl | (simp only [List.length_drop, List.length_take]; rfl)) ?_; (with_reducible refine (cell_Write.calls k (fun k_ => k_ < w.heap.size) _ _ l0_0 (fun k_ => k_ < w.heap.size) _ _ l0_1 a0_2 a0_3 a1 a2 t373 t376 t379 t380 t381 _ ?side1 ?side2 A6.out).mono ?_); (case side1 => exact Kd.V_mk HC0_0.out (Kd.F_below (Kd.C_F Kd.heap_string HR0_0.out) (by repeat (first | (with_reducible first | exact HB.out | apply eA | apply eN | apply eD | refine eS ?_ GE368.out) | exact HB.out)))); (case side2 => exact Kd.V_mk HC0_1.out (Kd.F_below (Kd.C_F k77_heap HR0_1.out) (by repeat (first | (with_reducible first | exact HB.out | apply eA | apply eN | apply eD | refine eS ?_ GE368.out) | exact HB.out)))); rintro e w17 ⟨v374, v377, rfl, ho0, ho1, hb⟩; refine ⟨_, rfl, ?_⟩; have n0_ := qM (Vl (Vm (ok' := fun k_ => k_ ≠ g368) ho0 (fun k_ hk_ => Or.elim hk_ (fun hs_ => Or.elim hs_ (fun hs_ => fun e_ => Nat.not_le.2 hs_ (by rw [e_]; exact GW368.out)) (fun hs_ => fun e_ => Nat.not_le.2 hs_ (by rw [e_]; exact GW368.out))) (fun hn_ => (Fb (g := g368) (by (with_reducible repeat first | refine qN ?_ _ | refine qD ?_ | refine qA ?_ _); exact B368.out) k_ hn_)))) (eZ (by repeat (first | (with_reducible first | exact HB.out | apply eA | apply eN | apply eD | refine eS ?_ GE368.out) | exact HB.out)))); have n1_ := qM (Vl (Vm (ok' := fun k_ => k_ ≠ g368) ho1 (fun k_ hk_ => Or.elim hk_ (fun hs_ => Or.elim hs_ (fun hs_ => fun e_ => Nat.not_le.2 hs_ (by rw [e_]; exact GW368.out)) (fun hs_ => fun e_ => Nat.not_le.2 hs_ (by rw [e_]; exact GW368.out))) (fun hn_ => (Fb (g := g368) (by (with_reducible repeat first | refine qN ?_ _ | refine qD ?_ | refine qA ?_ _); exact B368.out) k_ hn_)))) (eZ (by repeat (first | (with_reducible first | exact HB.out | apply eA | apply eN | apply eD | refine eS ?_ GE368.out) | exact HB.out)))); have n2_ := qM (qB (g := g368) (by (with_reducible repeat first | refine qN ?_ _ | refine qD ?_ | refine qA ?_ _); exact B368.out) hb); have n3_ := qM (eT (by repeat (first | (with_reducible first | exact HB.out | apply eA | apply eN | apply eD | refine eS ?_ GE368.out) | exact HB.out)) hb); clear B368; clear HB; have HO375 := n0_; have HO378 := n1_; have B368 := n2_; have HB := n3_; clear n0_ n1_ n2_ n3_; (try clear hb); (try clear hb2); (try clear hk); (try clear hi); (try clear ho0); (try clear ho1)) | ((with_reducible refine gate_dst (N := 11) rfl ?_); refine box_event ?hg (N := 11) ?hd (cs := #[.slice none 0 0, .slice none 0 0, .int .i64 0, .bool false]) (t := 37) ?hr ?_; (case hd => rfl); (case hg => rfl); (case hr => first | (go_simp; done) | (go_simp; rfl)); intro g382 hg w18 hbox hb; have n0_ := qM (Vb (Kd.V_elderB (by (with_reducible repeat first | apply VA | apply VN | apply VD); exact HO375.out) g382 (Nat.le_of_eq hg.symm)) hb); have n1_ := qM (Vb (Kd.V_elderB (by (with_reducible repeat first | apply VA | apply VN | apply VD); exact HO378.out) g382 (Nat.le_of_eq hg.symm)) hb); have n2_ := qM (qB (g := g368) (by (with_reducible repeat first | refine qN ?_ _ | refine qD ?_ | refine qA ?_ _); exact B368.out) hb); have n3_ := qM (eT (by repeat (first | (with_reducible first | exact HB.out | apply eA | apply eN | apply eD | refine eS ?_ GE368.out) | exact HB.out)) hb); have n4_ := qM (hbox); have n5_ := qM ((by rw [hg]; exact (eZ (by repeat (first | (with_reducible first | exact HB.out | apply eA | apply eN | apply eD | refine eS ?_ GE368.out) | exact HB.out))) : w.heap.size ≤ g382)); have n6_ := n5_; have n7_ := qM ((by rw [hg]; exact Nat.ne_of_lt (qL (g := g368) (by (with_reducible repeat first | refine qN ?_ _ | refine qD ?_ | refine qA ?_ _); exact B368.out)) : g368 ≠ g382)); have n8_ := qM (Ne.symm n7_.out); clear HO375; clear HO378; clear B368; clear HB; have HO375 := n0_; have HO378 := n1_; have B368 := n2_; have HB := n3_; have B382 := n4_; have GW382 := n5_; have GE382 := n6_; have NB368_382 := n7_; have NB382_368 := n8_; clear n0_ n1_ n2_ n3_ n4_ n5_ n6_ n7_ n8_; clear hb hbox hg; obtain ⟨Ao19, co19, eo19⟩ := Kd.V_slice HO375.out; subst eo19; have hnb20 := NB382_368.out; have hnc20 := NB368_382.out; obtain ⟨z21_0, z21_1, z21_2, z21_3, f21_0, f21_1, f21_2, f21_3⟩ := cells4 B382.out; obtain ⟨Ao22, co22, eo22⟩ := Kd.V_slice HO378.out; subst eo22) | ((with_reducible refine gate_callee (f := 15) rfl ?_); refine goesL_ (some 42) rfl rfl Try.func15 (by kernel_rfl) rfl #[.agg #[.slice Ao19 t373.length co19, .slice Ao22 t376.length co22, .int .i64 t379, .bool t380], .int .i64 a1] rfl (by (try simp only [List.map_toArray, List.map_cons, List.map_nil]); first | done | rfl | (simp only [List.length_drop, List.length_take]; rfl)) ?_; (with_reducible refine (cell_Read.calls k _ _ t373 _ _ t376 t379 t380 a1 t383 t384 t385 _ ?side1 ?side2 ?side3 ?side4 A8.out).mono ?_); (case side1 => refine (Kd.V_reads' (e := 9) (base := w.heap.size) (ok := fun k_ => (k_ ≠ g368 ∧ k_ ≠ g382)) (n := t373.length) (c := co19) ?_).2.2; exact (by (with_reducible repeat first | apply VA | apply VN | apply VD); exact (Vm (Vf (p := ⟨g382, 3, none⟩) (Vf (p := ⟨g382, 2, none⟩) (Vf (p := ⟨g382, 1, none⟩) (Vf (p := ⟨g382, 0, none⟩) (Vm HO375.out (fun k_ hk => (⟨hk, hk.2⟩ : _ ∧ k_ ≠ g382))) (fun _ hk => hk.2) (.slice Ao19 t373.length co19)) (fun _ hk => hk.2) (.slice Ao22 t376.length co22)) (fun _ hk => hk.2) (.int .i64 t379)) (fun _ hk => hk.2) (.bool t380)) (fun _ h_ => h_.1)))); (case side2 => exact (Kd.V_reads' HO375.out).2.1); (case side3 => refine (Kd.V_reads' (e := 77) (base := w.heap.size) (ok := fun k_ => (k_ ≠ g368 ∧ k_ ≠ g382)) (n := t376.length) (c := co22) ?_).2.2; exact (by (with_reducible repeat first | apply VA | apply VN | apply VD); exact (Vm (Vf (p := ⟨g382, 3, none⟩) (Vf (p := ⟨g382, 2, none⟩) (Vf (p := ⟨g382, 1, none⟩) (Vf (p := ⟨g382, 0, none⟩) (Vm HO378.out (fun k_ hk => (⟨hk, hk.2⟩ : _ ∧ k_ ≠ g382))) (fun _ hk => hk.2) (.slice Ao19 t373.length co19)) (fun _ hk => hk.2) (.slice Ao22 t376.length co22)) (fun _ hk => hk.2) (.int .i64 t379)) (fun _ hk => hk.2) (.bool t380)) (fun _ h_ => h_.1)))); (case side4 => exact (Kd.V_reads' HO378.out).2.1); rintro e w23 ⟨rfl, hb⟩; refine ⟨_, rfl, ?_⟩; have n0_ := qM (Vb (by (with_reducible repeat first | apply VA | apply VN | apply VD); exact (Vm (Vf (p := ⟨g382, 3, none⟩) (Vf (p := ⟨g382, 2, none⟩) (Vf (p := ⟨g382, 1, none⟩) (Vf (p := ⟨g382, 0, none⟩) (Vm HO375.out (fun k_ hk => (⟨hk, hk.2⟩ : _ ∧ k_ ≠ g382))) (fun _ hk => hk.2) (.slice Ao19 t373.length co19)) (fun _ hk => hk.2) (.slice Ao22 t376.length co22)) (fun _ hk => hk.2) (.int .i64 t379)) (fun _ hk => hk.2) (.bool t380)) (fun _ h_ => h_.1))) hb); have n1_ := qM (Vb (by (with_reducible repeat first | apply VA | apply VN | apply VD); exact (Vm (Vf (p := ⟨g382, 3, none⟩) (Vf (p := ⟨g382, 2, none⟩) (Vf (p := ⟨g382, 1, none⟩) (Vf (p := ⟨g382, 0, none⟩) (Vm HO378.out (fun k_ hk => (⟨hk, hk.2⟩ : _ ∧ k_ ≠ g382))) (fun _ hk => hk.2) (.slice Ao19 t373.length co19)) (fun _ hk => hk.2) (.slice Ao22 t376.length co22)) (fun _ hk => hk.2) (.int .i64 t379)) (fun _ hk => hk.2) (.bool t380)) (fun _ h_ => h_.1))) hb); have n2_ := qM (qB (g := g368) (o := .cells #[.slice A0_0 l0_0.length c0_0, .slice A0_1 l0_1.length c0_1, .int .i64 a0_2, .bool a0_3] 37 (0, 0)) (by (with_reducible repeat first | refine qN ?_ _ | refine qD ?_ | refine qA ?_ _); (iterate 4 (refine qR ?_ NB368_382.out _; (with_reducible repeat first | refine qN ?_ _ | refine qD ?_ | refine qA ?_ _))); exact B368.out) hb); have n3_ := qM (qB (g := g382) (by (with_reducible repeat first | refine qN ?_ _ | refine qD ?_ | refine qA ?_ _); apply puts4; (with_reducible repeat first | refine qN ?_ _ | refine qD ?_ | refine qA ?_ _); exact B382.out) hb); have n4_ := qM (eT (by repeat (first | (with_reducible first | exact HB.out | apply eA | apply eN | apply eD | refine eS ?_ GE368.out | refine eS ?_ GE382.out) | exact HB.out)) hb); clear HO375; clear HO378; clear B368; clear B382; clear HB; have HO375 := n0_; have HO378 := n1_; have B368 := n2_; have B382 := n3_; have HB := n4_; clear n0_ n1_ n2_ n3_ n4_; (try clear hb); (try clear hb2); (try clear hk); (try clear hi); obtain ⟨z24_0, z24_1, z24_2, z24_3, f24_0, f24_1, f24_2, f24_3⟩ := cells4 B382.out) | ((with_reducible refine gate_callee (f := 20) rfl ?_); refine goesL_ (some 48) rfl rfl Try.func20 (by kernel_rfl) rfl #[.agg #[.slice Ao19 t373.length co19, .slice Ao22 t376.length co22, .int .i64 t379, .bool t380]] rfl (by (try simp only [List.map_toArray, List.map_cons, List.map_nil]); first | done | rfl | (simp only [List.length_drop, List.length_take]; rfl)) ?_; (with_reducible refine (hogsheadref08_Flush.calls k (fun k_ => (k_ ≠ g368 ∧ k_ ≠ g382)) _ _ t373 (fun k_ => (k_ ≠ g368 ∧ k_ ≠ g382)) _ _ t376 t379 t380 t386 t389 t392 t393 t394 _ ?side1 ?side2 A9.out).mono ?_); (case side1 => exact HO375.out); (case side2 => exact HO378.out); rintro e w25 ⟨v387, v390, rfl, ho0, ho1, hb⟩; refine ⟨_, rfl, ?_⟩; have n0_ := qM (Vb (by (with_reducible repeat first | apply VA | apply VN | apply VD); exact HO375.out) hb); have n1_ := qM (Vb (by (with_reducible repeat first | apply VA | apply VN | apply VD); exact HO378.out) hb); have n2_ := qM (Vl (Vm (ok' := fun k_ => k_ ≠ g368 ∧ k_ ≠ g382) ho0 (fun k_ hk_ => ⟨Or.elim hk_ (fun hs_ => Or.elim hs_ (fun hs_ => hs_.1) (fun hs_ => hs_.1)) (fun hn_ => (Fb (g := g368) (by (with_reducible repeat first | refine qN ?_ _ | refine qD ?_ | refine qA ?_ _); exact B368.out) k_ hn_)), Or.elim hk_ (fun hs_ => Or.elim hs_ (fun hs_ => hs_.2) (fun hs_ => hs_.2)) (fun hn_ => (Fb (g := g382) (by (with_reducible repeat first | refine qN ?_ _ | refine qD ?_ | refine qA ?_ _); exact B382.out) k_ hn_))⟩)) (eZ (by repeat (first | (with_reducible first | exact HB.out | apply eA | apply eN | apply eD | refine eS ?_ GE368.out | refine eS ?_ GE382.out) | exact HB.out)))); have n3_ := qM (Vl (Vm (ok' := fun k_ => k_ ≠ g368 ∧ k_ ≠ g382) ho1 (fun k_ hk_ => ⟨Or.elim hk_ (fun hs_ => Or.elim hs_ (fun hs_ => hs_.1) (fun hs_ => hs_.1)) (fun hn_ => (Fb (g := g368) (by (with_reducible repeat first | refine qN ?_ _ | refine qD ?_ | refine qA ?_ _); exact B368.out) k_ hn_)), Or.elim hk_ (fun hs_ => Or.elim hs_ (fun hs_ => hs_.2) (fun hs_ => hs_.2)) (fun hn_ => (Fb (g := g382) (by (with_reducible repeat first | refine qN ?_ _ | refine qD ?_ | refine qA ?_ _); exact B382.out) k_ hn_))⟩)) (eZ (by repeat (first | (with_reducible first | exact HB.out | apply eA | apply eN | apply eD | refine eS ?_ GE368.out | refine eS ?_ GE382.out) | exact HB.out)))); have n4_ := qM (qB (g := g368) (by (with_reducible repeat first | refine qN ?_ _ | refine qD ?_ | refine qA ?_ _); exact B368.out) hb); have n5_ := qM (qB (g := g382) (by (with_reducible repeat first | refine qN ?_ _ | refine qD ?_ | refine qA ?_ _); exact B382.out) hb); have n6_ := qM (eT (by repeat (first | (with_reducible first | exact HB.out | apply eA | apply eN | apply eD | refine eS ?_ GE368.out | refine eS ?_ GE382.out) | exact HB.out)) hb); clear HO375; clear HO378; clear B368; clear B382; clear HB; have HO375 := n0_; have HO378 := n1_; have HO388 := n2_; have HO391 := n3_; have B368 := n4_; have B382 := n5_; have HB := n6_; clear n0_ n1_ n2_ n3_ n4_ n5_ n6_; (try clear hb); (try clear hb2); (try clear hk); (try clear hi); (try clear ho0); (try clear ho1)) | ((with_reducible refine gate_dst (N := 16) rfl ?_); refine box_event ?hg (N := 16) ?hd (cs := #[.slice none 0 0, .slice none 0 0, .int .i64 0, .bool false]) (t := 37) ?hr ?_; (case hd => rfl); (case hg => rfl); (case hr => first | (go_simp; done) | (go_simp; rfl)); intro g395 hg w26 hbox hb; have n0_ := qM (Vb (Kd.V_elderB (by (with_reducible repeat first | apply VA | apply VN | apply VD); exact HO375.out) g395 (Nat.le_of_eq hg.symm)) hb); have n1_ := qM (Vb (Kd.V_elderB (by (with_reducible repeat first | apply VA | apply VN | apply VD); exact HO378.out) g395 (Nat.le_of_eq hg.symm)) hb); have n2_ := qM (Vb (Kd.V_elderB (by (with_reducible repeat first | apply VA | apply VN | apply VD); exact HO388.out) g395 (Nat.le_of_eq hg.symm)) hb); have n3_ := qM (Vb (Kd.V_elderB (by (with_reducible repeat first | apply VA | apply VN | apply VD); exact HO391.out) g395 (Nat.le_of_eq hg.symm)) hb); have n4_ := qM (qB (g := g368) (by (with_reducible repeat first | refine qN ?_ _ | refine qD ?_ | refine qA ?_ _); exact B368.out) hb); have n5_ := qM (qB (g := g382) (by (with_reducible repeat first | refine qN ?_ _ | refine qD ?_ | refine qA ?_ _); exact B382.out) hb); have n6_ := qM (eT (by repeat (first | (with_reducible first | exact HB.out | apply eA | apply eN | apply eD | refine eS ?_ GE368.out | refine eS ?_ GE382.out) | exact HB.out)) hb); have n7_ := qM (hbox); have n8_ := qM ((by rw [hg]; exact (eZ (by repeat (first | (with_reducible first | exact HB.out | apply eA | apply eN | apply eD | refine eS ?_ GE368.out | refine eS ?_ GE382.out) | exact HB.out))) : w.heap.size ≤ g395)); have n9_ := n8_; have n10_ := qM ((by rw [hg]; exact Nat.ne_of_lt (qL (g := g368) (by (with_reducible repeat first | refine qN ?_ _ | refine qD ?_ | refine qA ?_ _); exact B368.out)) : g368 ≠ g395)); have n11_ := qM (Ne.symm n10_.out); have n12_ := qM ((by rw [hg]; exact Nat.ne_of_lt (qL (g := g382) (by (with_reducible repeat first | refine qN ?_ _ | refine qD ?_ | refine qA ?_ _); exact B382.out)) : g382 ≠ g395)); have n13_ := qM (Ne.symm n12_.out); clear HO375; clear HO378; clear HO388; clear HO391; clear B368; clear B382; clear HB; have HO375 := n0_; have HO378 := n1_; have HO388 := n2_; have HO391 := n3_; have B368 := n4_; have B382 := n5_; have HB := n6_; have B395 := n7_; have GW395 := n8_; have GE395 := n9_; have NB368_395 := n10_; have NB395_368 := n11_; have NB382_395 := n12_; have NB395_382 := n13_; clear n0_ n1_ n2_ n3_ n4_ n5_ n6_ n7_ n8_ n9_ n10_ n11_ n12_ n13_; clear hb hbox hg; obtain ⟨Ao27, co27, eo27⟩ := Kd.V_slice HO388.out; subst eo27; have hnb28 := NB395_368.out; have hnc28 := NB368_395.out; have hnb29 := NB395_382.out; have hnc29 := NB382_395.out; obtain ⟨z30_0, z30_1, z30_2, z30_3, f30_0, f30_1, f30_2, f30_3⟩ := cells4 B395.out; obtain ⟨Ao31, co31, eo31⟩ := Kd.V_slice HO391.out; subst eo31) | ((with_reducible refine gate_callee (f := 15) rfl ?_); refine goesL_ (some 54) rfl rfl Try.func15 (by kernel_rfl) rfl #[.agg #[.slice Ao27 t386.length co27, .slice Ao31 t389.length co31, .int .i64 t392, .bool t393], .int .i64 a1] rfl (by (try simp only [List.map_toArray, List.map_cons, List.map_nil]); first | done | rfl | (simp only [List.length_drop, List.length_take]; rfl)) ?_; (with_reducible refine (cell_Read.calls k _ _ t386 _ _ t389 t392 t393 a1 t396 t397 t398 _ ?side1 ?side2 ?side3 ?side4 A10.out).mono ?_); (case side1 => refine (Kd.V_reads' (e := 9) (base := w.heap.size) (ok := fun k_ => ((k_ ≠ g368 ∧ k_ ≠ g382) ∧ k_ ≠ g395)) (n := t386.length) (c := co27) ?_).2.2; exact (by (with_reducible repeat first | apply VA | apply VN | apply VD); exact (Vm (Vf (p := ⟨g395, 3, none⟩) (Vf (p := ⟨g395, 2, none⟩) (Vf (p := ⟨g395, 1, none⟩) (Vf (p := ⟨g395, 0, none⟩) (Vm HO388.out (fun k_ hk => (⟨hk, hk.2⟩ : _ ∧ k_ ≠ g395))) (fun _ hk => hk.2) (.slice Ao27 t386.length co27)) (fun _ hk => hk.2) (.slice Ao31 t389.length co31)) (fun _ hk => hk.2) (.int .i64 t392)) (fun _ hk => hk.2) (.bool t393)) (fun _ h_ => h_.1)))); (case side2 => exact (Kd.V_reads' HO388.out).2.1); (case side3 => refine (Kd.V_reads' (e := 77) (base := w.heap.size) (ok := fun k_ => ((k_ ≠ g368 ∧ k_ ≠ g382) ∧ k_ ≠ g395)) (n := t389.length) (c := co31) ?_).2.2; exact (by (with_reducible repeat first | apply VA | apply VN | apply VD); exact (Vm (Vf (p := ⟨g395, 3, none⟩) (Vf (p := ⟨g395, 2, none⟩) (Vf (p := ⟨g395, 1, none⟩) (Vf (p := ⟨g395, 0, none⟩) (Vm HO391.out (fun k_ hk => (⟨hk, hk.2⟩ : _ ∧ k_ ≠ g395))) (fun _ hk => hk.2) (.slice Ao27 t386.length co27)) (fun _ hk => hk.2) (.slice Ao31 t389.length co31)) (fun _ hk => hk.2) (.int .i64 t392)) (fun _ hk => hk.2) (.bool t393)) (fun _ h_ => h_.1)))); (case side4 => exact (Kd.V_reads' HO391.out).2.1); rintro e w32 ⟨rfl, hb⟩; refine ⟨_, rfl, ?_⟩; have n0_ := qM (Vb (by (with_reducible repeat first | apply VA | apply VN | apply VD); exact (Vm (Vf (p := ⟨g395, 3, none⟩) (Vf (p := ⟨g395, 2, none⟩) (Vf (p := ⟨g395, 1, none⟩) (Vf (p := ⟨g395, 0, none⟩) (Vm HO375.out (fun k_ hk => (⟨hk, hk.2⟩ : _ ∧ k_ ≠ g395))) (fun _ hk => hk.2) (.slice Ao27 t386.length co27)) (fun _ hk => hk.2) (.slice Ao31 t389.length co31)) (fun _ hk => hk.2) (.int .i64 t392)) (fun _ hk => hk.2) (.bool t393)) (fun _ h_ => h_.1))) hb); have n1_ := qM (Vb (by (with_reducible repeat first | apply VA | apply VN | apply VD); exact (Vm (Vf (p := ⟨g395, 3, none⟩) (Vf (p := ⟨g395, 2, none⟩) (Vf (p := ⟨g395, 1, none⟩) (Vf (p := ⟨g395, 0, none⟩) (Vm HO378.out (fun k_ hk => (⟨hk, hk.2⟩ : _ ∧ k_ ≠ g395))) (fun _ hk => hk.2) (.slice Ao27 t386.length co27)) (fun _ hk => hk.2) (.slice Ao31 t389.length co31)) (fun _ hk => hk.2) (.int .i64 t392)) (fun _ hk => hk.2) (.bool t393)) (fun _ h_ => h_.1))) hb); have n2_ := qM (Vb (by (with_reducible repeat first | apply VA | apply VN | apply VD); exact (Vm (Vf (p := ⟨g395, 3, none⟩) (Vf (p := ⟨g395, 2, none⟩) (Vf (p := ⟨g395, 1, none⟩) (Vf (p := ⟨g395, 0, none⟩) (Vm HO388.out (fun k_ hk => (⟨hk, hk.2⟩ : _ ∧ k_ ≠ g395))) (fun _ hk => hk.2) (.slice Ao27 t386.length co27)) (fun _ hk => hk.2) (.slice Ao31 t389.length co31)) (fun _ hk => hk.2) (.int .i64 t392)) (fun _ hk => hk.2) (.bool t393)) (fun _ h_ => h_.1))) hb); have n3_ := qM (Vb (by (with_reducible repeat first | apply VA | apply VN | apply VD); exact (Vm (Vf (p := ⟨g395, 3, none⟩) (Vf (p := ⟨g395, 2, none⟩) (Vf (p := ⟨g395, 1, none⟩) (Vf (p := ⟨g395, 0, none⟩) (Vm HO391.out (fun k_ hk => (⟨hk, hk.2⟩ : _ ∧ k_ ≠ g395))) (fun _ hk => hk.2) (.slice Ao27 t386.length co27)) (fun _ hk => hk.2) (.slice Ao31 t389.length co31)) (fun _ hk => hk.2) (.int .i64 t392)) (fun _ hk => hk.2) (.bool t393)) (fun _ h_ => h_.1))) hb); have n4_ := qM (qB (g := g368) (o := .cells #[.slice A0_0 l0_0.length c0_0, .slice A0_1 l0_1.length c0_1, .int .i64 a0_2, .bool a0_3] 37 (0, 0)) (by (with_reducible repeat first | refine qN ?_ _ | refine qD ?_ | refine qA ?_ _); (iterate 4 (refine qR ?_ NB368_395.out _; (with_reducible repeat first | refine qN ?_ _ | refine qD ?_ | refine qA ?_ _))); exact B368.out) hb); have n5_ := qM (qB (g := g382) (o := .cells #[.slice Ao19 t373.length co19, .slice Ao22 t376.length co22, .int .i64 t379, .bool t380] 37 (0, 0)) (by (with_reducible repeat first | refine qN ?_ _ | refine qD ?_ | refine qA ?_ _); (iterate 4 (refine qR ?_ NB382_395.out _; (with_reducible repeat first | refine qN ?_ _ | refine qD ?_ | refine qA ?_ _))); exact B382.out) hb); have n6_ := qM (qB (g := g395) (by (with_reducible repeat first | refine qN ?_ _ | refine qD ?_ | refine qA ?_ _); apply puts4; (with_reducible repeat first | refine qN ?_ _ | refine qD ?_ | refine qA ?_ _); exact B395.out) hb); have n7_ := qM (eT (by repeat (first | (with_reducible first | exact HB.out | apply eA | apply eN | apply eD | refine eS ?_ GE368.out | refine eS ?_ GE382.out | refine eS ?_ GE395.out) | exact HB.out)) hb); clear HO375; clear HO378; clear HO388; clear HO391; clear B368; clear B382; clear B395; clear HB; have HO375 := n0_; have HO378 := n1_; have HO388 := n2_; have HO391 := n3_; have B368 := n4_; have B382 := n5_; have B395 := n6_; have HB := n7_; clear n0_ n1_ n2_ n3_ n4_ n5_ n6_ n7_; (try clear hb); (try clear hb2); (try clear hk); (try clear hi)))
  (try simp only [Act.put, List.setIfInBounds_toArray, List.set_cons_zero, List.set_cons_succ])
  go_cut [6] (fun v6 wc => ∃ (kq : Nat) (x6_10 : Bool), v6 = .bool x6_10 ∧ Aside0 (hogsheadlaw09_CellReads.j0 kq x6_10 = some r) ∧ Aside0 (kq ≤ k) ∧ Aside0 (Kd.V Kd.string 9 wc w.heap.size (fun k_ => k_ ≠ g368 ∧ k_ ≠ g382 ∧ k_ ≠ g395) (.slice Ao19 t373.length co19) t373) ∧ Aside0 (Kd.V k77 77 wc w.heap.size (fun k_ => k_ ≠ g368 ∧ k_ ≠ g382 ∧ k_ ≠ g395) (.slice Ao22 t376.length co22) t376) ∧ Aside0 (Kd.V Kd.string 9 wc w.heap.size (fun k_ => k_ ≠ g368 ∧ k_ ≠ g382 ∧ k_ ≠ g395) (.slice Ao27 t386.length co27) t386) ∧ Aside0 (Kd.V k77 77 wc w.heap.size (fun k_ => k_ ≠ g368 ∧ k_ ≠ g382 ∧ k_ ≠ g395) (.slice Ao31 t389.length co31) t389) ∧ Aside0 (wc.heap[g368]? = some (.cells #[(.slice A0_0 l0_0.length c0_0), (.slice A0_1 l0_1.length c0_1), .int .i64 a0_2, .bool a0_3] 37 (0, 0))) ∧ Aside0 (wc.heap[g382]? = some (.cells #[(.slice Ao19 t373.length co19), (.slice Ao22 t376.length co22), .int .i64 t379, .bool t380] 37 (0, 0))) ∧ Aside0 (wc.heap[g395]? = some (.cells #[(.slice Ao27 t386.length co27), (.slice Ao31 t389.length co31), .int .i64 t392, .bool t393] 37 (0, 0))) ∧ Aside0 (Below w.heap.size w wc))
  case first =>
   have H := HC11.out
   clear HC11
   by_cases c33 : t369 = true
   ·subst c33
    have H1 : (if t383.toList = a2.toList then (if t385 = 0 then (if t394 = 0 then (if t396.toList = a2.toList then (if t398 = 0 then (if t384 = t397 then (if t372 = 0 then (hogsheadlaw09_CellReads.j0 k (t384 == (IntKind.u64.wrap (t371 + 1)))) else (hogsheadlaw09_CellReads.j0 k true)) else (hogsheadlaw09_CellReads.j0 k false)) else (hogsheadlaw09_CellReads.j0 k false)) else (hogsheadlaw09_CellReads.j0 k false)) else (hogsheadlaw09_CellReads.j0 k false)) else (hogsheadlaw09_CellReads.j0 k false)) else (hogsheadlaw09_CellReads.j0 k false)) = some r := by rw [if_pos rfl] at H; exact H
    clear H
    have H := H1
    clear H1
    by_cases c34 : t383.toList = a2.toList
    ·rw [if_pos c34] at H
     have c34b0 : (t383.toList == a2.toList) = true := beq_iff_eq.mpr c34
     have c34b1 : (t383.toList != a2.toList) = false := bne_eq_false_iff_eq.mpr c34
     clear c34
     (first | rw [c34b0] | (simp only [i64_w, i32_w]; rw [c34b0]) | skip)
     by_cases c35 : t385 = 0
     ·rw [if_pos c35] at H
      have c35b0 : (t385 == 0) = true := beq_iff_eq.mpr c35
      have c35b1 : (t385 != 0) = false := bne_eq_false_iff_eq.mpr c35
      clear c35
      by_cases c36 : t394 = 0
      ·rw [if_pos c36] at H
       have c36b0 : (t394 == 0) = true := beq_iff_eq.mpr c36
       have c36b1 : (t394 != 0) = false := bne_eq_false_iff_eq.mpr c36
       clear c36
       by_cases c37 : t396.toList = a2.toList
       ·rw [if_pos c37] at H
        have c37b0 : (t396.toList == a2.toList) = true := beq_iff_eq.mpr c37
        have c37b1 : (t396.toList != a2.toList) = false := bne_eq_false_iff_eq.mpr c37
        clear c37
        by_cases c38 : t398 = 0
        ·rw [if_pos c38] at H
         have c38b0 : (t398 == 0) = true := beq_iff_eq.mpr c38
         have c38b1 : (t398 != 0) = false := bne_eq_false_iff_eq.mpr c38
         clear c38
         by_cases c39 : t384 = t397
         ·rw [if_pos c39] at H
          have c39b0 : (t384 == t397) = true := beq_iff_eq.mpr c39
          have c39b1 : (t384 != t397) = false := bne_eq_false_iff_eq.mpr c39
          clear c39
          by_cases c40 : t372 = 0
          ·rw [if_pos c40] at H
           have c40b0 : (t372 == 0) = true := beq_iff_eq.mpr c40
           have c40b1 : (t372 != 0) = false := bne_eq_false_iff_eq.mpr c40
           clear c40
           have H' := qM H
           clear H
           go_wp2
           go_meet
           case rel => exact ⟨_, ((t384 == (IntKind.u64.wrap (t371 + 1)))), (by first | rfl | (simp; done) | (simp [*]; done)), H', ⟨by first | omega | exact Nat.le_refl _⟩, ⟨by (with_reducible repeat first | apply VA | apply VN | apply VD); exact Vm HO375.out (fun _ hk => ⟨hk.1.1, ⟨hk.1.2, hk.2⟩⟩)⟩, ⟨by (with_reducible repeat first | apply VA | apply VN | apply VD); exact Vm HO378.out (fun _ hk => ⟨hk.1.1, ⟨hk.1.2, hk.2⟩⟩)⟩, ⟨by (with_reducible repeat first | apply VA | apply VN | apply VD); exact Vm HO388.out (fun _ hk => ⟨hk.1.1, ⟨hk.1.2, hk.2⟩⟩)⟩, ⟨by (with_reducible repeat first | apply VA | apply VN | apply VD); exact Vm HO391.out (fun _ hk => ⟨hk.1.1, ⟨hk.1.2, hk.2⟩⟩)⟩, ⟨by (with_reducible repeat first | refine qN ?_ _ | refine qD ?_ | refine qA ?_ _); exact B368.out⟩, ⟨by (with_reducible repeat first | refine qN ?_ _ | refine qD ?_ | refine qA ?_ _); exact B382.out⟩, ⟨by (with_reducible repeat first | refine qN ?_ _ | refine qD ?_ | refine qA ?_ _); exact B395.out⟩, ⟨by repeat (first | (with_reducible first | exact HB.out | apply eA | apply eN | apply eD | refine eS ?_ GE368.out | refine eS ?_ GE382.out | refine eS ?_ GE395.out) | exact HB.out)⟩⟩
          ·rw [if_neg c40] at H
           have c40b0 : (t372 == 0) = false := beq_eq_false_iff_ne.mpr c40
           have c40b1 : (t372 != 0) = true := bne_iff_ne.mpr c40
           have H' := qM H
           clear H
           go_wp2
           go_meet
           case rel => exact ⟨_, (true), (by first | rfl | (simp; done) | (simp [*]; done)), H', ⟨by first | omega | exact Nat.le_refl _⟩, ⟨by (with_reducible repeat first | apply VA | apply VN | apply VD); exact Vm HO375.out (fun _ hk => ⟨hk.1.1, ⟨hk.1.2, hk.2⟩⟩)⟩, ⟨by (with_reducible repeat first | apply VA | apply VN | apply VD); exact Vm HO378.out (fun _ hk => ⟨hk.1.1, ⟨hk.1.2, hk.2⟩⟩)⟩, ⟨by (with_reducible repeat first | apply VA | apply VN | apply VD); exact Vm HO388.out (fun _ hk => ⟨hk.1.1, ⟨hk.1.2, hk.2⟩⟩)⟩, ⟨by (with_reducible repeat first | apply VA | apply VN | apply VD); exact Vm HO391.out (fun _ hk => ⟨hk.1.1, ⟨hk.1.2, hk.2⟩⟩)⟩, ⟨by (with_reducible repeat first | refine qN ?_ _ | refine qD ?_ | refine qA ?_ _); exact B368.out⟩, ⟨by (with_reducible repeat first | refine qN ?_ _ | refine qD ?_ | refine qA ?_ _); exact B382.out⟩, ⟨by (with_reducible repeat first | refine qN ?_ _ | refine qD ?_ | refine qA ?_ _); exact B395.out⟩, ⟨by repeat (first | (with_reducible first | exact HB.out | apply eA | apply eN | apply eD | refine eS ?_ GE368.out | refine eS ?_ GE382.out | refine eS ?_ GE395.out) | exact HB.out)⟩⟩
         ·rw [if_neg c39] at H
          have c39b0 : (t384 == t397) = false := beq_eq_false_iff_ne.mpr c39
          have c39b1 : (t384 != t397) = true := bne_iff_ne.mpr c39
          have H' := qM H
          clear H
          go_wp2
          go_meet
          case rel => exact ⟨_, (false), (by first | rfl | (simp; done) | (simp [*]; done)), H', ⟨by first | omega | exact Nat.le_refl _⟩, ⟨by (with_reducible repeat first | apply VA | apply VN | apply VD); exact Vm HO375.out (fun _ hk => ⟨hk.1.1, ⟨hk.1.2, hk.2⟩⟩)⟩, ⟨by (with_reducible repeat first | apply VA | apply VN | apply VD); exact Vm HO378.out (fun _ hk => ⟨hk.1.1, ⟨hk.1.2, hk.2⟩⟩)⟩, ⟨by (with_reducible repeat first | apply VA | apply VN | apply VD); exact Vm HO388.out (fun _ hk => ⟨hk.1.1, ⟨hk.1.2, hk.2⟩⟩)⟩, ⟨by (with_reducible repeat first | apply VA | apply VN | apply VD); exact Vm HO391.out (fun _ hk => ⟨hk.1.1, ⟨hk.1.2, hk.2⟩⟩)⟩, ⟨by (with_reducible repeat first | refine qN ?_ _ | refine qD ?_ | refine qA ?_ _); exact B368.out⟩, ⟨by (with_reducible repeat first | refine qN ?_ _ | refine qD ?_ | refine qA ?_ _); exact B382.out⟩, ⟨by (with_reducible repeat first | refine qN ?_ _ | refine qD ?_ | refine qA ?_ _); exact B395.out⟩, ⟨by repeat (first | (with_reducible first | exact HB.out | apply eA | apply eN | apply eD | refine eS ?_ GE368.out | refine eS ?_ GE382.out | refine eS ?_ GE395.out) | exact HB.out)⟩⟩
        ·rw [if_neg c38] at H
         have c38b0 : (t398 == 0) = false := beq_eq_false_iff_ne.mpr c38
         have c38b1 : (t398 != 0) = true := bne_iff_ne.mpr c38
         have H' := qM H
         clear H
         go_wp2
         go_meet
         case rel => exact ⟨_, (false), (by first | rfl | (simp; done) | (simp [*]; done)), H', ⟨by first | omega | exact Nat.le_refl _⟩, ⟨by (with_reducible repeat first | apply VA | apply VN | apply VD); exact Vm HO375.out (fun _ hk => ⟨hk.1.1, ⟨hk.1.2, hk.2⟩⟩)⟩, ⟨by (with_reducible repeat first | apply VA | apply VN | apply VD); exact Vm HO378.out (fun _ hk => ⟨hk.1.1, ⟨hk.1.2, hk.2⟩⟩)⟩, ⟨by (with_reducible repeat first | apply VA | apply VN | apply VD); exact Vm HO388.out (fun _ hk => ⟨hk.1.1, ⟨hk.1.2, hk.2⟩⟩)⟩, ⟨by (with_reducible repeat first | apply VA | apply VN | apply VD); exact Vm HO391.out (fun _ hk => ⟨hk.1.1, ⟨hk.1.2, hk.2⟩⟩)⟩, ⟨by (with_reducible repeat first | refine qN ?_ _ | refine qD ?_ | refine qA ?_ _); exact B368.out⟩, ⟨by (with_reducible repeat first | refine qN ?_ _ | refine qD ?_ | refine qA ?_ _); exact B382.out⟩, ⟨by (with_reducible repeat first | refine qN ?_ _ | refine qD ?_ | refine qA ?_ _); exact B395.out⟩, ⟨by repeat (first | (with_reducible first | exact HB.out | apply eA | apply eN | apply eD | refine eS ?_ GE368.out | refine eS ?_ GE382.out | refine eS ?_ GE395.out) | exact HB.out)⟩⟩
       ·rw [if_neg c37] at H
        have c37b0 : (t396.toList == a2.toList) = false := beq_eq_false_iff_ne.mpr c37
        have c37b1 : (t396.toList != a2.toList) = true := bne_iff_ne.mpr c37
        have H' := qM H
        clear H
        go_wp2
        go_meet
        case rel => exact ⟨_, (false), (by first | rfl | (simp; done) | (simp [*]; done)), H', ⟨by first | omega | exact Nat.le_refl _⟩, ⟨by (with_reducible repeat first | apply VA | apply VN | apply VD); exact Vm HO375.out (fun _ hk => ⟨hk.1.1, ⟨hk.1.2, hk.2⟩⟩)⟩, ⟨by (with_reducible repeat first | apply VA | apply VN | apply VD); exact Vm HO378.out (fun _ hk => ⟨hk.1.1, ⟨hk.1.2, hk.2⟩⟩)⟩, ⟨by (with_reducible repeat first | apply VA | apply VN | apply VD); exact Vm HO388.out (fun _ hk => ⟨hk.1.1, ⟨hk.1.2, hk.2⟩⟩)⟩, ⟨by (with_reducible repeat first | apply VA | apply VN | apply VD); exact Vm HO391.out (fun _ hk => ⟨hk.1.1, ⟨hk.1.2, hk.2⟩⟩)⟩, ⟨by (with_reducible repeat first | refine qN ?_ _ | refine qD ?_ | refine qA ?_ _); exact B368.out⟩, ⟨by (with_reducible repeat first | refine qN ?_ _ | refine qD ?_ | refine qA ?_ _); exact B382.out⟩, ⟨by (with_reducible repeat first | refine qN ?_ _ | refine qD ?_ | refine qA ?_ _); exact B395.out⟩, ⟨by repeat (first | (with_reducible first | exact HB.out | apply eA | apply eN | apply eD | refine eS ?_ GE368.out | refine eS ?_ GE382.out | refine eS ?_ GE395.out) | exact HB.out)⟩⟩
      ·rw [if_neg c36] at H
       have c36b0 : (t394 == 0) = false := beq_eq_false_iff_ne.mpr c36
       have c36b1 : (t394 != 0) = true := bne_iff_ne.mpr c36
       have H' := qM H
       clear H
       go_wp2
       go_meet
       case rel => exact ⟨_, (false), (by first | rfl | (simp; done) | (simp [*]; done)), H', ⟨by first | omega | exact Nat.le_refl _⟩, ⟨by (with_reducible repeat first | apply VA | apply VN | apply VD); exact Vm HO375.out (fun _ hk => ⟨hk.1.1, ⟨hk.1.2, hk.2⟩⟩)⟩, ⟨by (with_reducible repeat first | apply VA | apply VN | apply VD); exact Vm HO378.out (fun _ hk => ⟨hk.1.1, ⟨hk.1.2, hk.2⟩⟩)⟩, ⟨by (with_reducible repeat first | apply VA | apply VN | apply VD); exact Vm HO388.out (fun _ hk => ⟨hk.1.1, ⟨hk.1.2, hk.2⟩⟩)⟩, ⟨by (with_reducible repeat first | apply VA | apply VN | apply VD); exact Vm HO391.out (fun _ hk => ⟨hk.1.1, ⟨hk.1.2, hk.2⟩⟩)⟩, ⟨by (with_reducible repeat first | refine qN ?_ _ | refine qD ?_ | refine qA ?_ _); exact B368.out⟩, ⟨by (with_reducible repeat first | refine qN ?_ _ | refine qD ?_ | refine qA ?_ _); exact B382.out⟩, ⟨by (with_reducible repeat first | refine qN ?_ _ | refine qD ?_ | refine qA ?_ _); exact B395.out⟩, ⟨by repeat (first | (with_reducible first | exact HB.out | apply eA | apply eN | apply eD | refine eS ?_ GE368.out | refine eS ?_ GE382.out | refine eS ?_ GE395.out) | exact HB.out)⟩⟩
     ·rw [if_neg c35] at H
      have c35b0 : (t385 == 0) = false := beq_eq_false_iff_ne.mpr c35
      have c35b1 : (t385 != 0) = true := bne_iff_ne.mpr c35
      have H' := qM H
      clear H
      go_wp2
      go_meet
      case rel => exact ⟨_, (false), (by first | rfl | (simp; done) | (simp [*]; done)), H', ⟨by first | omega | exact Nat.le_refl _⟩, ⟨by (with_reducible repeat first | apply VA | apply VN | apply VD); exact Vm HO375.out (fun _ hk => ⟨hk.1.1, ⟨hk.1.2, hk.2⟩⟩)⟩, ⟨by (with_reducible repeat first | apply VA | apply VN | apply VD); exact Vm HO378.out (fun _ hk => ⟨hk.1.1, ⟨hk.1.2, hk.2⟩⟩)⟩, ⟨by (with_reducible repeat first | apply VA | apply VN | apply VD); exact Vm HO388.out (fun _ hk => ⟨hk.1.1, ⟨hk.1.2, hk.2⟩⟩)⟩, ⟨by (with_reducible repeat first | apply VA | apply VN | apply VD); exact Vm HO391.out (fun _ hk => ⟨hk.1.1, ⟨hk.1.2, hk.2⟩⟩)⟩, ⟨by (with_reducible repeat first | refine qN ?_ _ | refine qD ?_ | refine qA ?_ _); exact B368.out⟩, ⟨by (with_reducible repeat first | refine qN ?_ _ | refine qD ?_ | refine qA ?_ _); exact B382.out⟩, ⟨by (with_reducible repeat first | refine qN ?_ _ | refine qD ?_ | refine qA ?_ _); exact B395.out⟩, ⟨by repeat (first | (with_reducible first | exact HB.out | apply eA | apply eN | apply eD | refine eS ?_ GE368.out | refine eS ?_ GE382.out | refine eS ?_ GE395.out) | exact HB.out)⟩⟩
    ·rw [if_neg c34] at H
     have c34b0 : (t383.toList == a2.toList) = false := beq_eq_false_iff_ne.mpr c34
     have c34b1 : (t383.toList != a2.toList) = true := bne_iff_ne.mpr c34
     (first | rw [c34b0] | (simp only [i64_w, i32_w]; rw [c34b0]) | skip)
     have H' := qM H
     clear H
     go_wp2
     go_meet
     case rel => exact ⟨_, (false), (by first | rfl | (simp; done) | (simp [*]; done)), H', ⟨by first | omega | exact Nat.le_refl _⟩, ⟨by (with_reducible repeat first | apply VA | apply VN | apply VD); exact Vm HO375.out (fun _ hk => ⟨hk.1.1, ⟨hk.1.2, hk.2⟩⟩)⟩, ⟨by (with_reducible repeat first | apply VA | apply VN | apply VD); exact Vm HO378.out (fun _ hk => ⟨hk.1.1, ⟨hk.1.2, hk.2⟩⟩)⟩, ⟨by (with_reducible repeat first | apply VA | apply VN | apply VD); exact Vm HO388.out (fun _ hk => ⟨hk.1.1, ⟨hk.1.2, hk.2⟩⟩)⟩, ⟨by (with_reducible repeat first | apply VA | apply VN | apply VD); exact Vm HO391.out (fun _ hk => ⟨hk.1.1, ⟨hk.1.2, hk.2⟩⟩)⟩, ⟨by (with_reducible repeat first | refine qN ?_ _ | refine qD ?_ | refine qA ?_ _); exact B368.out⟩, ⟨by (with_reducible repeat first | refine qN ?_ _ | refine qD ?_ | refine qA ?_ _); exact B382.out⟩, ⟨by (with_reducible repeat first | refine qN ?_ _ | refine qD ?_ | refine qA ?_ _); exact B395.out⟩, ⟨by repeat (first | (with_reducible first | exact HB.out | apply eA | apply eN | apply eD | refine eS ?_ GE368.out | refine eS ?_ GE382.out | refine eS ?_ GE395.out) | exact HB.out)⟩⟩
   ·replace c33 := Bool.eq_false_iff.mpr c33
    subst c33
    have H1 : (hogsheadlaw09_CellReads.j0 k false) = some r := by rw [if_neg (show ¬ (false = true) by decide)] at H; exact H
    clear H
    have H := H1
    clear H1
    have H' := qM H
    clear H
    go_wp2
    go_meet
    case rel => exact ⟨_, (false), (by first | rfl | (simp; done) | (simp [*]; done)), H', ⟨by first | omega | exact Nat.le_refl _⟩, ⟨by (with_reducible repeat first | apply VA | apply VN | apply VD); exact Vm HO375.out (fun _ hk => ⟨hk.1.1, ⟨hk.1.2, hk.2⟩⟩)⟩, ⟨by (with_reducible repeat first | apply VA | apply VN | apply VD); exact Vm HO378.out (fun _ hk => ⟨hk.1.1, ⟨hk.1.2, hk.2⟩⟩)⟩, ⟨by (with_reducible repeat first | apply VA | apply VN | apply VD); exact Vm HO388.out (fun _ hk => ⟨hk.1.1, ⟨hk.1.2, hk.2⟩⟩)⟩, ⟨by (with_reducible repeat first | apply VA | apply VN | apply VD); exact Vm HO391.out (fun _ hk => ⟨hk.1.1, ⟨hk.1.2, hk.2⟩⟩)⟩, ⟨by (with_reducible repeat first | refine qN ?_ _ | refine qD ?_ | refine qA ?_ _); exact B368.out⟩, ⟨by (with_reducible repeat first | refine qN ?_ _ | refine qD ?_ | refine qA ?_ _); exact B382.out⟩, ⟨by (with_reducible repeat first | refine qN ?_ _ | refine qD ?_ | refine qA ?_ _); exact B395.out⟩, ⟨by repeat (first | (with_reducible first | exact HB.out | apply eA | apply eN | apply eD | refine eS ?_ GE368.out | refine eS ?_ GE382.out | refine eS ?_ GE395.out) | exact HB.out)⟩⟩
  case rest =>
   clear HC11
   try clear c1
   try clear c2
   try clear p2
   try clear c3
   try clear c4
   try clear c5
   try clear c7
   try clear c7b0
   try clear c7b1
   try clear c10
   try clear c15
   try clear c17
   try clear c20
   try clear c28
   try clear c29
   try clear c33
   try clear c34
   try clear c34b0
   try clear c34b1
   try clear c35
   try clear c35b0
   try clear c35b1
   try clear c36
   try clear c36b0
   try clear c36b1
   try clear c37
   try clear c37b0
   try clear c37b1
   try clear c38
   try clear c38b0
   try clear c38b1
   try clear c39
   try clear c39b0
   try clear c39b1
   try clear c40
   try clear c40b0
   try clear c40b1
   try clear z14_0
   try clear z14_1
   try clear z14_2
   try clear z14_3
   try clear z16_0
   try clear z16_1
   try clear z16_2
   try clear z16_3
   try clear z21_0
   try clear z21_1
   try clear z21_2
   try clear z21_3
   try clear z24_0
   try clear z24_1
   try clear z24_2
   try clear z24_3
   try clear z30_0
   try clear z30_1
   try clear z30_2
   try clear z30_3
   try clear f14_0
   try clear f14_1
   try clear f14_2
   try clear f14_3
   try clear f16_0
   try clear f16_1
   try clear f16_2
   try clear f16_3
   try clear f21_0
   try clear f21_1
   try clear f21_2
   try clear f21_3
   try clear f24_0
   try clear f24_1
   try clear f24_2
   try clear f24_3
   try clear f30_0
   try clear f30_1
   try clear f30_2
   try clear f30_3
   obtain ⟨kq, x6_10, rfl, HA, HJ10, HO_383000, HO_383001, HO_396000, HO_396001, B368, B382, B395, HB⟩ := hcut
   cases kq with
   | zero => exact absurd HA.out (by simp [hogsheadlaw09_CellReads.j0])
   | succ kj10 =>
    have H := HA.out
    clear HA
    simp only [hogsheadlaw09_CellReads.j0] at H
    obtain rfl := Option.some.inj H
    go_wp2
    go_ret
    exact ⟨by first | rfl | (simp [errW_none, errW_some] <;> rfl) | (simp [*, errW_none, errW_some] <;> rfl), by repeat (first | (with_reducible first | exact HB.out | apply eA | apply eN | apply eD | refine eS ?_ GE368.out | refine eS ?_ GE382.out | refine eS ?_ GE395.out) | exact HB.out)⟩
 ·rw [if_neg c7] at H
  have c7b0 : (t381 == 0) = false := beq_eq_false_iff_ne.mpr c7
  have c7b1 : (t381 != 0) = true := bne_iff_ne.mpr c7
  obtain rfl := Option.some.inj H
  go_enter Try.func5, Try.ntmps5
  go_wp2_with (first | ((with_reducible refine gate_dst (N := 3) rfl ?_); refine box_event ?hg (N := 3) ?hd (cs := #[.slice A0_0 l0_0.length c0_0, .slice A0_1 l0_1.length c0_1, .int .i64 a0_2, .bool a0_3]) (t := 37) ?hr ?_; (case hd => rfl); (case hg => rfl); (case hr => first | (go_simp; done) | (go_simp; rfl)); intro g368 hg w41 hbox hb; have n0_ := qM (eT (by repeat (first | (with_reducible first | exact HB.out | apply eA | apply eN | apply eD) | exact HB.out)) hb); have n1_ := qM (hbox); have n2_ := qM ((by rw [hg]; exact (eZ (by repeat (first | (with_reducible first | exact HB.out | apply eA | apply eN | apply eD) | exact HB.out))) : w.heap.size ≤ g368)); have n3_ := n2_; clear HB; have HB := n0_; have B368 := n1_; have GW368 := n2_; have GE368 := n3_; clear n0_ n1_ n2_ n3_; clear hb hbox hg) | ((with_reducible refine gate_callee (f := 10) rfl ?_); refine goesL_ (some 21) rfl rfl Try.func10 (by kernel_rfl) rfl #[] rfl (by (try simp only [List.map_toArray, List.map_cons, List.map_nil]); first | done | rfl | (simp only [List.length_drop, List.length_take]; rfl)) ?_; (with_reducible refine (hogsheadlaw09_shown.calls k  t369 _ A4.out).mono ?_); rintro e w42 ⟨rfl, hb⟩; refine ⟨_, rfl, ?_⟩; have n0_ := qM (qB (g := g368) (by (with_reducible repeat first | refine qN ?_ _ | refine qD ?_ | refine qA ?_ _); exact B368.out) hb); have n1_ := qM (eT (by repeat (first | (with_reducible first | exact HB.out | apply eA | apply eN | apply eD | refine eS ?_ GE368.out) | exact HB.out)) hb); clear B368; clear HB; have B368 := n0_; have HB := n1_; clear n0_ n1_; (try clear hb); (try clear hb2); (try clear hk); (try clear hi); obtain ⟨z43_0, z43_1, z43_2, z43_3, f43_0, f43_1, f43_2, f43_3⟩ := cells4 B368.out) | ((with_reducible refine gate_callee (f := 15) rfl ?_); refine goesL_ (some 25) rfl rfl Try.func15 (by kernel_rfl) rfl #[.agg #[.slice A0_0 l0_0.length c0_0, .slice A0_1 l0_1.length c0_1, .int .i64 a0_2, .bool a0_3], .int .i64 a1] rfl (by (try simp only [List.map_toArray, List.map_cons, List.map_nil]); first | done | rfl | (simp only [List.length_drop, List.length_take]; rfl)) ?_; (with_reducible refine (cell_Read.calls k _ _ l0_0 _ _ l0_1 a0_2 a0_3 a1 t370 t371 t372 _ ?side1 ?side2 ?side3 ?side4 A5.out).mono ?_); (case side1 => repeat (first | exact (Kd.C_below HR0_0.out HB.out) | (with_reducible refine Kd.C_alloc ?_ _) | (with_reducible refine Kd.C_drewN ?_ _) | (with_reducible refine Kd.C_drew ?_))); (case side2 => exact HC0_0.out); (case side3 => repeat (first | exact (Kd.C_below HR0_1.out HB.out) | (with_reducible refine Kd.C_alloc ?_ _) | (with_reducible refine Kd.C_drewN ?_ _) | (with_reducible refine Kd.C_drew ?_))); (case side4 => exact HC0_1.out); rintro e w44 ⟨rfl, hb⟩; refine ⟨_, rfl, ?_⟩; have n0_ := qM (qB (g := g368) (by (with_reducible repeat first | refine qN ?_ _ | refine qD ?_ | refine qA ?_ _); exact B368.out) hb); have n1_ := qM (eT (by repeat (first | (with_reducible first | exact HB.out | apply eA | apply eN | apply eD | refine eS ?_ GE368.out) | exact HB.out)) hb); clear B368; clear HB; have B368 := n0_; have HB := n1_; clear n0_ n1_; (try clear hb); (try clear hb2); (try clear hk); (try clear hi); obtain ⟨z45_0, z45_1, z45_2, z45_3, f45_0, f45_1, f45_2, f45_3⟩ := cells4 B368.out) | ((with_reducible refine gate_callee (f := 17) rfl ?_); refine goesL_ (some 33) rfl rfl Try.func17 (by kernel_rfl) rfl #[.agg #[.slice A0_0 l0_0.length c0_0, .slice A0_1 l0_1.length c0_1, .int .i64 a0_2, .bool a0_3], .int .i64 a1, .string a2] rfl (by (try simp only [List.map_toArray, List.map_cons, List.map_nil]); first | done | rfl | (simp only [List.length_drop, List.length_take]; rfl)) ?_; (with_reducible refine (cell_Write.calls k (fun k_ => k_ < w.heap.size) _ _ l0_0 (fun k_ => k_ < w.heap.size) _ _ l0_1 a0_2 a0_3 a1 a2 t373 t376 t379 t380 t381 _ ?side1 ?side2 A6.out).mono ?_); (case side1 => exact Kd.V_mk HC0_0.out (Kd.F_below (Kd.C_F Kd.heap_string HR0_0.out) (by repeat (first | (with_reducible first | exact HB.out | apply eA | apply eN | apply eD | refine eS ?_ GE368.out) | exact HB.out)))); (case side2 => exact Kd.V_mk HC0_1.out (Kd.F_below (Kd.C_F k77_heap HR0_1.out) (by repeat (first | (with_reducible first | exact HB.out | apply eA | apply eN | apply eD | refine eS ?_ GE368.out) | exact HB.out)))); rintro e w46 ⟨v374, v377, rfl, ho0, ho1, hb⟩; refine ⟨_, rfl, ?_⟩; have n0_ := qM (Vl (Vm (ok' := fun k_ => k_ ≠ g368) ho0 (fun k_ hk_ => Or.elim hk_ (fun hs_ => Or.elim hs_ (fun hs_ => fun e_ => Nat.not_le.2 hs_ (by rw [e_]; exact GW368.out)) (fun hs_ => fun e_ => Nat.not_le.2 hs_ (by rw [e_]; exact GW368.out))) (fun hn_ => (Fb (g := g368) (by (with_reducible repeat first | refine qN ?_ _ | refine qD ?_ | refine qA ?_ _); exact B368.out) k_ hn_)))) (eZ (by repeat (first | (with_reducible first | exact HB.out | apply eA | apply eN | apply eD | refine eS ?_ GE368.out) | exact HB.out)))); have n1_ := qM (Vl (Vm (ok' := fun k_ => k_ ≠ g368) ho1 (fun k_ hk_ => Or.elim hk_ (fun hs_ => Or.elim hs_ (fun hs_ => fun e_ => Nat.not_le.2 hs_ (by rw [e_]; exact GW368.out)) (fun hs_ => fun e_ => Nat.not_le.2 hs_ (by rw [e_]; exact GW368.out))) (fun hn_ => (Fb (g := g368) (by (with_reducible repeat first | refine qN ?_ _ | refine qD ?_ | refine qA ?_ _); exact B368.out) k_ hn_)))) (eZ (by repeat (first | (with_reducible first | exact HB.out | apply eA | apply eN | apply eD | refine eS ?_ GE368.out) | exact HB.out)))); have n2_ := qM (qB (g := g368) (by (with_reducible repeat first | refine qN ?_ _ | refine qD ?_ | refine qA ?_ _); exact B368.out) hb); have n3_ := qM (eT (by repeat (first | (with_reducible first | exact HB.out | apply eA | apply eN | apply eD | refine eS ?_ GE368.out) | exact HB.out)) hb); clear B368; clear HB; have HO375 := n0_; have HO378 := n1_; have B368 := n2_; have HB := n3_; clear n0_ n1_ n2_ n3_; (try clear hb); (try clear hb2); (try clear hk); (try clear hi); (try clear ho0); (try clear ho1)) | ((with_reducible refine gate_dst (N := 11) rfl ?_); refine box_event ?hg (N := 11) ?hd (cs := #[.slice none 0 0, .slice none 0 0, .int .i64 0, .bool false]) (t := 37) ?hr ?_; (case hd => rfl); (case hg => rfl); (case hr => first | (go_simp; done) | (go_simp; rfl)); intro g382 hg w47 hbox hb; have n0_ := qM (Vb (Kd.V_elderB (by (with_reducible repeat first | apply VA | apply VN | apply VD); exact HO375.out) g382 (Nat.le_of_eq hg.symm)) hb); have n1_ := qM (Vb (Kd.V_elderB (by (with_reducible repeat first | apply VA | apply VN | apply VD); exact HO378.out) g382 (Nat.le_of_eq hg.symm)) hb); have n2_ := qM (qB (g := g368) (by (with_reducible repeat first | refine qN ?_ _ | refine qD ?_ | refine qA ?_ _); exact B368.out) hb); have n3_ := qM (eT (by repeat (first | (with_reducible first | exact HB.out | apply eA | apply eN | apply eD | refine eS ?_ GE368.out) | exact HB.out)) hb); have n4_ := qM (hbox); have n5_ := qM ((by rw [hg]; exact (eZ (by repeat (first | (with_reducible first | exact HB.out | apply eA | apply eN | apply eD | refine eS ?_ GE368.out) | exact HB.out))) : w.heap.size ≤ g382)); have n6_ := n5_; have n7_ := qM ((by rw [hg]; exact Nat.ne_of_lt (qL (g := g368) (by (with_reducible repeat first | refine qN ?_ _ | refine qD ?_ | refine qA ?_ _); exact B368.out)) : g368 ≠ g382)); have n8_ := qM (Ne.symm n7_.out); clear HO375; clear HO378; clear B368; clear HB; have HO375 := n0_; have HO378 := n1_; have B368 := n2_; have HB := n3_; have B382 := n4_; have GW382 := n5_; have GE382 := n6_; have NB368_382 := n7_; have NB382_368 := n8_; clear n0_ n1_ n2_ n3_ n4_ n5_ n6_ n7_ n8_; clear hb hbox hg; obtain ⟨Ao48, co48, eo48⟩ := Kd.V_slice HO375.out; subst eo48; have hnb49 := NB382_368.out; have hnc49 := NB368_382.out; obtain ⟨z50_0, z50_1, z50_2, z50_3, f50_0, f50_1, f50_2, f50_3⟩ := cells4 B382.out; obtain ⟨Ao51, co51, eo51⟩ := Kd.V_slice HO378.out; subst eo51))
  go_ret
  exact ⟨by first | rfl | (simp [errW_none, errW_some] <;> rfl) | (simp [*, errW_none, errW_some] <;> rfl), by repeat (first | (with_reducible first | exact HB.out | apply eA | apply eN | apply eD | refine eS ?_ GE368.out | refine eS ?_ GE382.out) | exact HB.out)⟩

end Go.Proofs.Ythnhfmmiaknhgaa.PAll
