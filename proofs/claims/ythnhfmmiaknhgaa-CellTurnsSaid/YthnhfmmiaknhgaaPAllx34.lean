/- Functions of the program as plain Lean functions, and that each call comes to what they say. Laid by a program of this session (hprint.py); Lean checks it. -/
import Derived.Test.YthnhfmmiaknhgaaPAllx0
import Derived.Test.YthnhfmmiaknhgaaPAllx9
import Derived.Test.YthnhfmmiaknhgaaPAllx11
import Derived.Test.YthnhfmmiaknhgaaPAllx13
import Derived.Test.YthnhfmmiaknhgaaPAllx15
import Derived.Test.YthnhfmmiaknhgaaPAllx16
namespace Go.Proofs.Ythnhfmmiaknhgaa.PAll
open Go.RowKit Go.Proofs.YthnhfmmiaknhgaaW.PrintWords Go.Proofs.YthnhfmmiaknhgaaW.PrintLast Go.Proofs.YthnhfmmiaknhgaaW.PrintMore
attribute [local go_sem] max2_int min2_int max_two min_two max_three min_three max_four min_four   -- for this text's walks alone
set_option linter.unusedVariables false
set_option linter.unusedSimpArgs false

/-! ### hogsheadlaw09_CellTurns: function 9 -/
mutual
def hogsheadlaw09_CellTurns.j0 : Nat → Int → List ByteArray → Bool → Bool → List ByteArray → List (S77) → Int → Bool → Option (Bool)
 | 0, _, _, _, _, _, _, _, _ => none
 | k + 1, x1, x2, x7, x35, x481000, x481001, x481002, x481003 => if x35 = true then (some x7) else (hogsheadlaw09_CellTurns.l0 k x1 x2 x7 0 x481000 x481001 x481002 x481003)
def hogsheadlaw09_CellTurns.l0 : Nat → Int → List ByteArray → Bool → Int → List ByteArray → List (S77) → Int → Bool → Option (Bool)
 | 0, _, _, _, _, _, _, _, _ => none
 | k + 1, x1, x2, x7, x10, x481000, x481001, x481002, x481003 => if x10 < (x2.length : Int) then (hogsheadlaw09_CellTurns.j2 k x1 x2 x7 x10 (decide (x10 < 50)) x481000 x481001 x481002 x481003) else (hogsheadlaw09_CellTurns.j2 k x1 x2 x7 x10 false x481000 x481001 x481002 x481003)
def hogsheadlaw09_CellTurns.j2 : Nat → Int → List ByteArray → Bool → Int → Bool → List ByteArray → List (S77) → Int → Bool → Option (Bool)
 | 0, _, _, _, _, _, _, _, _, _ => none
 | k + 1, x1, x2, x7, x10, x44, x481000, x481001, x481002, x481003 => if x44 = true then (if 0 ≤ x10 then (if x10 < (x2.length : Int) then (if ((rdOf ByteArray.empty x2 x10).size : Int) > 1000 then (some x7) else ((cell_Write.f k x481000 x481001 x481002 x481003 x1 (rdOf ByteArray.empty x2 x10)).bind fun bt483 => ((hogsheadref08_Flush.f k bt483.1 bt483.2.1 bt483.2.2.1 bt483.2.2.2.1).bind fun bt493 => ((cell_Read.f k bt493.1 bt493.2.1 bt493.2.2.1 bt493.2.2.2.1 x1).bind fun bt503 => (if bt483.2.2.2.2 = 0 then (if bt493.2.2.2.2 = 0 then (if bt503.2.2 = 0 then (if bt503.1.toList = (rdOf ByteArray.empty x2 x10).toList then (hogsheadlaw09_CellTurns.j3 k x1 x2 x7 x10 (bt503.2.1 != (IntKind.u64.wrap ((IntKind.u64.wrap (x10)) + 1))) bt493.1 bt493.2.1 bt493.2.2.1 bt493.2.2.2.1) else (hogsheadlaw09_CellTurns.j3 k x1 x2 x7 x10 true bt493.1 bt493.2.1 bt493.2.2.1 bt493.2.2.2.1)) else (hogsheadlaw09_CellTurns.j3 k x1 x2 x7 x10 true bt493.1 bt493.2.1 bt493.2.2.1 bt493.2.2.2.1)) else (hogsheadlaw09_CellTurns.j3 k x1 x2 x7 x10 true bt493.1 bt493.2.1 bt493.2.2.1 bt493.2.2.2.1)) else (hogsheadlaw09_CellTurns.j3 k x1 x2 x7 x10 true bt493.1 bt493.2.1 bt493.2.2.1 bt493.2.2.2.1)))))) else (none)) else (none)) else (some x7)
def hogsheadlaw09_CellTurns.j3 : Nat → Int → List ByteArray → Bool → Int → Bool → List ByteArray → List (S77) → Int → Bool → Option (Bool)
 | 0, _, _, _, _, _, _, _, _, _ => none
 | k + 1, x1, x2, x7, x10, x101, x481000, x481001, x481002, x481003 => if x101 = true then (some false) else (hogsheadlaw09_CellTurns.l0 k x1 x2 x7 (wrap64 (x10 + 1)) x481000 x481001 x481002 x481003)
end
def hogsheadlaw09_CellTurns.f (k : Nat) (a0 : Int) (a1 : Int) (l2 : List ByteArray) : Option (Bool) := (hogsheadlaw09_shown.f k).bind fun t470 => ((hogsheadref08_New.f a0).bind fun bt471 => (if bt471.2.2.2.2 = 0 then (if a1 < 0 then (hogsheadlaw09_CellTurns.j0 k a1 l2 t470 true bt471.1 bt471.2.1 bt471.2.2.1 bt471.2.2.2.1) else (hogsheadlaw09_CellTurns.j0 k a1 l2 t470 (decide (a1 > (wrap64 (a0 - 2)))) bt471.1 bt471.2.1 bt471.2.2.1 bt471.2.2.2.1)) else (hogsheadlaw09_CellTurns.j0 k a1 l2 t470 true bt471.1 bt471.2.1 bt471.2.2.1 bt471.2.2.2.1)))
theorem hogsheadlaw09_CellTurns.mono_l : ∀ k, (∀ y0 y1 y2 y3 y4 y5 y6 y7, LeO (hogsheadlaw09_CellTurns.j0 k y0 y1 y2 y3 y4 y5 y6 y7) (hogsheadlaw09_CellTurns.j0 (k + 1) y0 y1 y2 y3 y4 y5 y6 y7)) ∧ (∀ y0 y1 y2 y3 y4 y5 y6 y7, LeO (hogsheadlaw09_CellTurns.l0 k y0 y1 y2 y3 y4 y5 y6 y7) (hogsheadlaw09_CellTurns.l0 (k + 1) y0 y1 y2 y3 y4 y5 y6 y7)) ∧ (∀ y0 y1 y2 y3 y4 y5 y6 y7 y8, LeO (hogsheadlaw09_CellTurns.j2 k y0 y1 y2 y3 y4 y5 y6 y7 y8) (hogsheadlaw09_CellTurns.j2 (k + 1) y0 y1 y2 y3 y4 y5 y6 y7 y8)) ∧ (∀ y0 y1 y2 y3 y4 y5 y6 y7 y8, LeO (hogsheadlaw09_CellTurns.j3 k y0 y1 y2 y3 y4 y5 y6 y7 y8) (hogsheadlaw09_CellTurns.j3 (k + 1) y0 y1 y2 y3 y4 y5 y6 y7 y8))
 | 0 => ⟨fun _ _ _ _ _ _ _ _ r h => by simp [hogsheadlaw09_CellTurns.j0] at h, fun _ _ _ _ _ _ _ _ r h => by simp [hogsheadlaw09_CellTurns.l0] at h, fun _ _ _ _ _ _ _ _ _ r h => by simp [hogsheadlaw09_CellTurns.j2] at h, fun _ _ _ _ _ _ _ _ _ r h => by simp [hogsheadlaw09_CellTurns.j3] at h⟩
 | k + 1 => by
  obtain ⟨ih0, ih1, ih2, ih3⟩ := hogsheadlaw09_CellTurns.mono_l k
  refine ⟨?_, ?_, ?_, ?_⟩
  ·intro y0 y1 y2 y3 y4 y5 y6 y7
   unfold hogsheadlaw09_CellTurns.j0
   repeat' first
   | (with_reducible exact ih0 _ _ _ _ _ _ _ _)
   | (with_reducible exact ih1 _ _ _ _ _ _ _ _)
   | (with_reducible exact ih2 _ _ _ _ _ _ _ _ _)
   | (with_reducible exact ih3 _ _ _ _ _ _ _ _ _)
   | (with_reducible exact cell_Read.mono _ _ _ _ _ _)
   | (with_reducible exact cell_Write.mono _ _ _ _ _ _ _)
   | (with_reducible exact hogsheadlaw09_shown.mono _)
   | (with_reducible exact hogsheadref08_Flush.mono _ _ _ _ _)
   | (with_reducible exact LeO.refl _)
   | (with_reducible exact LeO.none _)
   | (with_reducible refine LeO.ite ?_ ?_)
   | (with_reducible refine LeO.bind ?_ (fun _ => ?_))
   | exact ih0 _ _ _ _ _ _ _ _
   | exact ih1 _ _ _ _ _ _ _ _
   | exact ih2 _ _ _ _ _ _ _ _ _
   | exact ih3 _ _ _ _ _ _ _ _ _
   | exact cell_Read.mono _ _ _ _ _ _
   | exact cell_Write.mono _ _ _ _ _ _ _
   | exact hogsheadlaw09_shown.mono _
   | exact hogsheadref08_Flush.mono _ _ _ _ _
   | exact LeO.none _
   | refine LeO.ite ?_ ?_
   | refine LeO.bind ?_ (fun _ => ?_)
  ·intro y0 y1 y2 y3 y4 y5 y6 y7
   unfold hogsheadlaw09_CellTurns.l0
   repeat' first
   | (with_reducible exact ih0 _ _ _ _ _ _ _ _)
   | (with_reducible exact ih1 _ _ _ _ _ _ _ _)
   | (with_reducible exact ih2 _ _ _ _ _ _ _ _ _)
   | (with_reducible exact ih3 _ _ _ _ _ _ _ _ _)
   | (with_reducible exact cell_Read.mono _ _ _ _ _ _)
   | (with_reducible exact cell_Write.mono _ _ _ _ _ _ _)
   | (with_reducible exact hogsheadlaw09_shown.mono _)
   | (with_reducible exact hogsheadref08_Flush.mono _ _ _ _ _)
   | (with_reducible exact LeO.refl _)
   | (with_reducible exact LeO.none _)
   | (with_reducible refine LeO.ite ?_ ?_)
   | (with_reducible refine LeO.bind ?_ (fun _ => ?_))
   | exact ih0 _ _ _ _ _ _ _ _
   | exact ih1 _ _ _ _ _ _ _ _
   | exact ih2 _ _ _ _ _ _ _ _ _
   | exact ih3 _ _ _ _ _ _ _ _ _
   | exact cell_Read.mono _ _ _ _ _ _
   | exact cell_Write.mono _ _ _ _ _ _ _
   | exact hogsheadlaw09_shown.mono _
   | exact hogsheadref08_Flush.mono _ _ _ _ _
   | exact LeO.none _
   | refine LeO.ite ?_ ?_
   | refine LeO.bind ?_ (fun _ => ?_)
  ·intro y0 y1 y2 y3 y4 y5 y6 y7 y8
   unfold hogsheadlaw09_CellTurns.j2
   repeat' first
   | (with_reducible exact ih0 _ _ _ _ _ _ _ _)
   | (with_reducible exact ih1 _ _ _ _ _ _ _ _)
   | (with_reducible exact ih2 _ _ _ _ _ _ _ _ _)
   | (with_reducible exact ih3 _ _ _ _ _ _ _ _ _)
   | (with_reducible exact cell_Read.mono _ _ _ _ _ _)
   | (with_reducible exact cell_Write.mono _ _ _ _ _ _ _)
   | (with_reducible exact hogsheadlaw09_shown.mono _)
   | (with_reducible exact hogsheadref08_Flush.mono _ _ _ _ _)
   | (with_reducible exact LeO.refl _)
   | (with_reducible exact LeO.none _)
   | (with_reducible refine LeO.ite ?_ ?_)
   | (with_reducible refine LeO.bind ?_ (fun _ => ?_))
   | exact ih0 _ _ _ _ _ _ _ _
   | exact ih1 _ _ _ _ _ _ _ _
   | exact ih2 _ _ _ _ _ _ _ _ _
   | exact ih3 _ _ _ _ _ _ _ _ _
   | exact cell_Read.mono _ _ _ _ _ _
   | exact cell_Write.mono _ _ _ _ _ _ _
   | exact hogsheadlaw09_shown.mono _
   | exact hogsheadref08_Flush.mono _ _ _ _ _
   | exact LeO.none _
   | refine LeO.ite ?_ ?_
   | refine LeO.bind ?_ (fun _ => ?_)
  ·intro y0 y1 y2 y3 y4 y5 y6 y7 y8
   unfold hogsheadlaw09_CellTurns.j3
   repeat' first
   | (with_reducible exact ih0 _ _ _ _ _ _ _ _)
   | (with_reducible exact ih1 _ _ _ _ _ _ _ _)
   | (with_reducible exact ih2 _ _ _ _ _ _ _ _ _)
   | (with_reducible exact ih3 _ _ _ _ _ _ _ _ _)
   | (with_reducible exact cell_Read.mono _ _ _ _ _ _)
   | (with_reducible exact cell_Write.mono _ _ _ _ _ _ _)
   | (with_reducible exact hogsheadlaw09_shown.mono _)
   | (with_reducible exact hogsheadref08_Flush.mono _ _ _ _ _)
   | (with_reducible exact LeO.refl _)
   | (with_reducible exact LeO.none _)
   | (with_reducible refine LeO.ite ?_ ?_)
   | (with_reducible refine LeO.bind ?_ (fun _ => ?_))
   | exact ih0 _ _ _ _ _ _ _ _
   | exact ih1 _ _ _ _ _ _ _ _
   | exact ih2 _ _ _ _ _ _ _ _ _
   | exact ih3 _ _ _ _ _ _ _ _ _
   | exact cell_Read.mono _ _ _ _ _ _
   | exact cell_Write.mono _ _ _ _ _ _ _
   | exact hogsheadlaw09_shown.mono _
   | exact hogsheadref08_Flush.mono _ _ _ _ _
   | exact LeO.none _
   | refine LeO.ite ?_ ?_
   | refine LeO.bind ?_ (fun _ => ?_)
theorem hogsheadlaw09_CellTurns.mono : ∀ a0 a1 a2 k, LeO (hogsheadlaw09_CellTurns.f k a0 a1 a2) (hogsheadlaw09_CellTurns.f (k + 1) a0 a1 a2) := by
 intro a0 a1 a2 k
 obtain ⟨ih0, ih1, ih2, ih3⟩ := hogsheadlaw09_CellTurns.mono_l k
 unfold hogsheadlaw09_CellTurns.f
 repeat' first
   | (with_reducible exact ih0 _ _ _ _ _ _ _ _)
   | (with_reducible exact ih1 _ _ _ _ _ _ _ _)
   | (with_reducible exact ih2 _ _ _ _ _ _ _ _ _)
   | (with_reducible exact ih3 _ _ _ _ _ _ _ _ _)
   | (with_reducible exact cell_Read.mono _ _ _ _ _ _)
   | (with_reducible exact cell_Write.mono _ _ _ _ _ _ _)
   | (with_reducible exact hogsheadlaw09_shown.mono _)
   | (with_reducible exact hogsheadref08_Flush.mono _ _ _ _ _)
   | (with_reducible exact LeO.refl _)
   | (with_reducible exact LeO.none _)
   | (with_reducible refine LeO.ite ?_ ?_)
   | (with_reducible refine LeO.bind ?_ (fun _ => ?_))
   | exact ih0 _ _ _ _ _ _ _ _
   | exact ih1 _ _ _ _ _ _ _ _
   | exact ih2 _ _ _ _ _ _ _ _ _
   | exact ih3 _ _ _ _ _ _ _ _ _
   | exact cell_Read.mono _ _ _ _ _ _
   | exact cell_Write.mono _ _ _ _ _ _ _
   | exact hogsheadlaw09_shown.mono _
   | exact hogsheadref08_Flush.mono _ _ _ _ _
   | exact LeO.none _
   | refine LeO.ite ?_ ?_
   | refine LeO.bind ?_ (fun _ => ?_)
def hogsheadlaw09_CellTurns.T10 : Bool × List (List Nat × List Nat) := (true, [([], []), ([], []), ([], []), ([], []), ([2, 3], [2, 3]), ([4], [4]), ([0, 1, 5], [0, 1, 5]), ([6], [6]), ([7], [7]), ([7], [7]), ([], []), ([10, 8, 6, 0, 1, 2, 3, 4, 5, 6, 7, 8, 10], [8, 10]), ([9, 11, 0, 1, 2, 3, 4, 5, 6, 7, 8, 9, 10, 11], [9])])
def hogsheadlaw09_CellTurns.B10 : List Nat := [0, 0, 0, 0, 12, 28, 63, 127, 255, 255, 0, 1535, 4095]
theorem hogsheadlaw09_CellTurns.tab10 : rtab .any (opsOf Try.f9 10) = hogsheadlaw09_CellTurns.T10 := by kernel_rfl
theorem hogsheadlaw09_CellTurns.bits10 : waitsOk hogsheadlaw09_CellTurns.T10.2 hogsheadlaw09_CellTurns.B10 = true := by kernel_rfl
set_option maxHeartbeats 40000000 in
set_option maxRecDepth 100000 in
theorem hogsheadlaw09_CellTurns.calls (k : Nat) (a0 : Int) (a1 : Int) (A2 : Option Addr) (c2 : Nat) (l2 : List ByteArray) (r : Bool) (w : World) (hr2 : Kd.C Kd.string w A2 l2.length l2) (hc2 : l2.length ≤ c2) (h : hogsheadlaw09_CellTurns.f k a0 a1 l2 = some r) :
  Calls Try.prog 9 #[.int .i64 a0, .int .i64 a1, .slice A2 l2.length c2] w fun e w' => e = .returned (.bool r) ∧ Below w.heap.size w w' := by
 have hu37 := Try.underlying37
 have HR2 := qM hr2
 have HC2 := qM hc2
 clear hr2 hc2
 have HB := qM (Below.refl w.heap.size w)
 have H : ((hogsheadlaw09_shown.f k).bind fun t470 => ((hogsheadref08_New.f a0).bind fun bt471 => (if bt471.2.2.2.2 = 0 then (if a1 < 0 then (hogsheadlaw09_CellTurns.j0 k a1 l2 t470 true bt471.1 bt471.2.1 bt471.2.2.1 bt471.2.2.2.1) else (hogsheadlaw09_CellTurns.j0 k a1 l2 t470 (decide (a1 > (wrap64 (a0 - 2)))) bt471.1 bt471.2.1 bt471.2.2.1 bt471.2.2.2.1)) else (hogsheadlaw09_CellTurns.j0 k a1 l2 t470 true bt471.1 bt471.2.1 bt471.2.2.1 bt471.2.2.2.1)))) = some r := h
 clear h
 replace H := Option.bind_eq_some_iff.mp H
 obtain ⟨t470, A40, H⟩ := H
 replace H : ((hogsheadref08_New.f a0).bind fun bt471 => (if bt471.2.2.2.2 = 0 then (if a1 < 0 then (hogsheadlaw09_CellTurns.j0 k a1 l2 t470 true bt471.1 bt471.2.1 bt471.2.2.1 bt471.2.2.2.1) else (hogsheadlaw09_CellTurns.j0 k a1 l2 t470 (decide (a1 > (wrap64 (a0 - 2)))) bt471.1 bt471.2.1 bt471.2.2.1 bt471.2.2.2.1)) else (hogsheadlaw09_CellTurns.j0 k a1 l2 t470 true bt471.1 bt471.2.1 bt471.2.2.1 bt471.2.2.2.1))) = some r := H
 have A4 := qM A40
 clear A40
 replace H := Option.bind_eq_some_iff.mp H
 obtain ⟨⟨t471, t474, t477, t478, t479⟩, A50, H⟩ := H
 replace H : (if t479 = 0 then (if a1 < 0 then (hogsheadlaw09_CellTurns.j0 k a1 l2 t470 true t471 t474 t477 t478) else (hogsheadlaw09_CellTurns.j0 k a1 l2 t470 (decide (a1 > (wrap64 (a0 - 2)))) t471 t474 t477 t478)) else (hogsheadlaw09_CellTurns.j0 k a1 l2 t470 true t471 t474 t477 t478)) = some r := H
 have A5 := qM A50
 clear A50
 have HC6 := qM H
 clear H
 go_enter Try.func9, Try.ntmps9
 go_upto_region 3 with (first | ((with_reducible refine gate_callee (f := 10) rfl ?_); refine goesL_ (some 18) rfl rfl Try.func10 (by kernel_rfl) rfl #[] rfl (by (try simp only [List.map_toArray, List.map_cons, List.map_nil]); first | done | rfl | (simp only [List.length_drop, List.length_take]; rfl)) ?_; (with_reducible refine (hogsheadlaw09_shown.calls k  t470 _ A4.out).mono ?_); rintro e w7 ⟨rfl, hb⟩; refine ⟨_, rfl, ?_⟩; have n0_ := qM (eT (by repeat (first | (with_reducible first | exact HB.out | apply eA | apply eN | apply eD) | exact HB.out)) hb); clear HB; have HB := n0_; clear n0_; (try clear hb); (try clear hb2); (try clear hk); (try clear hi)) | ((with_reducible refine gate_callee (f := 23) rfl ?_); refine goesL_ (some 21) rfl rfl Try.func23 (by kernel_rfl) rfl #[.int .i64 a0] rfl (by (try simp only [List.map_toArray, List.map_cons, List.map_nil]); first | done | rfl | (simp only [List.length_drop, List.length_take]; rfl)) ?_; (with_reducible refine (hogsheadref08_New.calls a0 t471 t474 t477 t478 t479 _ A5.out).mono ?_); rintro e w8 ⟨v472, v475, rfl, ho0, ho1, hb⟩; refine ⟨_, rfl, ?_⟩; have n0_ := qM (Kd.R_lower ho0 (eZ (by repeat (first | (with_reducible first | exact HB.out | apply eA | apply eN | apply eD) | exact HB.out)))); have n1_ := qM (Kd.R_lower ho1 (eZ (by repeat (first | (with_reducible first | exact HB.out | apply eA | apply eN | apply eD) | exact HB.out)))); have n2_ := qM (eT (by repeat (first | (with_reducible first | exact HB.out | apply eA | apply eN | apply eD) | exact HB.out)) hb); clear HB; have HO473 := n0_; have HO476 := n1_; have HB := n2_; clear n0_ n1_ n2_; (try clear hb); (try clear hb2); (try clear hk); (try clear hi); (try clear ho0); (try clear ho1)) | ((with_reducible refine gate_dst (N := 8) rfl ?_); refine box_event ?hg (N := 8) ?hd (cs := #[.slice none 0 0, .slice none 0 0, .int .i64 0, .bool false]) (t := 37) ?hr ?_; (case hd => rfl); (case hg => rfl); (case hr => first | (go_simp; done) | (go_simp; rfl)); intro g480 hg w9 hbox hb; have n0_ := qM (Kd.R_below (by (with_reducible repeat first | apply RA | apply RN | apply RD); exact HO473.out) hb); have n1_ := qM (Kd.R_below (by (with_reducible repeat first | apply RA | apply RN | apply RD); exact HO476.out) hb); have n2_ := qM (eT (by repeat (first | (with_reducible first | exact HB.out | apply eA | apply eN | apply eD) | exact HB.out)) hb); have n3_ := qM (hbox); have n4_ := qM ((by rw [hg]; exact (eZ (by repeat (first | (with_reducible first | exact HB.out | apply eA | apply eN | apply eD) | exact HB.out))) : w.heap.size ≤ g480)); have n5_ := n4_; clear HO473; clear HO476; clear HB; have HO473 := n0_; have HO476 := n1_; have HB := n2_; have B480 := n3_; have GW480 := n4_; have GE480 := n5_; clear n0_ n1_ n2_ n3_ n4_ n5_; clear hb hbox hg; obtain ⟨Ao10, co10, eo10⟩ := Kd.R_slice HO473.out; subst eo10; obtain ⟨z11_0, z11_1, z11_2, z11_3, f11_0, f11_1, f11_2, f11_3⟩ := cells4 B480.out; obtain ⟨Ao12, co12, eo12⟩ := Kd.R_slice HO476.out; subst eo12))
 (try simp only [Act.put, List.setIfInBounds_toArray, List.set_cons_zero, List.set_cons_succ])
 go_cut [35] (fun v35 wc => ∃ (kq : Nat) (x35_5 : Bool), v35 = .bool x35_5 ∧ Aside0 (hogsheadlaw09_CellTurns.j0 kq a1 l2 t470 x35_5 t471 t474 t477 t478 = some r) ∧ Aside0 (kq ≤ k) ∧ Aside0 (Kd.R Kd.string 9 wc w.heap.size (fun _ => True) (.slice Ao10 t471.length co10) t471) ∧ Aside0 (Kd.R k77 77 wc w.heap.size (fun _ => True) (.slice Ao12 t474.length co12) t474) ∧ Aside0 (wc.heap[g480]? = some (.cells #[(.slice Ao10 t471.length co10), (.slice Ao12 t474.length co12), .int .i64 t477, .bool t478] 37 (0, 0))) ∧ Aside0 (Below w.heap.size w wc))
 case first =>
  have H := HC6.out
  clear HC6
  by_cases c13 : t479 = 0
  ·rw [if_pos c13] at H
   have c13b0 : (t479 == 0) = true := beq_iff_eq.mpr c13
   have c13b1 : (t479 != 0) = false := bne_eq_false_iff_eq.mpr c13
   clear c13
   (first | rw [c13b0] | (simp only [i64_w, i32_w]; rw [c13b0]) | skip)
   by_cases c14 : a1 < 0
   ·rw [if_pos c14] at H
    have c14b0 : decide (a1 < 0) = true := decide_eq_true c14
    clear c14
    have H' := qM H
    clear H
    go_wp2
    go_meet
    case rel => exact ⟨_, (true), (by first | rfl | (simp; done) | (simp [*]; done)), H', ⟨by first | omega | exact Nat.le_refl _⟩, ⟨by (with_reducible repeat first | apply RA | apply RN | apply RD); exact Kd.R_mono (Kd.R_far (p := ⟨g480, 3, none⟩) (Kd.R_far (p := ⟨g480, 2, none⟩) (Kd.R_far (p := ⟨g480, 1, none⟩) (Kd.R_far (p := ⟨g480, 0, none⟩) (Kd.R_types HO473.out B480.out (by decide)) (fun _ hk => hk.2) (.slice Ao10 t471.length co10)) (fun _ hk => hk.2) (.slice Ao12 t474.length co12)) (fun _ hk => hk.2) (.int .i64 t477)) (fun _ hk => hk.2) (.bool t478)) (fun _ hk => trivial)⟩, ⟨by (with_reducible repeat first | apply RA | apply RN | apply RD); exact Kd.R_mono (Kd.R_far (p := ⟨g480, 3, none⟩) (Kd.R_far (p := ⟨g480, 2, none⟩) (Kd.R_far (p := ⟨g480, 1, none⟩) (Kd.R_far (p := ⟨g480, 0, none⟩) (Kd.R_types HO476.out B480.out (by decide)) (fun _ hk => hk.2) (.slice Ao10 t471.length co10)) (fun _ hk => hk.2) (.slice Ao12 t474.length co12)) (fun _ hk => hk.2) (.int .i64 t477)) (fun _ hk => hk.2) (.bool t478)) (fun _ hk => trivial)⟩, ⟨by (with_reducible repeat first | refine qN ?_ _ | refine qD ?_ | refine qA ?_ _); apply puts4; (with_reducible repeat first | refine qN ?_ _ | refine qD ?_ | refine qA ?_ _); exact B480.out⟩, ⟨by repeat (first | (with_reducible first | exact HB.out | apply eA | apply eN | apply eD | refine eS ?_ GE480.out) | exact HB.out)⟩⟩
   ·rw [if_neg c14] at H
    have c14b0 : decide (a1 < 0) = false := decide_eq_false c14
    clear c14
    have H' := qM H
    clear H
    go_wp2
    go_meet
    case rel => exact ⟨_, (decide (a1 > (wrap64 (a0 - 2)))), (by first | rfl | (simp; done) | (simp [*]; done)), H', ⟨by first | omega | exact Nat.le_refl _⟩, ⟨by (with_reducible repeat first | apply RA | apply RN | apply RD); exact Kd.R_mono (Kd.R_far (p := ⟨g480, 3, none⟩) (Kd.R_far (p := ⟨g480, 2, none⟩) (Kd.R_far (p := ⟨g480, 1, none⟩) (Kd.R_far (p := ⟨g480, 0, none⟩) (Kd.R_types HO473.out B480.out (by decide)) (fun _ hk => hk.2) (.slice Ao10 t471.length co10)) (fun _ hk => hk.2) (.slice Ao12 t474.length co12)) (fun _ hk => hk.2) (.int .i64 t477)) (fun _ hk => hk.2) (.bool t478)) (fun _ hk => trivial)⟩, ⟨by (with_reducible repeat first | apply RA | apply RN | apply RD); exact Kd.R_mono (Kd.R_far (p := ⟨g480, 3, none⟩) (Kd.R_far (p := ⟨g480, 2, none⟩) (Kd.R_far (p := ⟨g480, 1, none⟩) (Kd.R_far (p := ⟨g480, 0, none⟩) (Kd.R_types HO476.out B480.out (by decide)) (fun _ hk => hk.2) (.slice Ao10 t471.length co10)) (fun _ hk => hk.2) (.slice Ao12 t474.length co12)) (fun _ hk => hk.2) (.int .i64 t477)) (fun _ hk => hk.2) (.bool t478)) (fun _ hk => trivial)⟩, ⟨by (with_reducible repeat first | refine qN ?_ _ | refine qD ?_ | refine qA ?_ _); apply puts4; (with_reducible repeat first | refine qN ?_ _ | refine qD ?_ | refine qA ?_ _); exact B480.out⟩, ⟨by repeat (first | (with_reducible first | exact HB.out | apply eA | apply eN | apply eD | refine eS ?_ GE480.out) | exact HB.out)⟩⟩
  ·rw [if_neg c13] at H
   have c13b0 : (t479 == 0) = false := beq_eq_false_iff_ne.mpr c13
   have c13b1 : (t479 != 0) = true := bne_iff_ne.mpr c13
   (first | rw [c13b0] | (simp only [i64_w, i32_w]; rw [c13b0]) | skip)
   have H' := qM H
   clear H
   go_wp2
   go_meet
   case rel => exact ⟨_, (true), (by first | rfl | (simp; done) | (simp [*]; done)), H', ⟨by first | omega | exact Nat.le_refl _⟩, ⟨by (with_reducible repeat first | apply RA | apply RN | apply RD); exact Kd.R_mono (Kd.R_far (p := ⟨g480, 3, none⟩) (Kd.R_far (p := ⟨g480, 2, none⟩) (Kd.R_far (p := ⟨g480, 1, none⟩) (Kd.R_far (p := ⟨g480, 0, none⟩) (Kd.R_types HO473.out B480.out (by decide)) (fun _ hk => hk.2) (.slice Ao10 t471.length co10)) (fun _ hk => hk.2) (.slice Ao12 t474.length co12)) (fun _ hk => hk.2) (.int .i64 t477)) (fun _ hk => hk.2) (.bool t478)) (fun _ hk => trivial)⟩, ⟨by (with_reducible repeat first | apply RA | apply RN | apply RD); exact Kd.R_mono (Kd.R_far (p := ⟨g480, 3, none⟩) (Kd.R_far (p := ⟨g480, 2, none⟩) (Kd.R_far (p := ⟨g480, 1, none⟩) (Kd.R_far (p := ⟨g480, 0, none⟩) (Kd.R_types HO476.out B480.out (by decide)) (fun _ hk => hk.2) (.slice Ao10 t471.length co10)) (fun _ hk => hk.2) (.slice Ao12 t474.length co12)) (fun _ hk => hk.2) (.int .i64 t477)) (fun _ hk => hk.2) (.bool t478)) (fun _ hk => trivial)⟩, ⟨by (with_reducible repeat first | refine qN ?_ _ | refine qD ?_ | refine qA ?_ _); apply puts4; (with_reducible repeat first | refine qN ?_ _ | refine qD ?_ | refine qA ?_ _); exact B480.out⟩, ⟨by repeat (first | (with_reducible first | exact HB.out | apply eA | apply eN | apply eD | refine eS ?_ GE480.out) | exact HB.out)⟩⟩
 case rest =>
  clear HC6
  try clear c1
  try clear c2
  try clear p2
  try clear p6
  try clear c9
  try clear c10
  try clear c13
  try clear c13b0
  try clear c13b1
  try clear c14
  try clear c14b0
  try clear z11_0
  try clear z11_1
  try clear z11_2
  try clear z11_3
  try clear f11_0
  try clear f11_1
  try clear f11_2
  try clear f11_3
  obtain ⟨kq, x35_5, rfl, HA, HJ5, HO_481000, HO_481001, B480, HB⟩ := hcut
  cases kq with
  | zero => exact absurd HA.out (by simp [hogsheadlaw09_CellTurns.j0])
  | succ kj5 =>
   have H := HA.out
   clear HA
   simp only [hogsheadlaw09_CellTurns.j0] at H
   by_cases c15 : x35_5 = true
   ·subst c15
    have H1 : (some t470) = some r := by rw [if_pos rfl] at H; exact H
    clear H
    have H := H1
    clear H1
    obtain rfl := Option.some.inj H
    go_wp2
    go_ret
    exact ⟨by first | rfl | (simp [errW_none, errW_some] <;> rfl) | (simp [*, errW_none, errW_some] <;> rfl), by repeat (first | (with_reducible first | exact HB.out | apply eA | apply eN | apply eD | refine eS ?_ GE480.out) | exact HB.out)⟩
   ·replace c15 := Bool.eq_false_iff.mpr c15
    subst c15
    have H1 : (hogsheadlaw09_CellTurns.l0 kj5 a1 l2 t470 0 t471 t474 t477 t478) = some r := by rw [if_neg (show ¬ (false = true) by decide)] at H; exact H
    clear H
    have H := H1
    clear H1
    have H' := qM H
    clear H
    go_wp2
    go_loopg [10] kj5 (fun kq v10 w' => ∃ (x10_2 : Int) (x481000_2 : List ByteArray) (x481001_2 : List (S77)) (x481002_2 : Int) (x481003_2 : Bool) (u481000 : Value) (u481001 : Value), v10 = .int .i64 x10_2 ∧ Aside0 (hogsheadlaw09_CellTurns.l0 kq a1 l2 t470 x10_2 x481000_2 x481001_2 x481002_2 x481003_2 = some r) ∧ Aside0 (kq ≤ kj5) ∧ Aside0 (Kd.V Kd.string 9 w' w.heap.size (fun k_ => k_ ≠ g480) u481000 x481000_2) ∧ Aside0 (Kd.V k77 77 w' w.heap.size (fun k_ => k_ ≠ g480) u481001 x481001_2) ∧ Aside0 (w'.heap[g480]? = some (.cells #[u481000, u481001, .int .i64 x481002_2, .bool x481003_2] 37 (0, 0))) ∧ Aside0 (Below w.heap.size w w'))
    case atStart => exact ⟨(0), (t471), (t474), (t477), (t478), (.slice Ao10 t471.length co10), (.slice Ao12 t474.length co12), (by first | rfl | (simp; done) | (simp [*]; done)), H', ⟨Nat.le_refl _⟩, ⟨Kd.R_V (by (with_reducible repeat first | apply RA | apply RN | apply RD); exact Kd.R_mono (Kd.R_types HO_481000.out B480.out (by decide)) (fun _ hk => hk.2))⟩, ⟨Kd.R_V (by (with_reducible repeat first | apply RA | apply RN | apply RD); exact Kd.R_mono (Kd.R_types HO_481001.out B480.out (by decide)) (fun _ hk => hk.2))⟩, ⟨by (with_reducible repeat first | refine qN ?_ _ | refine qD ?_ | refine qA ?_ _); exact B480.out⟩, ⟨by repeat (first | (with_reducible first | exact HB.out | apply eA | apply eN | apply eD | refine eS ?_ GE480.out) | exact HB.out)⟩⟩
    case round =>
     clear H'
     try clear c1
     try clear c2
     try clear p2
     try clear p6
     try clear c9
     try clear c10
     try clear c13
     try clear c13b0
     try clear c13b1
     try clear c14
     try clear c14b0
     try clear c15
     try clear z11_0
     try clear z11_1
     try clear z11_2
     try clear z11_3
     try clear f11_0
     try clear f11_1
     try clear f11_2
     try clear f11_3
     try clear p2
     try clear p6
     obtain ⟨x10_2, x481000_2, x481001_2, x481002_2, x481003_2, u481000, u481001, rfl, HA, HK2, HO_481000, HO_481001, B480, HB⟩ := hrel
     cases gk with
     | zero => exact absurd HA.out (by simp [hogsheadlaw09_CellTurns.l0])
     | succ k2 =>
      have H := HA.out
      clear HA
      simp only [hogsheadlaw09_CellTurns.l0] at H
      have HC16 := qM H
      clear H
      go_upto_region 6 with (fail)
      go_cut [44] (fun v44 wc => ∃ (kq : Nat) (x44_15 : Bool), v44 = .bool x44_15 ∧ Aside0 (hogsheadlaw09_CellTurns.j2 kq a1 l2 t470 x10_2 x44_15 x481000_2 x481001_2 x481002_2 x481003_2 = some r) ∧ Aside0 (kq ≤ k2) ∧ Aside0 (Kd.V Kd.string 9 wc w.heap.size (fun k_ => k_ ≠ g480) u481000 x481000_2) ∧ Aside0 (Kd.V k77 77 wc w.heap.size (fun k_ => k_ ≠ g480) u481001 x481001_2) ∧ Aside0 (wc.heap[g480]? = some (.cells #[u481000, u481001, .int .i64 x481002_2, .bool x481003_2] 37 (0, 0))) ∧ Aside0 (Below w.heap.size w wc))
      case first =>
       have H := HC16.out
       clear HC16
       by_cases c17 : x10_2 < (l2.length : Int)
       ·rw [if_pos c17] at H
        have c17b0 : decide (x10_2 < (l2.length : Int)) = true := decide_eq_true c17
        clear c17
        (first | rw [c17b0] | (simp only [i64_w, i32_w]; rw [c17b0]) | skip)
        have H' := qM H
        clear H
        go_wp2
        go_meet
        case rel => exact ⟨_, (decide (x10_2 < 50)), (by first | rfl | (simp; done) | (simp [*]; done)), H', ⟨by have := HJ5.out; have := HK2.out; first | omega | exact Nat.le_refl _⟩, ⟨by (with_reducible repeat first | apply VA | apply VN | apply VD); exact HO_481000.out⟩, ⟨by (with_reducible repeat first | apply VA | apply VN | apply VD); exact HO_481001.out⟩, ⟨by (with_reducible repeat first | refine qN ?_ _ | refine qD ?_ | refine qA ?_ _); exact B480.out⟩, ⟨by repeat (first | (with_reducible first | exact HB.out | apply eA | apply eN | apply eD | refine eS ?_ GE480.out) | exact HB.out)⟩⟩
       ·rw [if_neg c17] at H
        have c17b0 : decide (x10_2 < (l2.length : Int)) = false := decide_eq_false c17
        clear c17
        (first | rw [c17b0] | (simp only [i64_w, i32_w]; rw [c17b0]) | skip)
        have H' := qM H
        clear H
        go_wp2
        go_meet
        case rel => exact ⟨_, (false), (by first | rfl | (simp; done) | (simp [*]; done)), H', ⟨by have := HJ5.out; have := HK2.out; first | omega | exact Nat.le_refl _⟩, ⟨by (with_reducible repeat first | apply VA | apply VN | apply VD); exact HO_481000.out⟩, ⟨by (with_reducible repeat first | apply VA | apply VN | apply VD); exact HO_481001.out⟩, ⟨by (with_reducible repeat first | refine qN ?_ _ | refine qD ?_ | refine qA ?_ _); exact B480.out⟩, ⟨by repeat (first | (with_reducible first | exact HB.out | apply eA | apply eN | apply eD | refine eS ?_ GE480.out) | exact HB.out)⟩⟩
      case rest =>
       clear HC16
       try clear c1
       try clear c2
       try clear p2
       try clear p6
       try clear c9
       try clear c10
       try clear c13
       try clear c13b0
       try clear c13b1
       try clear c14
       try clear c14b0
       try clear c15
       try clear c17
       try clear c17b0
       try clear z11_0
       try clear z11_1
       try clear z11_2
       try clear z11_3
       try clear f11_0
       try clear f11_1
       try clear f11_2
       try clear f11_3
       try clear p2
       try clear p6
       obtain ⟨kq, x44_15, rfl, HA, HJ15, HO_481000, HO_481001, B480, HB⟩ := hcut
       cases kq with
       | zero => exact absurd HA.out (by simp [hogsheadlaw09_CellTurns.j2])
       | succ kj15 =>
        have H := HA.out
        clear HA
        simp only [hogsheadlaw09_CellTurns.j2] at H
        by_cases c18 : x44_15 = true
        ·subst c18
         have H1 : (if 0 ≤ x10_2 then (if x10_2 < (l2.length : Int) then (if ((rdOf ByteArray.empty l2 x10_2).size : Int) > 1000 then (some t470) else ((cell_Write.f kj15 x481000_2 x481001_2 x481002_2 x481003_2 a1 (rdOf ByteArray.empty l2 x10_2)).bind fun bt483 => ((hogsheadref08_Flush.f kj15 bt483.1 bt483.2.1 bt483.2.2.1 bt483.2.2.2.1).bind fun bt493 => ((cell_Read.f kj15 bt493.1 bt493.2.1 bt493.2.2.1 bt493.2.2.2.1 a1).bind fun bt503 => (if bt483.2.2.2.2 = 0 then (if bt493.2.2.2.2 = 0 then (if bt503.2.2 = 0 then (if bt503.1.toList = (rdOf ByteArray.empty l2 x10_2).toList then (hogsheadlaw09_CellTurns.j3 kj15 a1 l2 t470 x10_2 (bt503.2.1 != (IntKind.u64.wrap ((IntKind.u64.wrap (x10_2)) + 1))) bt493.1 bt493.2.1 bt493.2.2.1 bt493.2.2.2.1) else (hogsheadlaw09_CellTurns.j3 kj15 a1 l2 t470 x10_2 true bt493.1 bt493.2.1 bt493.2.2.1 bt493.2.2.2.1)) else (hogsheadlaw09_CellTurns.j3 kj15 a1 l2 t470 x10_2 true bt493.1 bt493.2.1 bt493.2.2.1 bt493.2.2.2.1)) else (hogsheadlaw09_CellTurns.j3 kj15 a1 l2 t470 x10_2 true bt493.1 bt493.2.1 bt493.2.2.1 bt493.2.2.2.1)) else (hogsheadlaw09_CellTurns.j3 kj15 a1 l2 t470 x10_2 true bt493.1 bt493.2.1 bt493.2.2.1 bt493.2.2.2.1)))))) else (none)) else (none)) = some r := by rw [if_pos rfl] at H; exact H
         clear H
         have H := H1
         clear H1
         by_cases c19 : 0 ≤ x10_2
         ·rw [if_pos c19] at H
          have c19b0 : decide (0 ≤ x10_2) = true := decide_eq_true c19
          clear c19
          by_cases c20 : x10_2 < (l2.length : Int)
          ·rw [if_pos c20] at H
           have c20b0 : decide (x10_2 < (l2.length : Int)) = true := decide_eq_true c20
           clear c20
           by_cases c21 : ((rdOf ByteArray.empty l2 x10_2).size : Int) > 1000
           ·rw [if_pos c21] at H
            have c21b0 : decide (1000 < ((rdOf ByteArray.empty l2 x10_2).size : Int)) = true := decide_eq_true c21
            have c21b1 : decide (1000 < (rdOf ByteArray.empty l2 x10_2).size) = true := decide_eq_true (by omega)
            clear c21
            obtain rfl := Option.some.inj H
            have p481 : 0 ≤ (x10_2 : Int) := of_decide_eq_true (by first | (with_reducible assumption) | assumption)
            have q481 : x10_2 < (l2.length : Int) := of_decide_eq_true (by first | (with_reducible assumption) | assumption)
            obtain ⟨ad481, e481, hx481_0⟩ := Kd.at_string HR2.out x10_2 p481 q481
            cases e481
            replace hx481_0 := (HB.out.cell (World.block_lt_of_cell? w _ hx481_0)).trans hx481_0
            replace p481 := eq_true p481
            replace q481 := eq_true q481
            go_wp2
            go_ret
            exact ⟨by first | rfl | (simp [errW_none, errW_some] <;> rfl) | (simp [*, errW_none, errW_some] <;> rfl), by repeat (first | (with_reducible first | exact HB.out | apply eA | apply eN | apply eD | refine eS ?_ GE480.out) | exact HB.out)⟩
           ·rw [if_neg c21] at H
            have c21b0 : decide (1000 < ((rdOf ByteArray.empty l2 x10_2).size : Int)) = false := decide_eq_false c21
            have c21b1 : decide (1000 < (rdOf ByteArray.empty l2 x10_2).size) = false := decide_eq_false (by omega)
            clear c21
            replace H := Option.bind_eq_some_iff.mp H
            obtain ⟨⟨t483, t486, t489, t490, t491⟩, A220, H⟩ := H
            replace H : ((hogsheadref08_Flush.f kj15 t483 t486 t489 t490).bind fun bt493 => ((cell_Read.f kj15 bt493.1 bt493.2.1 bt493.2.2.1 bt493.2.2.2.1 a1).bind fun bt503 => (if t491 = 0 then (if bt493.2.2.2.2 = 0 then (if bt503.2.2 = 0 then (if bt503.1.toList = (rdOf ByteArray.empty l2 x10_2).toList then (hogsheadlaw09_CellTurns.j3 kj15 a1 l2 t470 x10_2 (bt503.2.1 != (IntKind.u64.wrap ((IntKind.u64.wrap (x10_2)) + 1))) bt493.1 bt493.2.1 bt493.2.2.1 bt493.2.2.2.1) else (hogsheadlaw09_CellTurns.j3 kj15 a1 l2 t470 x10_2 true bt493.1 bt493.2.1 bt493.2.2.1 bt493.2.2.2.1)) else (hogsheadlaw09_CellTurns.j3 kj15 a1 l2 t470 x10_2 true bt493.1 bt493.2.1 bt493.2.2.1 bt493.2.2.2.1)) else (hogsheadlaw09_CellTurns.j3 kj15 a1 l2 t470 x10_2 true bt493.1 bt493.2.1 bt493.2.2.1 bt493.2.2.2.1)) else (hogsheadlaw09_CellTurns.j3 kj15 a1 l2 t470 x10_2 true bt493.1 bt493.2.1 bt493.2.2.1 bt493.2.2.2.1)))) = some r := H
            have A22 := qM A220
            clear A220
            replace H := Option.bind_eq_some_iff.mp H
            obtain ⟨⟨t493, t496, t499, t500, t501⟩, A230, H⟩ := H
            replace H : ((cell_Read.f kj15 t493 t496 t499 t500 a1).bind fun bt503 => (if t491 = 0 then (if t501 = 0 then (if bt503.2.2 = 0 then (if bt503.1.toList = (rdOf ByteArray.empty l2 x10_2).toList then (hogsheadlaw09_CellTurns.j3 kj15 a1 l2 t470 x10_2 (bt503.2.1 != (IntKind.u64.wrap ((IntKind.u64.wrap (x10_2)) + 1))) t493 t496 t499 t500) else (hogsheadlaw09_CellTurns.j3 kj15 a1 l2 t470 x10_2 true t493 t496 t499 t500)) else (hogsheadlaw09_CellTurns.j3 kj15 a1 l2 t470 x10_2 true t493 t496 t499 t500)) else (hogsheadlaw09_CellTurns.j3 kj15 a1 l2 t470 x10_2 true t493 t496 t499 t500)) else (hogsheadlaw09_CellTurns.j3 kj15 a1 l2 t470 x10_2 true t493 t496 t499 t500))) = some r := H
            have A23 := qM A230
            clear A230
            replace H := Option.bind_eq_some_iff.mp H
            obtain ⟨⟨t503, t504, t505⟩, A240, H⟩ := H
            replace H : (if t491 = 0 then (if t501 = 0 then (if t505 = 0 then (if t503.toList = (rdOf ByteArray.empty l2 x10_2).toList then (hogsheadlaw09_CellTurns.j3 kj15 a1 l2 t470 x10_2 (t504 != (IntKind.u64.wrap ((IntKind.u64.wrap (x10_2)) + 1))) t493 t496 t499 t500) else (hogsheadlaw09_CellTurns.j3 kj15 a1 l2 t470 x10_2 true t493 t496 t499 t500)) else (hogsheadlaw09_CellTurns.j3 kj15 a1 l2 t470 x10_2 true t493 t496 t499 t500)) else (hogsheadlaw09_CellTurns.j3 kj15 a1 l2 t470 x10_2 true t493 t496 t499 t500)) else (hogsheadlaw09_CellTurns.j3 kj15 a1 l2 t470 x10_2 true t493 t496 t499 t500)) = some r := H
            have A24 := qM A240
            clear A240
            have HC25 := qM H
            clear H
            have p481 : 0 ≤ (x10_2 : Int) := of_decide_eq_true (by first | (with_reducible assumption) | assumption)
            have q481 : x10_2 < (l2.length : Int) := of_decide_eq_true (by first | (with_reducible assumption) | assumption)
            obtain ⟨ad481, e481, hx481_0⟩ := Kd.at_string HR2.out x10_2 p481 q481
            cases e481
            replace hx481_0 := (HB.out.cell (World.block_lt_of_cell? w _ hx481_0)).trans hx481_0
            replace p481 := eq_true p481
            replace q481 := eq_true q481
            obtain ⟨Ao26, co26, eo26⟩ := Kd.V_slice HO_481000.out
            subst eo26
            obtain ⟨Ao27, co27, eo27⟩ := Kd.V_slice HO_481001.out
            subst eo27
            try go_wp2
            have n0_ := qM (Kd.V_drew HO_481000.out)
            have n1_ := qM (Kd.V_drew HO_481001.out)
            have n2_ := qM (blk_drew B480.out)
            have n3_ := qM (below_drew1 HB.out)
            clear HO_481000
            clear HO_481001
            clear B480
            clear HB
            have HO_481000 := n0_
            have HO_481001 := n1_
            have B480 := n2_
            have HB := n3_
            clear n0_ n1_ n2_ n3_
            have p482 : 0 ≤ (x10_2 : Int) := of_decide_eq_true (by first | (with_reducible assumption) | assumption)
            have q482 : x10_2 < (l2.length : Int) := of_decide_eq_true (by first | (with_reducible assumption) | assumption)
            obtain ⟨ad482, e482, hx482_0⟩ := Kd.at_string HR2.out x10_2 p482 q482
            have hw482_0 := hx482_0
            obtain rfl : ad481 = ad482 := (by injection e482)
            replace hx482_0 := (HB.out.cell (World.block_lt_of_cell? w _ hx482_0)).trans hx482_0
            replace p482 := eq_true p482
            replace q482 := eq_true q482
            refine start_ (n := 13) (S := fun w' => w'.cell? ⟨g480, 0, none⟩ = some (.slice Ao26 x481000_2.length co26) ∧ w'.cell? ⟨g480, 1, none⟩ = some (.slice Ao27 x481001_2.length co27) ∧ w'.cell? ⟨g480, 2, none⟩ = some (.int .i64 x481002_2) ∧ w'.cell? ⟨g480, 3, none⟩ = some (.bool x481003_2) ∧ w'.cell? (ad481.add (x10_2).toNat) = some (.string (rdOf ByteArray.empty l2 x10_2))) (ds := []) #[false, false, false, false, false, false, false, false, false, false, false, false, false] (by kernel_rfl) rfl rfl ⟨(qC B480.out 0).trans rfl, (qC B480.out 1).trans rfl, (qC B480.out 2).trans rfl, (qC B480.out 3).trans rfl, ((HB.out.cell (World.block_lt_of_cell? w _ hw482_0)).trans hw482_0)⟩ (fun hHeld => ?_); refine with_tabW hogsheadlaw09_CellTurns.tab10 hogsheadlaw09_CellTurns.bits10 (fun HT_ HW_ => ?_)
            generalize wc.drew = w28 at HO_481000 HO_481001 B480 HB hx482_0 hHeld ⊢
            refine pure_ (i := 1) (N := some 56) (v := ?_) (a' := ?_) #[false, true, false, false, false, false, false, false, false, false, false, false, false] rfl rfl (any_of HT_.out (by kernel_rfl)) (fun _ _ _ h => h) (Or.inl ⟨by rfl, ?_⟩) ?_ ?_
            rotate_left
            ·intro w'; go_simp; with_reducible rfl
            rotate_left
            ·simp only [Act.put, xA, xZ, xS, i64_w, i32_w]; rfl
            refine pure_ (i := 2) (N := some 57) (v := ?_) (a' := ?_) #[false, true, true, false, false, false, false, false, false, false, false, false, false] rfl rfl (any_of HT_.out (by kernel_rfl)) (fun _ _ _ h => h) (Or.inl ⟨by rfl, ?_⟩) ?_ ?_
            rotate_left
            ·intro w'; go_simp; with_reducible rfl
            rotate_left
            ·simp only [Act.put, xA, xZ, xS, i64_w, i32_w]; rfl
            refine pure_ (i := 3) (N := some 58) (v := ?_) (a' := ?_) #[false, true, true, true, false, false, false, false, false, false, false, false, false] rfl rfl (any_of HT_.out (by kernel_rfl)) (fun _ _ _ h => h) (Or.inl ⟨by rfl, ?_⟩) ?_ ?_
            rotate_left
            ·intro w'; go_simp; with_reducible rfl
            rotate_left
            ·simp only [Act.put, xA, xZ, xS, i64_w, i32_w]; rfl
            refine pure_ (i := 4) (N := some 59) (v := ?_) (a' := ?_) #[false, true, true, true, true, false, false, false, false, false, false, false, false] rfl rfl (any_of HT_.out (by kernel_rfl)) (fun _ _ _ h => h) (Or.inl ⟨by rfl, ?_⟩) ?_ ?_
            rotate_left
            ·intro w'; go_simp; with_reducible rfl
            rotate_left
            ·simp only [Act.put, xA, xZ, xS, i64_w, i32_w]; rfl
            refine take_ (i := 0) (N := some 55) (v := ?_) (a' := ?_) #[true, true, true, true, true, false, false, false, false, false, false, false, false] rfl rfl (take_ofW HT_.out HW_.out (by kernel_rfl)) (fun _ _ _ h => h) (Or.inl ⟨by rfl, ?_⟩) hHeld ?_ ?_
            rotate_left
            ·rintro w' ⟨s0, s1, s2, s3, s4⟩; go_simp; with_reducible rfl
            rotate_left
            ·simp only [Act.put, xA, xZ, xS, i64_w, i32_w]; rfl
            refine take_ (i := 5) (N := some 60) (v := ?_) (a' := ?_) #[true, true, true, true, true, true, false, false, false, false, false, false, false] rfl rfl (take_ofW HT_.out HW_.out (by kernel_rfl)) (fun _ _ _ h => h) (Or.inl ⟨by rfl, ?_⟩) hHeld ?_ ?_
            rotate_left
            ·rintro w' ⟨s0, s1, s2, s3, s4⟩; go_simp; with_reducible rfl
            rotate_left
            ·simp only [Act.put, xA, xZ, xS, i64_w, i32_w]; rfl
            refine join_ (σ := Value × Value × Nat) 2 #[true, true, true, true, true, true, true, true, true, true, true, false, false] (fun s_ => [(61, .tuple #[.agg #[s_.1, s_.2.1, .int .i64 t489, .bool t490], .int .i64 t491]), (11, .pointer (some ⟨s_.2.2, 0, none⟩)), (54, .tuple #[.agg #[s_.1, s_.2.1, .int .i64 t489, .bool t490], .int .i64 t491]), (62, .agg #[s_.1, s_.2.1, .int .i64 t489, .bool t490]), (63, .int .i64 t491)]) (fun s_ w' => (w'.cell? ⟨g480, 0, none⟩ = some (.slice Ao26 x481000_2.length co26) ∧ w'.cell? ⟨g480, 1, none⟩ = some (.slice Ao27 x481001_2.length co27) ∧ w'.cell? ⟨g480, 2, none⟩ = some (.int .i64 x481002_2) ∧ w'.cell? ⟨g480, 3, none⟩ = some (.bool x481003_2) ∧ w'.cell? (ad481.add (x10_2).toNat) = some (.string (rdOf ByteArray.empty l2 x10_2))) ∧ (Kd.V Kd.string 9 w' w.heap.size (fun k_ => k_ ≠ g480 ∧ k_ ≠ s_.2.2) s_.1 t483) ∧ (Kd.V k77 77 w' w.heap.size (fun k_ => k_ ≠ g480 ∧ k_ ≠ s_.2.2) s_.2.1 t486) ∧ (Kd.V Kd.string 9 w' w.heap.size (fun k_ => k_ ≠ g480 ∧ k_ ≠ s_.2.2) (.slice Ao26 x481000_2.length co26) x481000_2) ∧ (Kd.V k77 77 w' w.heap.size (fun k_ => k_ ≠ g480 ∧ k_ ≠ s_.2.2) (.slice Ao27 x481001_2.length co27) x481001_2) ∧ (w'.heap[g480]? = some (.cells #[.slice Ao26 x481000_2.length co26, .slice Ao27 x481001_2.length co27, .int .i64 x481002_2, .bool x481003_2] 37 (0, 0))) ∧ (w'.heap[s_.2.2]? = some (.cells #[.slice none 0 0, .slice none 0 0, .int .i64 0, .bool false] 37 (0, 0))) ∧ (w.heap.size ≤ s_.2.2) ∧ (w.heap.size ≤ s_.2.2) ∧ (g480 ≠ s_.2.2) ∧ (s_.2.2 ≠ g480) ∧ (Below w.heap.size w w')) ?_ ?_
            rotate_left
            ·intro hCont
             refine two_ (i := 6) (j := 10) (Ni := some 61) (Nj := some 11) #[true, true, true, true, true, true, true, false, false, false, false, false, false] #[true, true, true, true, true, true, false, false, false, false, true, false, false] rfl rfl rfl rfl (two_of HT_.out (by kernel_rfl)) (by decide) (by decide) (fun K hK => ?_) (fun K hK => ?_)
             ·skip
              refine goes_ Try.func17 (by kernel_rfl) rfl #[.agg #[.slice Ao26 x481000_2.length co26, .slice Ao27 x481001_2.length co27, .int .i64 x481002_2, .bool x481003_2], .int .i64 a1, .string (rdOf ByteArray.empty l2 x10_2)] (by rfl) rfl rfl (by (try simp only [List.map_toArray, List.map_cons, List.map_nil]); first | done | rfl | (simp only [List.length_drop, List.length_take]; rfl)) ?_
              with_reducible refine (cell_Write.calls kj15 (fun k_ => k_ ≠ g480) _ _ x481000_2 (fun k_ => k_ ≠ g480) _ _ x481001_2 x481002_2 x481003_2 a1 (rdOf ByteArray.empty l2 x10_2) t483 t486 t489 t490 t491 _ ?side1 ?side2 A22.out).mono ?_
              (case side1 => exact HO_481000.out)
              (case side2 => exact HO_481001.out)
              rintro e w29 ⟨v484, v487, rfl, ho0, ho1, hb⟩
              refine ⟨_, rfl, ?_⟩
              have n0_ := qM (Vb (by (with_reducible repeat first | apply VA | apply VN | apply VD); exact HO_481000.out) hb)
              have n1_ := qM (Vb (by (with_reducible repeat first | apply VA | apply VN | apply VD); exact HO_481001.out) hb)
              have n2_ := qM (Vl (Vm (ok' := fun k_ => k_ ≠ g480) ho0 (fun k_ hk_ => Or.elim hk_ (fun hs_ => Or.elim hs_ (fun hs_ => hs_) (fun hs_ => hs_)) (fun hn_ => (Fb (g := g480) (by (with_reducible repeat first | refine qN ?_ _ | refine qD ?_ | refine qA ?_ _); exact B480.out) k_ hn_)))) (eZ (by repeat (first | (with_reducible first | exact HB.out | apply eA | apply eN | apply eD | refine eS ?_ GE480.out) | exact HB.out))))
              have n3_ := qM (Vl (Vm (ok' := fun k_ => k_ ≠ g480) ho1 (fun k_ hk_ => Or.elim hk_ (fun hs_ => Or.elim hs_ (fun hs_ => hs_) (fun hs_ => hs_)) (fun hn_ => (Fb (g := g480) (by (with_reducible repeat first | refine qN ?_ _ | refine qD ?_ | refine qA ?_ _); exact B480.out) k_ hn_)))) (eZ (by repeat (first | (with_reducible first | exact HB.out | apply eA | apply eN | apply eD | refine eS ?_ GE480.out) | exact HB.out))))
              have n4_ := qM (qB (g := g480) (by (with_reducible repeat first | refine qN ?_ _ | refine qD ?_ | refine qA ?_ _); exact B480.out) hb)
              have n5_ := qM (eT (by repeat (first | (with_reducible first | exact HB.out | apply eA | apply eN | apply eD | refine eS ?_ GE480.out) | exact HB.out)) hb)
              clear HO_481000
              clear HO_481001
              clear B480
              clear HB
              have HO_481000 := n0_
              have HO_481001 := n1_
              have HO485 := n2_
              have HO488 := n3_
              have B480 := n4_
              have HB := n5_
              clear n0_ n1_ n2_ n3_ n4_ n5_
              (try clear hb)
              (try clear hb2)
              (try clear hk)
              (try clear hi)
              (try clear ho0)
              (try clear ho1)
              refine hK.out _ _ ⟨(qC B480.out 0).trans rfl, (qC B480.out 1).trans rfl, (qC B480.out 2).trans rfl, (qC B480.out 3).trans rfl, ((HB.out.cell (World.block_lt_of_cell? w _ hw482_0)).trans hw482_0)⟩ (fun hHeld => ?_)
              clear hK K
              refine norm_ (a' := ?_) ?_ ?_
              rotate_left
              ·show Act.put _ (some 61) _ = _
               simp only [Act.put, xA, xZ, xS, i64_w, i32_w]
               rfl
              refine pure_ (i := 7) (N := some 54) (v := ?_) (a' := ?_) #[true, true, true, true, true, true, true, true, false, false, false, false, false] rfl rfl (any_of HT_.out (by kernel_rfl)) (fun _ _ _ h => h) (Or.inl ⟨by rfl, ?_⟩) ?_ ?_
              rotate_left
              ·intro w'; go_simp; with_reducible rfl
              rotate_left
              ·simp only [Act.put, xA, xZ, xS, i64_w, i32_w]; rfl
              refine pure_ (i := 8) (N := some 62) (v := ?_) (a' := ?_) #[true, true, true, true, true, true, true, true, true, false, false, false, false] rfl rfl (any_of HT_.out (by kernel_rfl)) (fun _ _ _ h => h) (Or.inl ⟨by rfl, ?_⟩) ?_ ?_
              rotate_left
              ·intro w'; go_simp; with_reducible rfl
              rotate_left
              ·simp only [Act.put, xA, xZ, xS, i64_w, i32_w]; rfl
              refine pure_ (i := 9) (N := some 63) (v := ?_) (a' := ?_) #[true, true, true, true, true, true, true, true, true, true, false, false, false] rfl rfl (any_of HT_.out (by kernel_rfl)) (fun _ _ _ h => h) (Or.inl ⟨by rfl, ?_⟩) ?_ ?_
              rotate_left
              ·intro w'; go_simp; with_reducible rfl
              rotate_left
              ·simp only [Act.put, xA, xZ, xS, i64_w, i32_w]; rfl
              refine one_ (i := 10) (N := some 11) #[true, true, true, true, true, true, true, true, true, true, true, false, false] rfl rfl (one_of HT_.out (by kernel_rfl)) (by decide) (fun K hK => ?_)
              refine box_step ?hg (N := 11) ?hd (cs := #[.slice none 0 0, .slice none 0 0, .int .i64 0, .bool false]) (t := 37) ?hr ?_; (case hd => rfl); (case hg => rfl); (case hr => first | (go_simp; done) | (go_simp; rfl))
              intro g492 hg w30 hbox hb
              have n0_ := qM (Vb (Kd.V_elderB (by (with_reducible repeat first | apply VA | apply VN | apply VD); exact HO_481000.out) g492 (Nat.le_of_eq hg.symm)) hb)
              have n1_ := qM (Vb (Kd.V_elderB (by (with_reducible repeat first | apply VA | apply VN | apply VD); exact HO_481001.out) g492 (Nat.le_of_eq hg.symm)) hb)
              have n2_ := qM (Vb (Kd.V_elderB (by (with_reducible repeat first | apply VA | apply VN | apply VD); exact HO485.out) g492 (Nat.le_of_eq hg.symm)) hb)
              have n3_ := qM (Vb (Kd.V_elderB (by (with_reducible repeat first | apply VA | apply VN | apply VD); exact HO488.out) g492 (Nat.le_of_eq hg.symm)) hb)
              have n4_ := qM (qB (g := g480) (by (with_reducible repeat first | refine qN ?_ _ | refine qD ?_ | refine qA ?_ _); exact B480.out) hb)
              have n5_ := qM (eT (by repeat (first | (with_reducible first | exact HB.out | apply eA | apply eN | apply eD | refine eS ?_ GE480.out) | exact HB.out)) hb)
              have n6_ := qM (hbox)
              have n7_ := qM ((by rw [hg]; exact (eZ (by repeat (first | (with_reducible first | exact HB.out | apply eA | apply eN | apply eD | refine eS ?_ GE480.out) | exact HB.out))) : w.heap.size ≤ g492))
              have n8_ := qM ((by rw [hg]; exact (eZ (by repeat (first | (with_reducible first | exact HB.out | apply eA | apply eN | apply eD | refine eS ?_ GE480.out) | exact HB.out))) : w.heap.size ≤ g492))
              have n9_ := qM ((by rw [hg]; exact Nat.ne_of_lt (qL (g := g480) (by (with_reducible repeat first | refine qN ?_ _ | refine qD ?_ | refine qA ?_ _); exact B480.out)) : g480 ≠ g492))
              have n10_ := qM ((by rw [hg]; exact Nat.ne_of_gt (qL (g := g480) (by (with_reducible repeat first | refine qN ?_ _ | refine qD ?_ | refine qA ?_ _); exact B480.out)) : g492 ≠ g480))
              clear HO_481000
              clear HO_481001
              clear HO485
              clear HO488
              clear B480
              clear HB
              have HO_481000 := n0_
              have HO_481001 := n1_
              have HO485 := n2_
              have HO488 := n3_
              have B480 := n4_
              have HB := n5_
              have B492 := n6_
              have GW492 := n7_
              have GE492 := n8_
              have NB480_492 := n9_
              have NB492_480 := n10_
              clear n0_ n1_ n2_ n3_ n4_ n5_ n6_ n7_ n8_ n9_ n10_
              clear hb hbox hg
              refine hK.out _ _ ⟨(qC B480.out 0).trans rfl, (qC B480.out 1).trans rfl, (qC B480.out 2).trans rfl, (qC B480.out 3).trans rfl, ((HB.out.cell (World.block_lt_of_cell? w _ hw482_0)).trans hw482_0)⟩ (fun hHeld => ?_)
              clear hK K
              refine norm_ (a' := ?_) ?_ ?_
              rotate_left
              ·show Act.put _ (some 11) _ = _
               simp only [Act.put, xA, xZ, xS, i64_w, i32_w]
               rfl
              exact norm_ (by simp only [putAll, Act.put, List.setIfInBounds_toArray, List.set_cons_zero, List.set_cons_succ]) (hCont (v484, v487, g492) _ ⟨hHeld, (by (with_reducible repeat first | apply VA | apply VN | apply VD); exact HO485.out), (by (with_reducible repeat first | apply VA | apply VN | apply VD); exact HO488.out), (by (with_reducible repeat first | apply VA | apply VN | apply VD); exact HO_481000.out), (by (with_reducible repeat first | apply VA | apply VN | apply VD); exact HO_481001.out), (by (with_reducible repeat first | refine qN ?_ _ | refine qD ?_ | refine qA ?_ _); exact B480.out), (by (with_reducible repeat first | refine qN ?_ _ | refine qD ?_ | refine qA ?_ _); exact B492.out), GW492.out, GE492.out, NB480_492.out, NB492_480.out, (by repeat (first | (with_reducible first | exact HB.out | apply eA | apply eN | apply eD | refine eS ?_ GE480.out | refine eS ?_ GE492.out) | exact HB.out))⟩)
             ·skip
              refine box_step ?hg (N := 11) ?hd (cs := #[.slice none 0 0, .slice none 0 0, .int .i64 0, .bool false]) (t := 37) ?hr ?_; (case hd => rfl); (case hg => rfl); (case hr => first | (go_simp; done) | (go_simp; rfl))
              intro g492 hg w29 hbox hb
              have n0_ := qM (Vb (Kd.V_elderB (by (with_reducible repeat first | apply VA | apply VN | apply VD); exact HO_481000.out) g492 (Nat.le_of_eq hg.symm)) hb)
              have n1_ := qM (Vb (Kd.V_elderB (by (with_reducible repeat first | apply VA | apply VN | apply VD); exact HO_481001.out) g492 (Nat.le_of_eq hg.symm)) hb)
              have n2_ := qM (qB (g := g480) (by (with_reducible repeat first | refine qN ?_ _ | refine qD ?_ | refine qA ?_ _); exact B480.out) hb)
              have n3_ := qM (eT (by repeat (first | (with_reducible first | exact HB.out | apply eA | apply eN | apply eD | refine eS ?_ GE480.out) | exact HB.out)) hb)
              have n4_ := qM (hbox)
              have n5_ := qM ((by rw [hg]; exact (eZ (by repeat (first | (with_reducible first | exact HB.out | apply eA | apply eN | apply eD | refine eS ?_ GE480.out) | exact HB.out))) : w.heap.size ≤ g492))
              have n6_ := qM ((by rw [hg]; exact (eZ (by repeat (first | (with_reducible first | exact HB.out | apply eA | apply eN | apply eD | refine eS ?_ GE480.out) | exact HB.out))) : w.heap.size ≤ g492))
              have n7_ := qM ((by rw [hg]; exact Nat.ne_of_lt (qL (g := g480) (by (with_reducible repeat first | refine qN ?_ _ | refine qD ?_ | refine qA ?_ _); exact B480.out)) : g480 ≠ g492))
              have n8_ := qM ((by rw [hg]; exact Nat.ne_of_gt (qL (g := g480) (by (with_reducible repeat first | refine qN ?_ _ | refine qD ?_ | refine qA ?_ _); exact B480.out)) : g492 ≠ g480))
              clear HO_481000
              clear HO_481001
              clear B480
              clear HB
              have HO_481000 := n0_
              have HO_481001 := n1_
              have B480 := n2_
              have HB := n3_
              have B492 := n4_
              have GW492 := n5_
              have GE492 := n6_
              have NB480_492 := n7_
              have NB492_480 := n8_
              clear n0_ n1_ n2_ n3_ n4_ n5_ n6_ n7_ n8_
              clear hb hbox hg
              refine hK.out _ _ ⟨(qC B480.out 0).trans rfl, (qC B480.out 1).trans rfl, (qC B480.out 2).trans rfl, (qC B480.out 3).trans rfl, ((HB.out.cell (World.block_lt_of_cell? w _ hw482_0)).trans hw482_0)⟩ (fun hHeld => ?_)
              clear hK K
              refine norm_ (a' := ?_) ?_ ?_
              rotate_left
              ·show Act.put _ (some 11) _ = _
               simp only [Act.put, xA, xZ, xS, i64_w, i32_w]
               rfl
              refine one_ (i := 6) (N := some 61) #[true, true, true, true, true, true, true, false, false, false, true, false, false] rfl rfl (one_of HT_.out (by kernel_rfl)) (by decide) (fun K hK => ?_)
              refine goes_ Try.func17 (by kernel_rfl) rfl #[.agg #[.slice Ao26 x481000_2.length co26, .slice Ao27 x481001_2.length co27, .int .i64 x481002_2, .bool x481003_2], .int .i64 a1, .string (rdOf ByteArray.empty l2 x10_2)] (by rfl) rfl rfl (by (try simp only [List.map_toArray, List.map_cons, List.map_nil]); first | done | rfl | (simp only [List.length_drop, List.length_take]; rfl)) ?_
              with_reducible refine (cell_Write.calls kj15 (fun k_ => (k_ ≠ g480 ∧ k_ ≠ g492)) _ _ x481000_2 (fun k_ => (k_ ≠ g480 ∧ k_ ≠ g492)) _ _ x481001_2 x481002_2 x481003_2 a1 (rdOf ByteArray.empty l2 x10_2) t483 t486 t489 t490 t491 _ ?side1 ?side2 A22.out).mono ?_
              (case side1 => exact HO_481000.out)
              (case side2 => exact HO_481001.out)
              rintro e w30 ⟨v484, v487, rfl, ho0, ho1, hb⟩
              refine ⟨_, rfl, ?_⟩
              have n0_ := qM (Vb (by (with_reducible repeat first | apply VA | apply VN | apply VD); exact HO_481000.out) hb)
              have n1_ := qM (Vb (by (with_reducible repeat first | apply VA | apply VN | apply VD); exact HO_481001.out) hb)
              have n2_ := qM (Vl (Vm (ok' := fun k_ => k_ ≠ g480 ∧ k_ ≠ g492) ho0 (fun k_ hk_ => ⟨Or.elim hk_ (fun hs_ => Or.elim hs_ (fun hs_ => hs_.1) (fun hs_ => hs_.1)) (fun hn_ => (Fb (g := g480) (by (with_reducible repeat first | refine qN ?_ _ | refine qD ?_ | refine qA ?_ _); exact B480.out) k_ hn_)), Or.elim hk_ (fun hs_ => Or.elim hs_ (fun hs_ => hs_.2) (fun hs_ => hs_.2)) (fun hn_ => (Fb (g := g492) (by (with_reducible repeat first | refine qN ?_ _ | refine qD ?_ | refine qA ?_ _); exact B492.out) k_ hn_))⟩)) (eZ (by repeat (first | (with_reducible first | exact HB.out | apply eA | apply eN | apply eD | refine eS ?_ GE480.out | refine eS ?_ GE492.out) | exact HB.out))))
              have n3_ := qM (Vl (Vm (ok' := fun k_ => k_ ≠ g480 ∧ k_ ≠ g492) ho1 (fun k_ hk_ => ⟨Or.elim hk_ (fun hs_ => Or.elim hs_ (fun hs_ => hs_.1) (fun hs_ => hs_.1)) (fun hn_ => (Fb (g := g480) (by (with_reducible repeat first | refine qN ?_ _ | refine qD ?_ | refine qA ?_ _); exact B480.out) k_ hn_)), Or.elim hk_ (fun hs_ => Or.elim hs_ (fun hs_ => hs_.2) (fun hs_ => hs_.2)) (fun hn_ => (Fb (g := g492) (by (with_reducible repeat first | refine qN ?_ _ | refine qD ?_ | refine qA ?_ _); exact B492.out) k_ hn_))⟩)) (eZ (by repeat (first | (with_reducible first | exact HB.out | apply eA | apply eN | apply eD | refine eS ?_ GE480.out | refine eS ?_ GE492.out) | exact HB.out))))
              have n4_ := qM (qB (g := g480) (by (with_reducible repeat first | refine qN ?_ _ | refine qD ?_ | refine qA ?_ _); exact B480.out) hb)
              have n5_ := qM (qB (g := g492) (by (with_reducible repeat first | refine qN ?_ _ | refine qD ?_ | refine qA ?_ _); exact B492.out) hb)
              have n6_ := qM (eT (by repeat (first | (with_reducible first | exact HB.out | apply eA | apply eN | apply eD | refine eS ?_ GE480.out | refine eS ?_ GE492.out) | exact HB.out)) hb)
              clear HO_481000
              clear HO_481001
              clear B480
              clear B492
              clear HB
              have HO_481000 := n0_
              have HO_481001 := n1_
              have HO485 := n2_
              have HO488 := n3_
              have B480 := n4_
              have B492 := n5_
              have HB := n6_
              clear n0_ n1_ n2_ n3_ n4_ n5_ n6_
              (try clear hb)
              (try clear hb2)
              (try clear hk)
              (try clear hi)
              (try clear ho0)
              (try clear ho1)
              refine hK.out _ _ ⟨(qC B480.out 0).trans rfl, (qC B480.out 1).trans rfl, (qC B480.out 2).trans rfl, (qC B480.out 3).trans rfl, ((HB.out.cell (World.block_lt_of_cell? w _ hw482_0)).trans hw482_0)⟩ (fun hHeld => ?_)
              clear hK K
              refine norm_ (a' := ?_) ?_ ?_
              rotate_left
              ·show Act.put _ (some 61) _ = _
               simp only [Act.put, xA, xZ, xS, i64_w, i32_w]
               rfl
              refine pure_ (i := 7) (N := some 54) (v := ?_) (a' := ?_) #[true, true, true, true, true, true, true, true, false, false, true, false, false] rfl rfl (any_of HT_.out (by kernel_rfl)) (fun _ _ _ h => h) (Or.inl ⟨by rfl, ?_⟩) ?_ ?_
              rotate_left
              ·intro w'; go_simp; with_reducible rfl
              rotate_left
              ·simp only [Act.put, xA, xZ, xS, i64_w, i32_w]; rfl
              refine pure_ (i := 8) (N := some 62) (v := ?_) (a' := ?_) #[true, true, true, true, true, true, true, true, true, false, true, false, false] rfl rfl (any_of HT_.out (by kernel_rfl)) (fun _ _ _ h => h) (Or.inl ⟨by rfl, ?_⟩) ?_ ?_
              rotate_left
              ·intro w'; go_simp; with_reducible rfl
              rotate_left
              ·simp only [Act.put, xA, xZ, xS, i64_w, i32_w]; rfl
              refine pure_ (i := 9) (N := some 63) (v := ?_) (a' := ?_) #[true, true, true, true, true, true, true, true, true, true, true, false, false] rfl rfl (any_of HT_.out (by kernel_rfl)) (fun _ _ _ h => h) (Or.inl ⟨by rfl, ?_⟩) ?_ ?_
              rotate_left
              ·intro w'; go_simp; with_reducible rfl
              rotate_left
              ·simp only [Act.put, xA, xZ, xS, i64_w, i32_w]; rfl
              exact norm_ (by simp only [putAll, Act.put, List.setIfInBounds_toArray, List.set_cons_zero, List.set_cons_succ]) (hCont (v484, v487, g492) _ ⟨hHeld, (by (with_reducible repeat first | apply VA | apply VN | apply VD); exact HO485.out), (by (with_reducible repeat first | apply VA | apply VN | apply VD); exact HO488.out), (by (with_reducible repeat first | apply VA | apply VN | apply VD); exact HO_481000.out), (by (with_reducible repeat first | apply VA | apply VN | apply VD); exact HO_481001.out), (by (with_reducible repeat first | refine qN ?_ _ | refine qD ?_ | refine qA ?_ _); exact B480.out), (by (with_reducible repeat first | refine qN ?_ _ | refine qD ?_ | refine qA ?_ _); exact B492.out), GW492.out, GE492.out, NB480_492.out, NB492_480.out, (by repeat (first | (with_reducible first | exact HB.out | apply eA | apply eN | apply eD | refine eS ?_ GE480.out | refine eS ?_ GE492.out) | exact HB.out))⟩)
            rintro ⟨v484, v487, g492⟩ w31 ⟨hS_, h0_, h1_, h2_, h3_, h4_, h5_, h6_, h7_, h8_, h9_, h10_⟩
            have n0_ : Aside0 (Kd.V Kd.string 9 w31 w.heap.size (fun k_ => k_ ≠ g480 ∧ k_ ≠ g492) v484 t483) := ⟨h0_⟩
            have n1_ : Aside0 (Kd.V k77 77 w31 w.heap.size (fun k_ => k_ ≠ g480 ∧ k_ ≠ g492) v487 t486) := ⟨h1_⟩
            have n2_ : Aside0 (Kd.V Kd.string 9 w31 w.heap.size (fun k_ => k_ ≠ g480 ∧ k_ ≠ g492) (.slice Ao26 x481000_2.length co26) x481000_2) := ⟨h2_⟩
            have n3_ : Aside0 (Kd.V k77 77 w31 w.heap.size (fun k_ => k_ ≠ g480 ∧ k_ ≠ g492) (.slice Ao27 x481001_2.length co27) x481001_2) := ⟨h3_⟩
            have n4_ : Aside0 (w31.heap[g480]? = some (.cells #[.slice Ao26 x481000_2.length co26, .slice Ao27 x481001_2.length co27, .int .i64 x481002_2, .bool x481003_2] 37 (0, 0))) := ⟨h4_⟩
            have n5_ : Aside0 (w31.heap[g492]? = some (.cells #[.slice none 0 0, .slice none 0 0, .int .i64 0, .bool false] 37 (0, 0))) := ⟨h5_⟩
            have n6_ : Aside0 (w.heap.size ≤ g492) := ⟨h6_⟩
            have n7_ : Aside0 (w.heap.size ≤ g492) := ⟨h7_⟩
            have n8_ : Aside0 (g480 ≠ g492) := ⟨h8_⟩
            have n9_ : Aside0 (g492 ≠ g480) := ⟨h9_⟩
            have n10_ : Aside0 (Below w.heap.size w w31) := ⟨h10_⟩
            clear HO_481000
            clear HO_481001
            clear B480
            clear HB
            clear h0_ h1_ h2_ h3_ h4_ h5_ h6_ h7_ h8_ h9_ h10_
            have HO485 := n0_
            have HO488 := n1_
            have HO_481000 := n2_
            have HO_481001 := n3_
            have B480 := n4_
            have B492 := n5_
            have GW492 := n6_
            have GE492 := n7_
            have NB480_492 := n8_
            have NB492_480 := n9_
            have HB := n10_
            clear n0_ n1_ n2_ n3_ n4_ n5_ n6_ n7_ n8_ n9_ n10_
            have hHeld : w31.cell? ⟨g480, 0, none⟩ = some (.slice Ao26 x481000_2.length co26) ∧ w31.cell? ⟨g480, 1, none⟩ = some (.slice Ao27 x481001_2.length co27) ∧ w31.cell? ⟨g480, 2, none⟩ = some (.int .i64 x481002_2) ∧ w31.cell? ⟨g480, 3, none⟩ = some (.bool x481003_2) ∧ w31.cell? (ad481.add (x10_2).toNat) = some (.string (rdOf ByteArray.empty l2 x10_2)) := hS_
            obtain ⟨Ao32, co32, eo32⟩ := Kd.V_slice HO485.out
            (first | subst eo32 | (injection eo32 with f1_ f2_ f3_; have f4_ := f1_.symm; have f5_ := f3_.symm; clear f1_ f2_ f3_; subst f4_; subst f5_))
            obtain ⟨Ao34, co34, eo34⟩ := Kd.V_slice HO488.out
            (first | subst eo34 | (injection eo34 with f1_ f2_ f3_; have f4_ := f1_.symm; have f5_ := f3_.symm; clear f1_ f2_ f3_; subst f4_; subst f5_))
            refine norm_ (a' := ?_) ?_ ?_
            rotate_left
            ·simp only [putAll, Act.put, List.setIfInBounds_toArray, List.set_cons_zero, List.set_cons_succ]; rfl
            refine one_ (i := 11) (N := none) #[true, true, true, true, true, true, true, true, true, true, true, true, false] rfl rfl (one_of HT_.out (by kernel_rfl)) (by decide) (fun K hK => ?_)
            have hs33 : w31.cell? ⟨g492, 0, none⟩ = some (.slice none 0 0) := (qC B492.out 0).trans rfl
            have hfs33 := qF B492.out 0
            have hns33_0 := NB480_492.out
            have hms33_0 := NB492_480.out
            have hs35 : w31.cell? ⟨g492, 1, none⟩ = some (.slice none 0 0) := (qC B492.out 1).trans rfl
            have hfs35 := qF B492.out 1
            have hns35_0 := NB480_492.out
            have hms35_0 := NB492_480.out
            have hs36 : w31.cell? ⟨g492, 2, none⟩ = some (.int .i64 0) := (qC B492.out 2).trans rfl
            have hfs36 := qF B492.out 2
            have hns36_0 := NB480_492.out
            have hms36_0 := NB492_480.out
            have hs37 : w31.cell? ⟨g492, 3, none⟩ = some (.bool false) := (qC B492.out 3).trans rfl
            have hfs37 := qF B492.out 3
            have hns37_0 := NB480_492.out
            have hms37_0 := NB492_480.out
            refine skip_ (w1 := ?_) (by rfl) rfl ?_ ?_
            rotate_left
            ·go_simp; rfl
            refine hK.out _ _ ⟨((far4 (g := g492) NB480_492.out).trans (hHeld.1)), ((far4 (g := g492) NB480_492.out).trans (hHeld.2.1)), ((far4 (g := g492) NB480_492.out).trans (hHeld.2.2.1)), ((far4 (g := g492) NB480_492.out).trans (hHeld.2.2.2.1)), ((far4 (g := g492) (by first | exact Nat.ne_of_lt (Nat.lt_of_lt_of_le (by have := World.block_lt_of_cell? _ _ hw482_0; first | rwa [add_block] at this | exact this) GW492.out) | (rw [add_block]; exact Nat.ne_of_lt (Nat.lt_of_lt_of_le (by have := World.block_lt_of_cell? _ _ hw482_0; first | rwa [add_block] at this | exact this) GW492.out)) | (show (Addr.add _ _).block ≠ _; rw [add_block]; exact Nat.ne_of_lt (Nat.lt_of_lt_of_le (by have := World.block_lt_of_cell? _ _ hw482_0; first | rwa [add_block] at this | exact this) GW492.out)) | (dsimp only; exact Nat.ne_of_lt (Nat.lt_of_lt_of_le (by have := World.block_lt_of_cell? _ _ hw482_0; first | rwa [add_block] at this | exact this) GW492.out)))).trans (hHeld.2.2.2.2))⟩ (fun hHeld => ?_)
            clear hK K
            refine pure_ (i := 12) (N := some 12) (v := ?_) (a' := ?_) #[true, true, true, true, true, true, true, true, true, true, true, true, true] rfl rfl (any_of HT_.out (by kernel_rfl)) (fun _ _ _ h => h) (Or.inl ⟨by rfl, ?_⟩) ?_ ?_
            rotate_left
            ·intro w'; go_simp; with_reducible rfl
            rotate_left
            ·simp only [Act.put, xA, xZ, xS, i64_w, i32_w]; rfl
            refine done_ (done_of HT_.out (by kernel_rfl)) ?_
            have n0_ : Aside0 (Kd.V Kd.string 9 ((((w31.setCell ⟨g492, 0, none⟩ (.slice Ao32 t483.length co32)).setCell ⟨g492, 1, none⟩ (.slice Ao34 t486.length co34)).setCell ⟨g492, 2, none⟩ (.int .i64 t489)).setCell ⟨g492, 3, none⟩ (.bool t490)) w.heap.size (fun k_ => k_ ≠ g480 ∧ k_ ≠ g492) (.slice Ao26 x481000_2.length co26) x481000_2) := ⟨by (with_reducible repeat first | apply VA | apply VN | apply VD); exact Vm (Vf (p := ⟨g492, 3, none⟩) (Vf (p := ⟨g492, 2, none⟩) (Vf (p := ⟨g492, 1, none⟩) (Vf (p := ⟨g492, 0, none⟩) (Vm HO_481000.out (fun k_ hk => (⟨hk, hk.2⟩ : _ ∧ k_ ≠ g492))) (fun _ hk => hk.2) (.slice Ao32 t483.length co32)) (fun _ hk => hk.2) (.slice Ao34 t486.length co34)) (fun _ hk => hk.2) (.int .i64 t489)) (fun _ hk => hk.2) (.bool t490)) (fun _ hk => ⟨hk.1.1, hk.1.2⟩)⟩
            have n1_ : Aside0 (Kd.V k77 77 ((((w31.setCell ⟨g492, 0, none⟩ (.slice Ao32 t483.length co32)).setCell ⟨g492, 1, none⟩ (.slice Ao34 t486.length co34)).setCell ⟨g492, 2, none⟩ (.int .i64 t489)).setCell ⟨g492, 3, none⟩ (.bool t490)) w.heap.size (fun k_ => k_ ≠ g480 ∧ k_ ≠ g492) (.slice Ao27 x481001_2.length co27) x481001_2) := ⟨by (with_reducible repeat first | apply VA | apply VN | apply VD); exact Vm (Vf (p := ⟨g492, 3, none⟩) (Vf (p := ⟨g492, 2, none⟩) (Vf (p := ⟨g492, 1, none⟩) (Vf (p := ⟨g492, 0, none⟩) (Vm HO_481001.out (fun k_ hk => (⟨hk, hk.2⟩ : _ ∧ k_ ≠ g492))) (fun _ hk => hk.2) (.slice Ao32 t483.length co32)) (fun _ hk => hk.2) (.slice Ao34 t486.length co34)) (fun _ hk => hk.2) (.int .i64 t489)) (fun _ hk => hk.2) (.bool t490)) (fun _ hk => ⟨hk.1.1, hk.1.2⟩)⟩
            have n2_ : Aside0 (Kd.V Kd.string 9 ((((w31.setCell ⟨g492, 0, none⟩ (.slice Ao32 t483.length co32)).setCell ⟨g492, 1, none⟩ (.slice Ao34 t486.length co34)).setCell ⟨g492, 2, none⟩ (.int .i64 t489)).setCell ⟨g492, 3, none⟩ (.bool t490)) w.heap.size (fun k_ => k_ ≠ g480 ∧ k_ ≠ g492) (.slice Ao32 t483.length co32) t483) := ⟨by (with_reducible repeat first | apply VA | apply VN | apply VD); exact Vm (Vf (p := ⟨g492, 3, none⟩) (Vf (p := ⟨g492, 2, none⟩) (Vf (p := ⟨g492, 1, none⟩) (Vf (p := ⟨g492, 0, none⟩) (Vm HO485.out (fun k_ hk => (⟨hk, hk.2⟩ : _ ∧ k_ ≠ g492))) (fun _ hk => hk.2) (.slice Ao32 t483.length co32)) (fun _ hk => hk.2) (.slice Ao34 t486.length co34)) (fun _ hk => hk.2) (.int .i64 t489)) (fun _ hk => hk.2) (.bool t490)) (fun _ hk => ⟨hk.1.1, hk.1.2⟩)⟩
            have n3_ : Aside0 (Kd.V k77 77 ((((w31.setCell ⟨g492, 0, none⟩ (.slice Ao32 t483.length co32)).setCell ⟨g492, 1, none⟩ (.slice Ao34 t486.length co34)).setCell ⟨g492, 2, none⟩ (.int .i64 t489)).setCell ⟨g492, 3, none⟩ (.bool t490)) w.heap.size (fun k_ => k_ ≠ g480 ∧ k_ ≠ g492) (.slice Ao34 t486.length co34) t486) := ⟨by (with_reducible repeat first | apply VA | apply VN | apply VD); exact Vm (Vf (p := ⟨g492, 3, none⟩) (Vf (p := ⟨g492, 2, none⟩) (Vf (p := ⟨g492, 1, none⟩) (Vf (p := ⟨g492, 0, none⟩) (Vm HO488.out (fun k_ hk => (⟨hk, hk.2⟩ : _ ∧ k_ ≠ g492))) (fun _ hk => hk.2) (.slice Ao32 t483.length co32)) (fun _ hk => hk.2) (.slice Ao34 t486.length co34)) (fun _ hk => hk.2) (.int .i64 t489)) (fun _ hk => hk.2) (.bool t490)) (fun _ hk => ⟨hk.1.1, hk.1.2⟩)⟩
            have n4_ : Aside0 (((((w31.setCell ⟨g492, 0, none⟩ (.slice Ao32 t483.length co32)).setCell ⟨g492, 1, none⟩ (.slice Ao34 t486.length co34)).setCell ⟨g492, 2, none⟩ (.int .i64 t489)).setCell ⟨g492, 3, none⟩ (.bool t490)).heap[g480]? = some (.cells #[.slice Ao26 x481000_2.length co26, .slice Ao27 x481001_2.length co27, .int .i64 x481002_2, .bool x481003_2] 37 (0, 0))) := ⟨by (with_reducible repeat first | refine qN ?_ _ | refine qD ?_ | refine qA ?_ _); (iterate 4 (refine qR ?_ NB480_492.out _; (with_reducible repeat first | refine qN ?_ _ | refine qD ?_ | refine qA ?_ _))); exact B480.out⟩
            have n5_ : Aside0 (((((w31.setCell ⟨g492, 0, none⟩ (.slice Ao32 t483.length co32)).setCell ⟨g492, 1, none⟩ (.slice Ao34 t486.length co34)).setCell ⟨g492, 2, none⟩ (.int .i64 t489)).setCell ⟨g492, 3, none⟩ (.bool t490)).heap[g492]? = some (.cells #[.slice Ao32 t483.length co32, .slice Ao34 t486.length co34, .int .i64 t489, .bool t490] 37 (0, 0))) := ⟨by (with_reducible repeat first | refine qN ?_ _ | refine qD ?_ | refine qA ?_ _); apply puts4; (with_reducible repeat first | refine qN ?_ _ | refine qD ?_ | refine qA ?_ _); exact B492.out⟩
            have n6_ : Aside0 (Below w.heap.size w ((((w31.setCell ⟨g492, 0, none⟩ (.slice Ao32 t483.length co32)).setCell ⟨g492, 1, none⟩ (.slice Ao34 t486.length co34)).setCell ⟨g492, 2, none⟩ (.int .i64 t489)).setCell ⟨g492, 3, none⟩ (.bool t490))) := ⟨by repeat (first | (with_reducible first | exact HB.out | apply eA | apply eN | apply eD | refine eS ?_ GE480.out | refine eS ?_ GE492.out) | exact HB.out)⟩
            (try clear HO_481000)
            (try clear HO_481001)
            (try clear HO485)
            (try clear HO488)
            (try clear B480)
            (try clear B492)
            (try clear HB)
            generalize ((((w31.setCell ⟨g492, 0, none⟩ (.slice Ao32 t483.length co32)).setCell ⟨g492, 1, none⟩ (.slice Ao34 t486.length co34)).setCell ⟨g492, 2, none⟩ (.int .i64 t489)).setCell ⟨g492, 3, none⟩ (.bool t490)) = w38 at n0_ n1_ n2_ n3_ n4_ n5_ n6_ ⊢
            have HO_481000 := n0_
            have HO_481001 := n1_
            have HO485 := n2_
            have HO488 := n3_
            have B480 := n4_
            have B492 := n5_
            have HB := n6_
            clear n0_ n1_ n2_ n3_ n4_ n5_ n6_
            have hnb39 := NB492_480.out
            have hnc39 := NB480_492.out
            obtain ⟨z40_0, z40_1, z40_2, z40_3, f40_0, f40_1, f40_2, f40_3⟩ := cells4 B492.out
            go_upto_region 14 with (first | ((with_reducible refine gate_callee (f := 20) rfl ?_); refine goesL_ (some 66) rfl rfl Try.func20 (by kernel_rfl) rfl #[.agg #[.slice Ao32 t483.length co32, .slice Ao34 t486.length co34, .int .i64 t489, .bool t490]] rfl (by (try simp only [List.map_toArray, List.map_cons, List.map_nil]); first | done | rfl | (simp only [List.length_drop, List.length_take]; rfl)) ?_; (with_reducible refine (hogsheadref08_Flush.calls kj15 (fun k_ => (k_ ≠ g480 ∧ k_ ≠ g492)) _ _ t483 (fun k_ => (k_ ≠ g480 ∧ k_ ≠ g492)) _ _ t486 t489 t490 t493 t496 t499 t500 t501 _ ?side1 ?side2 A23.out).mono ?_); (case side1 => exact HO485.out); (case side2 => exact HO488.out); rintro e w41 ⟨v494, v497, rfl, ho0, ho1, hb⟩; refine ⟨_, rfl, ?_⟩; have n0_ := qM (Vb (by (with_reducible repeat first | apply VA | apply VN | apply VD); exact HO_481000.out) hb); have n1_ := qM (Vb (by (with_reducible repeat first | apply VA | apply VN | apply VD); exact HO_481001.out) hb); have n2_ := qM (Vb (by (with_reducible repeat first | apply VA | apply VN | apply VD); exact HO485.out) hb); have n3_ := qM (Vb (by (with_reducible repeat first | apply VA | apply VN | apply VD); exact HO488.out) hb); have n4_ := qM (Vl (Vm (ok' := fun k_ => k_ ≠ g480 ∧ k_ ≠ g492) ho0 (fun k_ hk_ => ⟨Or.elim hk_ (fun hs_ => Or.elim hs_ (fun hs_ => hs_.1) (fun hs_ => hs_.1)) (fun hn_ => (Fb (g := g480) (by (with_reducible repeat first | refine qN ?_ _ | refine qD ?_ | refine qA ?_ _); exact B480.out) k_ hn_)), Or.elim hk_ (fun hs_ => Or.elim hs_ (fun hs_ => hs_.2) (fun hs_ => hs_.2)) (fun hn_ => (Fb (g := g492) (by (with_reducible repeat first | refine qN ?_ _ | refine qD ?_ | refine qA ?_ _); exact B492.out) k_ hn_))⟩)) (eZ (by repeat (first | (with_reducible first | exact HB.out | apply eA | apply eN | apply eD | refine eS ?_ GE480.out | refine eS ?_ GE492.out) | exact HB.out)))); have n5_ := qM (Vl (Vm (ok' := fun k_ => k_ ≠ g480 ∧ k_ ≠ g492) ho1 (fun k_ hk_ => ⟨Or.elim hk_ (fun hs_ => Or.elim hs_ (fun hs_ => hs_.1) (fun hs_ => hs_.1)) (fun hn_ => (Fb (g := g480) (by (with_reducible repeat first | refine qN ?_ _ | refine qD ?_ | refine qA ?_ _); exact B480.out) k_ hn_)), Or.elim hk_ (fun hs_ => Or.elim hs_ (fun hs_ => hs_.2) (fun hs_ => hs_.2)) (fun hn_ => (Fb (g := g492) (by (with_reducible repeat first | refine qN ?_ _ | refine qD ?_ | refine qA ?_ _); exact B492.out) k_ hn_))⟩)) (eZ (by repeat (first | (with_reducible first | exact HB.out | apply eA | apply eN | apply eD | refine eS ?_ GE480.out | refine eS ?_ GE492.out) | exact HB.out)))); have n6_ := qM (qB (g := g480) (by (with_reducible repeat first | refine qN ?_ _ | refine qD ?_ | refine qA ?_ _); exact B480.out) hb); have n7_ := qM (qB (g := g492) (by (with_reducible repeat first | refine qN ?_ _ | refine qD ?_ | refine qA ?_ _); exact B492.out) hb); have n8_ := qM (eT (by repeat (first | (with_reducible first | exact HB.out | apply eA | apply eN | apply eD | refine eS ?_ GE480.out | refine eS ?_ GE492.out) | exact HB.out)) hb); clear HO_481000; clear HO_481001; clear HO485; clear HO488; clear B480; clear B492; clear HB; have HO_481000 := n0_; have HO_481001 := n1_; have HO485 := n2_; have HO488 := n3_; have HO495 := n4_; have HO498 := n5_; have B480 := n6_; have B492 := n7_; have HB := n8_; clear n0_ n1_ n2_ n3_ n4_ n5_ n6_ n7_ n8_; (try clear hb); (try clear hb2); (try clear hk); (try clear hi); (try clear ho0); (try clear ho1)) | ((with_reducible refine gate_dst (N := 13) rfl ?_); refine box_event ?hg (N := 13) ?hd (cs := #[.slice none 0 0, .slice none 0 0, .int .i64 0, .bool false]) (t := 37) ?hr ?_; (case hd => rfl); (case hg => rfl); (case hr => first | (go_simp; done) | (go_simp; rfl)); intro g502 hg w42 hbox hb; have n0_ := qM (Vb (Kd.V_elderB (by (with_reducible repeat first | apply VA | apply VN | apply VD); exact HO_481000.out) g502 (Nat.le_of_eq hg.symm)) hb); have n1_ := qM (Vb (Kd.V_elderB (by (with_reducible repeat first | apply VA | apply VN | apply VD); exact HO_481001.out) g502 (Nat.le_of_eq hg.symm)) hb); have n2_ := qM (Vb (Kd.V_elderB (by (with_reducible repeat first | apply VA | apply VN | apply VD); exact HO485.out) g502 (Nat.le_of_eq hg.symm)) hb); have n3_ := qM (Vb (Kd.V_elderB (by (with_reducible repeat first | apply VA | apply VN | apply VD); exact HO488.out) g502 (Nat.le_of_eq hg.symm)) hb); have n4_ := qM (Vb (Kd.V_elderB (by (with_reducible repeat first | apply VA | apply VN | apply VD); exact HO495.out) g502 (Nat.le_of_eq hg.symm)) hb); have n5_ := qM (Vb (Kd.V_elderB (by (with_reducible repeat first | apply VA | apply VN | apply VD); exact HO498.out) g502 (Nat.le_of_eq hg.symm)) hb); have n6_ := qM (qB (g := g480) (by (with_reducible repeat first | refine qN ?_ _ | refine qD ?_ | refine qA ?_ _); exact B480.out) hb); have n7_ := qM (qB (g := g492) (by (with_reducible repeat first | refine qN ?_ _ | refine qD ?_ | refine qA ?_ _); exact B492.out) hb); have n8_ := qM (eT (by repeat (first | (with_reducible first | exact HB.out | apply eA | apply eN | apply eD | refine eS ?_ GE480.out | refine eS ?_ GE492.out) | exact HB.out)) hb); have n9_ := qM (hbox); have n10_ := qM ((by rw [hg]; exact (eZ (by repeat (first | (with_reducible first | exact HB.out | apply eA | apply eN | apply eD | refine eS ?_ GE480.out | refine eS ?_ GE492.out) | exact HB.out))) : w.heap.size ≤ g502)); have n11_ := n10_; have n12_ := qM ((by rw [hg]; exact Nat.ne_of_lt (qL (g := g480) (by (with_reducible repeat first | refine qN ?_ _ | refine qD ?_ | refine qA ?_ _); exact B480.out)) : g480 ≠ g502)); have n13_ := qM (Ne.symm n12_.out); have n14_ := qM ((by rw [hg]; exact Nat.ne_of_lt (qL (g := g492) (by (with_reducible repeat first | refine qN ?_ _ | refine qD ?_ | refine qA ?_ _); exact B492.out)) : g492 ≠ g502)); have n15_ := qM (Ne.symm n14_.out); clear HO_481000; clear HO_481001; clear HO485; clear HO488; clear HO495; clear HO498; clear B480; clear B492; clear HB; have HO_481000 := n0_; have HO_481001 := n1_; have HO485 := n2_; have HO488 := n3_; have HO495 := n4_; have HO498 := n5_; have B480 := n6_; have B492 := n7_; have HB := n8_; have B502 := n9_; have GW502 := n10_; have GE502 := n11_; have NB480_502 := n12_; have NB502_480 := n13_; have NB492_502 := n14_; have NB502_492 := n15_; clear n0_ n1_ n2_ n3_ n4_ n5_ n6_ n7_ n8_ n9_ n10_ n11_ n12_ n13_ n14_ n15_; clear hb hbox hg; obtain ⟨Ao43, co43, eo43⟩ := Kd.V_slice HO495.out; subst eo43; have hnb44 := NB502_480.out; have hnc44 := NB480_502.out; have hnb45 := NB502_492.out; have hnc45 := NB492_502.out; obtain ⟨z46_0, z46_1, z46_2, z46_3, f46_0, f46_1, f46_2, f46_3⟩ := cells4 B502.out; obtain ⟨Ao47, co47, eo47⟩ := Kd.V_slice HO498.out; subst eo47; obtain ⟨z48_0, z48_1, z48_2, z48_3, f48_0, f48_1, f48_2, f48_3⟩ := cells4 B480.out) | ((with_reducible refine gate_callee (f := 15) rfl ?_); refine goesL_ (some 73) rfl rfl Try.func15 (by kernel_rfl) rfl #[.agg #[.slice Ao43 t493.length co43, .slice Ao47 t496.length co47, .int .i64 t499, .bool t500], .int .i64 a1] rfl (by (try simp only [List.map_toArray, List.map_cons, List.map_nil]); first | done | rfl | (simp only [List.length_drop, List.length_take]; rfl)) ?_; (with_reducible refine (cell_Read.calls kj15 _ _ t493 _ _ t496 t499 t500 a1 t503 t504 t505 _ ?side1 ?side2 ?side3 ?side4 A24.out).mono ?_); (case side1 => refine (Kd.V_reads' (e := 9) (base := w.heap.size) (ok := fun k_ => ((k_ ≠ g480 ∧ k_ ≠ g492) ∧ k_ ≠ g502)) (n := t493.length) (c := co43) ?_).2.2; exact (by (with_reducible repeat first | apply VA | apply VN | apply VD); exact (Vm (Vm (Vf (p := ⟨g480, 3, none⟩) (Vf (p := ⟨g480, 2, none⟩) (Vf (p := ⟨g480, 1, none⟩) (Vf (p := ⟨g480, 0, none⟩) (Vf (p := ⟨g502, 3, none⟩) (Vf (p := ⟨g502, 2, none⟩) (Vf (p := ⟨g502, 1, none⟩) (Vf (p := ⟨g502, 0, none⟩) (Vm (Vm HO495.out (fun k_ hk => (⟨hk, hk.2⟩ : _ ∧ k_ ≠ g502))) (fun k_ hk => (⟨hk, hk.1.1.1⟩ : _ ∧ k_ ≠ g480))) (fun _ hk => hk.1.2) (.slice Ao43 t493.length co43)) (fun _ hk => hk.1.2) (.slice Ao47 t496.length co47)) (fun _ hk => hk.1.2) (.int .i64 t499)) (fun _ hk => hk.1.2) (.bool t500)) (fun _ hk => hk.2) (.slice Ao43 t493.length co43)) (fun _ hk => hk.2) (.slice Ao47 t496.length co47)) (fun _ hk => hk.2) (.int .i64 t499)) (fun _ hk => hk.2) (.bool t500)) (fun _ h_ => h_.1)) (fun _ h_ => h_.1)))); (case side2 => exact (Kd.V_reads' HO495.out).2.1); (case side3 => refine (Kd.V_reads' (e := 77) (base := w.heap.size) (ok := fun k_ => ((k_ ≠ g480 ∧ k_ ≠ g492) ∧ k_ ≠ g502)) (n := t496.length) (c := co47) ?_).2.2; exact (by (with_reducible repeat first | apply VA | apply VN | apply VD); exact (Vm (Vm (Vf (p := ⟨g480, 3, none⟩) (Vf (p := ⟨g480, 2, none⟩) (Vf (p := ⟨g480, 1, none⟩) (Vf (p := ⟨g480, 0, none⟩) (Vf (p := ⟨g502, 3, none⟩) (Vf (p := ⟨g502, 2, none⟩) (Vf (p := ⟨g502, 1, none⟩) (Vf (p := ⟨g502, 0, none⟩) (Vm (Vm HO498.out (fun k_ hk => (⟨hk, hk.2⟩ : _ ∧ k_ ≠ g502))) (fun k_ hk => (⟨hk, hk.1.1.1⟩ : _ ∧ k_ ≠ g480))) (fun _ hk => hk.1.2) (.slice Ao43 t493.length co43)) (fun _ hk => hk.1.2) (.slice Ao47 t496.length co47)) (fun _ hk => hk.1.2) (.int .i64 t499)) (fun _ hk => hk.1.2) (.bool t500)) (fun _ hk => hk.2) (.slice Ao43 t493.length co43)) (fun _ hk => hk.2) (.slice Ao47 t496.length co47)) (fun _ hk => hk.2) (.int .i64 t499)) (fun _ hk => hk.2) (.bool t500)) (fun _ h_ => h_.1)) (fun _ h_ => h_.1)))); (case side4 => exact (Kd.V_reads' HO498.out).2.1); rintro e w49 ⟨rfl, hb⟩; refine ⟨_, rfl, ?_⟩; have n0_ := qM (Vb (by (with_reducible repeat first | apply VA | apply VN | apply VD); exact (Vm (Vm (Vf (p := ⟨g480, 3, none⟩) (Vf (p := ⟨g480, 2, none⟩) (Vf (p := ⟨g480, 1, none⟩) (Vf (p := ⟨g480, 0, none⟩) (Vf (p := ⟨g502, 3, none⟩) (Vf (p := ⟨g502, 2, none⟩) (Vf (p := ⟨g502, 1, none⟩) (Vf (p := ⟨g502, 0, none⟩) (Vm (Vm HO_481000.out (fun k_ hk => (⟨hk, hk.2⟩ : _ ∧ k_ ≠ g502))) (fun k_ hk => (⟨hk, hk.1.1.1⟩ : _ ∧ k_ ≠ g480))) (fun _ hk => hk.1.2) (.slice Ao43 t493.length co43)) (fun _ hk => hk.1.2) (.slice Ao47 t496.length co47)) (fun _ hk => hk.1.2) (.int .i64 t499)) (fun _ hk => hk.1.2) (.bool t500)) (fun _ hk => hk.2) (.slice Ao43 t493.length co43)) (fun _ hk => hk.2) (.slice Ao47 t496.length co47)) (fun _ hk => hk.2) (.int .i64 t499)) (fun _ hk => hk.2) (.bool t500)) (fun _ h_ => h_.1)) (fun _ h_ => h_.1))) hb); have n1_ := qM (Vb (by (with_reducible repeat first | apply VA | apply VN | apply VD); exact (Vm (Vm (Vf (p := ⟨g480, 3, none⟩) (Vf (p := ⟨g480, 2, none⟩) (Vf (p := ⟨g480, 1, none⟩) (Vf (p := ⟨g480, 0, none⟩) (Vf (p := ⟨g502, 3, none⟩) (Vf (p := ⟨g502, 2, none⟩) (Vf (p := ⟨g502, 1, none⟩) (Vf (p := ⟨g502, 0, none⟩) (Vm (Vm HO_481001.out (fun k_ hk => (⟨hk, hk.2⟩ : _ ∧ k_ ≠ g502))) (fun k_ hk => (⟨hk, hk.1.1.1⟩ : _ ∧ k_ ≠ g480))) (fun _ hk => hk.1.2) (.slice Ao43 t493.length co43)) (fun _ hk => hk.1.2) (.slice Ao47 t496.length co47)) (fun _ hk => hk.1.2) (.int .i64 t499)) (fun _ hk => hk.1.2) (.bool t500)) (fun _ hk => hk.2) (.slice Ao43 t493.length co43)) (fun _ hk => hk.2) (.slice Ao47 t496.length co47)) (fun _ hk => hk.2) (.int .i64 t499)) (fun _ hk => hk.2) (.bool t500)) (fun _ h_ => h_.1)) (fun _ h_ => h_.1))) hb); have n2_ := qM (Vb (by (with_reducible repeat first | apply VA | apply VN | apply VD); exact (Vm (Vm (Vf (p := ⟨g480, 3, none⟩) (Vf (p := ⟨g480, 2, none⟩) (Vf (p := ⟨g480, 1, none⟩) (Vf (p := ⟨g480, 0, none⟩) (Vf (p := ⟨g502, 3, none⟩) (Vf (p := ⟨g502, 2, none⟩) (Vf (p := ⟨g502, 1, none⟩) (Vf (p := ⟨g502, 0, none⟩) (Vm (Vm HO485.out (fun k_ hk => (⟨hk, hk.2⟩ : _ ∧ k_ ≠ g502))) (fun k_ hk => (⟨hk, hk.1.1.1⟩ : _ ∧ k_ ≠ g480))) (fun _ hk => hk.1.2) (.slice Ao43 t493.length co43)) (fun _ hk => hk.1.2) (.slice Ao47 t496.length co47)) (fun _ hk => hk.1.2) (.int .i64 t499)) (fun _ hk => hk.1.2) (.bool t500)) (fun _ hk => hk.2) (.slice Ao43 t493.length co43)) (fun _ hk => hk.2) (.slice Ao47 t496.length co47)) (fun _ hk => hk.2) (.int .i64 t499)) (fun _ hk => hk.2) (.bool t500)) (fun _ h_ => h_.1)) (fun _ h_ => h_.1))) hb); have n3_ := qM (Vb (by (with_reducible repeat first | apply VA | apply VN | apply VD); exact (Vm (Vm (Vf (p := ⟨g480, 3, none⟩) (Vf (p := ⟨g480, 2, none⟩) (Vf (p := ⟨g480, 1, none⟩) (Vf (p := ⟨g480, 0, none⟩) (Vf (p := ⟨g502, 3, none⟩) (Vf (p := ⟨g502, 2, none⟩) (Vf (p := ⟨g502, 1, none⟩) (Vf (p := ⟨g502, 0, none⟩) (Vm (Vm HO488.out (fun k_ hk => (⟨hk, hk.2⟩ : _ ∧ k_ ≠ g502))) (fun k_ hk => (⟨hk, hk.1.1.1⟩ : _ ∧ k_ ≠ g480))) (fun _ hk => hk.1.2) (.slice Ao43 t493.length co43)) (fun _ hk => hk.1.2) (.slice Ao47 t496.length co47)) (fun _ hk => hk.1.2) (.int .i64 t499)) (fun _ hk => hk.1.2) (.bool t500)) (fun _ hk => hk.2) (.slice Ao43 t493.length co43)) (fun _ hk => hk.2) (.slice Ao47 t496.length co47)) (fun _ hk => hk.2) (.int .i64 t499)) (fun _ hk => hk.2) (.bool t500)) (fun _ h_ => h_.1)) (fun _ h_ => h_.1))) hb); have n4_ := qM (Vb (by (with_reducible repeat first | apply VA | apply VN | apply VD); exact (Vm (Vm (Vf (p := ⟨g480, 3, none⟩) (Vf (p := ⟨g480, 2, none⟩) (Vf (p := ⟨g480, 1, none⟩) (Vf (p := ⟨g480, 0, none⟩) (Vf (p := ⟨g502, 3, none⟩) (Vf (p := ⟨g502, 2, none⟩) (Vf (p := ⟨g502, 1, none⟩) (Vf (p := ⟨g502, 0, none⟩) (Vm (Vm HO495.out (fun k_ hk => (⟨hk, hk.2⟩ : _ ∧ k_ ≠ g502))) (fun k_ hk => (⟨hk, hk.1.1.1⟩ : _ ∧ k_ ≠ g480))) (fun _ hk => hk.1.2) (.slice Ao43 t493.length co43)) (fun _ hk => hk.1.2) (.slice Ao47 t496.length co47)) (fun _ hk => hk.1.2) (.int .i64 t499)) (fun _ hk => hk.1.2) (.bool t500)) (fun _ hk => hk.2) (.slice Ao43 t493.length co43)) (fun _ hk => hk.2) (.slice Ao47 t496.length co47)) (fun _ hk => hk.2) (.int .i64 t499)) (fun _ hk => hk.2) (.bool t500)) (fun _ h_ => h_.1)) (fun _ h_ => h_.1))) hb); have n5_ := qM (Vb (by (with_reducible repeat first | apply VA | apply VN | apply VD); exact (Vm (Vm (Vf (p := ⟨g480, 3, none⟩) (Vf (p := ⟨g480, 2, none⟩) (Vf (p := ⟨g480, 1, none⟩) (Vf (p := ⟨g480, 0, none⟩) (Vf (p := ⟨g502, 3, none⟩) (Vf (p := ⟨g502, 2, none⟩) (Vf (p := ⟨g502, 1, none⟩) (Vf (p := ⟨g502, 0, none⟩) (Vm (Vm HO498.out (fun k_ hk => (⟨hk, hk.2⟩ : _ ∧ k_ ≠ g502))) (fun k_ hk => (⟨hk, hk.1.1.1⟩ : _ ∧ k_ ≠ g480))) (fun _ hk => hk.1.2) (.slice Ao43 t493.length co43)) (fun _ hk => hk.1.2) (.slice Ao47 t496.length co47)) (fun _ hk => hk.1.2) (.int .i64 t499)) (fun _ hk => hk.1.2) (.bool t500)) (fun _ hk => hk.2) (.slice Ao43 t493.length co43)) (fun _ hk => hk.2) (.slice Ao47 t496.length co47)) (fun _ hk => hk.2) (.int .i64 t499)) (fun _ hk => hk.2) (.bool t500)) (fun _ h_ => h_.1)) (fun _ h_ => h_.1))) hb); have n6_ := qM (qB (g := g480) (o := .cells #[.slice Ao43 t493.length co43, .slice Ao47 t496.length co47, .int .i64 t499, .bool t500] 37 (0, 0)) (by (with_reducible repeat first | refine qN ?_ _ | refine qD ?_ | refine qA ?_ _); apply puts4; (with_reducible repeat first | refine qN ?_ _ | refine qD ?_ | refine qA ?_ _); (iterate 4 (refine qR ?_ NB480_502.out _; (with_reducible repeat first | refine qN ?_ _ | refine qD ?_ | refine qA ?_ _))); exact B480.out) hb); have n7_ := qM (qB (g := g492) (o := .cells #[.slice Ao32 t483.length co32, .slice Ao34 t486.length co34, .int .i64 t489, .bool t490] 37 (0, 0)) (by (with_reducible repeat first | refine qN ?_ _ | refine qD ?_ | refine qA ?_ _); (iterate 4 (refine qR ?_ NB492_480.out _; (with_reducible repeat first | refine qN ?_ _ | refine qD ?_ | refine qA ?_ _))); (iterate 4 (refine qR ?_ NB492_502.out _; (with_reducible repeat first | refine qN ?_ _ | refine qD ?_ | refine qA ?_ _))); exact B492.out) hb); have n8_ := qM (qB (g := g502) (o := .cells #[.slice Ao43 t493.length co43, .slice Ao47 t496.length co47, .int .i64 t499, .bool t500] 37 (0, 0)) (by (with_reducible repeat first | refine qN ?_ _ | refine qD ?_ | refine qA ?_ _); (iterate 4 (refine qR ?_ NB502_480.out _; (with_reducible repeat first | refine qN ?_ _ | refine qD ?_ | refine qA ?_ _))); apply puts4; (with_reducible repeat first | refine qN ?_ _ | refine qD ?_ | refine qA ?_ _); exact B502.out) hb); have n9_ := qM (eT (by repeat (first | (with_reducible first | exact HB.out | apply eA | apply eN | apply eD | refine eS ?_ GE480.out | refine eS ?_ GE492.out | refine eS ?_ GE502.out) | exact HB.out)) hb); clear HO_481000; clear HO_481001; clear HO485; clear HO488; clear HO495; clear HO498; clear B480; clear B492; clear B502; clear HB; have HO_481000 := n0_; have HO_481001 := n1_; have HO485 := n2_; have HO488 := n3_; have HO495 := n4_; have HO498 := n5_; have B480 := n6_; have B492 := n7_; have B502 := n8_; have HB := n9_; clear n0_ n1_ n2_ n3_ n4_ n5_ n6_ n7_ n8_ n9_; (try clear hb); (try clear hb2); (try clear hk); (try clear hi)))
            (try simp only [Act.put, List.setIfInBounds_toArray, List.set_cons_zero, List.set_cons_succ])
            go_cut [101] (fun v101 wc => ∃ (kq : Nat) (x101_24 : Bool), v101 = .bool x101_24 ∧ Aside0 (hogsheadlaw09_CellTurns.j3 kq a1 l2 t470 x10_2 x101_24 t493 t496 t499 t500 = some r) ∧ Aside0 (kq ≤ kj15) ∧ Aside0 (Kd.V Kd.string 9 wc w.heap.size (fun k_ => k_ ≠ g480 ∧ k_ ≠ g492 ∧ k_ ≠ g502) (.slice Ao43 t493.length co43) t493) ∧ Aside0 (Kd.V k77 77 wc w.heap.size (fun k_ => k_ ≠ g480 ∧ k_ ≠ g492 ∧ k_ ≠ g502) (.slice Ao47 t496.length co47) t496) ∧ Aside0 (Kd.V Kd.string 9 wc w.heap.size (fun k_ => k_ ≠ g480 ∧ k_ ≠ g492 ∧ k_ ≠ g502) (.slice Ao32 t483.length co32) t483) ∧ Aside0 (Kd.V k77 77 wc w.heap.size (fun k_ => k_ ≠ g480 ∧ k_ ≠ g492 ∧ k_ ≠ g502) (.slice Ao34 t486.length co34) t486) ∧ Aside0 (Kd.V Kd.string 9 wc w.heap.size (fun k_ => k_ ≠ g480 ∧ k_ ≠ g492 ∧ k_ ≠ g502) (.slice Ao43 t493.length co43) t493) ∧ Aside0 (Kd.V k77 77 wc w.heap.size (fun k_ => k_ ≠ g480 ∧ k_ ≠ g492 ∧ k_ ≠ g502) (.slice Ao47 t496.length co47) t496) ∧ Aside0 (wc.heap[g480]? = some (.cells #[(.slice Ao43 t493.length co43), (.slice Ao47 t496.length co47), .int .i64 t499, .bool t500] 37 (0, 0))) ∧ Aside0 (wc.heap[g492]? = some (.cells #[(.slice Ao32 t483.length co32), (.slice Ao34 t486.length co34), .int .i64 t489, .bool t490] 37 (0, 0))) ∧ Aside0 (wc.heap[g502]? = some (.cells #[(.slice Ao43 t493.length co43), (.slice Ao47 t496.length co47), .int .i64 t499, .bool t500] 37 (0, 0))) ∧ Aside0 (Below w.heap.size w wc))
            case first =>
             have H := HC25.out
             clear HC25
             by_cases c50 : t491 = 0
             ·rw [if_pos c50] at H
              have c50b0 : (t491 == 0) = true := beq_iff_eq.mpr c50
              have c50b1 : (t491 != 0) = false := bne_eq_false_iff_eq.mpr c50
              clear c50
              (first | rw [c50b0] | (simp only [i64_w, i32_w]; rw [c50b0]) | skip)
              by_cases c51 : t501 = 0
              ·rw [if_pos c51] at H
               have c51b0 : (t501 == 0) = true := beq_iff_eq.mpr c51
               have c51b1 : (t501 != 0) = false := bne_eq_false_iff_eq.mpr c51
               clear c51
               by_cases c52 : t505 = 0
               ·rw [if_pos c52] at H
                have c52b0 : (t505 == 0) = true := beq_iff_eq.mpr c52
                have c52b1 : (t505 != 0) = false := bne_eq_false_iff_eq.mpr c52
                clear c52
                by_cases c53 : t503.toList = (rdOf ByteArray.empty l2 x10_2).toList
                ·rw [if_pos c53] at H
                 have c53b0 : (t503.toList == (rdOf ByteArray.empty l2 x10_2).toList) = true := beq_iff_eq.mpr c53
                 have c53b1 : (t503.toList != (rdOf ByteArray.empty l2 x10_2).toList) = false := bne_eq_false_iff_eq.mpr c53
                 clear c53
                 have H' := qM H
                 clear H
                 have p506 : 0 ≤ (x10_2 : Int) := of_decide_eq_true (by first | (with_reducible assumption) | assumption)
                 have q506 : x10_2 < (l2.length : Int) := of_decide_eq_true (by first | (with_reducible assumption) | assumption)
                 obtain ⟨ad506, e506, hx506_0⟩ := Kd.at_string HR2.out x10_2 p506 q506
                 obtain rfl : ad481 = ad506 := (by injection e506)
                 replace hx506_0 := (HB.out.cell (World.block_lt_of_cell? w _ hx506_0)).trans hx506_0
                 replace p506 := eq_true p506
                 replace q506 := eq_true q506
                 go_wp2
                 go_meet
                 case rel => exact ⟨_, ((t504 != (IntKind.u64.wrap ((IntKind.u64.wrap (x10_2)) + 1)))), (by first | rfl | (simp; done) | (simp [*]; done)), H', ⟨by have := HJ5.out; have := HK2.out; have := HJ15.out; first | omega | exact Nat.le_refl _⟩, ⟨by (with_reducible repeat first | apply VA | apply VN | apply VD); exact Vm HO495.out (fun _ hk => ⟨hk.1.1, ⟨hk.1.2, hk.2⟩⟩)⟩, ⟨by (with_reducible repeat first | apply VA | apply VN | apply VD); exact Vm HO498.out (fun _ hk => ⟨hk.1.1, ⟨hk.1.2, hk.2⟩⟩)⟩, ⟨by (with_reducible repeat first | apply VA | apply VN | apply VD); exact Vm HO485.out (fun _ hk => ⟨hk.1.1, ⟨hk.1.2, hk.2⟩⟩)⟩, ⟨by (with_reducible repeat first | apply VA | apply VN | apply VD); exact Vm HO488.out (fun _ hk => ⟨hk.1.1, ⟨hk.1.2, hk.2⟩⟩)⟩, ⟨by (with_reducible repeat first | apply VA | apply VN | apply VD); exact Vm HO495.out (fun _ hk => ⟨hk.1.1, ⟨hk.1.2, hk.2⟩⟩)⟩, ⟨by (with_reducible repeat first | apply VA | apply VN | apply VD); exact Vm HO498.out (fun _ hk => ⟨hk.1.1, ⟨hk.1.2, hk.2⟩⟩)⟩, ⟨by (with_reducible repeat first | refine qN ?_ _ | refine qD ?_ | refine qA ?_ _); exact B480.out⟩, ⟨by (with_reducible repeat first | refine qN ?_ _ | refine qD ?_ | refine qA ?_ _); exact B492.out⟩, ⟨by (with_reducible repeat first | refine qN ?_ _ | refine qD ?_ | refine qA ?_ _); exact B502.out⟩, ⟨by repeat (first | (with_reducible first | exact HB.out | apply eA | apply eN | apply eD | refine eS ?_ GE480.out | refine eS ?_ GE492.out | refine eS ?_ GE502.out) | exact HB.out)⟩⟩
                ·rw [if_neg c53] at H
                 have c53b0 : (t503.toList == (rdOf ByteArray.empty l2 x10_2).toList) = false := beq_eq_false_iff_ne.mpr c53
                 have c53b1 : (t503.toList != (rdOf ByteArray.empty l2 x10_2).toList) = true := bne_iff_ne.mpr c53
                 have H' := qM H
                 clear H
                 have p506 : 0 ≤ (x10_2 : Int) := of_decide_eq_true (by first | (with_reducible assumption) | assumption)
                 have q506 : x10_2 < (l2.length : Int) := of_decide_eq_true (by first | (with_reducible assumption) | assumption)
                 obtain ⟨ad506, e506, hx506_0⟩ := Kd.at_string HR2.out x10_2 p506 q506
                 obtain rfl : ad481 = ad506 := (by injection e506)
                 replace hx506_0 := (HB.out.cell (World.block_lt_of_cell? w _ hx506_0)).trans hx506_0
                 replace p506 := eq_true p506
                 replace q506 := eq_true q506
                 go_wp2
                 go_meet
                 case rel => exact ⟨_, (true), (by first | rfl | (simp; done) | (simp [*]; done)), H', ⟨by have := HJ5.out; have := HK2.out; have := HJ15.out; first | omega | exact Nat.le_refl _⟩, ⟨by (with_reducible repeat first | apply VA | apply VN | apply VD); exact Vm HO495.out (fun _ hk => ⟨hk.1.1, ⟨hk.1.2, hk.2⟩⟩)⟩, ⟨by (with_reducible repeat first | apply VA | apply VN | apply VD); exact Vm HO498.out (fun _ hk => ⟨hk.1.1, ⟨hk.1.2, hk.2⟩⟩)⟩, ⟨by (with_reducible repeat first | apply VA | apply VN | apply VD); exact Vm HO485.out (fun _ hk => ⟨hk.1.1, ⟨hk.1.2, hk.2⟩⟩)⟩, ⟨by (with_reducible repeat first | apply VA | apply VN | apply VD); exact Vm HO488.out (fun _ hk => ⟨hk.1.1, ⟨hk.1.2, hk.2⟩⟩)⟩, ⟨by (with_reducible repeat first | apply VA | apply VN | apply VD); exact Vm HO495.out (fun _ hk => ⟨hk.1.1, ⟨hk.1.2, hk.2⟩⟩)⟩, ⟨by (with_reducible repeat first | apply VA | apply VN | apply VD); exact Vm HO498.out (fun _ hk => ⟨hk.1.1, ⟨hk.1.2, hk.2⟩⟩)⟩, ⟨by (with_reducible repeat first | refine qN ?_ _ | refine qD ?_ | refine qA ?_ _); exact B480.out⟩, ⟨by (with_reducible repeat first | refine qN ?_ _ | refine qD ?_ | refine qA ?_ _); exact B492.out⟩, ⟨by (with_reducible repeat first | refine qN ?_ _ | refine qD ?_ | refine qA ?_ _); exact B502.out⟩, ⟨by repeat (first | (with_reducible first | exact HB.out | apply eA | apply eN | apply eD | refine eS ?_ GE480.out | refine eS ?_ GE492.out | refine eS ?_ GE502.out) | exact HB.out)⟩⟩
               ·rw [if_neg c52] at H
                have c52b0 : (t505 == 0) = false := beq_eq_false_iff_ne.mpr c52
                have c52b1 : (t505 != 0) = true := bne_iff_ne.mpr c52
                have H' := qM H
                clear H
                go_wp2
                go_meet
                case rel => exact ⟨_, (true), (by first | rfl | (simp; done) | (simp [*]; done)), H', ⟨by have := HJ5.out; have := HK2.out; have := HJ15.out; first | omega | exact Nat.le_refl _⟩, ⟨by (with_reducible repeat first | apply VA | apply VN | apply VD); exact Vm HO495.out (fun _ hk => ⟨hk.1.1, ⟨hk.1.2, hk.2⟩⟩)⟩, ⟨by (with_reducible repeat first | apply VA | apply VN | apply VD); exact Vm HO498.out (fun _ hk => ⟨hk.1.1, ⟨hk.1.2, hk.2⟩⟩)⟩, ⟨by (with_reducible repeat first | apply VA | apply VN | apply VD); exact Vm HO485.out (fun _ hk => ⟨hk.1.1, ⟨hk.1.2, hk.2⟩⟩)⟩, ⟨by (with_reducible repeat first | apply VA | apply VN | apply VD); exact Vm HO488.out (fun _ hk => ⟨hk.1.1, ⟨hk.1.2, hk.2⟩⟩)⟩, ⟨by (with_reducible repeat first | apply VA | apply VN | apply VD); exact Vm HO495.out (fun _ hk => ⟨hk.1.1, ⟨hk.1.2, hk.2⟩⟩)⟩, ⟨by (with_reducible repeat first | apply VA | apply VN | apply VD); exact Vm HO498.out (fun _ hk => ⟨hk.1.1, ⟨hk.1.2, hk.2⟩⟩)⟩, ⟨by (with_reducible repeat first | refine qN ?_ _ | refine qD ?_ | refine qA ?_ _); exact B480.out⟩, ⟨by (with_reducible repeat first | refine qN ?_ _ | refine qD ?_ | refine qA ?_ _); exact B492.out⟩, ⟨by (with_reducible repeat first | refine qN ?_ _ | refine qD ?_ | refine qA ?_ _); exact B502.out⟩, ⟨by repeat (first | (with_reducible first | exact HB.out | apply eA | apply eN | apply eD | refine eS ?_ GE480.out | refine eS ?_ GE492.out | refine eS ?_ GE502.out) | exact HB.out)⟩⟩
              ·rw [if_neg c51] at H
               have c51b0 : (t501 == 0) = false := beq_eq_false_iff_ne.mpr c51
               have c51b1 : (t501 != 0) = true := bne_iff_ne.mpr c51
               have H' := qM H
               clear H
               go_wp2
               go_meet
               case rel => exact ⟨_, (true), (by first | rfl | (simp; done) | (simp [*]; done)), H', ⟨by have := HJ5.out; have := HK2.out; have := HJ15.out; first | omega | exact Nat.le_refl _⟩, ⟨by (with_reducible repeat first | apply VA | apply VN | apply VD); exact Vm HO495.out (fun _ hk => ⟨hk.1.1, ⟨hk.1.2, hk.2⟩⟩)⟩, ⟨by (with_reducible repeat first | apply VA | apply VN | apply VD); exact Vm HO498.out (fun _ hk => ⟨hk.1.1, ⟨hk.1.2, hk.2⟩⟩)⟩, ⟨by (with_reducible repeat first | apply VA | apply VN | apply VD); exact Vm HO485.out (fun _ hk => ⟨hk.1.1, ⟨hk.1.2, hk.2⟩⟩)⟩, ⟨by (with_reducible repeat first | apply VA | apply VN | apply VD); exact Vm HO488.out (fun _ hk => ⟨hk.1.1, ⟨hk.1.2, hk.2⟩⟩)⟩, ⟨by (with_reducible repeat first | apply VA | apply VN | apply VD); exact Vm HO495.out (fun _ hk => ⟨hk.1.1, ⟨hk.1.2, hk.2⟩⟩)⟩, ⟨by (with_reducible repeat first | apply VA | apply VN | apply VD); exact Vm HO498.out (fun _ hk => ⟨hk.1.1, ⟨hk.1.2, hk.2⟩⟩)⟩, ⟨by (with_reducible repeat first | refine qN ?_ _ | refine qD ?_ | refine qA ?_ _); exact B480.out⟩, ⟨by (with_reducible repeat first | refine qN ?_ _ | refine qD ?_ | refine qA ?_ _); exact B492.out⟩, ⟨by (with_reducible repeat first | refine qN ?_ _ | refine qD ?_ | refine qA ?_ _); exact B502.out⟩, ⟨by repeat (first | (with_reducible first | exact HB.out | apply eA | apply eN | apply eD | refine eS ?_ GE480.out | refine eS ?_ GE492.out | refine eS ?_ GE502.out) | exact HB.out)⟩⟩
             ·rw [if_neg c50] at H
              have c50b0 : (t491 == 0) = false := beq_eq_false_iff_ne.mpr c50
              have c50b1 : (t491 != 0) = true := bne_iff_ne.mpr c50
              (first | rw [c50b0] | (simp only [i64_w, i32_w]; rw [c50b0]) | skip)
              have H' := qM H
              clear H
              go_wp2
              go_meet
              case rel => exact ⟨_, (true), (by first | rfl | (simp; done) | (simp [*]; done)), H', ⟨by have := HJ5.out; have := HK2.out; have := HJ15.out; first | omega | exact Nat.le_refl _⟩, ⟨by (with_reducible repeat first | apply VA | apply VN | apply VD); exact Vm HO495.out (fun _ hk => ⟨hk.1.1, ⟨hk.1.2, hk.2⟩⟩)⟩, ⟨by (with_reducible repeat first | apply VA | apply VN | apply VD); exact Vm HO498.out (fun _ hk => ⟨hk.1.1, ⟨hk.1.2, hk.2⟩⟩)⟩, ⟨by (with_reducible repeat first | apply VA | apply VN | apply VD); exact Vm HO485.out (fun _ hk => ⟨hk.1.1, ⟨hk.1.2, hk.2⟩⟩)⟩, ⟨by (with_reducible repeat first | apply VA | apply VN | apply VD); exact Vm HO488.out (fun _ hk => ⟨hk.1.1, ⟨hk.1.2, hk.2⟩⟩)⟩, ⟨by (with_reducible repeat first | apply VA | apply VN | apply VD); exact Vm HO495.out (fun _ hk => ⟨hk.1.1, ⟨hk.1.2, hk.2⟩⟩)⟩, ⟨by (with_reducible repeat first | apply VA | apply VN | apply VD); exact Vm HO498.out (fun _ hk => ⟨hk.1.1, ⟨hk.1.2, hk.2⟩⟩)⟩, ⟨by (with_reducible repeat first | refine qN ?_ _ | refine qD ?_ | refine qA ?_ _); exact B480.out⟩, ⟨by (with_reducible repeat first | refine qN ?_ _ | refine qD ?_ | refine qA ?_ _); exact B492.out⟩, ⟨by (with_reducible repeat first | refine qN ?_ _ | refine qD ?_ | refine qA ?_ _); exact B502.out⟩, ⟨by repeat (first | (with_reducible first | exact HB.out | apply eA | apply eN | apply eD | refine eS ?_ GE480.out | refine eS ?_ GE492.out | refine eS ?_ GE502.out) | exact HB.out)⟩⟩
            case rest =>
             clear HC25
             try clear c1
             try clear c2
             try clear p2
             try clear c3
             try clear c4
             try clear p4
             try clear q4
             try clear hx4
             try clear c5
             try clear p5
             try clear q5
             try clear hx5
             try clear p6
             try clear c9
             try clear c10
             try clear c13
             try clear c13b0
             try clear c13b1
             try clear c14
             try clear c14b0
             try clear c15
             try clear c17
             try clear c17b0
             try clear c18
             try clear c19
             try clear c19b0
             try clear c20
             try clear c20b0
             try clear c21
             try clear c21b0
             try clear c21b1
             try clear c39
             try clear c44
             try clear c45
             try clear p48
             try clear q48
             try clear hx48
             try clear c50
             try clear c50b0
             try clear c50b1
             try clear p50
             try clear q50
             try clear hx50
             try clear c51
             try clear c51b0
             try clear c51b1
             try clear c52
             try clear c52b0
             try clear c52b1
             try clear c53
             try clear c53b0
             try clear c53b1
             try clear z11_0
             try clear z11_1
             try clear z11_2
             try clear z11_3
             try clear z40_0
             try clear z40_1
             try clear z40_2
             try clear z40_3
             try clear z46_0
             try clear z46_1
             try clear z46_2
             try clear z46_3
             try clear z48_0
             try clear z48_1
             try clear z48_2
             try clear z48_3
             try clear f11_0
             try clear f11_1
             try clear f11_2
             try clear f11_3
             try clear f40_0
             try clear f40_1
             try clear f40_2
             try clear f40_3
             try clear f46_0
             try clear f46_1
             try clear f46_2
             try clear f46_3
             try clear f48_0
             try clear f48_1
             try clear f48_2
             try clear f48_3
             try clear hx481_0
             try clear hx482_0
             try clear hx506_0
             try clear p2
             try clear p481
             try clear p482
             try clear p506
             try clear p6
             try clear q481
             try clear q482
             try clear q506
             obtain ⟨kq, x101_24, rfl, HA, HJ24, HO_481000, HO_481001, HO_493000, HO_493001, HO_503000, HO_503001, B480, B492, B502, HB⟩ := hcut
             cases kq with
             | zero => exact absurd HA.out (by simp [hogsheadlaw09_CellTurns.j3])
             | succ kj24 =>
              have H := HA.out
              clear HA
              simp only [hogsheadlaw09_CellTurns.j3] at H
              by_cases c54 : x101_24 = true
              ·subst c54
               have H1 : (some false) = some r := by rw [if_pos rfl] at H; exact H
               clear H
               have H := H1
               clear H1
               obtain rfl := Option.some.inj H
               go_wp2
               go_ret
               exact ⟨by first | rfl | (simp [errW_none, errW_some] <;> rfl) | (simp [*, errW_none, errW_some] <;> rfl), by repeat (first | (with_reducible first | exact HB.out | apply eA | apply eN | apply eD | refine eS ?_ GE480.out | refine eS ?_ GE492.out | refine eS ?_ GE502.out) | exact HB.out)⟩
              ·replace c54 := Bool.eq_false_iff.mpr c54
               subst c54
               have H1 : (hogsheadlaw09_CellTurns.l0 kj24 a1 l2 t470 (wrap64 (x10_2 + 1)) t493 t496 t499 t500) = some r := by rw [if_neg (show ¬ (false = true) by decide)] at H; exact H
               clear H
               have H := H1
               clear H1
               have H' := qM H
               clear H
               go_wp2
               go_roundg kj24
               case measure => have := HJ5.out; have := HK2.out; have := HJ15.out; have := HJ24.out; omega
               case rel => exact ⟨(wrap64 (x10_2 + 1)), (t493), (t496), (t499), (t500), (.slice Ao43 t493.length co43), (.slice Ao47 t496.length co47), (by first | rfl | (simp; done) | (simp [*]; done)), H', ⟨by have := HJ5.out; have := HK2.out; have := HJ15.out; have := HJ24.out; omega⟩, ⟨by (with_reducible repeat first | apply VA | apply VN | apply VD); exact Vm HO_481000.out (fun _ hk => hk.1)⟩, ⟨by (with_reducible repeat first | apply VA | apply VN | apply VD); exact Vm HO_481001.out (fun _ hk => hk.1)⟩, ⟨by (with_reducible repeat first | refine qN ?_ _ | refine qD ?_ | refine qA ?_ _); exact B480.out⟩, ⟨by repeat (first | (with_reducible first | exact HB.out | apply eA | apply eN | apply eD | refine eS ?_ GE480.out | refine eS ?_ GE492.out | refine eS ?_ GE502.out) | exact HB.out)⟩⟩
          ·rw [if_neg c20] at H
           exact absurd H (by simp)
         ·rw [if_neg c19] at H
          exact absurd H (by simp)
        ·replace c18 := Bool.eq_false_iff.mpr c18
         subst c18
         have H1 : (some t470) = some r := by rw [if_neg (show ¬ (false = true) by decide)] at H; exact H
         clear H
         have H := H1
         clear H1
         obtain rfl := Option.some.inj H
         go_wp2
         go_ret
         exact ⟨by first | rfl | (simp [errW_none, errW_some] <;> rfl) | (simp [*, errW_none, errW_some] <;> rfl), by repeat (first | (with_reducible first | exact HB.out | apply eA | apply eN | apply eD | refine eS ?_ GE480.out) | exact HB.out)⟩

end Go.Proofs.Ythnhfmmiaknhgaa.PAll
