/- Functions of the program as plain Lean functions, and that each call comes to what they say. Laid by a program of this session (hprint.py); Lean checks it. -/
import Derived.Test.YthnhfmmiaknhgaaPAllx0
import Derived.Test.YthnhfmmiaknhgaaPAllx9
import Derived.Test.YthnhfmmiaknhgaaPAllx11
import Derived.Test.YthnhfmmiaknhgaaPAllx16
import Derived.Test.YthnhfmmiaknhgaaPAllx22
import Derived.Test.YthnhfmmiaknhgaaPAllx25
import Derived.Test.YthnhfmmiaknhgaaPAllx27
namespace Go.Proofs.Ythnhfmmiaknhgaa.PAll
open Go.RowKit Go.Proofs.YthnhfmmiaknhgaaW.PrintWords Go.Proofs.YthnhfmmiaknhgaaW.PrintLast Go.Proofs.YthnhfmmiaknhgaaW.PrintMore
attribute [local go_sem] max2_int min2_int max_two min_two max_three min_three max_four min_four   -- for this text's walks alone
set_option linter.unusedVariables false
set_option linter.unusedSimpArgs false

/-! ### hogsheadlaw09_CellActs: function 4 -/
def hogsheadlaw09_CellActs.j0 : Nat → Bool → Option (Bool)
 | 0, _ => none
 | k + 1, x6 => some x6
def hogsheadlaw09_CellActs.f (k : Nat) (l0_0 : List ByteArray) (l0_1 : List (S77)) (a0_2 : Int) (a0_3 : Bool) (a1 : Int) (a2 : ByteArray) : Option (Bool) := (hogsheadlaw09_shown.f k).bind fun t329 => ((cell_Read.f k l0_0 l0_1 a0_2 a0_3 a1).bind fun bt330 => ((hogsheadref09_Read.f k l0_0 l0_1 a0_2 a0_3 a1).bind fun bt333 => ((cell_Write.f k l0_0 l0_1 a0_2 a0_3 a1 a2).bind fun bt336 => ((hogsheadref09_Write.f k l0_0 l0_1 a0_2 a0_3 a1 a2).bind fun bt346 => ((hogsheadref08_Same.f k bt336.1 bt336.2.1 bt336.2.2.1 bt336.2.2.2.1 bt346.1 bt346.2.1 bt346.2.2.1 bt346.2.2.2.1).bind fun t356 => (if t329 = true then (if t356 = true then (if bt330.1.toList = bt333.1.toList then (if bt330.2.1 = bt333.2.1 then (if bt330.2.2 = bt333.2.2 then (hogsheadlaw09_CellActs.j0 k (bt336.2.2.2.2 == bt346.2.2.2.2)) else (hogsheadlaw09_CellActs.j0 k false)) else (hogsheadlaw09_CellActs.j0 k false)) else (hogsheadlaw09_CellActs.j0 k false)) else (hogsheadlaw09_CellActs.j0 k false)) else (hogsheadlaw09_CellActs.j0 k false)))))))
theorem hogsheadlaw09_CellActs.mono_l : ∀ k, (∀ y0, LeO (hogsheadlaw09_CellActs.j0 k y0) (hogsheadlaw09_CellActs.j0 (k + 1) y0))
 | 0 => fun _ r h => by simp [hogsheadlaw09_CellActs.j0] at h
 | k + 1 => by
  have ih0 := hogsheadlaw09_CellActs.mono_l k
  ·intro y0
   unfold hogsheadlaw09_CellActs.j0
   repeat' first
   | (with_reducible exact ih0 _)
   | (with_reducible exact cell_Read.mono _ _ _ _ _ _)
   | (with_reducible exact cell_Write.mono _ _ _ _ _ _ _)
   | (with_reducible exact hogsheadlaw09_shown.mono _)
   | (with_reducible exact hogsheadref08_Same.mono _ _ _ _ _ _ _ _ _)
   | (with_reducible exact hogsheadref09_Read.mono _ _ _ _ _ _)
   | (with_reducible exact hogsheadref09_Write.mono _ _ _ _ _ _ _)
   | (with_reducible exact LeO.refl _)
   | (with_reducible exact LeO.none _)
   | (with_reducible refine LeO.ite ?_ ?_)
   | (with_reducible refine LeO.bind ?_ (fun _ => ?_))
   | exact ih0 _
   | exact cell_Read.mono _ _ _ _ _ _
   | exact cell_Write.mono _ _ _ _ _ _ _
   | exact hogsheadlaw09_shown.mono _
   | exact hogsheadref08_Same.mono _ _ _ _ _ _ _ _ _
   | exact hogsheadref09_Read.mono _ _ _ _ _ _
   | exact hogsheadref09_Write.mono _ _ _ _ _ _ _
   | exact LeO.none _
   | refine LeO.ite ?_ ?_
   | refine LeO.bind ?_ (fun _ => ?_)
theorem hogsheadlaw09_CellActs.mono : ∀ a0 a1 a2 a3 a4 a5 k, LeO (hogsheadlaw09_CellActs.f k a0 a1 a2 a3 a4 a5) (hogsheadlaw09_CellActs.f (k + 1) a0 a1 a2 a3 a4 a5) := by
 intro a0 a1 a2 a3 a4 a5 k
 have ih0 := hogsheadlaw09_CellActs.mono_l k
 unfold hogsheadlaw09_CellActs.f
 repeat' first
   | (with_reducible exact ih0 _)
   | (with_reducible exact cell_Read.mono _ _ _ _ _ _)
   | (with_reducible exact cell_Write.mono _ _ _ _ _ _ _)
   | (with_reducible exact hogsheadlaw09_shown.mono _)
   | (with_reducible exact hogsheadref08_Same.mono _ _ _ _ _ _ _ _ _)
   | (with_reducible exact hogsheadref09_Read.mono _ _ _ _ _ _)
   | (with_reducible exact hogsheadref09_Write.mono _ _ _ _ _ _ _)
   | (with_reducible exact LeO.refl _)
   | (with_reducible exact LeO.none _)
   | (with_reducible refine LeO.ite ?_ ?_)
   | (with_reducible refine LeO.bind ?_ (fun _ => ?_))
   | exact ih0 _
   | exact cell_Read.mono _ _ _ _ _ _
   | exact cell_Write.mono _ _ _ _ _ _ _
   | exact hogsheadlaw09_shown.mono _
   | exact hogsheadref08_Same.mono _ _ _ _ _ _ _ _ _
   | exact hogsheadref09_Read.mono _ _ _ _ _ _
   | exact hogsheadref09_Write.mono _ _ _ _ _ _ _
   | exact LeO.none _
   | refine LeO.ite ?_ ?_
   | refine LeO.bind ?_ (fun _ => ?_)
set_option maxHeartbeats 40000000 in
set_option maxRecDepth 100000 in
theorem hogsheadlaw09_CellActs.calls (k : Nat) (A0_0 : Option Addr) (c0_0 : Nat) (l0_0 : List ByteArray) (A0_1 : Option Addr) (c0_1 : Nat) (l0_1 : List (S77)) (a0_2 : Int) (a0_3 : Bool) (a1 : Int) (a2 : ByteArray) (r : Bool) (w : World) (hr0_0 : Kd.C Kd.string w A0_0 l0_0.length l0_0) (hc0_0 : l0_0.length ≤ c0_0) (hr0_1 : Kd.C k77 w A0_1 l0_1.length l0_1) (hc0_1 : l0_1.length ≤ c0_1) (h : hogsheadlaw09_CellActs.f k l0_0 l0_1 a0_2 a0_3 a1 a2 = some r) :
  Calls Try.prog 4 #[.agg #[.slice A0_0 l0_0.length c0_0, .slice A0_1 l0_1.length c0_1, .int .i64 a0_2, .bool a0_3], .int .i64 a1, .string a2] w fun e w' => e = .returned (.bool r) ∧ Below w.heap.size w w' := by
 have hu37 := Try.underlying37
 have HR0_0 := qM hr0_0
 have HC0_0 := qM hc0_0
 clear hr0_0 hc0_0
 have HR0_1 := qM hr0_1
 have HC0_1 := qM hc0_1
 clear hr0_1 hc0_1
 have HB := qM (Below.refl w.heap.size w)
 have H : ((hogsheadlaw09_shown.f k).bind fun t329 => ((cell_Read.f k l0_0 l0_1 a0_2 a0_3 a1).bind fun bt330 => ((hogsheadref09_Read.f k l0_0 l0_1 a0_2 a0_3 a1).bind fun bt333 => ((cell_Write.f k l0_0 l0_1 a0_2 a0_3 a1 a2).bind fun bt336 => ((hogsheadref09_Write.f k l0_0 l0_1 a0_2 a0_3 a1 a2).bind fun bt346 => ((hogsheadref08_Same.f k bt336.1 bt336.2.1 bt336.2.2.1 bt336.2.2.2.1 bt346.1 bt346.2.1 bt346.2.2.1 bt346.2.2.2.1).bind fun t356 => (if t329 = true then (if t356 = true then (if bt330.1.toList = bt333.1.toList then (if bt330.2.1 = bt333.2.1 then (if bt330.2.2 = bt333.2.2 then (hogsheadlaw09_CellActs.j0 k (bt336.2.2.2.2 == bt346.2.2.2.2)) else (hogsheadlaw09_CellActs.j0 k false)) else (hogsheadlaw09_CellActs.j0 k false)) else (hogsheadlaw09_CellActs.j0 k false)) else (hogsheadlaw09_CellActs.j0 k false)) else (hogsheadlaw09_CellActs.j0 k false)))))))) = some r := h
 clear h
 replace H := Option.bind_eq_some_iff.mp H
 obtain ⟨t329, A40, H⟩ := H
 replace H : ((cell_Read.f k l0_0 l0_1 a0_2 a0_3 a1).bind fun bt330 => ((hogsheadref09_Read.f k l0_0 l0_1 a0_2 a0_3 a1).bind fun bt333 => ((cell_Write.f k l0_0 l0_1 a0_2 a0_3 a1 a2).bind fun bt336 => ((hogsheadref09_Write.f k l0_0 l0_1 a0_2 a0_3 a1 a2).bind fun bt346 => ((hogsheadref08_Same.f k bt336.1 bt336.2.1 bt336.2.2.1 bt336.2.2.2.1 bt346.1 bt346.2.1 bt346.2.2.1 bt346.2.2.2.1).bind fun t356 => (if t329 = true then (if t356 = true then (if bt330.1.toList = bt333.1.toList then (if bt330.2.1 = bt333.2.1 then (if bt330.2.2 = bt333.2.2 then (hogsheadlaw09_CellActs.j0 k (bt336.2.2.2.2 == bt346.2.2.2.2)) else (hogsheadlaw09_CellActs.j0 k false)) else (hogsheadlaw09_CellActs.j0 k false)) else (hogsheadlaw09_CellActs.j0 k false)) else (hogsheadlaw09_CellActs.j0 k false)) else (hogsheadlaw09_CellActs.j0 k false))))))) = some r := H
 have A4 := qM A40
 clear A40
 replace H := Option.bind_eq_some_iff.mp H
 obtain ⟨⟨t330, t331, t332⟩, A50, H⟩ := H
 replace H : ((hogsheadref09_Read.f k l0_0 l0_1 a0_2 a0_3 a1).bind fun bt333 => ((cell_Write.f k l0_0 l0_1 a0_2 a0_3 a1 a2).bind fun bt336 => ((hogsheadref09_Write.f k l0_0 l0_1 a0_2 a0_3 a1 a2).bind fun bt346 => ((hogsheadref08_Same.f k bt336.1 bt336.2.1 bt336.2.2.1 bt336.2.2.2.1 bt346.1 bt346.2.1 bt346.2.2.1 bt346.2.2.2.1).bind fun t356 => (if t329 = true then (if t356 = true then (if t330.toList = bt333.1.toList then (if t331 = bt333.2.1 then (if t332 = bt333.2.2 then (hogsheadlaw09_CellActs.j0 k (bt336.2.2.2.2 == bt346.2.2.2.2)) else (hogsheadlaw09_CellActs.j0 k false)) else (hogsheadlaw09_CellActs.j0 k false)) else (hogsheadlaw09_CellActs.j0 k false)) else (hogsheadlaw09_CellActs.j0 k false)) else (hogsheadlaw09_CellActs.j0 k false)))))) = some r := H
 have A5 := qM A50
 clear A50
 replace H := Option.bind_eq_some_iff.mp H
 obtain ⟨⟨t333, t334, t335⟩, A60, H⟩ := H
 replace H : ((cell_Write.f k l0_0 l0_1 a0_2 a0_3 a1 a2).bind fun bt336 => ((hogsheadref09_Write.f k l0_0 l0_1 a0_2 a0_3 a1 a2).bind fun bt346 => ((hogsheadref08_Same.f k bt336.1 bt336.2.1 bt336.2.2.1 bt336.2.2.2.1 bt346.1 bt346.2.1 bt346.2.2.1 bt346.2.2.2.1).bind fun t356 => (if t329 = true then (if t356 = true then (if t330.toList = t333.toList then (if t331 = t334 then (if t332 = t335 then (hogsheadlaw09_CellActs.j0 k (bt336.2.2.2.2 == bt346.2.2.2.2)) else (hogsheadlaw09_CellActs.j0 k false)) else (hogsheadlaw09_CellActs.j0 k false)) else (hogsheadlaw09_CellActs.j0 k false)) else (hogsheadlaw09_CellActs.j0 k false)) else (hogsheadlaw09_CellActs.j0 k false))))) = some r := H
 have A6 := qM A60
 clear A60
 replace H := Option.bind_eq_some_iff.mp H
 obtain ⟨⟨t336, t339, t342, t343, t344⟩, A70, H⟩ := H
 replace H : ((hogsheadref09_Write.f k l0_0 l0_1 a0_2 a0_3 a1 a2).bind fun bt346 => ((hogsheadref08_Same.f k t336 t339 t342 t343 bt346.1 bt346.2.1 bt346.2.2.1 bt346.2.2.2.1).bind fun t356 => (if t329 = true then (if t356 = true then (if t330.toList = t333.toList then (if t331 = t334 then (if t332 = t335 then (hogsheadlaw09_CellActs.j0 k (t344 == bt346.2.2.2.2)) else (hogsheadlaw09_CellActs.j0 k false)) else (hogsheadlaw09_CellActs.j0 k false)) else (hogsheadlaw09_CellActs.j0 k false)) else (hogsheadlaw09_CellActs.j0 k false)) else (hogsheadlaw09_CellActs.j0 k false)))) = some r := H
 have A7 := qM A70
 clear A70
 replace H := Option.bind_eq_some_iff.mp H
 obtain ⟨⟨t346, t349, t352, t353, t354⟩, A80, H⟩ := H
 replace H : ((hogsheadref08_Same.f k t336 t339 t342 t343 t346 t349 t352 t353).bind fun t356 => (if t329 = true then (if t356 = true then (if t330.toList = t333.toList then (if t331 = t334 then (if t332 = t335 then (hogsheadlaw09_CellActs.j0 k (t344 == t354)) else (hogsheadlaw09_CellActs.j0 k false)) else (hogsheadlaw09_CellActs.j0 k false)) else (hogsheadlaw09_CellActs.j0 k false)) else (hogsheadlaw09_CellActs.j0 k false)) else (hogsheadlaw09_CellActs.j0 k false))) = some r := H
 have A8 := qM A80
 clear A80
 replace H := Option.bind_eq_some_iff.mp H
 obtain ⟨t356, A90, H⟩ := H
 replace H : (if t329 = true then (if t356 = true then (if t330.toList = t333.toList then (if t331 = t334 then (if t332 = t335 then (hogsheadlaw09_CellActs.j0 k (t344 == t354)) else (hogsheadlaw09_CellActs.j0 k false)) else (hogsheadlaw09_CellActs.j0 k false)) else (hogsheadlaw09_CellActs.j0 k false)) else (hogsheadlaw09_CellActs.j0 k false)) else (hogsheadlaw09_CellActs.j0 k false)) = some r := H
 have A9 := qM A90
 clear A90
 have HC10 := qM H
 clear H
 go_enter Try.func4, Try.ntmps4
 go_upto_region 7 with (first | ((with_reducible refine gate_dst (N := 3) rfl ?_); refine box_event ?hg (N := 3) ?hd (cs := #[.slice A0_0 l0_0.length c0_0, .slice A0_1 l0_1.length c0_1, .int .i64 a0_2, .bool a0_3]) (t := 37) ?hr ?_; (case hd => rfl); (case hg => rfl); (case hr => first | (go_simp; done) | (go_simp; rfl)); intro g328 hg w11 hbox hb; have n0_ := qM (eT (by repeat (first | (with_reducible first | exact HB.out | apply eA | apply eN | apply eD) | exact HB.out)) hb); have n1_ := qM (hbox); have n2_ := qM ((by rw [hg]; exact (eZ (by repeat (first | (with_reducible first | exact HB.out | apply eA | apply eN | apply eD) | exact HB.out))) : w.heap.size ≤ g328)); have n3_ := n2_; clear HB; have HB := n0_; have B328 := n1_; have GW328 := n2_; have GE328 := n3_; clear n0_ n1_ n2_ n3_; clear hb hbox hg) | ((with_reducible refine gate_callee (f := 10) rfl ?_); refine goesL_ (some 19) rfl rfl Try.func10 (by kernel_rfl) rfl #[] rfl (by (try simp only [List.map_toArray, List.map_cons, List.map_nil]); first | done | rfl | (simp only [List.length_drop, List.length_take]; rfl)) ?_; (with_reducible refine (hogsheadlaw09_shown.calls k  t329 _ A4.out).mono ?_); rintro e w12 ⟨rfl, hb⟩; refine ⟨_, rfl, ?_⟩; have n0_ := qM (qB (g := g328) (by (with_reducible repeat first | refine qN ?_ _ | refine qD ?_ | refine qA ?_ _); exact B328.out) hb); have n1_ := qM (eT (by repeat (first | (with_reducible first | exact HB.out | apply eA | apply eN | apply eD | refine eS ?_ GE328.out) | exact HB.out)) hb); clear B328; clear HB; have B328 := n0_; have HB := n1_; clear n0_ n1_; (try clear hb); (try clear hb2); (try clear hk); (try clear hi); obtain ⟨z13_0, z13_1, z13_2, z13_3, f13_0, f13_1, f13_2, f13_3⟩ := cells4 B328.out) | ((with_reducible refine gate_callee (f := 15) rfl ?_); refine goesL_ (some 23) rfl rfl Try.func15 (by kernel_rfl) rfl #[.agg #[.slice A0_0 l0_0.length c0_0, .slice A0_1 l0_1.length c0_1, .int .i64 a0_2, .bool a0_3], .int .i64 a1] rfl (by (try simp only [List.map_toArray, List.map_cons, List.map_nil]); first | done | rfl | (simp only [List.length_drop, List.length_take]; rfl)) ?_; (with_reducible refine (cell_Read.calls k _ _ l0_0 _ _ l0_1 a0_2 a0_3 a1 t330 t331 t332 _ ?side1 ?side2 ?side3 ?side4 A5.out).mono ?_); (case side1 => repeat (first | exact (Kd.C_below HR0_0.out HB.out) | (with_reducible refine Kd.C_alloc ?_ _) | (with_reducible refine Kd.C_drewN ?_ _) | (with_reducible refine Kd.C_drew ?_))); (case side2 => exact HC0_0.out); (case side3 => repeat (first | exact (Kd.C_below HR0_1.out HB.out) | (with_reducible refine Kd.C_alloc ?_ _) | (with_reducible refine Kd.C_drewN ?_ _) | (with_reducible refine Kd.C_drew ?_))); (case side4 => exact HC0_1.out); rintro e w14 ⟨rfl, hb⟩; refine ⟨_, rfl, ?_⟩; have n0_ := qM (qB (g := g328) (by (with_reducible repeat first | refine qN ?_ _ | refine qD ?_ | refine qA ?_ _); exact B328.out) hb); have n1_ := qM (eT (by repeat (first | (with_reducible first | exact HB.out | apply eA | apply eN | apply eD | refine eS ?_ GE328.out) | exact HB.out)) hb); clear B328; clear HB; have B328 := n0_; have HB := n1_; clear n0_ n1_; (try clear hb); (try clear hb2); (try clear hk); (try clear hi); obtain ⟨z15_0, z15_1, z15_2, z15_3, f15_0, f15_1, f15_2, f15_3⟩ := cells4 B328.out) | ((with_reducible refine gate_callee (f := 16) rfl ?_); refine goesL_ (some 30) rfl rfl Try.func16 (by kernel_rfl) rfl #[.agg #[.slice A0_0 l0_0.length c0_0, .slice A0_1 l0_1.length c0_1, .int .i64 a0_2, .bool a0_3], .int .i64 a1] rfl (by (try simp only [List.map_toArray, List.map_cons, List.map_nil]); first | done | rfl | (simp only [List.length_drop, List.length_take]; rfl)) ?_; (with_reducible refine (hogsheadref09_Read.calls k _ _ l0_0 _ _ l0_1 a0_2 a0_3 a1 t333 t334 t335 _ ?side1 ?side2 ?side3 ?side4 A6.out).mono ?_); (case side1 => repeat (first | exact (Kd.C_below HR0_0.out HB.out) | (with_reducible refine Kd.C_alloc ?_ _) | (with_reducible refine Kd.C_drewN ?_ _) | (with_reducible refine Kd.C_drew ?_))); (case side2 => exact HC0_0.out); (case side3 => repeat (first | exact (Kd.C_below HR0_1.out HB.out) | (with_reducible refine Kd.C_alloc ?_ _) | (with_reducible refine Kd.C_drewN ?_ _) | (with_reducible refine Kd.C_drew ?_))); (case side4 => exact HC0_1.out); rintro e w16 ⟨rfl, hb⟩; refine ⟨_, rfl, ?_⟩; have n0_ := qM (qB (g := g328) (by (with_reducible repeat first | refine qN ?_ _ | refine qD ?_ | refine qA ?_ _); exact B328.out) hb); have n1_ := qM (eT (by repeat (first | (with_reducible first | exact HB.out | apply eA | apply eN | apply eD | refine eS ?_ GE328.out) | exact HB.out)) hb); clear B328; clear HB; have B328 := n0_; have HB := n1_; clear n0_ n1_; (try clear hb); (try clear hb2); (try clear hk); (try clear hi); obtain ⟨z17_0, z17_1, z17_2, z17_3, f17_0, f17_1, f17_2, f17_3⟩ := cells4 B328.out) | ((with_reducible refine gate_callee (f := 17) rfl ?_); refine goesL_ (some 38) rfl rfl Try.func17 (by kernel_rfl) rfl #[.agg #[.slice A0_0 l0_0.length c0_0, .slice A0_1 l0_1.length c0_1, .int .i64 a0_2, .bool a0_3], .int .i64 a1, .string a2] rfl (by (try simp only [List.map_toArray, List.map_cons, List.map_nil]); first | done | rfl | (simp only [List.length_drop, List.length_take]; rfl)) ?_; (with_reducible refine (cell_Write.calls k (fun k_ => k_ < w.heap.size) _ _ l0_0 (fun k_ => k_ < w.heap.size) _ _ l0_1 a0_2 a0_3 a1 a2 t336 t339 t342 t343 t344 _ ?side1 ?side2 A7.out).mono ?_); (case side1 => exact Kd.V_mk HC0_0.out (Kd.F_below (Kd.C_F Kd.heap_string HR0_0.out) (by repeat (first | (with_reducible first | exact HB.out | apply eA | apply eN | apply eD | refine eS ?_ GE328.out) | exact HB.out)))); (case side2 => exact Kd.V_mk HC0_1.out (Kd.F_below (Kd.C_F k77_heap HR0_1.out) (by repeat (first | (with_reducible first | exact HB.out | apply eA | apply eN | apply eD | refine eS ?_ GE328.out) | exact HB.out)))); rintro e w18 ⟨v337, v340, rfl, ho0, ho1, hb⟩; refine ⟨_, rfl, ?_⟩; have n0_ := qM (Vl (Vm (ok' := fun k_ => k_ ≠ g328) ho0 (fun k_ hk_ => Or.elim hk_ (fun hs_ => Or.elim hs_ (fun hs_ => fun e_ => Nat.not_le.2 hs_ (by rw [e_]; exact GW328.out)) (fun hs_ => fun e_ => Nat.not_le.2 hs_ (by rw [e_]; exact GW328.out))) (fun hn_ => (Fb (g := g328) (by (with_reducible repeat first | refine qN ?_ _ | refine qD ?_ | refine qA ?_ _); exact B328.out) k_ hn_)))) (eZ (by repeat (first | (with_reducible first | exact HB.out | apply eA | apply eN | apply eD | refine eS ?_ GE328.out) | exact HB.out)))); have n1_ := qM (Vl (Vm (ok' := fun k_ => k_ ≠ g328) ho1 (fun k_ hk_ => Or.elim hk_ (fun hs_ => Or.elim hs_ (fun hs_ => fun e_ => Nat.not_le.2 hs_ (by rw [e_]; exact GW328.out)) (fun hs_ => fun e_ => Nat.not_le.2 hs_ (by rw [e_]; exact GW328.out))) (fun hn_ => (Fb (g := g328) (by (with_reducible repeat first | refine qN ?_ _ | refine qD ?_ | refine qA ?_ _); exact B328.out) k_ hn_)))) (eZ (by repeat (first | (with_reducible first | exact HB.out | apply eA | apply eN | apply eD | refine eS ?_ GE328.out) | exact HB.out)))); have n2_ := qM (qB (g := g328) (by (with_reducible repeat first | refine qN ?_ _ | refine qD ?_ | refine qA ?_ _); exact B328.out) hb); have n3_ := qM (eT (by repeat (first | (with_reducible first | exact HB.out | apply eA | apply eN | apply eD | refine eS ?_ GE328.out) | exact HB.out)) hb); clear B328; clear HB; have HO338 := n0_; have HO341 := n1_; have B328 := n2_; have HB := n3_; clear n0_ n1_ n2_ n3_; (try clear hb); (try clear hb2); (try clear hk); (try clear hi); (try clear ho0); (try clear ho1)) | ((with_reducible refine gate_dst (N := 14) rfl ?_); refine box_event ?hg (N := 14) ?hd (cs := #[.slice none 0 0, .slice none 0 0, .int .i64 0, .bool false]) (t := 37) ?hr ?_; (case hd => rfl); (case hg => rfl); (case hr => first | (go_simp; done) | (go_simp; rfl)); intro g345 hg w19 hbox hb; have n0_ := qM (Vb (Kd.V_elderB (by (with_reducible repeat first | apply VA | apply VN | apply VD); exact HO338.out) g345 (Nat.le_of_eq hg.symm)) hb); have n1_ := qM (Vb (Kd.V_elderB (by (with_reducible repeat first | apply VA | apply VN | apply VD); exact HO341.out) g345 (Nat.le_of_eq hg.symm)) hb); have n2_ := qM (qB (g := g328) (by (with_reducible repeat first | refine qN ?_ _ | refine qD ?_ | refine qA ?_ _); exact B328.out) hb); have n3_ := qM (eT (by repeat (first | (with_reducible first | exact HB.out | apply eA | apply eN | apply eD | refine eS ?_ GE328.out) | exact HB.out)) hb); have n4_ := qM (hbox); have n5_ := qM ((by rw [hg]; exact (eZ (by repeat (first | (with_reducible first | exact HB.out | apply eA | apply eN | apply eD | refine eS ?_ GE328.out) | exact HB.out))) : w.heap.size ≤ g345)); have n6_ := n5_; have n7_ := qM ((by rw [hg]; exact Nat.ne_of_lt (qL (g := g328) (by (with_reducible repeat first | refine qN ?_ _ | refine qD ?_ | refine qA ?_ _); exact B328.out)) : g328 ≠ g345)); have n8_ := qM (Ne.symm n7_.out); clear HO338; clear HO341; clear B328; clear HB; have HO338 := n0_; have HO341 := n1_; have B328 := n2_; have HB := n3_; have B345 := n4_; have GW345 := n5_; have GE345 := n6_; have NB328_345 := n7_; have NB345_328 := n8_; clear n0_ n1_ n2_ n3_ n4_ n5_ n6_ n7_ n8_; clear hb hbox hg; obtain ⟨Ao20, co20, eo20⟩ := Kd.V_slice HO338.out; subst eo20; have hnb21 := NB345_328.out; have hnc21 := NB328_345.out; obtain ⟨z22_0, z22_1, z22_2, z22_3, f22_0, f22_1, f22_2, f22_3⟩ := cells4 B345.out; obtain ⟨Ao23, co23, eo23⟩ := Kd.V_slice HO341.out; subst eo23) | ((with_reducible refine gate_store (t := 37) (p := 14) rfl ?_); refine store_event (t := 37) (p := 14) (v := ?vo_w24) (w1 := ((((w19.setCell ⟨g345, 0, none⟩ (.slice Ao20 t336.length co20)).setCell ⟨g345, 1, none⟩ (.slice Ao23 t339.length co23)).setCell ⟨g345, 2, none⟩ (.int .i64 t342)).setCell ⟨g345, 3, none⟩ (.bool t343))) ?hg ?ho ?hn ?hr ?_; (case ho => rfl); (case hg => rfl); (case hn => rfl); (case hr => first | (go_simp; done) | (go_simp; rfl)); intro w24 hw; have n0_ : Aside0 (Kd.V Kd.string 9 w24 w.heap.size (fun k_ => k_ ≠ g328 ∧ k_ ≠ g345) (.slice Ao20 t336.length co20) t336) := ⟨(by rw [hw]; exact (by (with_reducible repeat first | apply VA | apply VN | apply VD); exact Vm (Vf (p := ⟨g345, 3, none⟩) (Vf (p := ⟨g345, 2, none⟩) (Vf (p := ⟨g345, 1, none⟩) (Vf (p := ⟨g345, 0, none⟩) (Vm HO338.out (fun k_ hk => (⟨hk, hk.2⟩ : _ ∧ k_ ≠ g345))) (fun _ hk => hk.2) (.slice Ao20 t336.length co20)) (fun _ hk => hk.2) (.slice Ao23 t339.length co23)) (fun _ hk => hk.2) (.int .i64 t342)) (fun _ hk => hk.2) (.bool t343)) (fun _ hk => ⟨hk.1.1, hk.1.2⟩)))⟩; have n1_ : Aside0 (Kd.V k77 77 w24 w.heap.size (fun k_ => k_ ≠ g328 ∧ k_ ≠ g345) (.slice Ao23 t339.length co23) t339) := ⟨(by rw [hw]; exact (by (with_reducible repeat first | apply VA | apply VN | apply VD); exact Vm (Vf (p := ⟨g345, 3, none⟩) (Vf (p := ⟨g345, 2, none⟩) (Vf (p := ⟨g345, 1, none⟩) (Vf (p := ⟨g345, 0, none⟩) (Vm HO341.out (fun k_ hk => (⟨hk, hk.2⟩ : _ ∧ k_ ≠ g345))) (fun _ hk => hk.2) (.slice Ao20 t336.length co20)) (fun _ hk => hk.2) (.slice Ao23 t339.length co23)) (fun _ hk => hk.2) (.int .i64 t342)) (fun _ hk => hk.2) (.bool t343)) (fun _ hk => ⟨hk.1.1, hk.1.2⟩)))⟩; have n2_ : Aside0 (w24.heap[g328]? = some (.cells #[.slice A0_0 l0_0.length c0_0, .slice A0_1 l0_1.length c0_1, .int .i64 a0_2, .bool a0_3] 37 (0, 0))) := ⟨(by rw [hw]; exact (by (with_reducible repeat first | refine qN ?_ _ | refine qD ?_ | refine qA ?_ _); (iterate 4 (refine qR ?_ NB328_345.out _; (with_reducible repeat first | refine qN ?_ _ | refine qD ?_ | refine qA ?_ _))); exact B328.out))⟩; have n3_ : Aside0 (w24.heap[g345]? = some (.cells #[.slice Ao20 t336.length co20, .slice Ao23 t339.length co23, .int .i64 t342, .bool t343] 37 (0, 0))) := ⟨(by rw [hw]; exact (by (with_reducible repeat first | refine qN ?_ _ | refine qD ?_ | refine qA ?_ _); apply puts4; (with_reducible repeat first | refine qN ?_ _ | refine qD ?_ | refine qA ?_ _); exact B345.out))⟩; have n4_ : Aside0 (Below w.heap.size w w24) := ⟨(by rw [hw]; exact (by repeat (first | (with_reducible first | exact HB.out | apply eA | apply eN | apply eD | refine eS ?_ GE328.out | refine eS ?_ GE345.out) | exact HB.out)))⟩; clear hw; clear HO338; clear HO341; clear B328; clear B345; clear HB; have HO338 := n0_; have HO341 := n1_; have B328 := n2_; have B345 := n3_; have HB := n4_; clear n0_ n1_ n2_ n3_ n4_; obtain ⟨z25_0, z25_1, z25_2, z25_3, f25_0, f25_1, f25_2, f25_3⟩ := cells4 B328.out) | ((with_reducible refine gate_callee (f := 18) rfl ?_); refine goesL_ (some 45) rfl rfl Try.func18 (by kernel_rfl) rfl #[.agg #[.slice A0_0 l0_0.length c0_0, .slice A0_1 l0_1.length c0_1, .int .i64 a0_2, .bool a0_3], .int .i64 a1, .string a2] rfl (by (try simp only [List.map_toArray, List.map_cons, List.map_nil]); first | done | rfl | (simp only [List.length_drop, List.length_take]; rfl)) ?_; (with_reducible refine (hogsheadref09_Write.calls k (fun k_ => k_ < w.heap.size) _ _ l0_0 (fun k_ => k_ < w.heap.size) _ _ l0_1 a0_2 a0_3 a1 a2 t346 t349 t352 t353 t354 _ ?side1 ?side2 A8.out).mono ?_); (case side1 => exact Kd.V_mk HC0_0.out (Kd.F_below (Kd.C_F Kd.heap_string HR0_0.out) (by repeat (first | (with_reducible first | exact HB.out | apply eA | apply eN | apply eD | refine eS ?_ GE328.out | refine eS ?_ GE345.out) | exact HB.out)))); (case side2 => exact Kd.V_mk HC0_1.out (Kd.F_below (Kd.C_F k77_heap HR0_1.out) (by repeat (first | (with_reducible first | exact HB.out | apply eA | apply eN | apply eD | refine eS ?_ GE328.out | refine eS ?_ GE345.out) | exact HB.out)))); rintro e w26 ⟨v347, v350, rfl, ho0, ho1, hb⟩; refine ⟨_, rfl, ?_⟩; have n0_ := qM (Vb (by (with_reducible repeat first | apply VA | apply VN | apply VD); exact HO338.out) hb); have n1_ := qM (Vb (by (with_reducible repeat first | apply VA | apply VN | apply VD); exact HO341.out) hb); have n2_ := qM (Vl (Vm (ok' := fun k_ => k_ ≠ g328 ∧ k_ ≠ g345) ho0 (fun k_ hk_ => ⟨Or.elim hk_ (fun hs_ => Or.elim hs_ (fun hs_ => fun e_ => Nat.not_le.2 hs_ (by rw [e_]; exact GW328.out)) (fun hs_ => fun e_ => Nat.not_le.2 hs_ (by rw [e_]; exact GW328.out))) (fun hn_ => (Fb (g := g328) (by (with_reducible repeat first | refine qN ?_ _ | refine qD ?_ | refine qA ?_ _); exact B328.out) k_ hn_)), Or.elim hk_ (fun hs_ => Or.elim hs_ (fun hs_ => fun e_ => Nat.not_le.2 hs_ (by rw [e_]; exact GW345.out)) (fun hs_ => fun e_ => Nat.not_le.2 hs_ (by rw [e_]; exact GW345.out))) (fun hn_ => (Fb (g := g345) (by (with_reducible repeat first | refine qN ?_ _ | refine qD ?_ | refine qA ?_ _); exact B345.out) k_ hn_))⟩)) (eZ (by repeat (first | (with_reducible first | exact HB.out | apply eA | apply eN | apply eD | refine eS ?_ GE328.out | refine eS ?_ GE345.out) | exact HB.out)))); have n3_ := qM (Vl (Vm (ok' := fun k_ => k_ ≠ g328 ∧ k_ ≠ g345) ho1 (fun k_ hk_ => ⟨Or.elim hk_ (fun hs_ => Or.elim hs_ (fun hs_ => fun e_ => Nat.not_le.2 hs_ (by rw [e_]; exact GW328.out)) (fun hs_ => fun e_ => Nat.not_le.2 hs_ (by rw [e_]; exact GW328.out))) (fun hn_ => (Fb (g := g328) (by (with_reducible repeat first | refine qN ?_ _ | refine qD ?_ | refine qA ?_ _); exact B328.out) k_ hn_)), Or.elim hk_ (fun hs_ => Or.elim hs_ (fun hs_ => fun e_ => Nat.not_le.2 hs_ (by rw [e_]; exact GW345.out)) (fun hs_ => fun e_ => Nat.not_le.2 hs_ (by rw [e_]; exact GW345.out))) (fun hn_ => (Fb (g := g345) (by (with_reducible repeat first | refine qN ?_ _ | refine qD ?_ | refine qA ?_ _); exact B345.out) k_ hn_))⟩)) (eZ (by repeat (first | (with_reducible first | exact HB.out | apply eA | apply eN | apply eD | refine eS ?_ GE328.out | refine eS ?_ GE345.out) | exact HB.out)))); have n4_ := qM (qB (g := g328) (by (with_reducible repeat first | refine qN ?_ _ | refine qD ?_ | refine qA ?_ _); exact B328.out) hb); have n5_ := qM (qB (g := g345) (by (with_reducible repeat first | refine qN ?_ _ | refine qD ?_ | refine qA ?_ _); exact B345.out) hb); have n6_ := qM (eT (by repeat (first | (with_reducible first | exact HB.out | apply eA | apply eN | apply eD | refine eS ?_ GE328.out | refine eS ?_ GE345.out) | exact HB.out)) hb); clear HO338; clear HO341; clear B328; clear B345; clear HB; have HO338 := n0_; have HO341 := n1_; have HO348 := n2_; have HO351 := n3_; have B328 := n4_; have B345 := n5_; have HB := n6_; clear n0_ n1_ n2_ n3_ n4_ n5_ n6_; (try clear hb); (try clear hb2); (try clear hk); (try clear hi); (try clear ho0); (try clear ho1)) | ((with_reducible refine gate_dst (N := 16) rfl ?_); refine box_event ?hg (N := 16) ?hd (cs := #[.slice none 0 0, .slice none 0 0, .int .i64 0, .bool false]) (t := 37) ?hr ?_; (case hd => rfl); (case hg => rfl); (case hr => first | (go_simp; done) | (go_simp; rfl)); intro g355 hg w27 hbox hb; have n0_ := qM (Vb (Kd.V_elderB (by (with_reducible repeat first | apply VA | apply VN | apply VD); exact HO338.out) g355 (Nat.le_of_eq hg.symm)) hb); have n1_ := qM (Vb (Kd.V_elderB (by (with_reducible repeat first | apply VA | apply VN | apply VD); exact HO341.out) g355 (Nat.le_of_eq hg.symm)) hb); have n2_ := qM (Vb (Kd.V_elderB (by (with_reducible repeat first | apply VA | apply VN | apply VD); exact HO348.out) g355 (Nat.le_of_eq hg.symm)) hb); have n3_ := qM (Vb (Kd.V_elderB (by (with_reducible repeat first | apply VA | apply VN | apply VD); exact HO351.out) g355 (Nat.le_of_eq hg.symm)) hb); have n4_ := qM (qB (g := g328) (by (with_reducible repeat first | refine qN ?_ _ | refine qD ?_ | refine qA ?_ _); exact B328.out) hb); have n5_ := qM (qB (g := g345) (by (with_reducible repeat first | refine qN ?_ _ | refine qD ?_ | refine qA ?_ _); exact B345.out) hb); have n6_ := qM (eT (by repeat (first | (with_reducible first | exact HB.out | apply eA | apply eN | apply eD | refine eS ?_ GE328.out | refine eS ?_ GE345.out) | exact HB.out)) hb); have n7_ := qM (hbox); have n8_ := qM ((by rw [hg]; exact (eZ (by repeat (first | (with_reducible first | exact HB.out | apply eA | apply eN | apply eD | refine eS ?_ GE328.out | refine eS ?_ GE345.out) | exact HB.out))) : w.heap.size ≤ g355)); have n9_ := n8_; have n10_ := qM ((by rw [hg]; exact Nat.ne_of_lt (qL (g := g328) (by (with_reducible repeat first | refine qN ?_ _ | refine qD ?_ | refine qA ?_ _); exact B328.out)) : g328 ≠ g355)); have n11_ := qM (Ne.symm n10_.out); have n12_ := qM ((by rw [hg]; exact Nat.ne_of_lt (qL (g := g345) (by (with_reducible repeat first | refine qN ?_ _ | refine qD ?_ | refine qA ?_ _); exact B345.out)) : g345 ≠ g355)); have n13_ := qM (Ne.symm n12_.out); clear HO338; clear HO341; clear HO348; clear HO351; clear B328; clear B345; clear HB; have HO338 := n0_; have HO341 := n1_; have HO348 := n2_; have HO351 := n3_; have B328 := n4_; have B345 := n5_; have HB := n6_; have B355 := n7_; have GW355 := n8_; have GE355 := n9_; have NB328_355 := n10_; have NB355_328 := n11_; have NB345_355 := n12_; have NB355_345 := n13_; clear n0_ n1_ n2_ n3_ n4_ n5_ n6_ n7_ n8_ n9_ n10_ n11_ n12_ n13_; clear hb hbox hg; obtain ⟨Ao28, co28, eo28⟩ := Kd.V_slice HO348.out; subst eo28; have hnb29 := NB355_328.out; have hnc29 := NB328_355.out; have hnb30 := NB355_345.out; have hnc30 := NB345_355.out; obtain ⟨z31_0, z31_1, z31_2, z31_3, f31_0, f31_1, f31_2, f31_3⟩ := cells4 B355.out; obtain ⟨Ao32, co32, eo32⟩ := Kd.V_slice HO351.out; subst eo32; obtain ⟨z33_0, z33_1, z33_2, z33_3, f33_0, f33_1, f33_2, f33_3⟩ := cells4 B345.out) | ((with_reducible refine gate_callee (f := 19) rfl ?_); refine goesL_ (some 50) rfl rfl Try.func19 (by kernel_rfl) rfl #[.agg #[.slice Ao20 t336.length co20, .slice Ao23 t339.length co23, .int .i64 t342, .bool t343], .agg #[.slice Ao28 t346.length co28, .slice Ao32 t349.length co32, .int .i64 t352, .bool t353]] rfl (by (try simp only [List.map_toArray, List.map_cons, List.map_nil]); first | done | rfl | (simp only [List.length_drop, List.length_take]; rfl)) ?_; (with_reducible refine (hogsheadref08_Same.calls k _ _ t336 _ _ t339 t342 t343 _ _ t346 _ _ t349 t352 t353 t356 _ ?side1 ?side2 ?side3 ?side4 ?side5 ?side6 ?side7 ?side8 A9.out).mono ?_); (case side1 => refine (Kd.V_reads' (e := 9) (base := w.heap.size) (ok := fun k_ => ((k_ ≠ g328 ∧ k_ ≠ g345) ∧ k_ ≠ g355)) (n := t336.length) (c := co20) ?_).2.2; exact (by (with_reducible repeat first | apply VA | apply VN | apply VD); exact (Vm (Vf (p := ⟨g355, 3, none⟩) (Vf (p := ⟨g355, 2, none⟩) (Vf (p := ⟨g355, 1, none⟩) (Vf (p := ⟨g355, 0, none⟩) (Vm HO338.out (fun k_ hk => (⟨hk, hk.2⟩ : _ ∧ k_ ≠ g355))) (fun _ hk => hk.2) (.slice Ao28 t346.length co28)) (fun _ hk => hk.2) (.slice Ao32 t349.length co32)) (fun _ hk => hk.2) (.int .i64 t352)) (fun _ hk => hk.2) (.bool t353)) (fun _ h_ => h_.1)))); (case side2 => exact (Kd.V_reads' HO338.out).2.1); (case side3 => refine (Kd.V_reads' (e := 77) (base := w.heap.size) (ok := fun k_ => ((k_ ≠ g328 ∧ k_ ≠ g345) ∧ k_ ≠ g355)) (n := t339.length) (c := co23) ?_).2.2; exact (by (with_reducible repeat first | apply VA | apply VN | apply VD); exact (Vm (Vf (p := ⟨g355, 3, none⟩) (Vf (p := ⟨g355, 2, none⟩) (Vf (p := ⟨g355, 1, none⟩) (Vf (p := ⟨g355, 0, none⟩) (Vm HO341.out (fun k_ hk => (⟨hk, hk.2⟩ : _ ∧ k_ ≠ g355))) (fun _ hk => hk.2) (.slice Ao28 t346.length co28)) (fun _ hk => hk.2) (.slice Ao32 t349.length co32)) (fun _ hk => hk.2) (.int .i64 t352)) (fun _ hk => hk.2) (.bool t353)) (fun _ h_ => h_.1)))); (case side4 => exact (Kd.V_reads' HO341.out).2.1); (case side5 => refine (Kd.V_reads' (e := 9) (base := w.heap.size) (ok := fun k_ => ((k_ ≠ g328 ∧ k_ ≠ g345) ∧ k_ ≠ g355)) (n := t346.length) (c := co28) ?_).2.2; exact (by (with_reducible repeat first | apply VA | apply VN | apply VD); exact (Vm (Vf (p := ⟨g355, 3, none⟩) (Vf (p := ⟨g355, 2, none⟩) (Vf (p := ⟨g355, 1, none⟩) (Vf (p := ⟨g355, 0, none⟩) (Vm HO348.out (fun k_ hk => (⟨hk, hk.2⟩ : _ ∧ k_ ≠ g355))) (fun _ hk => hk.2) (.slice Ao28 t346.length co28)) (fun _ hk => hk.2) (.slice Ao32 t349.length co32)) (fun _ hk => hk.2) (.int .i64 t352)) (fun _ hk => hk.2) (.bool t353)) (fun _ h_ => h_.1)))); (case side6 => exact (Kd.V_reads' HO348.out).2.1); (case side7 => refine (Kd.V_reads' (e := 77) (base := w.heap.size) (ok := fun k_ => ((k_ ≠ g328 ∧ k_ ≠ g345) ∧ k_ ≠ g355)) (n := t349.length) (c := co32) ?_).2.2; exact (by (with_reducible repeat first | apply VA | apply VN | apply VD); exact (Vm (Vf (p := ⟨g355, 3, none⟩) (Vf (p := ⟨g355, 2, none⟩) (Vf (p := ⟨g355, 1, none⟩) (Vf (p := ⟨g355, 0, none⟩) (Vm HO351.out (fun k_ hk => (⟨hk, hk.2⟩ : _ ∧ k_ ≠ g355))) (fun _ hk => hk.2) (.slice Ao28 t346.length co28)) (fun _ hk => hk.2) (.slice Ao32 t349.length co32)) (fun _ hk => hk.2) (.int .i64 t352)) (fun _ hk => hk.2) (.bool t353)) (fun _ h_ => h_.1)))); (case side8 => exact (Kd.V_reads' HO351.out).2.1); rintro e w34 ⟨rfl, hb⟩; refine ⟨_, rfl, ?_⟩; have n0_ := qM (Vb (by (with_reducible repeat first | apply VA | apply VN | apply VD); exact (Vm (Vf (p := ⟨g355, 3, none⟩) (Vf (p := ⟨g355, 2, none⟩) (Vf (p := ⟨g355, 1, none⟩) (Vf (p := ⟨g355, 0, none⟩) (Vm HO338.out (fun k_ hk => (⟨hk, hk.2⟩ : _ ∧ k_ ≠ g355))) (fun _ hk => hk.2) (.slice Ao28 t346.length co28)) (fun _ hk => hk.2) (.slice Ao32 t349.length co32)) (fun _ hk => hk.2) (.int .i64 t352)) (fun _ hk => hk.2) (.bool t353)) (fun _ h_ => h_.1))) hb); have n1_ := qM (Vb (by (with_reducible repeat first | apply VA | apply VN | apply VD); exact (Vm (Vf (p := ⟨g355, 3, none⟩) (Vf (p := ⟨g355, 2, none⟩) (Vf (p := ⟨g355, 1, none⟩) (Vf (p := ⟨g355, 0, none⟩) (Vm HO341.out (fun k_ hk => (⟨hk, hk.2⟩ : _ ∧ k_ ≠ g355))) (fun _ hk => hk.2) (.slice Ao28 t346.length co28)) (fun _ hk => hk.2) (.slice Ao32 t349.length co32)) (fun _ hk => hk.2) (.int .i64 t352)) (fun _ hk => hk.2) (.bool t353)) (fun _ h_ => h_.1))) hb); have n2_ := qM (Vb (by (with_reducible repeat first | apply VA | apply VN | apply VD); exact (Vm (Vf (p := ⟨g355, 3, none⟩) (Vf (p := ⟨g355, 2, none⟩) (Vf (p := ⟨g355, 1, none⟩) (Vf (p := ⟨g355, 0, none⟩) (Vm HO348.out (fun k_ hk => (⟨hk, hk.2⟩ : _ ∧ k_ ≠ g355))) (fun _ hk => hk.2) (.slice Ao28 t346.length co28)) (fun _ hk => hk.2) (.slice Ao32 t349.length co32)) (fun _ hk => hk.2) (.int .i64 t352)) (fun _ hk => hk.2) (.bool t353)) (fun _ h_ => h_.1))) hb); have n3_ := qM (Vb (by (with_reducible repeat first | apply VA | apply VN | apply VD); exact (Vm (Vf (p := ⟨g355, 3, none⟩) (Vf (p := ⟨g355, 2, none⟩) (Vf (p := ⟨g355, 1, none⟩) (Vf (p := ⟨g355, 0, none⟩) (Vm HO351.out (fun k_ hk => (⟨hk, hk.2⟩ : _ ∧ k_ ≠ g355))) (fun _ hk => hk.2) (.slice Ao28 t346.length co28)) (fun _ hk => hk.2) (.slice Ao32 t349.length co32)) (fun _ hk => hk.2) (.int .i64 t352)) (fun _ hk => hk.2) (.bool t353)) (fun _ h_ => h_.1))) hb); have n4_ := qM (qB (g := g328) (o := .cells #[.slice A0_0 l0_0.length c0_0, .slice A0_1 l0_1.length c0_1, .int .i64 a0_2, .bool a0_3] 37 (0, 0)) (by (with_reducible repeat first | refine qN ?_ _ | refine qD ?_ | refine qA ?_ _); (iterate 4 (refine qR ?_ NB328_355.out _; (with_reducible repeat first | refine qN ?_ _ | refine qD ?_ | refine qA ?_ _))); exact B328.out) hb); have n5_ := qM (qB (g := g345) (o := .cells #[.slice Ao20 t336.length co20, .slice Ao23 t339.length co23, .int .i64 t342, .bool t343] 37 (0, 0)) (by (with_reducible repeat first | refine qN ?_ _ | refine qD ?_ | refine qA ?_ _); (iterate 4 (refine qR ?_ NB345_355.out _; (with_reducible repeat first | refine qN ?_ _ | refine qD ?_ | refine qA ?_ _))); exact B345.out) hb); have n6_ := qM (qB (g := g355) (by (with_reducible repeat first | refine qN ?_ _ | refine qD ?_ | refine qA ?_ _); apply puts4; (with_reducible repeat first | refine qN ?_ _ | refine qD ?_ | refine qA ?_ _); exact B355.out) hb); have n7_ := qM (eT (by repeat (first | (with_reducible first | exact HB.out | apply eA | apply eN | apply eD | refine eS ?_ GE328.out | refine eS ?_ GE345.out | refine eS ?_ GE355.out) | exact HB.out)) hb); clear HO338; clear HO341; clear HO348; clear HO351; clear B328; clear B345; clear B355; clear HB; have HO338 := n0_; have HO341 := n1_; have HO348 := n2_; have HO351 := n3_; have B328 := n4_; have B345 := n5_; have B355 := n6_; have HB := n7_; clear n0_ n1_ n2_ n3_ n4_ n5_ n6_ n7_; (try clear hb); (try clear hb2); (try clear hk); (try clear hi)))
 (try simp only [Act.put, List.setIfInBounds_toArray, List.set_cons_zero, List.set_cons_succ])
 go_cut [6] (fun v6 wc => ∃ (kq : Nat) (x6_9 : Bool), v6 = .bool x6_9 ∧ Aside0 (hogsheadlaw09_CellActs.j0 kq x6_9 = some r) ∧ Aside0 (kq ≤ k) ∧ Aside0 (Kd.V Kd.string 9 wc w.heap.size (fun k_ => k_ ≠ g328 ∧ k_ ≠ g345 ∧ k_ ≠ g355) (.slice Ao20 t336.length co20) t336) ∧ Aside0 (Kd.V k77 77 wc w.heap.size (fun k_ => k_ ≠ g328 ∧ k_ ≠ g345 ∧ k_ ≠ g355) (.slice Ao23 t339.length co23) t339) ∧ Aside0 (Kd.V Kd.string 9 wc w.heap.size (fun k_ => k_ ≠ g328 ∧ k_ ≠ g345 ∧ k_ ≠ g355) (.slice Ao28 t346.length co28) t346) ∧ Aside0 (Kd.V k77 77 wc w.heap.size (fun k_ => k_ ≠ g328 ∧ k_ ≠ g345 ∧ k_ ≠ g355) (.slice Ao32 t349.length co32) t349) ∧ Aside0 (wc.heap[g328]? = some (.cells #[(.slice A0_0 l0_0.length c0_0), (.slice A0_1 l0_1.length c0_1), .int .i64 a0_2, .bool a0_3] 37 (0, 0))) ∧ Aside0 (wc.heap[g345]? = some (.cells #[(.slice Ao20 t336.length co20), (.slice Ao23 t339.length co23), .int .i64 t342, .bool t343] 37 (0, 0))) ∧ Aside0 (wc.heap[g355]? = some (.cells #[(.slice Ao28 t346.length co28), (.slice Ao32 t349.length co32), .int .i64 t352, .bool t353] 37 (0, 0))) ∧ Aside0 (Below w.heap.size w wc))
 case first =>
  have H := HC10.out
  clear HC10
  by_cases c35 : t329 = true
  ·subst c35
   have H1 : (if t356 = true then (if t330.toList = t333.toList then (if t331 = t334 then (if t332 = t335 then (hogsheadlaw09_CellActs.j0 k (t344 == t354)) else (hogsheadlaw09_CellActs.j0 k false)) else (hogsheadlaw09_CellActs.j0 k false)) else (hogsheadlaw09_CellActs.j0 k false)) else (hogsheadlaw09_CellActs.j0 k false)) = some r := by rw [if_pos rfl] at H; exact H
   clear H
   have H := H1
   clear H1
   by_cases c36 : t356 = true
   ·subst c36
    have H1 : (if t330.toList = t333.toList then (if t331 = t334 then (if t332 = t335 then (hogsheadlaw09_CellActs.j0 k (t344 == t354)) else (hogsheadlaw09_CellActs.j0 k false)) else (hogsheadlaw09_CellActs.j0 k false)) else (hogsheadlaw09_CellActs.j0 k false)) = some r := by rw [if_pos rfl] at H; exact H
    clear H
    have H := H1
    clear H1
    by_cases c37 : t330.toList = t333.toList
    ·rw [if_pos c37] at H
     have c37b0 : (t330.toList == t333.toList) = true := beq_iff_eq.mpr c37
     have c37b1 : (t330.toList != t333.toList) = false := bne_eq_false_iff_eq.mpr c37
     clear c37
     (first | rw [c37b0] | (simp only [i64_w, i32_w]; rw [c37b0]) | skip)
     by_cases c38 : t331 = t334
     ·rw [if_pos c38] at H
      have c38b0 : (t331 == t334) = true := beq_iff_eq.mpr c38
      have c38b1 : (t331 != t334) = false := bne_eq_false_iff_eq.mpr c38
      clear c38
      by_cases c39 : t332 = t335
      ·rw [if_pos c39] at H
       have c39b0 : (t332 == t335) = true := beq_iff_eq.mpr c39
       have c39b1 : (t332 != t335) = false := bne_eq_false_iff_eq.mpr c39
       clear c39
       have H' := qM H
       clear H
       go_wp2
       go_meet
       case rel => exact ⟨_, ((t344 == t354)), (by first | rfl | (simp; done) | (simp [*]; done)), H', ⟨by first | omega | exact Nat.le_refl _⟩, ⟨by (with_reducible repeat first | apply VA | apply VN | apply VD); exact Vm HO338.out (fun _ hk => ⟨hk.1.1, ⟨hk.1.2, hk.2⟩⟩)⟩, ⟨by (with_reducible repeat first | apply VA | apply VN | apply VD); exact Vm HO341.out (fun _ hk => ⟨hk.1.1, ⟨hk.1.2, hk.2⟩⟩)⟩, ⟨by (with_reducible repeat first | apply VA | apply VN | apply VD); exact Vm HO348.out (fun _ hk => ⟨hk.1.1, ⟨hk.1.2, hk.2⟩⟩)⟩, ⟨by (with_reducible repeat first | apply VA | apply VN | apply VD); exact Vm HO351.out (fun _ hk => ⟨hk.1.1, ⟨hk.1.2, hk.2⟩⟩)⟩, ⟨by (with_reducible repeat first | refine qN ?_ _ | refine qD ?_ | refine qA ?_ _); exact B328.out⟩, ⟨by (with_reducible repeat first | refine qN ?_ _ | refine qD ?_ | refine qA ?_ _); exact B345.out⟩, ⟨by (with_reducible repeat first | refine qN ?_ _ | refine qD ?_ | refine qA ?_ _); exact B355.out⟩, ⟨by repeat (first | (with_reducible first | exact HB.out | apply eA | apply eN | apply eD | refine eS ?_ GE328.out | refine eS ?_ GE345.out | refine eS ?_ GE355.out) | exact HB.out)⟩⟩
      ·rw [if_neg c39] at H
       have c39b0 : (t332 == t335) = false := beq_eq_false_iff_ne.mpr c39
       have c39b1 : (t332 != t335) = true := bne_iff_ne.mpr c39
       have H' := qM H
       clear H
       go_wp2
       go_meet
       case rel => exact ⟨_, (false), (by first | rfl | (simp; done) | (simp [*]; done)), H', ⟨by first | omega | exact Nat.le_refl _⟩, ⟨by (with_reducible repeat first | apply VA | apply VN | apply VD); exact Vm HO338.out (fun _ hk => ⟨hk.1.1, ⟨hk.1.2, hk.2⟩⟩)⟩, ⟨by (with_reducible repeat first | apply VA | apply VN | apply VD); exact Vm HO341.out (fun _ hk => ⟨hk.1.1, ⟨hk.1.2, hk.2⟩⟩)⟩, ⟨by (with_reducible repeat first | apply VA | apply VN | apply VD); exact Vm HO348.out (fun _ hk => ⟨hk.1.1, ⟨hk.1.2, hk.2⟩⟩)⟩, ⟨by (with_reducible repeat first | apply VA | apply VN | apply VD); exact Vm HO351.out (fun _ hk => ⟨hk.1.1, ⟨hk.1.2, hk.2⟩⟩)⟩, ⟨by (with_reducible repeat first | refine qN ?_ _ | refine qD ?_ | refine qA ?_ _); exact B328.out⟩, ⟨by (with_reducible repeat first | refine qN ?_ _ | refine qD ?_ | refine qA ?_ _); exact B345.out⟩, ⟨by (with_reducible repeat first | refine qN ?_ _ | refine qD ?_ | refine qA ?_ _); exact B355.out⟩, ⟨by repeat (first | (with_reducible first | exact HB.out | apply eA | apply eN | apply eD | refine eS ?_ GE328.out | refine eS ?_ GE345.out | refine eS ?_ GE355.out) | exact HB.out)⟩⟩
     ·rw [if_neg c38] at H
      have c38b0 : (t331 == t334) = false := beq_eq_false_iff_ne.mpr c38
      have c38b1 : (t331 != t334) = true := bne_iff_ne.mpr c38
      have H' := qM H
      clear H
      go_wp2
      go_meet
      case rel => exact ⟨_, (false), (by first | rfl | (simp; done) | (simp [*]; done)), H', ⟨by first | omega | exact Nat.le_refl _⟩, ⟨by (with_reducible repeat first | apply VA | apply VN | apply VD); exact Vm HO338.out (fun _ hk => ⟨hk.1.1, ⟨hk.1.2, hk.2⟩⟩)⟩, ⟨by (with_reducible repeat first | apply VA | apply VN | apply VD); exact Vm HO341.out (fun _ hk => ⟨hk.1.1, ⟨hk.1.2, hk.2⟩⟩)⟩, ⟨by (with_reducible repeat first | apply VA | apply VN | apply VD); exact Vm HO348.out (fun _ hk => ⟨hk.1.1, ⟨hk.1.2, hk.2⟩⟩)⟩, ⟨by (with_reducible repeat first | apply VA | apply VN | apply VD); exact Vm HO351.out (fun _ hk => ⟨hk.1.1, ⟨hk.1.2, hk.2⟩⟩)⟩, ⟨by (with_reducible repeat first | refine qN ?_ _ | refine qD ?_ | refine qA ?_ _); exact B328.out⟩, ⟨by (with_reducible repeat first | refine qN ?_ _ | refine qD ?_ | refine qA ?_ _); exact B345.out⟩, ⟨by (with_reducible repeat first | refine qN ?_ _ | refine qD ?_ | refine qA ?_ _); exact B355.out⟩, ⟨by repeat (first | (with_reducible first | exact HB.out | apply eA | apply eN | apply eD | refine eS ?_ GE328.out | refine eS ?_ GE345.out | refine eS ?_ GE355.out) | exact HB.out)⟩⟩
    ·rw [if_neg c37] at H
     have c37b0 : (t330.toList == t333.toList) = false := beq_eq_false_iff_ne.mpr c37
     have c37b1 : (t330.toList != t333.toList) = true := bne_iff_ne.mpr c37
     (first | rw [c37b0] | (simp only [i64_w, i32_w]; rw [c37b0]) | skip)
     have H' := qM H
     clear H
     go_wp2
     go_meet
     case rel => exact ⟨_, (false), (by first | rfl | (simp; done) | (simp [*]; done)), H', ⟨by first | omega | exact Nat.le_refl _⟩, ⟨by (with_reducible repeat first | apply VA | apply VN | apply VD); exact Vm HO338.out (fun _ hk => ⟨hk.1.1, ⟨hk.1.2, hk.2⟩⟩)⟩, ⟨by (with_reducible repeat first | apply VA | apply VN | apply VD); exact Vm HO341.out (fun _ hk => ⟨hk.1.1, ⟨hk.1.2, hk.2⟩⟩)⟩, ⟨by (with_reducible repeat first | apply VA | apply VN | apply VD); exact Vm HO348.out (fun _ hk => ⟨hk.1.1, ⟨hk.1.2, hk.2⟩⟩)⟩, ⟨by (with_reducible repeat first | apply VA | apply VN | apply VD); exact Vm HO351.out (fun _ hk => ⟨hk.1.1, ⟨hk.1.2, hk.2⟩⟩)⟩, ⟨by (with_reducible repeat first | refine qN ?_ _ | refine qD ?_ | refine qA ?_ _); exact B328.out⟩, ⟨by (with_reducible repeat first | refine qN ?_ _ | refine qD ?_ | refine qA ?_ _); exact B345.out⟩, ⟨by (with_reducible repeat first | refine qN ?_ _ | refine qD ?_ | refine qA ?_ _); exact B355.out⟩, ⟨by repeat (first | (with_reducible first | exact HB.out | apply eA | apply eN | apply eD | refine eS ?_ GE328.out | refine eS ?_ GE345.out | refine eS ?_ GE355.out) | exact HB.out)⟩⟩
   ·replace c36 := Bool.eq_false_iff.mpr c36
    subst c36
    have H1 : (hogsheadlaw09_CellActs.j0 k false) = some r := by rw [if_neg (show ¬ (false = true) by decide)] at H; exact H
    clear H
    have H := H1
    clear H1
    have H' := qM H
    clear H
    go_wp2
    go_meet
    case rel => exact ⟨_, (false), (by first | rfl | (simp; done) | (simp [*]; done)), H', ⟨by first | omega | exact Nat.le_refl _⟩, ⟨by (with_reducible repeat first | apply VA | apply VN | apply VD); exact Vm HO338.out (fun _ hk => ⟨hk.1.1, ⟨hk.1.2, hk.2⟩⟩)⟩, ⟨by (with_reducible repeat first | apply VA | apply VN | apply VD); exact Vm HO341.out (fun _ hk => ⟨hk.1.1, ⟨hk.1.2, hk.2⟩⟩)⟩, ⟨by (with_reducible repeat first | apply VA | apply VN | apply VD); exact Vm HO348.out (fun _ hk => ⟨hk.1.1, ⟨hk.1.2, hk.2⟩⟩)⟩, ⟨by (with_reducible repeat first | apply VA | apply VN | apply VD); exact Vm HO351.out (fun _ hk => ⟨hk.1.1, ⟨hk.1.2, hk.2⟩⟩)⟩, ⟨by (with_reducible repeat first | refine qN ?_ _ | refine qD ?_ | refine qA ?_ _); exact B328.out⟩, ⟨by (with_reducible repeat first | refine qN ?_ _ | refine qD ?_ | refine qA ?_ _); exact B345.out⟩, ⟨by (with_reducible repeat first | refine qN ?_ _ | refine qD ?_ | refine qA ?_ _); exact B355.out⟩, ⟨by repeat (first | (with_reducible first | exact HB.out | apply eA | apply eN | apply eD | refine eS ?_ GE328.out | refine eS ?_ GE345.out | refine eS ?_ GE355.out) | exact HB.out)⟩⟩
  ·replace c35 := Bool.eq_false_iff.mpr c35
   subst c35
   have H1 : (hogsheadlaw09_CellActs.j0 k false) = some r := by rw [if_neg (show ¬ (false = true) by decide)] at H; exact H
   clear H
   have H := H1
   clear H1
   have H' := qM H
   clear H
   go_wp2
   go_meet
   case rel => exact ⟨_, (false), (by first | rfl | (simp; done) | (simp [*]; done)), H', ⟨by first | omega | exact Nat.le_refl _⟩, ⟨by (with_reducible repeat first | apply VA | apply VN | apply VD); exact Vm HO338.out (fun _ hk => ⟨hk.1.1, ⟨hk.1.2, hk.2⟩⟩)⟩, ⟨by (with_reducible repeat first | apply VA | apply VN | apply VD); exact Vm HO341.out (fun _ hk => ⟨hk.1.1, ⟨hk.1.2, hk.2⟩⟩)⟩, ⟨by (with_reducible repeat first | apply VA | apply VN | apply VD); exact Vm HO348.out (fun _ hk => ⟨hk.1.1, ⟨hk.1.2, hk.2⟩⟩)⟩, ⟨by (with_reducible repeat first | apply VA | apply VN | apply VD); exact Vm HO351.out (fun _ hk => ⟨hk.1.1, ⟨hk.1.2, hk.2⟩⟩)⟩, ⟨by (with_reducible repeat first | refine qN ?_ _ | refine qD ?_ | refine qA ?_ _); exact B328.out⟩, ⟨by (with_reducible repeat first | refine qN ?_ _ | refine qD ?_ | refine qA ?_ _); exact B345.out⟩, ⟨by (with_reducible repeat first | refine qN ?_ _ | refine qD ?_ | refine qA ?_ _); exact B355.out⟩, ⟨by repeat (first | (with_reducible first | exact HB.out | apply eA | apply eN | apply eD | refine eS ?_ GE328.out | refine eS ?_ GE345.out | refine eS ?_ GE355.out) | exact HB.out)⟩⟩
 case rest =>
  clear HC10
  try clear c1
  try clear c2
  try clear p2
  try clear c3
  try clear c4
  try clear c10
  try clear c15
  try clear c16
  try clear c17
  try clear c18
  try clear c19
  try clear c21
  try clear c29
  try clear c30
  try clear c35
  try clear c36
  try clear c37
  try clear c37b0
  try clear c37b1
  try clear c38
  try clear c38b0
  try clear c38b1
  try clear c39
  try clear c39b0
  try clear c39b1
  try clear z13_0
  try clear z13_1
  try clear z13_2
  try clear z13_3
  try clear z15_0
  try clear z15_1
  try clear z15_2
  try clear z15_3
  try clear z17_0
  try clear z17_1
  try clear z17_2
  try clear z17_3
  try clear z22_0
  try clear z22_1
  try clear z22_2
  try clear z22_3
  try clear z25_0
  try clear z25_1
  try clear z25_2
  try clear z25_3
  try clear z31_0
  try clear z31_1
  try clear z31_2
  try clear z31_3
  try clear z33_0
  try clear z33_1
  try clear z33_2
  try clear z33_3
  try clear f13_0
  try clear f13_1
  try clear f13_2
  try clear f13_3
  try clear f15_0
  try clear f15_1
  try clear f15_2
  try clear f15_3
  try clear f17_0
  try clear f17_1
  try clear f17_2
  try clear f17_3
  try clear f22_0
  try clear f22_1
  try clear f22_2
  try clear f22_3
  try clear f25_0
  try clear f25_1
  try clear f25_2
  try clear f25_3
  try clear f31_0
  try clear f31_1
  try clear f31_2
  try clear f31_3
  try clear f33_0
  try clear f33_1
  try clear f33_2
  try clear f33_3
  obtain ⟨kq, x6_9, rfl, HA, HJ9, HO_346000, HO_346001, HO_356000, HO_356001, B328, B345, B355, HB⟩ := hcut
  cases kq with
  | zero => exact absurd HA.out (by simp [hogsheadlaw09_CellActs.j0])
  | succ kj9 =>
   have H := HA.out
   clear HA
   simp only [hogsheadlaw09_CellActs.j0] at H
   obtain rfl := Option.some.inj H
   go_wp2
   go_ret
   exact ⟨by first | rfl | (simp [errW_none, errW_some] <;> rfl) | (simp [*, errW_none, errW_some] <;> rfl), by repeat (first | (with_reducible first | exact HB.out | apply eA | apply eN | apply eD | refine eS ?_ GE328.out | refine eS ?_ GE345.out | refine eS ?_ GE355.out) | exact HB.out)⟩

end Go.Proofs.Ythnhfmmiaknhgaa.PAll
