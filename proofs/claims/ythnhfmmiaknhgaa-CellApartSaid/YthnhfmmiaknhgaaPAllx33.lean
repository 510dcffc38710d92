/- Functions of the program as plain Lean functions, and that each call comes to what they say. Laid by a program of this session (hprint.py); Lean checks it. -/
import Derived.Test.YthnhfmmiaknhgaaPAllx0
import Derived.Test.YthnhfmmiaknhgaaPAllx11
import Derived.Test.YthnhfmmiaknhgaaPAllx16
import Derived.Test.YthnhfmmiaknhgaaPAllx22
namespace Go.Proofs.Ythnhfmmiaknhgaa.PAll
open Go.RowKit Go.Proofs.YthnhfmmiaknhgaaW.PrintWords Go.Proofs.YthnhfmmiaknhgaaW.PrintLast Go.Proofs.YthnhfmmiaknhgaaW.PrintMore
attribute [local go_sem] max2_int min2_int max_two min_two max_three min_three max_four min_four   -- for this text's walks alone
set_option linter.unusedVariables false
set_option linter.unusedSimpArgs false

/-! ### hogsheadlaw09_CellApart: function 8 -/
mutual
def hogsheadlaw09_CellApart.j0 : Nat → Int → ByteArray → Int → Bool → Bool → List ByteArray → List (S77) → Int → Bool → Option (Bool)
 | 0, _, _, _, _, _, _, _, _, _ => none
 | k + 1, x4, x5, x6, x7, x31, x455000, x455001, x455002, x455003 => if x31 = true then (some x7) else ((hogsheadref08_Get.f k x455000 x455001 x455002 x455003 x6).bind fun bt456 => ((cell_Write.f k x455000 x455001 x455002 x455003 x4 x5).bind fun bt458 => ((hogsheadref08_Get.f k bt458.1 bt458.2.1 bt458.2.2.1 bt458.2.2.2.1 x6).bind fun bt468 => (if x7 = true then (hogsheadlaw09_CellApart.j1 k (bt456.1.toList == bt468.1.toList)) else (hogsheadlaw09_CellApart.j1 k false)))))
def hogsheadlaw09_CellApart.j1 : Nat → Bool → Option (Bool)
 | 0, _ => none
 | k + 1, x2 => some x2
end
def hogsheadlaw09_CellApart.f (k : Nat) (l0_0 : List ByteArray) (l0_1 : List (S77)) (a0_2 : Int) (a0_3 : Bool) (a0_4 : Int) (a0_5 : ByteArray) (a0_6 : Int) : Option (Bool) := (hogsheadlaw09_shown.f k).bind fun t455 => (if a0_6 = a0_4 then (hogsheadlaw09_CellApart.j0 k a0_4 a0_5 a0_6 t455 true l0_0 l0_1 a0_2 a0_3) else (hogsheadlaw09_CellApart.j0 k a0_4 a0_5 a0_6 t455 (a0_6 == (wrap64 (a0_4 + 1))) l0_0 l0_1 a0_2 a0_3))
theorem hogsheadlaw09_CellApart.mono_l : ∀ k, (∀ y0 y1 y2 y3 y4 y5 y6 y7 y8, LeO (hogsheadlaw09_CellApart.j0 k y0 y1 y2 y3 y4 y5 y6 y7 y8) (hogsheadlaw09_CellApart.j0 (k + 1) y0 y1 y2 y3 y4 y5 y6 y7 y8)) ∧ (∀ y0, LeO (hogsheadlaw09_CellApart.j1 k y0) (hogsheadlaw09_CellApart.j1 (k + 1) y0))
 | 0 => ⟨fun _ _ _ _ _ _ _ _ _ r h => by simp [hogsheadlaw09_CellApart.j0] at h, fun _ r h => by simp [hogsheadlaw09_CellApart.j1] at h⟩
 | k + 1 => by
  obtain ⟨ih0, ih1⟩ := hogsheadlaw09_CellApart.mono_l k
  refine ⟨?_, ?_⟩
  ·intro y0 y1 y2 y3 y4 y5 y6 y7 y8
   unfold hogsheadlaw09_CellApart.j0
   repeat' first
   | (with_reducible exact ih0 _ _ _ _ _ _ _ _ _)
   | (with_reducible exact ih1 _)
   | (with_reducible exact cell_Write.mono _ _ _ _ _ _ _)
   | (with_reducible exact hogsheadlaw09_shown.mono _)
   | (with_reducible exact hogsheadref08_Get.mono _ _ _ _ _ _)
   | (with_reducible exact LeO.refl _)
   | (with_reducible exact LeO.none _)
   | (with_reducible refine LeO.ite ?_ ?_)
   | (with_reducible refine LeO.bind ?_ (fun _ => ?_))
   | exact ih0 _ _ _ _ _ _ _ _ _
   | exact ih1 _
   | exact cell_Write.mono _ _ _ _ _ _ _
   | exact hogsheadlaw09_shown.mono _
   | exact hogsheadref08_Get.mono _ _ _ _ _ _
   | exact LeO.none _
   | refine LeO.ite ?_ ?_
   | refine LeO.bind ?_ (fun _ => ?_)
  ·intro y0
   unfold hogsheadlaw09_CellApart.j1
   repeat' first
   | (with_reducible exact ih0 _ _ _ _ _ _ _ _ _)
   | (with_reducible exact ih1 _)
   | (with_reducible exact cell_Write.mono _ _ _ _ _ _ _)
   | (with_reducible exact hogsheadlaw09_shown.mono _)
   | (with_reducible exact hogsheadref08_Get.mono _ _ _ _ _ _)
   | (with_reducible exact LeO.refl _)
   | (with_reducible exact LeO.none _)
   | (with_reducible refine LeO.ite ?_ ?_)
   | (with_reducible refine LeO.bind ?_ (fun _ => ?_))
   | exact ih0 _ _ _ _ _ _ _ _ _
   | exact ih1 _
   | exact cell_Write.mono _ _ _ _ _ _ _
   | exact hogsheadlaw09_shown.mono _
   | exact hogsheadref08_Get.mono _ _ _ _ _ _
   | exact LeO.none _
   | refine LeO.ite ?_ ?_
   | refine LeO.bind ?_ (fun _ => ?_)
theorem hogsheadlaw09_CellApart.mono : ∀ a0 a1 a2 a3 a4 a5 a6 k, LeO (hogsheadlaw09_CellApart.f k a0 a1 a2 a3 a4 a5 a6) (hogsheadlaw09_CellApart.f (k + 1) a0 a1 a2 a3 a4 a5 a6) := by
 intro a0 a1 a2 a3 a4 a5 a6 k
 obtain ⟨ih0, ih1⟩ := hogsheadlaw09_CellApart.mono_l k
 unfold hogsheadlaw09_CellApart.f
 repeat' first
   | (with_reducible exact ih0 _ _ _ _ _ _ _ _ _)
   | (with_reducible exact ih1 _)
   | (with_reducible exact cell_Write.mono _ _ _ _ _ _ _)
   | (with_reducible exact hogsheadlaw09_shown.mono _)
   | (with_reducible exact hogsheadref08_Get.mono _ _ _ _ _ _)
   | (with_reducible exact LeO.refl _)
   | (with_reducible exact LeO.none _)
   | (with_reducible refine LeO.ite ?_ ?_)
   | (with_reducible refine LeO.bind ?_ (fun _ => ?_))
   | exact ih0 _ _ _ _ _ _ _ _ _
   | exact ih1 _
   | exact cell_Write.mono _ _ _ _ _ _ _
   | exact hogsheadlaw09_shown.mono _
   | exact hogsheadref08_Get.mono _ _ _ _ _ _
   | exact LeO.none _
   | refine LeO.ite ?_ ?_
   | refine LeO.bind ?_ (fun _ => ?_)
set_option maxHeartbeats 40000000 in
set_option maxRecDepth 100000 in
theorem hogsheadlaw09_CellApart.calls (k : Nat) (A0_0 : Option Addr) (c0_0 : Nat) (l0_0 : List ByteArray) (A0_1 : Option Addr) (c0_1 : Nat) (l0_1 : List (S77)) (a0_2 : Int) (a0_3 : Bool) (a0_4 : Int) (a0_5 : ByteArray) (a0_6 : Int) (r : Bool) (w : World) (hr0_0 : Kd.C Kd.string w A0_0 l0_0.length l0_0) (hc0_0 : l0_0.length ≤ c0_0) (hr0_1 : Kd.C k77 w A0_1 l0_1.length l0_1) (hc0_1 : l0_1.length ≤ c0_1) (h : hogsheadlaw09_CellApart.f k l0_0 l0_1 a0_2 a0_3 a0_4 a0_5 a0_6 = some r) :
  Calls Try.prog 8 #[.agg #[.slice A0_0 l0_0.length c0_0, .slice A0_1 l0_1.length c0_1, .int .i64 a0_2, .bool a0_3, .int .i64 a0_4, .string a0_5, .int .i64 a0_6]] w fun e w' => e = .returned (.bool r) ∧ Below w.heap.size w w' := by
 have hu55 := Try.underlying55
 have hu37 := Try.underlying37
 have HR0_0 := qM hr0_0
 have HC0_0 := qM hc0_0
 clear hr0_0 hc0_0
 have HR0_1 := qM hr0_1
 have HC0_1 := qM hc0_1
 clear hr0_1 hc0_1
 have HB := qM (Below.refl w.heap.size w)
 have H : ((hogsheadlaw09_shown.f k).bind fun t455 => (if a0_6 = a0_4 then (hogsheadlaw09_CellApart.j0 k a0_4 a0_5 a0_6 t455 true l0_0 l0_1 a0_2 a0_3) else (hogsheadlaw09_CellApart.j0 k a0_4 a0_5 a0_6 t455 (a0_6 == (wrap64 (a0_4 + 1))) l0_0 l0_1 a0_2 a0_3))) = some r := h
 clear h
 replace H := Option.bind_eq_some_iff.mp H
 obtain ⟨t455, A20, H⟩ := H
 replace H : (if a0_6 = a0_4 then (hogsheadlaw09_CellApart.j0 k a0_4 a0_5 a0_6 t455 true l0_0 l0_1 a0_2 a0_3) else (hogsheadlaw09_CellApart.j0 k a0_4 a0_5 a0_6 t455 (a0_6 == (wrap64 (a0_4 + 1))) l0_0 l0_1 a0_2 a0_3)) = some r := H
 have A2 := qM A20
 clear A20
 have HC3 := qM H
 clear H
 go_enter Try.func8, Try.ntmps8
 go_upto_region 6 with (first | ((with_reducible refine gate_dst (N := 1) rfl ?_); refine box_event ?hg (N := 1) ?hd (cs := #[.slice A0_0 l0_0.length c0_0, .slice A0_1 l0_1.length c0_1, .int .i64 a0_2, .bool a0_3, .int .i64 a0_4, .string a0_5, .int .i64 a0_6]) (t := 55) ?hr ?_; (case hd => rfl); (case hg => rfl); (case hr => first | (go_simp; done) | (go_simp; rfl)); intro g453 hg w4 hbox hb; have n0_ := qM (eT (by repeat (first | (with_reducible first | exact HB.out | apply eA | apply eN | apply eD) | exact HB.out)) hb); have n1_ := qM (hbox); have n2_ := qM ((by rw [hg]; exact (eZ (by repeat (first | (with_reducible first | exact HB.out | apply eA | apply eN | apply eD) | exact HB.out))) : w.heap.size ≤ g453)); have n3_ := n2_; clear HB; have HB := n0_; have B453 := n1_; have GW453 := n2_; have GE453 := n3_; clear n0_ n1_ n2_ n3_; clear hb hbox hg; obtain ⟨z5_0, z5_1, z5_2, z5_3, z5_4, z5_5, z5_6, f5_0, f5_1, f5_2, f5_3, f5_4, f5_5, f5_6⟩ := cells7 B453.out) | ((with_reducible refine gate_dst (N := 3) rfl ?_); refine box_event ?hg (N := 3) ?hd (cs := #[.slice none 0 0, .slice none 0 0, .int .i64 0, .bool false]) (t := 37) ?hr ?_; (case hd => rfl); (case hg => rfl); (case hr => first | (go_simp; done) | (go_simp; rfl)); intro g454 hg w6 hbox hb; have n0_ := qM (qB (g := g453) (by (with_reducible repeat first | refine qN ?_ _ | refine qD ?_ | refine qA ?_ _); exact B453.out) hb); have n1_ := qM (eT (by repeat (first | (with_reducible first | exact HB.out | apply eA | apply eN | apply eD | refine eS ?_ GE453.out) | exact HB.out)) hb); have n2_ := qM (hbox); have n3_ := qM ((by rw [hg]; exact (eZ (by repeat (first | (with_reducible first | exact HB.out | apply eA | apply eN | apply eD | refine eS ?_ GE453.out) | exact HB.out))) : w.heap.size ≤ g454)); have n4_ := n3_; have n5_ := qM ((by rw [hg]; exact Nat.ne_of_lt (qL (g := g453) (by (with_reducible repeat first | refine qN ?_ _ | refine qD ?_ | refine qA ?_ _); exact B453.out)) : g453 ≠ g454)); have n6_ := qM (Ne.symm n5_.out); clear B453; clear HB; have B453 := n0_; have HB := n1_; have B454 := n2_; have GW454 := n3_; have GE454 := n4_; have NB453_454 := n5_; have NB454_453 := n6_; clear n0_ n1_ n2_ n3_ n4_ n5_ n6_; clear hb hbox hg; have hnb7 := NB454_453.out; have hnc7 := NB453_454.out; obtain ⟨z8_0, z8_1, z8_2, z8_3, f8_0, f8_1, f8_2, f8_3⟩ := cells4 B454.out; obtain ⟨z9_0, z9_1, z9_2, z9_3, z9_4, z9_5, z9_6, f9_0, f9_1, f9_2, f9_3, f9_4, f9_5, f9_6⟩ := cells7 B453.out) | ((with_reducible refine gate_callee (f := 10) rfl ?_); refine goesL_ (some 22) rfl rfl Try.func10 (by kernel_rfl) rfl #[] rfl (by (try simp only [List.map_toArray, List.map_cons, List.map_nil]); first | done | rfl | (simp only [List.length_drop, List.length_take]; rfl)) ?_; (with_reducible refine (hogsheadlaw09_shown.calls k  t455 _ A2.out).mono ?_); rintro e w10 ⟨rfl, hb⟩; refine ⟨_, rfl, ?_⟩; have n0_ := qM (qB (g := g453) (o := .cells #[.slice A0_0 l0_0.length c0_0, .slice A0_1 l0_1.length c0_1, .int .i64 a0_2, .bool a0_3, .int .i64 a0_4, .string a0_5, .int .i64 a0_6] 55 (0, 0)) (by (with_reducible repeat first | refine qN ?_ _ | refine qD ?_ | refine qA ?_ _); (iterate 4 (refine qR ?_ NB453_454.out _; (with_reducible repeat first | refine qN ?_ _ | refine qD ?_ | refine qA ?_ _))); exact B453.out) hb); have n1_ := qM (qB (g := g454) (by (with_reducible repeat first | refine qN ?_ _ | refine qD ?_ | refine qA ?_ _); apply puts4; (with_reducible repeat first | refine qN ?_ _ | refine qD ?_ | refine qA ?_ _); exact B454.out) hb); have n2_ := qM (eT (by repeat (first | (with_reducible first | exact HB.out | apply eA | apply eN | apply eD | refine eS ?_ GE453.out | refine eS ?_ GE454.out) | exact HB.out)) hb); clear B453; clear B454; clear HB; have B453 := n0_; have B454 := n1_; have HB := n2_; clear n0_ n1_ n2_; (try clear hb); (try clear hb2); (try clear hk); (try clear hi)))
 (try simp only [Act.put, List.setIfInBounds_toArray, List.set_cons_zero, List.set_cons_succ])
 go_cut [31] (fun v31 wc => ∃ (kq : Nat) (x31_2 : Bool), v31 = .bool x31_2 ∧ Aside0 (hogsheadlaw09_CellApart.j0 kq a0_4 a0_5 a0_6 t455 x31_2 l0_0 l0_1 a0_2 a0_3 = some r) ∧ Aside0 (kq ≤ k) ∧ Aside0 (wc.heap[g453]? = some (.cells #[(.slice A0_0 l0_0.length c0_0), (.slice A0_1 l0_1.length c0_1), .int .i64 a0_2, .bool a0_3, .int .i64 a0_4, .string a0_5, .int .i64 a0_6] 55 (0, 0))) ∧ Aside0 (wc.heap[g454]? = some (.cells #[(.slice A0_0 l0_0.length c0_0), (.slice A0_1 l0_1.length c0_1), .int .i64 a0_2, .bool a0_3] 37 (0, 0))) ∧ Aside0 (Below w.heap.size w wc))
 case first =>
  have H := HC3.out
  clear HC3
  by_cases c11 : a0_6 = a0_4
  ·rw [if_pos c11] at H
   have c11b0 : (a0_6 == a0_4) = true := beq_iff_eq.mpr c11
   have c11b1 : (a0_6 != a0_4) = false := bne_eq_false_iff_eq.mpr c11
   clear c11
   (first | rw [c11b0] | (simp only [i64_w, i32_w]; rw [c11b0]) | skip)
   have H' := qM H
   clear H
   go_wp2
   go_meet
   case rel => exact ⟨_, (true), (by first | rfl | (simp; done) | (simp [*]; done)), H', ⟨by first | omega | exact Nat.le_refl _⟩, ⟨by (with_reducible repeat first | refine qN ?_ _ | refine qD ?_ | refine qA ?_ _); exact B453.out⟩, ⟨by (with_reducible repeat first | refine qN ?_ _ | refine qD ?_ | refine qA ?_ _); exact B454.out⟩, ⟨by repeat (first | (with_reducible first | exact HB.out | apply eA | apply eN | apply eD | refine eS ?_ GE453.out | refine eS ?_ GE454.out) | exact HB.out)⟩⟩
  ·rw [if_neg c11] at H
   have c11b0 : (a0_6 == a0_4) = false := beq_eq_false_iff_ne.mpr c11
   have c11b1 : (a0_6 != a0_4) = true := bne_iff_ne.mpr c11
   (first | rw [c11b0] | (simp only [i64_w, i32_w]; rw [c11b0]) | skip)
   have H' := qM H
   clear H
   go_wp2
   go_meet
   case rel => exact ⟨_, ((a0_6 == (wrap64 (a0_4 + 1)))), (by first | rfl | (simp; done) | (simp [*]; done)), H', ⟨by first | omega | exact Nat.le_refl _⟩, ⟨by (with_reducible repeat first | refine qN ?_ _ | refine qD ?_ | refine qA ?_ _); exact B453.out⟩, ⟨by (with_reducible repeat first | refine qN ?_ _ | refine qD ?_ | refine qA ?_ _); exact B454.out⟩, ⟨by repeat (first | (with_reducible first | exact HB.out | apply eA | apply eN | apply eD | refine eS ?_ GE453.out | refine eS ?_ GE454.out) | exact HB.out)⟩⟩
 case rest =>
  clear HC3
  try clear c1
  try clear p2
  try clear p6
  try clear c7
  try clear c8
  try clear c10
  try clear c11
  try clear c11b0
  try clear c11b1
  try clear z5_0
  try clear z5_1
  try clear z5_2
  try clear z5_3
  try clear z5_4
  try clear z5_5
  try clear z5_6
  try clear z8_0
  try clear z8_1
  try clear z8_2
  try clear z8_3
  try clear z9_0
  try clear z9_1
  try clear z9_2
  try clear z9_3
  try clear z9_4
  try clear z9_5
  try clear z9_6
  try clear f5_0
  try clear f5_1
  try clear f5_2
  try clear f5_3
  try clear f5_4
  try clear f5_5
  try clear f5_6
  try clear f8_0
  try clear f8_1
  try clear f8_2
  try clear f8_3
  try clear f9_0
  try clear f9_1
  try clear f9_2
  try clear f9_3
  try clear f9_4
  try clear f9_5
  try clear f9_6
  obtain ⟨kq, x31_2, rfl, HA, HJ2, B453, B454, HB⟩ := hcut
  cases kq with
  | zero => exact absurd HA.out (by simp [hogsheadlaw09_CellApart.j0])
  | succ kj2 =>
   have H := HA.out
   clear HA
   simp only [hogsheadlaw09_CellApart.j0] at H
   by_cases c12 : x31_2 = true
   ·subst c12
    have H1 : (some t455) = some r := by rw [if_pos rfl] at H; exact H
    clear H
    have H := H1
    clear H1
    obtain rfl := Option.some.inj H
    go_wp2
    go_ret
    exact ⟨by first | rfl | (simp [errW_none, errW_some] <;> rfl) | (simp [*, errW_none, errW_some] <;> rfl), by repeat (first | (with_reducible first | exact HB.out | apply eA | apply eN | apply eD | refine eS ?_ GE453.out | refine eS ?_ GE454.out) | exact HB.out)⟩
   ·replace c12 := Bool.eq_false_iff.mpr c12
    subst c12
    have H1 : ((hogsheadref08_Get.f kj2 l0_0 l0_1 a0_2 a0_3 a0_6).bind fun bt456 => ((cell_Write.f kj2 l0_0 l0_1 a0_2 a0_3 a0_4 a0_5).bind fun bt458 => ((hogsheadref08_Get.f kj2 bt458.1 bt458.2.1 bt458.2.2.1 bt458.2.2.2.1 a0_6).bind fun bt468 => (if t455 = true then (hogsheadlaw09_CellApart.j1 kj2 (bt456.1.toList == bt468.1.toList)) else (hogsheadlaw09_CellApart.j1 kj2 false))))) = some r := by rw [if_neg (show ¬ (false = true) by decide)] at H; exact H
    clear H
    have H := H1
    clear H1
    replace H := Option.bind_eq_some_iff.mp H
    obtain ⟨⟨t456, t457⟩, A130, H⟩ := H
    replace H : ((cell_Write.f kj2 l0_0 l0_1 a0_2 a0_3 a0_4 a0_5).bind fun bt458 => ((hogsheadref08_Get.f kj2 bt458.1 bt458.2.1 bt458.2.2.1 bt458.2.2.2.1 a0_6).bind fun bt468 => (if t455 = true then (hogsheadlaw09_CellApart.j1 kj2 (t456.toList == bt468.1.toList)) else (hogsheadlaw09_CellApart.j1 kj2 false)))) = some r := H
    have A13 := qM A130
    clear A130
    replace H := Option.bind_eq_some_iff.mp H
    obtain ⟨⟨t458, t461, t464, t465, t466⟩, A140, H⟩ := H
    replace H : ((hogsheadref08_Get.f kj2 t458 t461 t464 t465 a0_6).bind fun bt468 => (if t455 = true then (hogsheadlaw09_CellApart.j1 kj2 (t456.toList == bt468.1.toList)) else (hogsheadlaw09_CellApart.j1 kj2 false))) = some r := H
    have A14 := qM A140
    clear A140
    replace H := Option.bind_eq_some_iff.mp H
    obtain ⟨⟨t468, t469⟩, A150, H⟩ := H
    replace H : (if t455 = true then (hogsheadlaw09_CellApart.j1 kj2 (t456.toList == t468.toList)) else (hogsheadlaw09_CellApart.j1 kj2 false)) = some r := H
    have A15 := qM A150
    clear A150
    have HC16 := qM H
    clear H
    have hnb17 := NB454_453.out
    have hnc17 := NB453_454.out
    obtain ⟨z18_0, z18_1, z18_2, z18_3, f18_0, f18_1, f18_2, f18_3⟩ := cells4 B454.out
    go_upto_region 11 with (first | ((with_reducible refine gate_callee (f := 22) rfl ?_); refine goesL_ (some 36) rfl rfl Try.func22 (by kernel_rfl) rfl #[.agg #[.slice A0_0 l0_0.length c0_0, .slice A0_1 l0_1.length c0_1, .int .i64 a0_2, .bool a0_3], .int .i64 a0_6] rfl (by (try simp only [List.map_toArray, List.map_cons, List.map_nil]); first | done | rfl | (simp only [List.length_drop, List.length_take]; rfl)) ?_; (with_reducible refine (hogsheadref08_Get.calls kj2 _ _ l0_0 _ _ l0_1 a0_2 a0_3 a0_6 t456 t457 _ ?side1 ?side2 ?side3 ?side4 A13.out).mono ?_); (case side1 => repeat (first | exact (Kd.C_below HR0_0.out HB.out) | (with_reducible refine Kd.C_alloc ?_ _) | (with_reducible refine Kd.C_drewN ?_ _) | (with_reducible refine Kd.C_drew ?_))); (case side2 => exact HC0_0.out); (case side3 => repeat (first | exact (Kd.C_below HR0_1.out HB.out) | (with_reducible refine Kd.C_alloc ?_ _) | (with_reducible refine Kd.C_drewN ?_ _) | (with_reducible refine Kd.C_drew ?_))); (case side4 => exact HC0_1.out); rintro e w19 ⟨rfl, hb⟩; refine ⟨_, rfl, ?_⟩; have n0_ := qM (qB (g := g453) (by (with_reducible repeat first | refine qN ?_ _ | refine qD ?_ | refine qA ?_ _); exact B453.out) hb); have n1_ := qM (qB (g := g454) (by (with_reducible repeat first | refine qN ?_ _ | refine qD ?_ | refine qA ?_ _); exact B454.out) hb); have n2_ := qM (eT (by repeat (first | (with_reducible first | exact HB.out | apply eA | apply eN | apply eD | refine eS ?_ GE453.out | refine eS ?_ GE454.out) | exact HB.out)) hb); clear B453; clear B454; clear HB; have B453 := n0_; have B454 := n1_; have HB := n2_; clear n0_ n1_ n2_; (try clear hb); (try clear hb2); (try clear hk); (try clear hi); obtain ⟨z20_0, z20_1, z20_2, z20_3, f20_0, f20_1, f20_2, f20_3⟩ := cells4 B454.out) | ((with_reducible refine gate_callee (f := 17) rfl ?_); refine goesL_ (some 43) rfl rfl Try.func17 (by kernel_rfl) rfl #[.agg #[.slice A0_0 l0_0.length c0_0, .slice A0_1 l0_1.length c0_1, .int .i64 a0_2, .bool a0_3], .int .i64 a0_4, .string a0_5] rfl (by (try simp only [List.map_toArray, List.map_cons, List.map_nil]); first | done | rfl | (simp only [List.length_drop, List.length_take]; rfl)) ?_; (with_reducible refine (cell_Write.calls kj2 (fun k_ => k_ < w.heap.size) _ _ l0_0 (fun k_ => k_ < w.heap.size) _ _ l0_1 a0_2 a0_3 a0_4 a0_5 t458 t461 t464 t465 t466 _ ?side1 ?side2 A14.out).mono ?_); (case side1 => exact Kd.V_mk HC0_0.out (Kd.F_below (Kd.C_F Kd.heap_string HR0_0.out) (by repeat (first | (with_reducible first | exact HB.out | apply eA | apply eN | apply eD | refine eS ?_ GE453.out | refine eS ?_ GE454.out) | exact HB.out)))); (case side2 => exact Kd.V_mk HC0_1.out (Kd.F_below (Kd.C_F k77_heap HR0_1.out) (by repeat (first | (with_reducible first | exact HB.out | apply eA | apply eN | apply eD | refine eS ?_ GE453.out | refine eS ?_ GE454.out) | exact HB.out)))); rintro e w21 ⟨v459, v462, rfl, ho0, ho1, hb⟩; refine ⟨_, rfl, ?_⟩; have n0_ := qM (Vl (Vm (ok' := fun k_ => k_ ≠ g453 ∧ k_ ≠ g454) ho0 (fun k_ hk_ => ⟨Or.elim hk_ (fun hs_ => Or.elim hs_ (fun hs_ => fun e_ => Nat.not_le.2 hs_ (by rw [e_]; exact GW453.out)) (fun hs_ => fun e_ => Nat.not_le.2 hs_ (by rw [e_]; exact GW453.out))) (fun hn_ => (Fb (g := g453) (by (with_reducible repeat first | refine qN ?_ _ | refine qD ?_ | refine qA ?_ _); exact B453.out) k_ hn_)), Or.elim hk_ (fun hs_ => Or.elim hs_ (fun hs_ => fun e_ => Nat.not_le.2 hs_ (by rw [e_]; exact GW454.out)) (fun hs_ => fun e_ => Nat.not_le.2 hs_ (by rw [e_]; exact GW454.out))) (fun hn_ => (Fb (g := g454) (by (with_reducible repeat first | refine qN ?_ _ | refine qD ?_ | refine qA ?_ _); exact B454.out) k_ hn_))⟩)) (eZ (by repeat (first | (with_reducible first | exact HB.out | apply eA | apply eN | apply eD | refine eS ?_ GE453.out | refine eS ?_ GE454.out) | exact HB.out)))); have n1_ := qM (Vl (Vm (ok' := fun k_ => k_ ≠ g453 ∧ k_ ≠ g454) ho1 (fun k_ hk_ => ⟨Or.elim hk_ (fun hs_ => Or.elim hs_ (fun hs_ => fun e_ => Nat.not_le.2 hs_ (by rw [e_]; exact GW453.out)) (fun hs_ => fun e_ => Nat.not_le.2 hs_ (by rw [e_]; exact GW453.out))) (fun hn_ => (Fb (g := g453) (by (with_reducible repeat first | refine qN ?_ _ | refine qD ?_ | refine qA ?_ _); exact B453.out) k_ hn_)), Or.elim hk_ (fun hs_ => Or.elim hs_ (fun hs_ => fun e_ => Nat.not_le.2 hs_ (by rw [e_]; exact GW454.out)) (fun hs_ => fun e_ => Nat.not_le.2 hs_ (by rw [e_]; exact GW454.out))) (fun hn_ => (Fb (g := g454) (by (with_reducible repeat first | refine qN ?_ _ | refine qD ?_ | refine qA ?_ _); exact B454.out) k_ hn_))⟩)) (eZ (by repeat (first | (with_reducible first | exact HB.out | apply eA | apply eN | apply eD | refine eS ?_ GE453.out | refine eS ?_ GE454.out) | exact HB.out)))); have n2_ := qM (qB (g := g453) (by (with_reducible repeat first | refine qN ?_ _ | refine qD ?_ | refine qA ?_ _); exact B453.out) hb); have n3_ := qM (qB (g := g454) (by (with_reducible repeat first | refine qN ?_ _ | refine qD ?_ | refine qA ?_ _); exact B454.out) hb); have n4_ := qM (eT (by repeat (first | (with_reducible first | exact HB.out | apply eA | apply eN | apply eD | refine eS ?_ GE453.out | refine eS ?_ GE454.out) | exact HB.out)) hb); clear B453; clear B454; clear HB; have HO460 := n0_; have HO463 := n1_; have B453 := n2_; have B454 := n3_; have HB := n4_; clear n0_ n1_ n2_ n3_ n4_; (try clear hb); (try clear hb2); (try clear hk); (try clear hi); (try clear ho0); (try clear ho1)) | ((with_reducible refine gate_dst (N := 10) rfl ?_); refine box_event ?hg (N := 10) ?hd (cs := #[.slice none 0 0, .slice none 0 0, .int .i64 0, .bool false]) (t := 37) ?hr ?_; (case hd => rfl); (case hg => rfl); (case hr => first | (go_simp; done) | (go_simp; rfl)); intro g467 hg w22 hbox hb; have n0_ := qM (Vb (Kd.V_elderB (by (with_reducible repeat first | apply VA | apply VN | apply VD); exact HO460.out) g467 (Nat.le_of_eq hg.symm)) hb); have n1_ := qM (Vb (Kd.V_elderB (by (with_reducible repeat first | apply VA | apply VN | apply VD); exact HO463.out) g467 (Nat.le_of_eq hg.symm)) hb); have n2_ := qM (qB (g := g453) (by (with_reducible repeat first | refine qN ?_ _ | refine qD ?_ | refine qA ?_ _); exact B453.out) hb); have n3_ := qM (qB (g := g454) (by (with_reducible repeat first | refine qN ?_ _ | refine qD ?_ | refine qA ?_ _); exact B454.out) hb); have n4_ := qM (eT (by repeat (first | (with_reducible first | exact HB.out | apply eA | apply eN | apply eD | refine eS ?_ GE453.out | refine eS ?_ GE454.out) | exact HB.out)) hb); have n5_ := qM (hbox); have n6_ := qM ((by rw [hg]; exact (eZ (by repeat (first | (with_reducible first | exact HB.out | apply eA | apply eN | apply eD | refine eS ?_ GE453.out | refine eS ?_ GE454.out) | exact HB.out))) : w.heap.size ≤ g467)); have n7_ := n6_; have n8_ := qM ((by rw [hg]; exact Nat.ne_of_lt (qL (g := g453) (by (with_reducible repeat first | refine qN ?_ _ | refine qD ?_ | refine qA ?_ _); exact B453.out)) : g453 ≠ g467)); have n9_ := qM (Ne.symm n8_.out); have n10_ := qM ((by rw [hg]; exact Nat.ne_of_lt (qL (g := g454) (by (with_reducible repeat first | refine qN ?_ _ | refine qD ?_ | refine qA ?_ _); exact B454.out)) : g454 ≠ g467)); have n11_ := qM (Ne.symm n10_.out); clear HO460; clear HO463; clear B453; clear B454; clear HB; have HO460 := n0_; have HO463 := n1_; have B453 := n2_; have B454 := n3_; have HB := n4_; have B467 := n5_; have GW467 := n6_; have GE467 := n7_; have NB453_467 := n8_; have NB467_453 := n9_; have NB454_467 := n10_; have NB467_454 := n11_; clear n0_ n1_ n2_ n3_ n4_ n5_ n6_ n7_ n8_ n9_ n10_ n11_; clear hb hbox hg; obtain ⟨Ao23, co23, eo23⟩ := Kd.V_slice HO460.out; subst eo23; have hnb24 := NB467_453.out; have hnc24 := NB453_467.out; have hnb25 := NB467_454.out; have hnc25 := NB454_467.out; obtain ⟨z26_0, z26_1, z26_2, z26_3, f26_0, f26_1, f26_2, f26_3⟩ := cells4 B467.out; obtain ⟨Ao27, co27, eo27⟩ := Kd.V_slice HO463.out; subst eo27) | ((with_reducible refine gate_callee (f := 22) rfl ?_); refine goesL_ (some 49) rfl rfl Try.func22 (by kernel_rfl) rfl #[.agg #[.slice Ao23 t458.length co23, .slice Ao27 t461.length co27, .int .i64 t464, .bool t465], .int .i64 a0_6] rfl (by (try simp only [List.map_toArray, List.map_cons, List.map_nil]); first | done | rfl | (simp only [List.length_drop, List.length_take]; rfl)) ?_; (with_reducible refine (hogsheadref08_Get.calls kj2 _ _ t458 _ _ t461 t464 t465 a0_6 t468 t469 _ ?side1 ?side2 ?side3 ?side4 A15.out).mono ?_); (case side1 => refine (Kd.V_reads' (e := 9) (base := w.heap.size) (ok := fun k_ => ((k_ ≠ g453 ∧ k_ ≠ g454) ∧ k_ ≠ g467)) (n := t458.length) (c := co23) ?_).2.2; exact (by (with_reducible repeat first | apply VA | apply VN | apply VD); exact (Vm (Vf (p := ⟨g467, 3, none⟩) (Vf (p := ⟨g467, 2, none⟩) (Vf (p := ⟨g467, 1, none⟩) (Vf (p := ⟨g467, 0, none⟩) (Vm HO460.out (fun k_ hk => (⟨hk, hk.2⟩ : _ ∧ k_ ≠ g467))) (fun _ hk => hk.2) (.slice Ao23 t458.length co23)) (fun _ hk => hk.2) (.slice Ao27 t461.length co27)) (fun _ hk => hk.2) (.int .i64 t464)) (fun _ hk => hk.2) (.bool t465)) (fun _ h_ => h_.1)))); (case side2 => exact (Kd.V_reads' HO460.out).2.1); (case side3 => refine (Kd.V_reads' (e := 77) (base := w.heap.size) (ok := fun k_ => ((k_ ≠ g453 ∧ k_ ≠ g454) ∧ k_ ≠ g467)) (n := t461.length) (c := co27) ?_).2.2; exact (by (with_reducible repeat first | apply VA | apply VN | apply VD); exact (Vm (Vf (p := ⟨g467, 3, none⟩) (Vf (p := ⟨g467, 2, none⟩) (Vf (p := ⟨g467, 1, none⟩) (Vf (p := ⟨g467, 0, none⟩) (Vm HO463.out (fun k_ hk => (⟨hk, hk.2⟩ : _ ∧ k_ ≠ g467))) (fun _ hk => hk.2) (.slice Ao23 t458.length co23)) (fun _ hk => hk.2) (.slice Ao27 t461.length co27)) (fun _ hk => hk.2) (.int .i64 t464)) (fun _ hk => hk.2) (.bool t465)) (fun _ h_ => h_.1)))); (case side4 => exact (Kd.V_reads' HO463.out).2.1); rintro e w28 ⟨rfl, hb⟩; refine ⟨_, rfl, ?_⟩; have n0_ := qM (Vb (by (with_reducible repeat first | apply VA | apply VN | apply VD); exact (Vm (Vf (p := ⟨g467, 3, none⟩) (Vf (p := ⟨g467, 2, none⟩) (Vf (p := ⟨g467, 1, none⟩) (Vf (p := ⟨g467, 0, none⟩) (Vm HO460.out (fun k_ hk => (⟨hk, hk.2⟩ : _ ∧ k_ ≠ g467))) (fun _ hk => hk.2) (.slice Ao23 t458.length co23)) (fun _ hk => hk.2) (.slice Ao27 t461.length co27)) (fun _ hk => hk.2) (.int .i64 t464)) (fun _ hk => hk.2) (.bool t465)) (fun _ h_ => h_.1))) hb); have n1_ := qM (Vb (by (with_reducible repeat first | apply VA | apply VN | apply VD); exact (Vm (Vf (p := ⟨g467, 3, none⟩) (Vf (p := ⟨g467, 2, none⟩) (Vf (p := ⟨g467, 1, none⟩) (Vf (p := ⟨g467, 0, none⟩) (Vm HO463.out (fun k_ hk => (⟨hk, hk.2⟩ : _ ∧ k_ ≠ g467))) (fun _ hk => hk.2) (.slice Ao23 t458.length co23)) (fun _ hk => hk.2) (.slice Ao27 t461.length co27)) (fun _ hk => hk.2) (.int .i64 t464)) (fun _ hk => hk.2) (.bool t465)) (fun _ h_ => h_.1))) hb); have n2_ := qM (qB (g := g453) (o := .cells #[.slice A0_0 l0_0.length c0_0, .slice A0_1 l0_1.length c0_1, .int .i64 a0_2, .bool a0_3, .int .i64 a0_4, .string a0_5, .int .i64 a0_6] 55 (0, 0)) (by (with_reducible repeat first | refine qN ?_ _ | refine qD ?_ | refine qA ?_ _); (iterate 4 (refine qR ?_ NB453_467.out _; (with_reducible repeat first | refine qN ?_ _ | refine qD ?_ | refine qA ?_ _))); exact B453.out) hb); have n3_ := qM (qB (g := g454) (o := .cells #[.slice A0_0 l0_0.length c0_0, .slice A0_1 l0_1.length c0_1, .int .i64 a0_2, .bool a0_3] 37 (0, 0)) (by (with_reducible repeat first | refine qN ?_ _ | refine qD ?_ | refine qA ?_ _); (iterate 4 (refine qR ?_ NB454_467.out _; (with_reducible repeat first | refine qN ?_ _ | refine qD ?_ | refine qA ?_ _))); exact B454.out) hb); have n4_ := qM (qB (g := g467) (by (with_reducible repeat first | refine qN ?_ _ | refine qD ?_ | refine qA ?_ _); apply puts4; (with_reducible repeat first | refine qN ?_ _ | refine qD ?_ | refine qA ?_ _); exact B467.out) hb); have n5_ := qM (eT (by repeat (first | (with_reducible first | exact HB.out | apply eA | apply eN | apply eD | refine eS ?_ GE453.out | refine eS ?_ GE454.out | refine eS ?_ GE467.out) | exact HB.out)) hb); clear HO460; clear HO463; clear B453; clear B454; clear B467; clear HB; have HO460 := n0_; have HO463 := n1_; have B453 := n2_; have B454 := n3_; have B467 := n4_; have HB := n5_; clear n0_ n1_ n2_ n3_ n4_ n5_; (try clear hb); (try clear hb2); (try clear hk); (try clear hi)))
    (try simp only [Act.put, List.setIfInBounds_toArray, List.set_cons_zero, List.set_cons_succ])
    go_cut [2] (fun v2 wc => ∃ (kq : Nat) (x2_15 : Bool), v2 = .bool x2_15 ∧ Aside0 (hogsheadlaw09_CellApart.j1 kq x2_15 = some r) ∧ Aside0 (kq ≤ kj2) ∧ Aside0 (Kd.V Kd.string 9 wc w.heap.size (fun k_ => k_ ≠ g453 ∧ k_ ≠ g454 ∧ k_ ≠ g467) (.slice Ao23 t458.length co23) t458) ∧ Aside0 (Kd.V k77 77 wc w.heap.size (fun k_ => k_ ≠ g453 ∧ k_ ≠ g454 ∧ k_ ≠ g467) (.slice Ao27 t461.length co27) t461) ∧ Aside0 (wc.heap[g453]? = some (.cells #[(.slice A0_0 l0_0.length c0_0), (.slice A0_1 l0_1.length c0_1), .int .i64 a0_2, .bool a0_3, .int .i64 a0_4, .string a0_5, .int .i64 a0_6] 55 (0, 0))) ∧ Aside0 (wc.heap[g454]? = some (.cells #[(.slice A0_0 l0_0.length c0_0), (.slice A0_1 l0_1.length c0_1), .int .i64 a0_2, .bool a0_3] 37 (0, 0))) ∧ Aside0 (wc.heap[g467]? = some (.cells #[(.slice Ao23 t458.length co23), (.slice Ao27 t461.length co27), .int .i64 t464, .bool t465] 37 (0, 0))) ∧ Aside0 (Below w.heap.size w wc))
    case first =>
     have H := HC16.out
     clear HC16
     by_cases c29 : t455 = true
     ·subst c29
      have H1 : (hogsheadlaw09_CellApart.j1 kj2 (t456.toList == t468.toList)) = some r := by rw [if_pos rfl] at H; exact H
      clear H
      have H := H1
      clear H1
      have H' := qM H
      clear H
      go_wp2
      go_meet
      case rel => exact ⟨_, ((t456.toList == t468.toList)), (by first | rfl | (simp; done) | (simp [*]; done)), H', ⟨by have := HJ2.out; first | omega | exact Nat.le_refl _⟩, ⟨by (with_reducible repeat first | apply VA | apply VN | apply VD); exact Vm HO460.out (fun _ hk => ⟨hk.1.1, ⟨hk.1.2, hk.2⟩⟩)⟩, ⟨by (with_reducible repeat first | apply VA | apply VN | apply VD); exact Vm HO463.out (fun _ hk => ⟨hk.1.1, ⟨hk.1.2, hk.2⟩⟩)⟩, ⟨by (with_reducible repeat first | refine qN ?_ _ | refine qD ?_ | refine qA ?_ _); exact B453.out⟩, ⟨by (with_reducible repeat first | refine qN ?_ _ | refine qD ?_ | refine qA ?_ _); exact B454.out⟩, ⟨by (with_reducible repeat first | refine qN ?_ _ | refine qD ?_ | refine qA ?_ _); exact B467.out⟩, ⟨by repeat (first | (with_reducible first | exact HB.out | apply eA | apply eN | apply eD | refine eS ?_ GE453.out | refine eS ?_ GE454.out | refine eS ?_ GE467.out) | exact HB.out)⟩⟩
     ·replace c29 := Bool.eq_false_iff.mpr c29
      subst c29
      have H1 : (hogsheadlaw09_CellApart.j1 kj2 false) = some r := by rw [if_neg (show ¬ (false = true) by decide)] at H; exact H
      clear H
      have H := H1
      clear H1
      have H' := qM H
      clear H
      go_wp2
      go_meet
      case rel => exact ⟨_, (false), (by first | rfl | (simp; done) | (simp [*]; done)), H', ⟨by have := HJ2.out; first | omega | exact Nat.le_refl _⟩, ⟨by (with_reducible repeat first | apply VA | apply VN | apply VD); exact Vm HO460.out (fun _ hk => ⟨hk.1.1, ⟨hk.1.2, hk.2⟩⟩)⟩, ⟨by (with_reducible repeat first | apply VA | apply VN | apply VD); exact Vm HO463.out (fun _ hk => ⟨hk.1.1, ⟨hk.1.2, hk.2⟩⟩)⟩, ⟨by (with_reducible repeat first | refine qN ?_ _ | refine qD ?_ | refine qA ?_ _); exact B453.out⟩, ⟨by (with_reducible repeat first | refine qN ?_ _ | refine qD ?_ | refine qA ?_ _); exact B454.out⟩, ⟨by (with_reducible repeat first | refine qN ?_ _ | refine qD ?_ | refine qA ?_ _); exact B467.out⟩, ⟨by repeat (first | (with_reducible first | exact HB.out | apply eA | apply eN | apply eD | refine eS ?_ GE453.out | refine eS ?_ GE454.out | refine eS ?_ GE467.out) | exact HB.out)⟩⟩
    case rest =>
     clear HC16
     try clear c1
     try clear c2
     try clear p2
     try clear p6
     try clear c7
     try clear c8
     try clear c10
     try clear c11
     try clear c11b0
     try clear c11b1
     try clear c12
     try clear c17
     try clear c22
     try clear c24
     try clear c25
     try clear c29
     try clear z18_0
     try clear z18_1
     try clear z18_2
     try clear z18_3
     try clear z20_0
     try clear z20_1
     try clear z20_2
     try clear z20_3
     try clear z26_0
     try clear z26_1
     try clear z26_2
     try clear z26_3
     try clear z5_0
     try clear z5_1
     try clear z5_2
     try clear z5_3
     try clear z5_4
     try clear z5_5
     try clear z5_6
     try clear z8_0
     try clear z8_1
     try clear z8_2
     try clear z8_3
     try clear z9_0
     try clear z9_1
     try clear z9_2
     try clear z9_3
     try clear z9_4
     try clear z9_5
     try clear z9_6
     try clear f18_0
     try clear f18_1
     try clear f18_2
     try clear f18_3
     try clear f20_0
     try clear f20_1
     try clear f20_2
     try clear f20_3
     try clear f26_0
     try clear f26_1
     try clear f26_2
     try clear f26_3
     try clear f5_0
     try clear f5_1
     try clear f5_2
     try clear f5_3
     try clear f5_4
     try clear f5_5
     try clear f5_6
     try clear f8_0
     try clear f8_1
     try clear f8_2
     try clear f8_3
     try clear f9_0
     try clear f9_1
     try clear f9_2
     try clear f9_3
     try clear f9_4
     try clear f9_5
     try clear f9_6
     try clear p2
     try clear p6
     obtain ⟨kq, x2_15, rfl, HA, HJ15, HO_468000, HO_468001, B453, B454, B467, HB⟩ := hcut
     cases kq with
     | zero => exact absurd HA.out (by simp [hogsheadlaw09_CellApart.j1])
     | succ kj15 =>
      have H := HA.out
      clear HA
      simp only [hogsheadlaw09_CellApart.j1] at H
      obtain rfl := Option.some.inj H
      go_wp2
      go_ret
      exact ⟨by first | rfl | (simp [errW_none, errW_some] <;> rfl) | (simp [*, errW_none, errW_some] <;> rfl), by repeat (first | (with_reducible first | exact HB.out | apply eA | apply eN | apply eD | refine eS ?_ GE453.out | refine eS ?_ GE454.out | refine eS ?_ GE467.out) | exact HB.out)⟩

end Go.Proofs.Ythnhfmmiaknhgaa.PAll
