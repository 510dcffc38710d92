/- Functions of the program as plain Lean functions, and that each call comes to what they say. Laid by a program of this session (hprint.py); Lean checks it. -/
import Derived.Test.YthnhfmmiaknhgaaPAllx0
import Derived.Test.YthnhfmmiaknhgaaPAllx19
import Derived.Test.YthnhfmmiaknhgaaPAllx20
namespace Go.Proofs.Ythnhfmmiaknhgaa.PAll
open Go.RowKit Go.Proofs.YthnhfmmiaknhgaaW.PrintWords Go.Proofs.YthnhfmmiaknhgaaW.PrintLast Go.Proofs.YthnhfmmiaknhgaaW.PrintMore
attribute [local go_sem] max2_int min2_int max_two min_two max_three min_three max_four min_four   -- for this text's walks alone
set_option linter.unusedVariables false
set_option linter.unusedSimpArgs false

/-! ### hogsheadref09_current: function 38 -/
def hogsheadref09_current.j0 : Nat → Int → Int → ByteArray → Int → ByteArray → Int → Bool → Option (Int × Int × ByteArray × Bool)
 | 0, _, _, _, _, _, _, _ => none
 | k + 1, x1, x12, x13, x15, x16, x17, x53 => if x53 = true then (some (x1, x12, x13, true)) else (if x17 = 0 then (some (wrap64 (x1 + 1), x15, x16, true)) else (some (wrap64 (x1 + 1), 0, (⟨#[]⟩ : ByteArray), false)))
def hogsheadref09_current.f (k : Nat) (l0_0 : List ByteArray) (l0_1 : List (S77)) (a0_2 : Int) (a0_3 : Bool) (a1 : Int) : Option (Int × Int × ByteArray × Bool) := (hogsheadref08_Get.f k l0_0 l0_1 a0_2 a0_3 a1).bind fun bt260 => ((hogsheadref08_Get.f k l0_0 l0_1 a0_2 a0_3 (wrap64 (a1 + 1))).bind fun bt262 => ((hogsheadref09_Take.f k bt260.1).bind fun bt264 => ((hogsheadref09_Take.f k bt262.1).bind fun bt267 => (if bt264.2.2 = 0 then (if bt267.2.2 = 0 then (hogsheadref09_current.j0 k a1 bt264.1 bt264.2.1 bt267.1 bt267.2.1 bt267.2.2 (decide (bt264.1 ≥ bt267.1))) else (hogsheadref09_current.j0 k a1 bt264.1 bt264.2.1 bt267.1 bt267.2.1 bt267.2.2 true)) else (hogsheadref09_current.j0 k a1 bt264.1 bt264.2.1 bt267.1 bt267.2.1 bt267.2.2 false)))))
theorem hogsheadref09_current.mono_l : ∀ k, (∀ y0 y1 y2 y3 y4 y5 y6, LeO (hogsheadref09_current.j0 k y0 y1 y2 y3 y4 y5 y6) (hogsheadref09_current.j0 (k + 1) y0 y1 y2 y3 y4 y5 y6))
 | 0 => fun _ _ _ _ _ _ _ r h => by simp [hogsheadref09_current.j0] at h
 | k + 1 => by
  have ih0 := hogsheadref09_current.mono_l k
  ·intro y0 y1 y2 y3 y4 y5 y6
   unfold hogsheadref09_current.j0
   repeat' first
   | (with_reducible exact ih0 _ _ _ _ _ _ _)
   | (with_reducible exact hogsheadref08_Get.mono _ _ _ _ _ _)
   | (with_reducible exact hogsheadref09_Take.mono _ _)
   | (with_reducible exact LeO.refl _)
   | (with_reducible exact LeO.none _)
   | (with_reducible refine LeO.ite ?_ ?_)
   | (with_reducible refine LeO.bind ?_ (fun _ => ?_))
   | exact ih0 _ _ _ _ _ _ _
   | exact hogsheadref08_Get.mono _ _ _ _ _ _
   | exact hogsheadref09_Take.mono _ _
   | exact LeO.none _
   | refine LeO.ite ?_ ?_
   | refine LeO.bind ?_ (fun _ => ?_)
theorem hogsheadref09_current.mono : ∀ a0 a1 a2 a3 a4 k, LeO (hogsheadref09_current.f k a0 a1 a2 a3 a4) (hogsheadref09_current.f (k + 1) a0 a1 a2 a3 a4) := by
 intro a0 a1 a2 a3 a4 k
 have ih0 := hogsheadref09_current.mono_l k
 unfold hogsheadref09_current.f
 repeat' first
   | (with_reducible exact ih0 _ _ _ _ _ _ _)
   | (with_reducible exact hogsheadref08_Get.mono _ _ _ _ _ _)
   | (with_reducible exact hogsheadref09_Take.mono _ _)
   | (with_reducible exact LeO.refl _)
   | (with_reducible exact LeO.none _)
   | (with_reducible refine LeO.ite ?_ ?_)
   | (with_reducible refine LeO.bind ?_ (fun _ => ?_))
   | exact ih0 _ _ _ _ _ _ _
   | exact hogsheadref08_Get.mono _ _ _ _ _ _
   | exact hogsheadref09_Take.mono _ _
   | exact LeO.none _
   | refine LeO.ite ?_ ?_
   | refine LeO.bind ?_ (fun _ => ?_)
set_option maxHeartbeats 40000000 in
set_option maxRecDepth 100000 in
theorem hogsheadref09_current.calls (k : Nat) (A0_0 : Option Addr) (c0_0 : Nat) (l0_0 : List ByteArray) (A0_1 : Option Addr) (c0_1 : Nat) (l0_1 : List (S77)) (a0_2 : Int) (a0_3 : Bool) (a1 : Int) (r1 : Int) (r2 : Int) (r3 : ByteArray) (r4 : Bool) (w : World) (hr0_0 : Kd.C Kd.string w A0_0 l0_0.length l0_0) (hc0_0 : l0_0.length ≤ c0_0) (hr0_1 : Kd.C k77 w A0_1 l0_1.length l0_1) (hc0_1 : l0_1.length ≤ c0_1) (h : hogsheadref09_current.f k l0_0 l0_1 a0_2 a0_3 a1 = some (r1, r2, r3, r4)) :
  Calls Try.prog 38 #[.agg #[.slice A0_0 l0_0.length c0_0, .slice A0_1 l0_1.length c0_1, .int .i64 a0_2, .bool a0_3], .int .i64 a1] w fun e w' => e = .returned (.tuple #[.int .i64 r1, .int .u64 r2, .string r3, .bool r4]) ∧ Below w.heap.size w w' := by
 have hu37 := Try.underlying37
 have HR0_0 := qM hr0_0
 have HC0_0 := qM hc0_0
 clear hr0_0 hc0_0
 have HR0_1 := qM hr0_1
 have HC0_1 := qM hc0_1
 clear hr0_1 hc0_1
 have HB := qM (Below.refl w.heap.size w)
 have H : ((hogsheadref08_Get.f k l0_0 l0_1 a0_2 a0_3 a1).bind fun bt260 => ((hogsheadref08_Get.f k l0_0 l0_1 a0_2 a0_3 (wrap64 (a1 + 1))).bind fun bt262 => ((hogsheadref09_Take.f k bt260.1).bind fun bt264 => ((hogsheadref09_Take.f k bt262.1).bind fun bt267 => (if bt264.2.2 = 0 then (if bt267.2.2 = 0 then (hogsheadref09_current.j0 k a1 bt264.1 bt264.2.1 bt267.1 bt267.2.1 bt267.2.2 (decide (bt264.1 ≥ bt267.1))) else (hogsheadref09_current.j0 k a1 bt264.1 bt264.2.1 bt267.1 bt267.2.1 bt267.2.2 true)) else (hogsheadref09_current.j0 k a1 bt264.1 bt264.2.1 bt267.1 bt267.2.1 bt267.2.2 false)))))) = some (r1, r2, r3, r4) := h
 clear h
 replace H := Option.bind_eq_some_iff.mp H
 obtain ⟨⟨t260, t261⟩, A30, H⟩ := H
 replace H : ((hogsheadref08_Get.f k l0_0 l0_1 a0_2 a0_3 (wrap64 (a1 + 1))).bind fun bt262 => ((hogsheadref09_Take.f k t260).bind fun bt264 => ((hogsheadref09_Take.f k bt262.1).bind fun bt267 => (if bt264.2.2 = 0 then (if bt267.2.2 = 0 then (hogsheadref09_current.j0 k a1 bt264.1 bt264.2.1 bt267.1 bt267.2.1 bt267.2.2 (decide (bt264.1 ≥ bt267.1))) else (hogsheadref09_current.j0 k a1 bt264.1 bt264.2.1 bt267.1 bt267.2.1 bt267.2.2 true)) else (hogsheadref09_current.j0 k a1 bt264.1 bt264.2.1 bt267.1 bt267.2.1 bt267.2.2 false))))) = some (r1, r2, r3, r4) := H
 have A3 := qM A30
 clear A30
 replace H := Option.bind_eq_some_iff.mp H
 obtain ⟨⟨t262, t263⟩, A40, H⟩ := H
 replace H : ((hogsheadref09_Take.f k t260).bind fun bt264 => ((hogsheadref09_Take.f k t262).bind fun bt267 => (if bt264.2.2 = 0 then (if bt267.2.2 = 0 then (hogsheadref09_current.j0 k a1 bt264.1 bt264.2.1 bt267.1 bt267.2.1 bt267.2.2 (decide (bt264.1 ≥ bt267.1))) else (hogsheadref09_current.j0 k a1 bt264.1 bt264.2.1 bt267.1 bt267.2.1 bt267.2.2 true)) else (hogsheadref09_current.j0 k a1 bt264.1 bt264.2.1 bt267.1 bt267.2.1 bt267.2.2 false)))) = some (r1, r2, r3, r4) := H
 have A4 := qM A40
 clear A40
 replace H := Option.bind_eq_some_iff.mp H
 obtain ⟨⟨t264, t265, t266⟩, A50, H⟩ := H
 replace H : ((hogsheadref09_Take.f k t262).bind fun bt267 => (if t266 = 0 then (if bt267.2.2 = 0 then (hogsheadref09_current.j0 k a1 t264 t265 bt267.1 bt267.2.1 bt267.2.2 (decide (t264 ≥ bt267.1))) else (hogsheadref09_current.j0 k a1 t264 t265 bt267.1 bt267.2.1 bt267.2.2 true)) else (hogsheadref09_current.j0 k a1 t264 t265 bt267.1 bt267.2.1 bt267.2.2 false))) = some (r1, r2, r3, r4) := H
 have A5 := qM A50
 clear A50
 replace H := Option.bind_eq_some_iff.mp H
 obtain ⟨⟨t267, t268, t269⟩, A60, H⟩ := H
 replace H : (if t266 = 0 then (if t269 = 0 then (hogsheadref09_current.j0 k a1 t264 t265 t267 t268 t269 (decide (t264 ≥ t267))) else (hogsheadref09_current.j0 k a1 t264 t265 t267 t268 t269 true)) else (hogsheadref09_current.j0 k a1 t264 t265 t267 t268 t269 false)) = some (r1, r2, r3, r4) := H
 have A6 := qM A60
 clear A60
 have HC7 := qM H
 clear H
 go_enter Try.func38, Try.ntmps38
 go_upto_region 5 with (first | ((with_reducible refine gate_dst (N := 2) rfl ?_); refine box_event ?hg (N := 2) ?hd (cs := #[.slice A0_0 l0_0.length c0_0, .slice A0_1 l0_1.length c0_1, .int .i64 a0_2, .bool a0_3]) (t := 37) ?hr ?_; (case hd => rfl); (case hg => rfl); (case hr => first | (go_simp; done) | (go_simp; rfl)); intro g259 hg w8 hbox hb; have n0_ := qM (eT (by repeat (first | (with_reducible first | exact HB.out | apply eA | apply eN | apply eD) | exact HB.out)) hb); have n1_ := qM (hbox); have n2_ := qM ((by rw [hg]; exact (eZ (by repeat (first | (with_reducible first | exact HB.out | apply eA | apply eN | apply eD) | exact HB.out))) : w.heap.size ≤ g259)); have n3_ := n2_; clear HB; have HB := n0_; have B259 := n1_; have GW259 := n2_; have GE259 := n3_; clear n0_ n1_ n2_ n3_; clear hb hbox hg; obtain ⟨z9_0, z9_1, z9_2, z9_3, f9_0, f9_1, f9_2, f9_3⟩ := cells4 B259.out) | ((with_reducible refine gate_callee (f := 22) rfl ?_); refine goesL_ (some 21) rfl rfl Try.func22 (by kernel_rfl) rfl #[.agg #[.slice A0_0 l0_0.length c0_0, .slice A0_1 l0_1.length c0_1, .int .i64 a0_2, .bool a0_3], .int .i64 a1] rfl (by (try simp only [List.map_toArray, List.map_cons, List.map_nil]); first | done | rfl | (simp only [List.length_drop, List.length_take]; rfl)) ?_; (with_reducible refine (hogsheadref08_Get.calls k _ _ l0_0 _ _ l0_1 a0_2 a0_3 a1 t260 t261 _ ?side1 ?side2 ?side3 ?side4 A3.out).mono ?_); (case side1 => repeat (first | exact (Kd.C_below HR0_0.out HB.out) | (with_reducible refine Kd.C_alloc ?_ _) | (with_reducible refine Kd.C_drewN ?_ _) | (with_reducible refine Kd.C_drew ?_))); (case side2 => exact HC0_0.out); (case side3 => repeat (first | exact (Kd.C_below HR0_1.out HB.out) | (with_reducible refine Kd.C_alloc ?_ _) | (with_reducible refine Kd.C_drewN ?_ _) | (with_reducible refine Kd.C_drew ?_))); (case side4 => exact HC0_1.out); rintro e w10 ⟨rfl, hb⟩; refine ⟨_, rfl, ?_⟩; have n0_ := qM (qB (g := g259) (by (with_reducible repeat first | refine qN ?_ _ | refine qD ?_ | refine qA ?_ _); exact B259.out) hb); have n1_ := qM (eT (by repeat (first | (with_reducible first | exact HB.out | apply eA | apply eN | apply eD | refine eS ?_ GE259.out) | exact HB.out)) hb); clear B259; clear HB; have B259 := n0_; have HB := n1_; clear n0_ n1_; (try clear hb); (try clear hb2); (try clear hk); (try clear hi); obtain ⟨z11_0, z11_1, z11_2, z11_3, f11_0, f11_1, f11_2, f11_3⟩ := cells4 B259.out) | ((with_reducible refine gate_callee (f := 22) rfl ?_); refine goesL_ (some 28) rfl rfl Try.func22 (by kernel_rfl) rfl #[.agg #[.slice A0_0 l0_0.length c0_0, .slice A0_1 l0_1.length c0_1, .int .i64 a0_2, .bool a0_3], .int .i64 (wrap64 (a1 + 1))] rfl (by (try simp only [List.map_toArray, List.map_cons, List.map_nil]); first | done | rfl | (simp only [List.length_drop, List.length_take]; rfl)) ?_; (with_reducible refine (hogsheadref08_Get.calls k _ _ l0_0 _ _ l0_1 a0_2 a0_3 (wrap64 (a1 + 1)) t262 t263 _ ?side1 ?side2 ?side3 ?side4 A4.out).mono ?_); (case side1 => repeat (first | exact (Kd.C_below HR0_0.out HB.out) | (with_reducible refine Kd.C_alloc ?_ _) | (with_reducible refine Kd.C_drewN ?_ _) | (with_reducible refine Kd.C_drew ?_))); (case side2 => exact HC0_0.out); (case side3 => repeat (first | exact (Kd.C_below HR0_1.out HB.out) | (with_reducible refine Kd.C_alloc ?_ _) | (with_reducible refine Kd.C_drewN ?_ _) | (with_reducible refine Kd.C_drew ?_))); (case side4 => exact HC0_1.out); rintro e w12 ⟨rfl, hb⟩; refine ⟨_, rfl, ?_⟩; have n0_ := qM (qB (g := g259) (by (with_reducible repeat first | refine qN ?_ _ | refine qD ?_ | refine qA ?_ _); exact B259.out) hb); have n1_ := qM (eT (by repeat (first | (with_reducible first | exact HB.out | apply eA | apply eN | apply eD | refine eS ?_ GE259.out) | exact HB.out)) hb); clear B259; clear HB; have B259 := n0_; have HB := n1_; clear n0_ n1_; (try clear hb); (try clear hb2); (try clear hk); (try clear hi)) | ((with_reducible refine gate_callee (f := 14) rfl ?_); refine goesL_ (some 33) rfl rfl Try.func14 (by kernel_rfl) rfl #[.string t260] rfl (by (try simp only [List.map_toArray, List.map_cons, List.map_nil]); first | done | rfl | (simp only [List.length_drop, List.length_take]; rfl)) ?_; (with_reducible refine (hogsheadref09_Take.calls k t260 t264 t265 t266 _ A5.out).mono ?_); rintro e w13 ⟨rfl, hb⟩; refine ⟨_, rfl, ?_⟩; have n0_ := qM (qB (g := g259) (by (with_reducible repeat first | refine qN ?_ _ | refine qD ?_ | refine qA ?_ _); exact B259.out) hb); have n1_ := qM (eT (by repeat (first | (with_reducible first | exact HB.out | apply eA | apply eN | apply eD | refine eS ?_ GE259.out) | exact HB.out)) hb); clear B259; clear HB; have B259 := n0_; have HB := n1_; clear n0_ n1_; (try clear hb); (try clear hb2); (try clear hk); (try clear hi)) | ((with_reducible refine gate_callee (f := 14) rfl ?_); refine goesL_ (some 39) rfl rfl Try.func14 (by kernel_rfl) rfl #[.string t262] rfl (by (try simp only [List.map_toArray, List.map_cons, List.map_nil]); first | done | rfl | (simp only [List.length_drop, List.length_take]; rfl)) ?_; (with_reducible refine (hogsheadref09_Take.calls k t262 t267 t268 t269 _ A6.out).mono ?_); rintro e w14 ⟨rfl, hb⟩; refine ⟨_, rfl, ?_⟩; have n0_ := qM (qB (g := g259) (by (with_reducible repeat first | refine qN ?_ _ | refine qD ?_ | refine qA ?_ _); exact B259.out) hb); have n1_ := qM (eT (by repeat (first | (with_reducible first | exact HB.out | apply eA | apply eN | apply eD | refine eS ?_ GE259.out) | exact HB.out)) hb); clear B259; clear HB; have B259 := n0_; have HB := n1_; clear n0_ n1_; (try clear hb); (try clear hb2); (try clear hk); (try clear hi)))
 (try simp only [Act.put, List.setIfInBounds_toArray, List.set_cons_zero, List.set_cons_succ])
 go_cut [53] (fun v53 wc => ∃ (kq : Nat) (x53_6 : Bool), v53 = .bool x53_6 ∧ Aside0 (hogsheadref09_current.j0 kq a1 t264 t265 t267 t268 t269 x53_6 = some (r1, r2, r3, r4)) ∧ Aside0 (kq ≤ k) ∧ Aside0 (wc.heap[g259]? = some (.cells #[(.slice A0_0 l0_0.length c0_0), (.slice A0_1 l0_1.length c0_1), .int .i64 a0_2, .bool a0_3] 37 (0, 0))) ∧ Aside0 (Below w.heap.size w wc))
 case first =>
  have H := HC7.out
  clear HC7
  by_cases c15 : t266 = 0
  ·rw [if_pos c15] at H
   have c15b0 : (t266 == 0) = true := beq_iff_eq.mpr c15
   have c15b1 : (t266 != 0) = false := bne_eq_false_iff_eq.mpr c15
   clear c15
   (first | rw [c15b0] | (simp only [i64_w, i32_w]; rw [c15b0]) | skip)
   by_cases c16 : t269 = 0
   ·rw [if_pos c16] at H
    have c16b0 : (t269 == 0) = true := beq_iff_eq.mpr c16
    have c16b1 : (t269 != 0) = false := bne_eq_false_iff_eq.mpr c16
    clear c16
    have H' := qM H
    clear H
    go_wp2
    go_meet
    case rel => exact ⟨_, (decide (t264 ≥ t267)), (by first | rfl | (simp; done) | (simp [*]; done)), H', ⟨by first | omega | exact Nat.le_refl _⟩, ⟨by (with_reducible repeat first | refine qN ?_ _ | refine qD ?_ | refine qA ?_ _); exact B259.out⟩, ⟨by repeat (first | (with_reducible first | exact HB.out | apply eA | apply eN | apply eD | refine eS ?_ GE259.out) | exact HB.out)⟩⟩
   ·rw [if_neg c16] at H
    have c16b0 : (t269 == 0) = false := beq_eq_false_iff_ne.mpr c16
    have c16b1 : (t269 != 0) = true := bne_iff_ne.mpr c16
    have H' := qM H
    clear H
    go_wp2
    go_meet
    case rel => exact ⟨_, (true), (by first | rfl | (simp; done) | (simp [*]; done)), H', ⟨by first | omega | exact Nat.le_refl _⟩, ⟨by (with_reducible repeat first | refine qN ?_ _ | refine qD ?_ | refine qA ?_ _); exact B259.out⟩, ⟨by repeat (first | (with_reducible first | exact HB.out | apply eA | apply eN | apply eD | refine eS ?_ GE259.out) | exact HB.out)⟩⟩
  ·rw [if_neg c15] at H
   have c15b0 : (t266 == 0) = false := beq_eq_false_iff_ne.mpr c15
   have c15b1 : (t266 != 0) = true := bne_iff_ne.mpr c15
   (first | rw [c15b0] | (simp only [i64_w, i32_w]; rw [c15b0]) | skip)
   have H' := qM H
   clear H
   go_wp2
   go_meet
   case rel => exact ⟨_, (false), (by first | rfl | (simp; done) | (simp [*]; done)), H', ⟨by first | omega | exact Nat.le_refl _⟩, ⟨by (with_reducible repeat first | refine qN ?_ _ | refine qD ?_ | refine qA ?_ _); exact B259.out⟩, ⟨by repeat (first | (with_reducible first | exact HB.out | apply eA | apply eN | apply eD | refine eS ?_ GE259.out) | exact HB.out)⟩⟩
 case rest =>
  clear HC7
  try clear c1
  try clear c2
  try clear p2
  try clear c3
  try clear p6
  try clear c14
  try clear c15
  try clear c15b0
  try clear c15b1
  try clear c16
  try clear c16b0
  try clear c16b1
  try clear z11_0
  try clear z11_1
  try clear z11_2
  try clear z11_3
  try clear z9_0
  try clear z9_1
  try clear z9_2
  try clear z9_3
  try clear f11_0
  try clear f11_1
  try clear f11_2
  try clear f11_3
  try clear f9_0
  try clear f9_1
  try clear f9_2
  try clear f9_3
  obtain ⟨kq, x53_6, rfl, HA, HJ6, B259, HB⟩ := hcut
  cases kq with
  | zero => exact absurd HA.out (by simp [hogsheadref09_current.j0])
  | succ kj6 =>
   have H := HA.out
   clear HA
   simp only [hogsheadref09_current.j0] at H
   by_cases c17 : x53_6 = true
   ·subst c17
    have H1 : (some (a1, t264, t265, true)) = some (r1, r2, r3, r4) := by rw [if_pos rfl] at H; exact H
    clear H
    have H := H1
    clear H1
    simp only [Option.some.injEq, Prod.mk.injEq] at H
    obtain ⟨rfl, rfl, rfl, rfl⟩ := H
    go_wp2
    refine bodyPost_ret (results_list (rs := [.tmp 4, .tmp 5, .tmp 6, .tmp 7]) rfl (by simp) (.tmp (.tmp (.tmp (.tmp .nil))))) rfl ?_
    exact ⟨by first | rfl | (simp [errW_none, errW_some] <;> rfl) | (simp [*, errW_none, errW_some] <;> rfl), by repeat (first | (with_reducible first | exact HB.out | apply eA | apply eN | apply eD | refine eS ?_ GE259.out) | exact HB.out)⟩
   ·replace c17 := Bool.eq_false_iff.mpr c17
    subst c17
    have H1 : (if t269 = 0 then (some (wrap64 (a1 + 1), t267, t268, true)) else (some (wrap64 (a1 + 1), 0, (⟨#[]⟩ : ByteArray), false))) = some (r1, r2, r3, r4) := by rw [if_neg (show ¬ (false = true) by decide)] at H; exact H
    clear H
    have H := H1
    clear H1
    by_cases c18 : t269 = 0
    ·rw [if_pos c18] at H
     have c18b0 : (t269 == 0) = true := beq_iff_eq.mpr c18
     have c18b1 : (t269 != 0) = false := bne_eq_false_iff_eq.mpr c18
     clear c18
     simp only [Option.some.injEq, Prod.mk.injEq] at H
     obtain ⟨rfl, rfl, rfl, rfl⟩ := H
     go_wp2
     refine bodyPost_ret (results_list (rs := [.tmp 4, .tmp 5, .tmp 6, .tmp 7]) rfl (by simp) (.tmp (.tmp (.tmp (.tmp .nil))))) rfl ?_
     exact ⟨by first | rfl | (simp [errW_none, errW_some] <;> rfl) | (simp [*, errW_none, errW_some] <;> rfl), by repeat (first | (with_reducible first | exact HB.out | apply eA | apply eN | apply eD | refine eS ?_ GE259.out) | exact HB.out)⟩
    ·rw [if_neg c18] at H
     have c18b0 : (t269 == 0) = false := beq_eq_false_iff_ne.mpr c18
     have c18b1 : (t269 != 0) = true := bne_iff_ne.mpr c18
     simp only [Option.some.injEq, Prod.mk.injEq] at H
     obtain ⟨rfl, rfl, rfl, rfl⟩ := H
     go_wp2
     refine bodyPost_ret (results_list (rs := [.tmp 4, .tmp 5, .tmp 6, .tmp 7]) rfl (by simp) (.tmp (.tmp (.tmp (.tmp .nil))))) rfl ?_
     exact ⟨by first | rfl | (simp [errW_none, errW_some] <;> rfl) | (simp [*, errW_none, errW_some] <;> rfl), by repeat (first | (with_reducible first | exact HB.out | apply eA | apply eN | apply eD | refine eS ?_ GE259.out) | exact HB.out)⟩

end Go.Proofs.Ythnhfmmiaknhgaa.PAll
