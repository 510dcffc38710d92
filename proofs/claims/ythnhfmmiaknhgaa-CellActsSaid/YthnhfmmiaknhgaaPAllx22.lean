/- Functions of the program as plain Lean functions, and that each call comes to what they say. Laid by a program of this session (hprint.py); Lean checks it. -/
import Derived.Test.YthnhfmmiaknhgaaPAllx0
import Derived.Test.YthnhfmmiaknhgaaPAllx21
namespace Go.Proofs.Ythnhfmmiaknhgaa.PAll
open Go.RowKit Go.Proofs.YthnhfmmiaknhgaaW.PrintWords Go.Proofs.YthnhfmmiaknhgaaW.PrintLast Go.Proofs.YthnhfmmiaknhgaaW.PrintMore
attribute [local go_sem] max2_int min2_int max_two min_two max_three min_three max_four min_four   -- for this text's walks alone
set_option linter.unusedVariables false
set_option linter.unusedSimpArgs false

/-! ### hogsheadref09_Read: function 16 -/
def hogsheadref09_Read.j0 : Nat → Int → Bool → List ByteArray → List (S77) → Int → Bool → Option (ByteArray × Int × Int)
 | 0, _, _, _, _, _, _ => none
 | k + 1, x1, x27, x271000, x271001, x271002, x271003 => if x27 = true then (some ((⟨#[]⟩ : ByteArray), 0, 1)) else ((hogsheadref09_current.f k x271000 x271001 x271002 x271003 x1).bind fun bt271 => (if bt271.2.2.2 = true then (some (bt271.2.2.1, bt271.2.1, 0)) else (some ((⟨#[]⟩ : ByteArray), 0, 7))))
def hogsheadref09_Read.f (k : Nat) (l0_0 : List ByteArray) (l0_1 : List (S77)) (a0_2 : Int) (a0_3 : Bool) (a1 : Int) : Option (ByteArray × Int × Int) := if a1 < 0 then (hogsheadref09_Read.j0 k a1 true l0_0 l0_1 a0_2 a0_3) else (if a1 ≥ (l0_0.length : Int) then (hogsheadref09_Read.j0 k a1 true l0_0 l0_1 a0_2 a0_3) else (hogsheadref09_Read.j0 k a1 (decide ((wrap64 ((l0_0.length : Int) - a1)) < 2)) l0_0 l0_1 a0_2 a0_3))
theorem hogsheadref09_Read.mono_l : ∀ k, (∀ y0 y1 y2 y3 y4 y5, LeO (hogsheadref09_Read.j0 k y0 y1 y2 y3 y4 y5) (hogsheadref09_Read.j0 (k + 1) y0 y1 y2 y3 y4 y5))
 | 0 => fun _ _ _ _ _ _ r h => by simp [hogsheadref09_Read.j0] at h
 | k + 1 => by
  have ih0 := hogsheadref09_Read.mono_l k
  ·intro y0 y1 y2 y3 y4 y5
   unfold hogsheadref09_Read.j0
   repeat' first
   | (with_reducible exact ih0 _ _ _ _ _ _)
   | (with_reducible exact hogsheadref09_current.mono _ _ _ _ _ _)
   | (with_reducible exact LeO.refl _)
   | (with_reducible exact LeO.none _)
   | (with_reducible refine LeO.ite ?_ ?_)
   | (with_reducible refine LeO.bind ?_ (fun _ => ?_))
   | exact ih0 _ _ _ _ _ _
   | exact hogsheadref09_current.mono _ _ _ _ _ _
   | exact LeO.none _
   | refine LeO.ite ?_ ?_
   | refine LeO.bind ?_ (fun _ => ?_)
theorem hogsheadref09_Read.mono : ∀ a0 a1 a2 a3 a4 k, LeO (hogsheadref09_Read.f k a0 a1 a2 a3 a4) (hogsheadref09_Read.f (k + 1) a0 a1 a2 a3 a4) := by
 intro a0 a1 a2 a3 a4 k
 have ih0 := hogsheadref09_Read.mono_l k
 unfold hogsheadref09_Read.f
 repeat' first
   | (with_reducible exact ih0 _ _ _ _ _ _)
   | (with_reducible exact hogsheadref09_current.mono _ _ _ _ _ _)
   | (with_reducible exact LeO.refl _)
   | (with_reducible exact LeO.none _)
   | (with_reducible refine LeO.ite ?_ ?_)
   | (with_reducible refine LeO.bind ?_ (fun _ => ?_))
   | exact ih0 _ _ _ _ _ _
   | exact hogsheadref09_current.mono _ _ _ _ _ _
   | exact LeO.none _
   | refine LeO.ite ?_ ?_
   | refine LeO.bind ?_ (fun _ => ?_)
set_option maxHeartbeats 40000000 in
set_option maxRecDepth 100000 in
theorem hogsheadref09_Read.calls (k : Nat) (A0_0 : Option Addr) (c0_0 : Nat) (l0_0 : List ByteArray) (A0_1 : Option Addr) (c0_1 : Nat) (l0_1 : List (S77)) (a0_2 : Int) (a0_3 : Bool) (a1 : Int) (r1 : ByteArray) (r2 : Int) (r3 : Int) (w : World) (hr0_0 : Kd.C Kd.string w A0_0 l0_0.length l0_0) (hc0_0 : l0_0.length ≤ c0_0) (hr0_1 : Kd.C k77 w A0_1 l0_1.length l0_1) (hc0_1 : l0_1.length ≤ c0_1) (h : hogsheadref09_Read.f k l0_0 l0_1 a0_2 a0_3 a1 = some (r1, r2, r3)) :
  Calls Try.prog 16 #[.agg #[.slice A0_0 l0_0.length c0_0, .slice A0_1 l0_1.length c0_1, .int .i64 a0_2, .bool a0_3], .int .i64 a1] w fun e w' => e = .returned (.tuple #[.string r1, .int .u64 r2, .int .i64 r3]) ∧ Below w.heap.size w w' := by
 have hu37 := Try.underlying37
 have HR0_0 := qM hr0_0
 have HC0_0 := qM hc0_0
 clear hr0_0 hc0_0
 have HR0_1 := qM hr0_1
 have HC0_1 := qM hc0_1
 clear hr0_1 hc0_1
 have HB := qM (Below.refl w.heap.size w)
 have H : (if a1 < 0 then (hogsheadref09_Read.j0 k a1 true l0_0 l0_1 a0_2 a0_3) else (if a1 ≥ (l0_0.length : Int) then (hogsheadref09_Read.j0 k a1 true l0_0 l0_1 a0_2 a0_3) else (hogsheadref09_Read.j0 k a1 (decide ((wrap64 ((l0_0.length : Int) - a1)) < 2)) l0_0 l0_1 a0_2 a0_3))) = some (r1, r2, r3) := h
 clear h
 have HC3 := qM H
 clear H
 go_enter Try.func16, Try.ntmps16
 go_upto_region 1 with (first | ((with_reducible refine gate_dst (N := 2) rfl ?_); (try (refine gate_guard (by rfl) ?_; dsimp only)); refine box_event ?hg (N := 2) ?hd (cs := #[.slice A0_0 l0_0.length c0_0, .slice A0_1 l0_1.length c0_1, .int .i64 a0_2, .bool a0_3]) (t := 37) ?hr ?_; (case hd => rfl); (case hg => rfl); (case hr => first | (go_simp; done) | (go_simp; rfl)); intro g270 hg w4 hbox hb; have n0_ := qM (eT (by repeat (first | (with_reducible first | exact HB.out | apply eA | apply eN | apply eD) | exact HB.out)) hb); have n1_ := qM (hbox); have n2_ := qM ((by rw [hg]; exact (eZ (by repeat (first | (with_reducible first | exact HB.out | apply eA | apply eN | apply eD) | exact HB.out))) : w.heap.size ≤ g270)); have n3_ := n2_; clear HB; have HB := n0_; have B270 := n1_; have GW270 := n2_; have GE270 := n3_; clear n0_ n1_ n2_ n3_; clear hb hbox hg))
 (try simp only [Act.put, List.setIfInBounds_toArray, List.set_cons_zero, List.set_cons_succ])
 go_cut [27] (fun v27 wc => ∃ (kq : Nat) (x27_2 : Bool), v27 = .bool x27_2 ∧ Aside0 (hogsheadref09_Read.j0 kq a1 x27_2 l0_0 l0_1 a0_2 a0_3 = some (r1, r2, r3)) ∧ Aside0 (kq ≤ k) ∧ Aside0 (wc.heap[g270]? = some (.cells #[(.slice A0_0 l0_0.length c0_0), (.slice A0_1 l0_1.length c0_1), .int .i64 a0_2, .bool a0_3] 37 (0, 0))) ∧ Aside0 (Below w.heap.size w wc))
 case first =>
  have H := HC3.out
  clear HC3
  by_cases c5 : a1 < 0
  ·rw [if_pos c5] at H
   have c5b0 : decide (a1 < 0) = true := decide_eq_true c5
   clear c5
   (first | rw [c5b0] | (simp only [i64_w, i32_w]; rw [c5b0]) | skip)
   have H' := qM H
   clear H
   go_wp2
   go_meet
   case rel => exact ⟨_, (true), (by first | rfl | (simp; done) | (simp [*]; done)), H', ⟨by first | omega | exact Nat.le_refl _⟩, ⟨by (with_reducible repeat first | refine qN ?_ _ | refine qD ?_ | refine qA ?_ _); exact B270.out⟩, ⟨by repeat (first | (with_reducible first | exact HB.out | apply eA | apply eN | apply eD | refine eS ?_ GE270.out) | exact HB.out)⟩⟩
  ·rw [if_neg c5] at H
   have c5b0 : decide (a1 < 0) = false := decide_eq_false c5
   clear c5
   (first | rw [c5b0] | (simp only [i64_w, i32_w]; rw [c5b0]) | skip)
   by_cases c6 : a1 ≥ (l0_0.length : Int)
   ·rw [if_pos c6] at H
    have c6b0 : decide ((l0_0.length : Int) ≤ a1) = true := decide_eq_true c6
    clear c6
    have H' := qM H
    clear H
    obtain ⟨z7_0, z7_1, z7_2, z7_3, f7_0, f7_1, f7_2, f7_3⟩ := cells4 B270.out
    go_wp2
    go_meet
    case rel => exact ⟨_, (true), (by first | rfl | (simp; done) | (simp [*]; done)), H', ⟨by first | omega | exact Nat.le_refl _⟩, ⟨by (with_reducible repeat first | refine qN ?_ _ | refine qD ?_ | refine qA ?_ _); exact B270.out⟩, ⟨by repeat (first | (with_reducible first | exact HB.out | apply eA | apply eN | apply eD | refine eS ?_ GE270.out) | exact HB.out)⟩⟩
   ·rw [if_neg c6] at H
    have c6b0 : decide ((l0_0.length : Int) ≤ a1) = false := decide_eq_false c6
    clear c6
    have H' := qM H
    clear H
    obtain ⟨z8_0, z8_1, z8_2, z8_3, f8_0, f8_1, f8_2, f8_3⟩ := cells4 B270.out
    go_wp2
    go_meet
    case rel => exact ⟨_, (decide ((wrap64 ((l0_0.length : Int) - a1)) < 2)), (by first | rfl | (simp; done) | (simp [*]; done)), H', ⟨by first | omega | exact Nat.le_refl _⟩, ⟨by (with_reducible repeat first | refine qN ?_ _ | refine qD ?_ | refine qA ?_ _); exact B270.out⟩, ⟨by repeat (first | (with_reducible first | exact HB.out | apply eA | apply eN | apply eD | refine eS ?_ GE270.out) | exact HB.out)⟩⟩
 case rest =>
  clear HC3
  try clear c1
  try clear p2
  try clear c5
  try clear c5b0
  try clear c6
  try clear c6b0
  try clear p6
  try clear z7_0
  try clear z7_1
  try clear z7_2
  try clear z7_3
  try clear z8_0
  try clear z8_1
  try clear z8_2
  try clear z8_3
  try clear f7_0
  try clear f7_1
  try clear f7_2
  try clear f7_3
  try clear f8_0
  try clear f8_1
  try clear f8_2
  try clear f8_3
  obtain ⟨kq, x27_2, rfl, HA, HJ2, B270, HB⟩ := hcut
  cases kq with
  | zero => exact absurd HA.out (by simp [hogsheadref09_Read.j0])
  | succ kj2 =>
   have H := HA.out
   clear HA
   simp only [hogsheadref09_Read.j0] at H
   by_cases c9 : x27_2 = true
   ·subst c9
    have H1 : (some ((⟨#[]⟩ : ByteArray), 0, 1)) = some (r1, r2, r3) := by rw [if_pos rfl] at H; exact H
    clear H
    have H := H1
    clear H1
    simp only [Option.some.injEq, Prod.mk.injEq] at H
    obtain ⟨rfl, rfl, rfl⟩ := H
    go_wp2
    go_ret3
    exact ⟨by first | rfl | (simp [errW_none, errW_some] <;> rfl) | (simp [*, errW_none, errW_some] <;> rfl), by repeat (first | (with_reducible first | exact HB.out | apply eA | apply eN | apply eD | refine eS ?_ GE270.out) | exact HB.out)⟩
   ·replace c9 := Bool.eq_false_iff.mpr c9
    subst c9
    have H1 : ((hogsheadref09_current.f kj2 l0_0 l0_1 a0_2 a0_3 a1).bind fun bt271 => (if bt271.2.2.2 = true then (some (bt271.2.2.1, bt271.2.1, 0)) else (some ((⟨#[]⟩ : ByteArray), 0, 7)))) = some (r1, r2, r3) := by rw [if_neg (show ¬ (false = true) by decide)] at H; exact H
    clear H
    have H := H1
    clear H1
    replace H := Option.bind_eq_some_iff.mp H
    obtain ⟨⟨t271, t272, t273, t274⟩, A100, H⟩ := H
    replace H : (if t274 = true then (some (t273, t272, 0)) else (some ((⟨#[]⟩ : ByteArray), 0, 7))) = some (r1, r2, r3) := H
    have A10 := qM A100
    clear A100
    by_cases c11 : t274 = true
    ·subst c11
     have H1 : (some (t273, t272, 0)) = some (r1, r2, r3) := by rw [if_pos rfl] at H; exact H
     clear H
     have H := H1
     clear H1
     simp only [Option.some.injEq, Prod.mk.injEq] at H
     obtain ⟨rfl, rfl, rfl⟩ := H
     obtain ⟨z12_0, z12_1, z12_2, z12_3, f12_0, f12_1, f12_2, f12_3⟩ := cells4 B270.out
     go_wp2_with (first | ((with_reducible refine gate_callee (f := 38) rfl ?_); refine goesL_ (some 31) rfl rfl Try.func38 (by kernel_rfl) rfl #[.agg #[.slice A0_0 l0_0.length c0_0, .slice A0_1 l0_1.length c0_1, .int .i64 a0_2, .bool a0_3], .int .i64 a1] rfl (by (try simp only [List.map_toArray, List.map_cons, List.map_nil]); first | done | rfl | (simp only [List.length_drop, List.length_take]; rfl)) ?_; (with_reducible refine (hogsheadref09_current.calls kj2 _ _ l0_0 _ _ l0_1 a0_2 a0_3 a1 t271 t272 t273 true _ ?side1 ?side2 ?side3 ?side4 A10.out).mono ?_); (case side1 => repeat (first | exact (Kd.C_below HR0_0.out HB.out) | (with_reducible refine Kd.C_alloc ?_ _) | (with_reducible refine Kd.C_drewN ?_ _) | (with_reducible refine Kd.C_drew ?_))); (case side2 => exact HC0_0.out); (case side3 => repeat (first | exact (Kd.C_below HR0_1.out HB.out) | (with_reducible refine Kd.C_alloc ?_ _) | (with_reducible refine Kd.C_drewN ?_ _) | (with_reducible refine Kd.C_drew ?_))); (case side4 => exact HC0_1.out); rintro e w13 ⟨rfl, hb⟩; refine ⟨_, rfl, ?_⟩; have n0_ := qM (qB (g := g270) (by (with_reducible repeat first | refine qN ?_ _ | refine qD ?_ | refine qA ?_ _); exact B270.out) hb); have n1_ := qM (eT (by repeat (first | (with_reducible first | exact HB.out | apply eA | apply eN | apply eD | refine eS ?_ GE270.out) | exact HB.out)) hb); clear B270; clear HB; have B270 := n0_; have HB := n1_; clear n0_ n1_; (try clear hb); (try clear hb2); (try clear hk); (try clear hi)))
     go_ret3
     exact ⟨by first | rfl | (simp [errW_none, errW_some] <;> rfl) | (simp [*, errW_none, errW_some] <;> rfl), by repeat (first | (with_reducible first | exact HB.out | apply eA | apply eN | apply eD | refine eS ?_ GE270.out) | exact HB.out)⟩
    ·replace c11 := Bool.eq_false_iff.mpr c11
     subst c11
     have H1 : (some ((⟨#[]⟩ : ByteArray), 0, 7)) = some (r1, r2, r3) := by rw [if_neg (show ¬ (false = true) by decide)] at H; exact H
     clear H
     have H := H1
     clear H1
     simp only [Option.some.injEq, Prod.mk.injEq] at H
     obtain ⟨rfl, rfl, rfl⟩ := H
     obtain ⟨z14_0, z14_1, z14_2, z14_3, f14_0, f14_1, f14_2, f14_3⟩ := cells4 B270.out
     go_wp2_with (first | ((with_reducible refine gate_callee (f := 38) rfl ?_); refine goesL_ (some 31) rfl rfl Try.func38 (by kernel_rfl) rfl #[.agg #[.slice A0_0 l0_0.length c0_0, .slice A0_1 l0_1.length c0_1, .int .i64 a0_2, .bool a0_3], .int .i64 a1] rfl (by (try simp only [List.map_toArray, List.map_cons, List.map_nil]); first | done | rfl | (simp only [List.length_drop, List.length_take]; rfl)) ?_; (with_reducible refine (hogsheadref09_current.calls kj2 _ _ l0_0 _ _ l0_1 a0_2 a0_3 a1 t271 t272 t273 false _ ?side1 ?side2 ?side3 ?side4 A10.out).mono ?_); (case side1 => repeat (first | exact (Kd.C_below HR0_0.out HB.out) | (with_reducible refine Kd.C_alloc ?_ _) | (with_reducible refine Kd.C_drewN ?_ _) | (with_reducible refine Kd.C_drew ?_))); (case side2 => exact HC0_0.out); (case side3 => repeat (first | exact (Kd.C_below HR0_1.out HB.out) | (with_reducible refine Kd.C_alloc ?_ _) | (with_reducible refine Kd.C_drewN ?_ _) | (with_reducible refine Kd.C_drew ?_))); (case side4 => exact HC0_1.out); rintro e w15 ⟨rfl, hb⟩; refine ⟨_, rfl, ?_⟩; have n0_ := qM (qB (g := g270) (by (with_reducible repeat first | refine qN ?_ _ | refine qD ?_ | refine qA ?_ _); exact B270.out) hb); have n1_ := qM (eT (by repeat (first | (with_reducible first | exact HB.out | apply eA | apply eN | apply eD | refine eS ?_ GE270.out) | exact HB.out)) hb); clear B270; clear HB; have B270 := n0_; have HB := n1_; clear n0_ n1_; (try clear hb); (try clear hb2); (try clear hk); (try clear hi)))
     go_ret3
     exact ⟨by first | rfl | (simp [errW_none, errW_some] <;> rfl) | (simp [*, errW_none, errW_some] <;> rfl), by repeat (first | (with_reducible first | exact HB.out | apply eA | apply eN | apply eD | refine eS ?_ GE270.out) | exact HB.out)⟩

/-! ### hogsheadref01_Num: function 28 -/
def hogsheadref01_Num.l0 : Nat → Int → ByteArray → Option (ByteArray)
 | 0, _, _ => none
 | k + 1, x0, x3 => if x0 > 0 then ((some (([(((Int.tmod x0 128) % 256) + 128) % 256] : List Int) : List Int)).bind fun y278 => (if (strOfNums y278).size + x3.size ≤ 9223372036854775807 then (hogsheadref01_Num.l0 k (IntKind.u64.wrap (Int.tdiv x0 128)) ((strOfNums y278) ++ x3)) else (none))) else (some x3)
def hogsheadref01_Num.f (k : Nat) (a0 : Int) : Option (ByteArray) := hogsheadref01_Num.l0 k (IntKind.u64.wrap (Int.tdiv a0 128)) (strOfNums (([(Int.tmod a0 128) % 256] : List Int)))
theorem hogsheadref01_Num.mono_l : ∀ k, (∀ y0 y1, LeO (hogsheadref01_Num.l0 k y0 y1) (hogsheadref01_Num.l0 (k + 1) y0 y1))
 | 0 => fun _ _ r h => by simp [hogsheadref01_Num.l0] at h
 | k + 1 => by
  have ih0 := hogsheadref01_Num.mono_l k
  ·intro y0 y1
   unfold hogsheadref01_Num.l0
   repeat' first
   | (with_reducible exact ih0 _ _)
   | (with_reducible exact LeO.refl _)
   | (with_reducible exact LeO.none _)
   | (with_reducible refine LeO.ite ?_ ?_)
   | (with_reducible refine LeO.bind ?_ (fun _ => ?_))
   | exact ih0 _ _
   | exact LeO.none _
   | refine LeO.ite ?_ ?_
   | refine LeO.bind ?_ (fun _ => ?_)
theorem hogsheadref01_Num.mono : ∀ a0 k, LeO (hogsheadref01_Num.f k a0) (hogsheadref01_Num.f (k + 1) a0) := by
 intro a0 k
 have ih0 := hogsheadref01_Num.mono_l k
 unfold hogsheadref01_Num.f
 repeat' first
   | (with_reducible exact ih0 _ _)
   | (with_reducible exact LeO.refl _)
   | (with_reducible exact LeO.none _)
   | (with_reducible refine LeO.ite ?_ ?_)
   | (with_reducible refine LeO.bind ?_ (fun _ => ?_))
   | exact ih0 _ _
   | exact LeO.none _
   | refine LeO.ite ?_ ?_
   | refine LeO.bind ?_ (fun _ => ?_)
set_option maxHeartbeats 40000000 in
set_option maxRecDepth 100000 in
theorem hogsheadref01_Num.calls (k : Nat) (a0 : Int) (r : ByteArray) (w : World) (h : hogsheadref01_Num.f k a0 = some r) :
  Calls Try.prog 28 #[.int .u64 a0] w fun e w' => e = .returned (.string r) ∧ Below w.heap.size w w' := by
 have HB := qM (Below.refl w.heap.size w)
 have H : (hogsheadref01_Num.l0 k (IntKind.u64.wrap (Int.tdiv a0 128)) (strOfNums (([(Int.tmod a0 128) % 256] : List Int)))) = some r := h
 clear h
 obtain ⟨y275, hy275⟩ : ∃ y_ : List Int, y_ = (([(Int.tmod a0 128) % 256] : List Int)) := ⟨_, rfl⟩
 replace H : (hogsheadref01_Num.l0 k (IntKind.u64.wrap (Int.tdiv a0 128)) (strOfNums y275)) = some r := by first | (rw [hy275]; with_reducible exact H) | (have H2_ := (Option.bind_some _ _).symm.trans H; rw [hy275]; with_reducible exact H2_) | (have H2_ := (Option.bind_some _ _).symm.trans H; with_reducible exact H2_) | with_reducible exact H | (rw [hy275]; exact H) | exact H
 have Ny275 := qM hy275
 clear hy275
 have H' := qM H
 clear H
 go_enter Try.func28, Try.ntmps28
 go_wp2_with (first | ((with_reducible refine gate_dst (N := 7) rfl ?_); refine Kd.R_lit (Kd.int .u8) _ 5 ?hg (N := 7) ?hd (xs := ([(Int.tmod a0 128) % 256] : List Int)) (inner := [.int .u8 ((Int.tmod a0 128) % 256)]) (ok := fun _ => True) (okp := fun _ => True) ?hr ?hp (fun _ hk => hk) trivial (Below.refl _ _) (Nat.le_refl _) (by simp) ?_; (case hd => rfl); (case hg => rfl); (case hr => first | (go_simp; done) | (go_simp; rfl)); (case hp => exact (Reps.one (show Kd.M (Kd.int .u8) _ _ _ ((Int.tmod a0 128) % 256) [.int .u8 ((Int.tmod a0 128) % 256)] from rfl) (Reps.none _ _))); intro v276 w2 ho3 hb hg_ hnew_; clear hg_ hnew_; (first | rw [← Ny275.out] at ho3 | (simp only [Int.reduceToNat] at ho3; rw [← Ny275.out] at ho3)); have n0_ := qM (Kd.R_lower ho3 (eZ (by repeat (first | (with_reducible first | exact HB.out | apply eA | apply eN | apply eD) | exact HB.out)))); have n1_ := qM (eT (by repeat (first | (with_reducible first | exact HB.out | apply eA | apply eN | apply eD) | exact HB.out)) hb); clear HB; have HO277 := n0_; have HB := n1_; clear n0_ n1_; clear hb ho3; have hcv4 := own_string (P := Try.prog) Try.underlying84 Try.underlying5 Try.underlying9 (Kd.own_of_R HO277.out)))
 go_loopg [0, 3] k (fun kq v0 v3 w' => ∃ (x0_1 : Int) (x3_1 : ByteArray), v0 = .int .u64 x0_1 ∧ v3 = .string x3_1 ∧ Aside0 (hogsheadref01_Num.l0 kq x0_1 x3_1 = some r) ∧ Aside0 (kq ≤ k) ∧ Aside0 (Below w.heap.size w w'))
 case atStart => exact ⟨(IntKind.u64.wrap (Int.tdiv a0 128)), (strOfNums y275), (by first | rfl | (simp; done) | (simp [*]; done)), (by first | rfl | (simp; done) | (simp [*]; done)), H', ⟨Nat.le_refl _⟩, ⟨by repeat (first | (with_reducible first | exact HB.out | apply eA | apply eN | apply eD) | exact HB.out)⟩⟩
 case round =>
  clear H'
  try clear c2
  try clear p2
  try clear hcv4
  obtain ⟨x0_1, x3_1, rfl, rfl, HA, HK1, HB⟩ := hrel
  cases gk with
  | zero => exact absurd HA.out (by simp [hogsheadref01_Num.l0])
  | succ k1 =>
   have H := HA.out
   clear HA
   simp only [hogsheadref01_Num.l0] at H
   by_cases c5 : x0_1 > 0
   ·rw [if_pos c5] at H
    have c5b0 : decide (0 < x0_1) = true := decide_eq_true c5
    clear c5
    obtain ⟨y278, hy278⟩ : ∃ y_ : List Int, y_ = (([(((Int.tmod x0_1 128) % 256) + 128) % 256] : List Int)) := ⟨_, rfl⟩
    replace H : (if (strOfNums y278).size + x3_1.size ≤ 9223372036854775807 then (hogsheadref01_Num.l0 k1 (IntKind.u64.wrap (Int.tdiv x0_1 128)) ((strOfNums y278) ++ x3_1)) else (none)) = some r := by first | (rw [hy278]; with_reducible exact H) | (have H2_ := (Option.bind_some _ _).symm.trans H; rw [hy278]; with_reducible exact H2_) | (have H2_ := (Option.bind_some _ _).symm.trans H; with_reducible exact H2_) | with_reducible exact H | (rw [hy278]; exact H) | exact H
    have Ny278 := qM hy278
    clear hy278
    by_cases c6 : (strOfNums y278).size + x3_1.size ≤ 9223372036854775807
    ·rw [if_pos c6] at H
     have c6b0 := eq_true c6
     have c6b1 : decide ((strOfNums y278).size + x3_1.size ≤ 9223372036854775807) = true := decide_eq_true c6
     try have c6b2 : (9223372036854775807 < (strOfNums y278).size + x3_1.size) = False := eq_false (Nat.not_lt.2 c6)
     have H' := qM H
     clear H
     go_wp2_with (first | ((with_reducible refine gate_dst (N := 17) rfl ?_); refine Kd.R_lit (Kd.int .u8) _ 5 ?hg (N := 17) ?hd (xs := ([(((Int.tmod x0_1 128) % 256) + 128) % 256] : List Int)) (inner := [.int .u8 ((((Int.tmod x0_1 128) % 256) + 128) % 256)]) (ok := fun _ => True) (okp := fun _ => True) ?hr ?hp (fun _ hk => hk) trivial (Below.refl _ _) (Nat.le_refl _) (by simp) ?_; (case hd => rfl); (case hg => rfl); (case hr => first | (go_simp; done) | (go_simp; rfl)); (case hp => exact (Reps.one (show Kd.M (Kd.int .u8) _ _ _ ((((Int.tmod x0_1 128) % 256) + 128) % 256) [.int .u8 ((((Int.tmod x0_1 128) % 256) + 128) % 256)] from rfl) (Reps.none _ _))); intro v279 w7 ho8 hb hg_ hnew_; clear hg_ hnew_; (first | rw [← Ny278.out] at ho8 | (simp only [Int.reduceToNat] at ho8; rw [← Ny278.out] at ho8)); have n0_ := qM (Kd.R_lower ho8 (eZ (by repeat (first | (with_reducible first | exact HB.out | apply eA | apply eN | apply eD) | exact HB.out)))); have n1_ := qM (eT (by repeat (first | (with_reducible first | exact HB.out | apply eA | apply eN | apply eD) | exact HB.out)) hb); clear HB; have HO280 := n0_; have HB := n1_; clear n0_ n1_; clear hb ho8; have hcv9 := own_string (P := Try.prog) Try.underlying84 Try.underlying5 Try.underlying9 (Kd.own_of_R HO280.out)))
     go_roundg k1
     case measure => have := HK1.out; omega
     case rel => exact ⟨(IntKind.u64.wrap (Int.tdiv x0_1 128)), ((strOfNums y278) ++ x3_1), (by first | rfl | (simp; done) | (simp [*]; done)), (by first | rfl | (simp; done) | (simp [*]; done)), H', ⟨by have := HK1.out; omega⟩, ⟨by repeat (first | (with_reducible first | exact HB.out | apply eA | apply eN | apply eD) | exact HB.out)⟩⟩
    ·rw [if_neg c6] at H
     exact absurd H (by simp)
   ·rw [if_neg c5] at H
    have c5b0 : decide (0 < x0_1) = false := decide_eq_false c5
    clear c5
    obtain rfl := Option.some.inj H
    go_wp2
    go_ret
    exact ⟨by first | rfl | (simp [errW_none, errW_some] <;> rfl) | (simp [*, errW_none, errW_some] <;> rfl), by repeat (first | (with_reducible first | exact HB.out | apply eA | apply eN | apply eD) | exact HB.out)⟩

/-! ### hogsheadref01_Text: function 29 -/
def hogsheadref01_Text.f (k : Nat) (a0 : ByteArray) : Option ByteArray := (hogsheadref01_Num.f k (IntKind.u64.wrap (a0.size : Int))).bind fun t => if t.size + a0.size ≤ 9223372036854775807 then some (t ++ a0) else none
theorem hogsheadref01_Text.mono : ∀ a0 k, LeO (hogsheadref01_Text.f k a0) (hogsheadref01_Text.f (k + 1) a0) := by
  intro a0 k
  unfold hogsheadref01_Text.f
  exact LeO.bind (hogsheadref01_Num.mono _ _) (fun _ => LeO.refl _)
set_option maxRecDepth 100000 in
theorem hogsheadref01_Text.calls (k : Nat) (a0 : ByteArray) (r : ByteArray) (w : World) (h : hogsheadref01_Text.f k a0 = some r) :
    Calls Try.prog 29 #[.string a0] w fun e w' => e = .returned (.string r) ∧ Below w.heap.size w w' := by
  obtain ⟨t, A2, H⟩ := Option.bind_eq_some_iff.mp h
  have A2 := Aside0.mk A2
  clear h
  by_cases c3 : t.size + a0.size ≤ 9223372036854775807
  · rw [if_pos c3] at H
    obtain rfl := Option.some.inj H
    clear H
    have HC := Aside0.mk c3
    clear c3
    go_enter Try.func29, Try.ntmps29
    go_wp2_with (go_at_call 28; (with_reducible refine (hogsheadref01_Num.calls k _ t _ A2.out).mono ?_); rintro e w4 ⟨rfl, hb⟩; have HB := Aside0.mk hb; clear hb; have c3b0 := eq_true HC.out; have c3b1 := decide_eq_true HC.out; have c3b2 := eq_false (Nat.not_lt.2 HC.out))
    go_ret
    exact ⟨rfl, HB.out⟩
  · rw [if_neg c3] at H
    cases H

end Go.Proofs.Ythnhfmmiaknhgaa.PAll
