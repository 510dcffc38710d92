/- Functions of the program as plain Lean functions, and that each call comes to what they say: several texts in one. Laid by a program of this session (packx.py). -/
import Derived.Test.YtffjbbedjddpmaaPAllx0
import Derived.Test.YtffjbbedjddpmaaPAllx1
import Derived.Test.YtffjbbedjddpmaaShelfIter
import Derived.Test.YtffjbbedjddpmaaPAllx29
namespace Go.Proofs.Ytffjbbedjddpmaa.PAll
open Go.RowKit Go.Proofs.YtffjbbedjddpmaaW.PrintWords Go.Proofs.YtffjbbedjddpmaaW.PrintLast Go.Proofs.YtffjbbedjddpmaaW.PrintMore
attribute [local go_sem] max2_int min2_int max_two min_two max_three min_three max_four min_four   -- for this text's walks alone
set_option linter.unusedVariables false
set_option linter.unusedSimpArgs false
attribute [local irreducible] World.setCell

attribute [local go_sem high] eqA27
/-! ### hogsheadref10_Keys: function 12 -/
def hogsheadref10_Keys.l0 : Nat → List (S27) → List (S27) → Int → Option (Bool)
 | 0, _, _, _ => none
 | k + 1, x0, x1, x5 => if x5 < (x0.length : Int) then (if 0 ≤ x5 then (if x5 < (x1.length : Int) then (if (!(((rd_T27 x0 x5).f0) == ((rd_T27 x1 x5).f0)) || (!(((rd_T27 x0 x5).f1) == ((rd_T27 x1 x5).f1)))) = true then (some false) else (hogsheadref10_Keys.l0 k x0 x1 (wrap64 (x5 + 1)))) else (none)) else (none)) else (some true)
def hogsheadref10_Keys.f (k : Nat) (l0 : List (S27)) (l1 : List (S27)) : Option (Bool) := if (l0.length : Int) = (l1.length : Int) then (hogsheadref10_Keys.l0 k l0 l1 0) else (some false)
theorem hogsheadref10_Keys.mono_l : ∀ k, (∀ y0 y1 y2, LeO (hogsheadref10_Keys.l0 k y0 y1 y2) (hogsheadref10_Keys.l0 (k + 1) y0 y1 y2))
 | 0 => fun _ _ _ r h => by simp [hogsheadref10_Keys.l0] at h
 | k + 1 => by
  have ih0 := hogsheadref10_Keys.mono_l k
  ·intro y0 y1 y2
   unfold hogsheadref10_Keys.l0
   repeat' first
   | (with_reducible exact ih0 _ _ _)
   | (with_reducible exact LeO.refl _)
   | (with_reducible exact LeO.none _)
   | (with_reducible refine LeO.ite ?_ ?_)
   | (with_reducible refine LeO.bind ?_ (fun _ => ?_))
   | exact ih0 _ _ _
   | exact LeO.none _
   | refine LeO.ite ?_ ?_
   | refine LeO.bind ?_ (fun _ => ?_)
theorem hogsheadref10_Keys.mono : ∀ a0 a1 k, LeO (hogsheadref10_Keys.f k a0 a1) (hogsheadref10_Keys.f (k + 1) a0 a1) := by
 intro a0 a1 k
 have ih0 := hogsheadref10_Keys.mono_l k
 unfold hogsheadref10_Keys.f
 repeat' first
   | (with_reducible exact ih0 _ _ _)
   | (with_reducible exact LeO.refl _)
   | (with_reducible exact LeO.none _)
   | (with_reducible refine LeO.ite ?_ ?_)
   | (with_reducible refine LeO.bind ?_ (fun _ => ?_))
   | exact ih0 _ _ _
   | exact LeO.none _
   | refine LeO.ite ?_ ?_
   | refine LeO.bind ?_ (fun _ => ?_)
set_option maxHeartbeats 40000000 in
set_option maxRecDepth 100000 in
theorem hogsheadref10_Keys.calls (k : Nat) (A0 : Option Addr) (c0 : Nat) (l0 : List (S27)) (A1 : Option Addr) (c1 : Nat) (l1 : List (S27)) (r : Bool) (w : World) (hr0 : Kd.C k27 w A0 l0.length l0) (hc0 : l0.length ≤ c0) (hr1 : Kd.C k27 w A1 l1.length l1) (hc1 : l1.length ≤ c1) (h : hogsheadref10_Keys.f k l0 l1 = some r) :
  Calls Try.prog 12 #[.slice A0 l0.length c0, .slice A1 l1.length c1] w fun e w' => e = .returned (.bool r) ∧ Drawn0 w w' := by
 have hu27 := Try.underlying27
 have HR0 := qM hr0
 have HC0 := qM hc0
 clear hr0 hc0
 have HR1 := qM hr1
 have HC1 := qM hc1
 clear hr1 hc1
 have H : (if (l0.length : Int) = (l1.length : Int) then (hogsheadref10_Keys.l0 k l0 l1 0) else (some false)) = some r := h
 clear h
 by_cases c3 : (l0.length : Int) = (l1.length : Int)
 ·rw [if_pos c3] at H
  have c3b0 : ((l0.length : Int) == (l1.length : Int)) = true := beq_iff_eq.mpr c3
  have c3b1 : ((l0.length : Int) != (l1.length : Int)) = false := bne_eq_false_iff_eq.mpr c3
  have c3b2 : (l0.length == l1.length) = true := by first | simpa using c3 | (simp at c3 ⊢; omega)
  clear c3
  have H' := qM H
  clear H
  go_enter Try.func12, Try.ntmps12
  go_wp2
  repeat (go_quiet (fail); try go_wp2)
  go_loopg [5] k (fun kq v5 w' => ∃ (x5_1 : Int), v5 = .int .i64 x5_1 ∧ Aside0 (hogsheadref10_Keys.l0 kq l0 l1 x5_1 = some r) ∧ Aside0 (kq ≤ k) ∧ Drawn0 w w')
  case atStart => exact ⟨(0), (by first | rfl | (simp; done) | (simp [*]; done)), H', ⟨Nat.le_refl _⟩, by repeat (first | exact Drawn0.refl _ | apply Drawn0.step)⟩
  case round =>
   clear H'
   try clear c1
   try clear p2
   try clear c3
   try clear c3b0
   try clear c3b1
   try clear c3b2
   obtain ⟨x5_1, rfl, HA, HK1, ⟨m1, rfl⟩⟩ := hrel
   cases gk with
   | zero => exact absurd HA.out (by simp [hogsheadref10_Keys.l0])
   | succ k1 =>
    have H := HA.out
    clear HA
    simp only [hogsheadref10_Keys.l0] at H
    by_cases c4 : x5_1 < (l0.length : Int)
    ·rw [if_pos c4] at H
     have c4b0 : decide (x5_1 < (l0.length : Int)) = true := decide_eq_true c4
     clear c4
     by_cases c5 : 0 ≤ x5_1
     ·rw [if_pos c5] at H
      have c5b0 : decide (0 ≤ x5_1) = true := decide_eq_true c5
      clear c5
      by_cases c6 : x5_1 < (l1.length : Int)
      ·rw [if_pos c6] at H
       have c6b0 : decide (x5_1 < (l1.length : Int)) = true := decide_eq_true c6
       clear c6
       by_cases c7 : (!(((rd_T27 l0 x5_1).f0) == ((rd_T27 l1 x5_1).f0)) || (!(((rd_T27 l0 x5_1).f1) == ((rd_T27 l1 x5_1).f1)))) = true
       ·rw [if_pos c7] at H
        have c7b0 : (!(((rd_T27 l0 x5_1).f0) == ((rd_T27 l1 x5_1).f0)) || (!(((rd_T27 l0 x5_1).f1) == ((rd_T27 l1 x5_1).f1)))) = true := c7
        clear c7
        obtain rfl := Option.some.inj H
        have p229 : 0 ≤ (x5_1 : Int) := of_decide_eq_true (by first | (with_reducible assumption) | assumption)
        have q229 : x5_1 < (l0.length : Int) := of_decide_eq_true (by first | (with_reducible assumption) | assumption)
        obtain ⟨ad229, e229, hx229_0, hx229_1⟩ := at_T27 HR0.out x5_1 p229 q229
        cases e229
        replace p229 := eq_true p229
        replace q229 := eq_true q229
        have p230 : 0 ≤ (x5_1 : Int) := of_decide_eq_true (by first | (with_reducible assumption) | assumption)
        have q230 : x5_1 < (l1.length : Int) := of_decide_eq_true (by first | (with_reducible assumption) | assumption)
        obtain ⟨ad230, e230, hx230_0, hx230_1⟩ := at_T27 HR1.out x5_1 p230 q230
        cases e230
        replace p230 := eq_true p230
        replace q230 := eq_true q230
        go_wp2
        repeat (go_quiet (fail); try go_wp2)
        go_ret
        exact ⟨by first | rfl | (simp; done) | (simp [*]; done), by repeat (first | exact Drawn0.refl _ | apply Drawn0.step)⟩
       ·rw [if_neg c7] at H
        have c7b0 : (!(((rd_T27 l0 x5_1).f0) == ((rd_T27 l1 x5_1).f0)) || (!(((rd_T27 l0 x5_1).f1) == ((rd_T27 l1 x5_1).f1)))) = false := by simpa using c7
        clear c7
        have H' := qM H
        clear H
        have p229 : 0 ≤ (x5_1 : Int) := of_decide_eq_true (by first | (with_reducible assumption) | assumption)
        have q229 : x5_1 < (l0.length : Int) := of_decide_eq_true (by first | (with_reducible assumption) | assumption)
        obtain ⟨ad229, e229, hx229_0, hx229_1⟩ := at_T27 HR0.out x5_1 p229 q229
        cases e229
        replace p229 := eq_true p229
        replace q229 := eq_true q229
        have p230 : 0 ≤ (x5_1 : Int) := of_decide_eq_true (by first | (with_reducible assumption) | assumption)
        have q230 : x5_1 < (l1.length : Int) := of_decide_eq_true (by first | (with_reducible assumption) | assumption)
        obtain ⟨ad230, e230, hx230_0, hx230_1⟩ := at_T27 HR1.out x5_1 p230 q230
        cases e230
        replace p230 := eq_true p230
        replace q230 := eq_true q230
        go_wp2
        repeat (go_quiet (fail); try go_wp2)
        go_roundg k1
        case measure => have := HK1.out; omega
        case rel => exact ⟨(wrap64 (x5_1 + 1)), (by first | rfl | (simp; done) | (simp [*]; done)), H', ⟨by have := HK1.out; omega⟩, by repeat (first | exact Drawn0.refl _ | apply Drawn0.step)⟩
      ·rw [if_neg c6] at H
       exact absurd H (by simp)
     ·rw [if_neg c5] at H
      exact absurd H (by simp)
    ·rw [if_neg c4] at H
     have c4b0 : decide (x5_1 < (l0.length : Int)) = false := decide_eq_false c4
     clear c4
     obtain rfl := Option.some.inj H
     go_wp2
     repeat (go_quiet (fail); try go_wp2)
     go_ret
     exact ⟨by first | rfl | (simp; done) | (simp [*]; done), by repeat (first | exact Drawn0.refl _ | apply Drawn0.step)⟩
 ·rw [if_neg c3] at H
  have c3b0 : ((l0.length : Int) == (l1.length : Int)) = false := beq_eq_false_iff_ne.mpr c3
  have c3b1 : ((l0.length : Int) != (l1.length : Int)) = true := bne_iff_ne.mpr c3
  have c3b2 : (l0.length == l1.length) = false := by first | simpa using c3 | (simp at c3 ⊢; omega)
  obtain rfl := Option.some.inj H
  go_enter Try.func12, Try.ntmps12
  go_wp2
  repeat (go_quiet (fail); try go_wp2)
  go_ret
  exact ⟨by first | rfl | (simp; done) | (simp [*]; done), by repeat (first | exact Drawn0.refl _ | apply Drawn0.step)⟩

end Go.Proofs.Ytffjbbedjddpmaa.PAll
namespace Go.Proofs.Ytffjbbedjddpmaa.PAll
open Go.RowKit Go.Proofs.YtffjbbedjddpmaaW.PrintWords Go.Proofs.YtffjbbedjddpmaaW.PrintLast Go.Proofs.YtffjbbedjddpmaaW.PrintMore
attribute [local go_sem] max2_int min2_int max_two min_two max_three min_three max_four min_four   -- for this text's walks alone
set_option linter.unusedVariables false
set_option linter.unusedSimpArgs false
attribute [local irreducible] World.setCell

/-! ### hogsheadref10_Ints: function 15 -/
def hogsheadref10_Ints.l0 : Nat → List Int → List Int → Int → Option (Bool)
 | 0, _, _, _ => none
 | k + 1, x0, x1, x5 => if x5 < (x0.length : Int) then (if 0 ≤ x5 then (if x5 < (x1.length : Int) then (if (rd x0 x5) = (rd x1 x5) then (hogsheadref10_Ints.l0 k x0 x1 (wrap64 (x5 + 1))) else (some false)) else (none)) else (none)) else (some true)
def hogsheadref10_Ints.f (k : Nat) (l0 : List Int) (l1 : List Int) : Option (Bool) := if (l0.length : Int) = (l1.length : Int) then (hogsheadref10_Ints.l0 k l0 l1 0) else (some false)
theorem hogsheadref10_Ints.mono_l : ∀ k, (∀ y0 y1 y2, LeO (hogsheadref10_Ints.l0 k y0 y1 y2) (hogsheadref10_Ints.l0 (k + 1) y0 y1 y2))
 | 0 => fun _ _ _ r h => by simp [hogsheadref10_Ints.l0] at h
 | k + 1 => by
  have ih0 := hogsheadref10_Ints.mono_l k
  ·intro y0 y1 y2
   unfold hogsheadref10_Ints.l0
   repeat' first
   | (with_reducible exact ih0 _ _ _)
   | (with_reducible exact LeO.refl _)
   | (with_reducible exact LeO.none _)
   | (with_reducible refine LeO.ite ?_ ?_)
   | (with_reducible refine LeO.bind ?_ (fun _ => ?_))
   | exact ih0 _ _ _
   | exact LeO.none _
   | refine LeO.ite ?_ ?_
   | refine LeO.bind ?_ (fun _ => ?_)
theorem hogsheadref10_Ints.mono : ∀ a0 a1 k, LeO (hogsheadref10_Ints.f k a0 a1) (hogsheadref10_Ints.f (k + 1) a0 a1) := by
 intro a0 a1 k
 have ih0 := hogsheadref10_Ints.mono_l k
 unfold hogsheadref10_Ints.f
 repeat' first
   | (with_reducible exact ih0 _ _ _)
   | (with_reducible exact LeO.refl _)
   | (with_reducible exact LeO.none _)
   | (with_reducible refine LeO.ite ?_ ?_)
   | (with_reducible refine LeO.bind ?_ (fun _ => ?_))
   | exact ih0 _ _ _
   | exact LeO.none _
   | refine LeO.ite ?_ ?_
   | refine LeO.bind ?_ (fun _ => ?_)
set_option maxHeartbeats 40000000 in
set_option maxRecDepth 100000 in
theorem hogsheadref10_Ints.calls (k : Nat) (A0 : Option Addr) (c0 : Nat) (l0 : List Int) (A1 : Option Addr) (c1 : Nat) (l1 : List Int) (r : Bool) (w : World) (hr0 : Kd.C (Kd.int .i64) w A0 l0.length l0) (hc0 : l0.length ≤ c0) (hr1 : Kd.C (Kd.int .i64) w A1 l1.length l1) (hc1 : l1.length ≤ c1) (h : hogsheadref10_Ints.f k l0 l1 = some r) :
  Calls Try.prog 15 #[.slice A0 l0.length c0, .slice A1 l1.length c1] w fun e w' => e = .returned (.bool r) ∧ Drawn0 w w' := by
 have HR0 := qM hr0
 have HC0 := qM hc0
 clear hr0 hc0
 have HR1 := qM hr1
 have HC1 := qM hc1
 clear hr1 hc1
 have H : (if (l0.length : Int) = (l1.length : Int) then (hogsheadref10_Ints.l0 k l0 l1 0) else (some false)) = some r := h
 clear h
 by_cases c3 : (l0.length : Int) = (l1.length : Int)
 ·rw [if_pos c3] at H
  have c3b0 : ((l0.length : Int) == (l1.length : Int)) = true := beq_iff_eq.mpr c3
  have c3b1 : ((l0.length : Int) != (l1.length : Int)) = false := bne_eq_false_iff_eq.mpr c3
  have c3b2 : (l0.length == l1.length) = true := by first | simpa using c3 | (simp at c3 ⊢; omega)
  clear c3
  have H' := qM H
  clear H
  go_enter Try.func15, Try.ntmps15
  go_wp2
  repeat (go_quiet (fail); try go_wp2)
  go_loopg [5] k (fun kq v5 w' => ∃ (x5_1 : Int), v5 = .int .i64 x5_1 ∧ Aside0 (hogsheadref10_Ints.l0 kq l0 l1 x5_1 = some r) ∧ Aside0 (kq ≤ k) ∧ Drawn0 w w')
  case atStart => exact ⟨(0), (by first | rfl | (simp; done) | (simp [*]; done)), H', ⟨Nat.le_refl _⟩, by repeat (first | exact Drawn0.refl _ | apply Drawn0.step)⟩
  case round =>
   clear H'
   try clear c1
   try clear p2
   try clear c3
   try clear c3b0
   try clear c3b1
   try clear c3b2
   obtain ⟨x5_1, rfl, HA, HK1, ⟨m1, rfl⟩⟩ := hrel
   cases gk with
   | zero => exact absurd HA.out (by simp [hogsheadref10_Ints.l0])
   | succ k1 =>
    have H := HA.out
    clear HA
    simp only [hogsheadref10_Ints.l0] at H
    by_cases c4 : x5_1 < (l0.length : Int)
    ·rw [if_pos c4] at H
     have c4b0 : decide (x5_1 < (l0.length : Int)) = true := decide_eq_true c4
     clear c4
     by_cases c5 : 0 ≤ x5_1
     ·rw [if_pos c5] at H
      have c5b0 : decide (0 ≤ x5_1) = true := decide_eq_true c5
      clear c5
      by_cases c6 : x5_1 < (l1.length : Int)
      ·rw [if_pos c6] at H
       have c6b0 : decide (x5_1 < (l1.length : Int)) = true := decide_eq_true c6
       clear c6
       by_cases c7 : (rd l0 x5_1) = (rd l1 x5_1)
       ·rw [if_pos c7] at H
        have c7b0 : ((rd l0 x5_1) == (rd l1 x5_1)) = true := beq_iff_eq.mpr c7
        have c7b1 : ((rd l0 x5_1) != (rd l1 x5_1)) = false := bne_eq_false_iff_eq.mpr c7
        clear c7
        have H' := qM H
        clear H
        have p256 : 0 ≤ (x5_1 : Int) := of_decide_eq_true (by first | (with_reducible assumption) | assumption)
        have q256 : x5_1 < (l0.length : Int) := of_decide_eq_true (by first | (with_reducible assumption) | assumption)
        obtain ⟨ad256, e256, hx256_0⟩ := Kd.at_int HR0.out x5_1 p256 q256
        cases e256
        replace p256 := eq_true p256
        replace q256 := eq_true q256
        have p257 : 0 ≤ (x5_1 : Int) := of_decide_eq_true (by first | (with_reducible assumption) | assumption)
        have q257 : x5_1 < (l1.length : Int) := of_decide_eq_true (by first | (with_reducible assumption) | assumption)
        obtain ⟨ad257, e257, hx257_0⟩ := Kd.at_int HR1.out x5_1 p257 q257
        cases e257
        replace p257 := eq_true p257
        replace q257 := eq_true q257
        go_wp2
        repeat (go_quiet (fail); try go_wp2)
        go_roundg k1
        case measure => have := HK1.out; omega
        case rel => exact ⟨(wrap64 (x5_1 + 1)), (by first | rfl | (simp; done) | (simp [*]; done)), H', ⟨by have := HK1.out; omega⟩, by repeat (first | exact Drawn0.refl _ | apply Drawn0.step)⟩
       ·rw [if_neg c7] at H
        have c7b0 : ((rd l0 x5_1) == (rd l1 x5_1)) = false := beq_eq_false_iff_ne.mpr c7
        have c7b1 : ((rd l0 x5_1) != (rd l1 x5_1)) = true := bne_iff_ne.mpr c7
        obtain rfl := Option.some.inj H
        have p256 : 0 ≤ (x5_1 : Int) := of_decide_eq_true (by first | (with_reducible assumption) | assumption)
        have q256 : x5_1 < (l0.length : Int) := of_decide_eq_true (by first | (with_reducible assumption) | assumption)
        obtain ⟨ad256, e256, hx256_0⟩ := Kd.at_int HR0.out x5_1 p256 q256
        cases e256
        replace p256 := eq_true p256
        replace q256 := eq_true q256
        have p257 : 0 ≤ (x5_1 : Int) := of_decide_eq_true (by first | (with_reducible assumption) | assumption)
        have q257 : x5_1 < (l1.length : Int) := of_decide_eq_true (by first | (with_reducible assumption) | assumption)
        obtain ⟨ad257, e257, hx257_0⟩ := Kd.at_int HR1.out x5_1 p257 q257
        cases e257
        replace p257 := eq_true p257
        replace q257 := eq_true q257
        go_wp2
        repeat (go_quiet (fail); try go_wp2)
        go_ret
        exact ⟨by first | rfl | (simp; done) | (simp [*]; done), by repeat (first | exact Drawn0.refl _ | apply Drawn0.step)⟩
      ·rw [if_neg c6] at H
       exact absurd H (by simp)
     ·rw [if_neg c5] at H
      exact absurd H (by simp)
    ·rw [if_neg c4] at H
     have c4b0 : decide (x5_1 < (l0.length : Int)) = false := decide_eq_false c4
     clear c4
     obtain rfl := Option.some.inj H
     go_wp2
     repeat (go_quiet (fail); try go_wp2)
     go_ret
     exact ⟨by first | rfl | (simp; done) | (simp [*]; done), by repeat (first | exact Drawn0.refl _ | apply Drawn0.step)⟩
 ·rw [if_neg c3] at H
  have c3b0 : ((l0.length : Int) == (l1.length : Int)) = false := beq_eq_false_iff_ne.mpr c3
  have c3b1 : ((l0.length : Int) != (l1.length : Int)) = true := bne_iff_ne.mpr c3
  have c3b2 : (l0.length == l1.length) = false := by first | simpa using c3 | (simp at c3 ⊢; omega)
  obtain rfl := Option.some.inj H
  go_enter Try.func15, Try.ntmps15
  go_wp2
  repeat (go_quiet (fail); try go_wp2)
  go_ret
  exact ⟨by first | rfl | (simp; done) | (simp [*]; done), by repeat (first | exact Drawn0.refl _ | apply Drawn0.step)⟩

end Go.Proofs.Ytffjbbedjddpmaa.PAll
namespace Go.Proofs.Ytffjbbedjddpmaa.PAll
open Go.RowKit Go.Proofs.YtffjbbedjddpmaaW.PrintWords Go.Proofs.YtffjbbedjddpmaaW.PrintLast Go.Proofs.YtffjbbedjddpmaaW.PrintMore
attribute [local go_sem] max2_int min2_int max_two min_two max_three min_three max_four min_four   -- for this text's walks alone
set_option linter.unusedVariables false
set_option linter.unusedSimpArgs false
attribute [local irreducible] World.setCell

/-! ### shelf_Bad: function 16 -/
-- IMPORT Derived.Test.YtffjbbedjddpmaaShelfIter
def shelf_Bad.f (k : Nat) (l0_0 : List ByteArray) (l0_1 : List S94) (a0_2 : Int) (a0_3 : Bool) : Option (List Int) := if l0_0.length ≤ 17592186044416 then (shelf_go k l0_0 l0_1 a0_2 a0_3 l0_0.length 0).bind fun l => some ((l.filter (·.2.2.1)).map (·.1)) else none
theorem shelf_Bad.mono : ∀ l0_0 l0_1 a0_2 a0_3 k, LeO (shelf_Bad.f k l0_0 l0_1 a0_2 a0_3) (shelf_Bad.f (k + 1) l0_0 l0_1 a0_2 a0_3) := fun l0 l1 a2 a3 k => LeO.ite (LeO.bind (shelf_go_mono k l0 l1 a2 a3 _ _) (fun _ => LeO.refl _)) (LeO.refl _)
/-- The bad slots. -/
def badOf (l : List Spot) : List Int := (l.filter (·.2.2.1)).map (·.1)
theorem badOf_add (l : List Spot) (x : Spot) : badOf (l ++ [x]) = badOf l ++ (if x.2.2.1 = true then [x.1] else []) := by
  unfold badOf
  rw [List.filter_append, List.map_append, List.filter_cons, List.filter_nil]
  split <;> rfl
theorem badOf_len (l : List Spot) : (badOf l).length ≤ l.length := by
  unfold badOf
  rw [List.length_map]
  exact List.length_filter_le _ _
/-- The box holds a slice that owns the bad slots. -/
def badHolds (n₀ B : Nat) (pre : List Spot) (W : World) : Prop := ∃ v, Boxed W B 33 v ∧ W.ownsRow n₀ 3 1 v (badOf pre).length ((badOf pre).map (fun x => Value.int .i64 x)) ∧ True
theorem badHolds_own (n₀ B : Nat) : Own (badHolds n₀ B) := holdsRow_own n₀ B 33 3 1 (fun pre => (badOf pre).length) (fun pre => (badOf pre).map (fun x => Value.int .i64 x)) (fun _ _ => True)
section
attribute [local go_sem] Oper.semAt_some
set_option maxRecDepth 100000 in
set_option maxHeartbeats 4000000 in
theorem shelf_Bad.calls (k : Nat) (A0_0 : Option Addr) (c0_0 : Nat) (l0_0 : List ByteArray) (A0_1 : Option Addr) (c0_1 : Nat) (l0_1 : List (S94)) (a0_2 : Int) (a0_3 : Bool) (r : List Int) (w : World) (hr0_0 : Kd.C Kd.string w A0_0 l0_0.length l0_0) (hc0_0 : l0_0.length ≤ c0_0) (hr0_1 : Kd.C k94 w A0_1 l0_1.length l0_1) (hc0_1 : l0_1.length ≤ c0_1) (h : shelf_Bad.f k l0_0 l0_1 a0_2 a0_3 = some r) :
    Calls Try.prog 16 #[.agg #[.slice A0_0 l0_0.length c0_0, .slice A0_1 l0_1.length c0_1, .int .i64 a0_2, .bool a0_3]] w fun e w' => ∃ v0_ : Value, e = .returned v0_ ∧ Kd.R (Kd.int .i64) 3 w' w.heap.size (fun _ => True) v0_ r ∧ Below w.heap.size w w' := by
  have hu25 := Try.underlying25
  have hu75 := Try.underlying75
  unfold shelf_Bad.f at h
  have hg : l0_0.length ≤ 17592186044416 := Decidable.byContradiction fun hg => by
    rw [if_neg hg] at h
    cases h
  rw [if_pos hg] at h
  have HG := Aside0.mk hg
  clear hg
  obtain ⟨q, hq, h⟩ := Option.bind_eq_some_iff.mp h
  obtain ⟨hw, rfl⟩ := shelf_all_well hq
  have HW := Aside0.mk hw
  have HF := Aside0.mk (Option.some.inj h)
  have HR0 := Aside0.mk hr0_0
  have HR1 := Aside0.mk hr0_1
  have HC0 := Aside0.mk hc0_0
  have HC1 := Aside0.mk hc0_1
  have HL := Aside0.mk (show l0_0.length ≤ 9223372036854775807 from hr0_0.2.1)
  clear h hq hw hr0_0 hr0_1 hc0_0 hc0_1
  refine (callsIn_wide (n := 4)).1 ?_
  refine callsIn_of_wp_marks Try.func16 rfl trivial ?_ rfl
  simp only [Try.ntmps16, List.size_toArray, List.length_cons, List.length_nil, Nat.reduceAdd, Nat.reduceSub, Array.replicate_succ, Array.replicate_zero, List.push_toArray, List.append_toArray, List.nil_append, List.cons_append]
  gi_wp2_with (first | (refine ⟨trivial, ?_⟩; gi_at_call 36; refine (callsIn_wide.2 (shelf_all.calls _ _ _ _ _ _ _ _ _)).mono ?_; rintro e w' ⟨rfl, rfl⟩))
  have hs1 := blk_new w (.cells #[.slice A0_0 l0_0.length c0_0, .slice A0_1 l0_1.length c0_1, .int .i64 a0_2, .bool a0_3] 25)
  have hB1 := (Below.refl w.heap.size w).alloc (Nat.le_refl _) (.cells #[.slice A0_0 l0_0.length c0_0, .slice A0_1 l0_1.length c0_1, .int .i64 a0_2, .bool a0_3] 25)
  generalize hW1 : w.alloc (.cells #[.slice A0_0 l0_0.length c0_0, .slice A0_1 l0_1.length c0_1, .int .i64 a0_2, .bool a0_3] 25) = W1 at *
  have hz1 : W1.heap.size = w.heap.size + 1 := by rw [← hW1]; simp
  rw [← hz1]
  have hs2 := blk_new W1 (.cells #[.slice none 0 0] 33)
  have hB2 := hB1.alloc hB1.size (.cells #[.slice none 0 0] 33)
  generalize hW2 : W1.alloc (.cells #[.slice none 0 0] 33) = W2 at *
  have hz2 : W2.heap.size = W1.heap.size + 1 := by rw [← hW2]; simp
  rw [← hz2]
  have hs3 := blk_new W2 (.cells #[.slice A0_0 l0_0.length c0_0, .slice A0_1 l0_1.length c0_1, .int .i64 a0_2, .bool a0_3] 25)
  have hs23 := blk_alloc hs2 (.cells #[.slice A0_0 l0_0.length c0_0, .slice A0_1 l0_1.length c0_1, .int .i64 a0_2, .bool a0_3] 25)
  have hB3 := hB2.alloc hB2.size (.cells #[.slice A0_0 l0_0.length c0_0, .slice A0_1 l0_1.length c0_1, .int .i64 a0_2, .bool a0_3] 25)
  generalize hW3 : W2.alloc (.cells #[.slice A0_0 l0_0.length c0_0, .slice A0_1 l0_1.length c0_1, .int .i64 a0_2, .bool a0_3] 25) = W3 at *
  have hz3 : W3.heap.size = W2.heap.size + 1 := by rw [← hW3]; simp
  clear hW1 hW2 hW3 hs1 hs2 hB1 hB2
  generalize W1.heap.size = g1 at *
  generalize W2.heap.size = g5 at *
  have HB3 := Aside0.mk hB3
  have HZ := Aside0.mk (show w.heap.size ≤ g1 ∧ w.heap.size ≤ W3.heap.size ∧ g5 < W3.heap.size ∧ g1 < g5 by omega)
  clear hz1 hz2 hz3 hB3
  have h1 : 1 ≤ 4 := by omega
  refine wpIn_rangeFunc_ownH rfl h1 (gf := 55) (lb := #[.pointer (some ⟨g5, 0, none⟩)]) rfl trivial (enters_of Try.func55 (by kernel_rfl) rfl)
    (shelf_stops k l0_0 l0_1 a0_2 a0_3 HW.out 3 (by omega) w.heap.size g5 c0_0 c0_1 A0_0 A0_1 W3 HZ.out.2.1 hs3 (fun W' h => Kd.C_below HR0.out (HB3.out.trans h)) HC0.out (fun W' h => Kd.C_below HR1.out (HB3.out.trans h)) HC1.out HL.out)
    keepsToo_t (keepsToo_b HZ.out.2.1 HZ.out.2.2.1) (Below.refl _ _) (fun _ => rfl)
    (fun pre W => (badHolds w.heap.size g1 pre W ∧ W.heap[g5]? = some (.cells #[.slice A0_0 l0_0.length c0_0, .slice A0_1 l0_1.length c0_1, .int .i64 a0_2, .bool a0_3] 25 (0, 0))) ∧ Below w.heap.size w W)
    (fun _ _ _ => False)
    (OwnFrom.and (OwnFrom.and ((badHolds_own w.heap.size g1).from _) (fun s A B row hs hg hr => blk_kept hs hg hr)) (ownFrom_below (Nat.le_refl _) HZ.out.2.1))
    (fun _ _ _ _ _ hs _ _ => hs)
    ⟨⟨⟨_, hs23, World.ownsRow_nil _ _ _ _, trivial⟩, hs3⟩, HB3.out⟩
    (fun x a' W => ∃ gx, g5 < gx ∧ W.heap[gx]? = some (.cells #[.int .i64 x.1, .bool x.2.1, .bool x.2.2.1, .int .i64 x.2.2.2.1, .int .i64 x.2.2.2.2.1, .string x.2.2.2.2.2] 75 (0, 0)) ∧ a' = { tmps := #[.agg #[.slice A0_0 l0_0.length c0_0, .slice A0_1 l0_1.length c0_1, .int .i64 a0_2, .bool a0_3], .pointer (some ⟨w.heap.size, 0, none⟩), .slice none 0 0, .pointer (some ⟨g1, 0, none⟩), .pointer (some ⟨gx, 0, none⟩), .agg #[.slice A0_0 l0_0.length c0_0, .slice A0_1 l0_1.length c0_1, .int .i64 a0_2, .bool a0_3], .func (.func 55) #[] #[.pointer (some ⟨g5, 0, none⟩)], spotVal x, undef, undef, undef, undef, undef, undef, undef, undef], defers := [] })
    (fun x a' s A B row hs hg hr => by obtain ⟨gx, h1, h2, h3⟩ := hs; exact ⟨gx, h1, blk_kept h2 hg hr, h3⟩) ?assign ?body ?done ?stop
  case assign =>
    rintro l pre x W K ⟨⟨⟨v, i1, i2, _⟩, i4⟩, iB⟩ hK
    have I1 := Aside0.mk i1
    have I2 := Aside0.mk i2
    have I4 := Aside0.mk i4
    have IB := Aside0.mk iB
    have HK := Aside0.mk hK
    clear i1 i2 i4 iB hK
    dsimp only [spotVal]
    gi_wp2
    refine HK.out _ _ ((KeepsOthers.alloc _ _).from _) (keepsToo.new _ IB.out.size (blk_lt I4.out)) ⟨⟨⟨v, I1.out.alloc _, I2.out.alloc _, trivial⟩, blk_alloc I4.out _⟩, IB.out.alloc IB.out.size _⟩ ⟨W.heap.size, blk_lt I4.out, blk_new _ _, rfl⟩
  case body =>
    rintro l pre x a' W hl ⟨r, hr⟩ ⟨⟨⟨v, i1, i2, _⟩, i4⟩, iB⟩ ⟨gx, h5x, iX, rfl⟩ hlen
    have I1 := Aside0.mk i1
    have I2 := Aside0.mk i2
    have I4 := Aside0.mk i4
    have IB := Aside0.mk iB
    have IX := Aside0.mk iX
    have H5 := Aside0.mk h5x
    have HFo := Aside0.mk (badOf_add pre x)
    have HQ := Aside0.mk (show (badOf pre).length < 140737488355328 / 8 by have := badOf_len pre; have := HG.out; omega)
    clear i1 i2 i4 iB iX h5x hr hl hlen
    obtain ⟨x0, x1, x2, x3, x4, x5⟩ := x
    simp only at HFo
    have z0 : W.cell? ⟨gx, 0, none⟩ = some (.int .i64 x0) := (blk_cell IX.out 0).trans rfl
    have z2 : W.cell? ⟨gx, 2, none⟩ = some (.bool x2) := (blk_cell IX.out 2).trans rfl
    have y0 := I1.out.cell
    have f0 := I1.out.frozen
    obtain ⟨i0, hi, hz0, hz1, hz2⟩ := info_parts info3
    have HI := Aside0.mk (And.intro hi (And.intro hz0 (And.intro hz1 hz2)))
    clear hi hz0 hz1 hz2
    cases x2 with
    | true =>
      rw [if_pos rfl] at HFo
      gi_wp2_with (gi_at_builtin; refine wpListIn_append_own _ rfl _ _ 33 rfl w.heap.size 3 i0 (.int .i64 0) 1 8 Try.underlying33 HI.out.1 HI.out.2.1 HI.out.2.2.1 HI.out.2.2.2 rfl (by decide) _ _ _ rfl (I2.out.alloc _) ⟨W.heap.size, 0, none⟩ 1 1 [.int .i64 x0] rfl rfl (cell_one_new _ _ _) (by simp [Value.oneCell']) (by have := HQ.out; unfold maxLen; omega) (by have := HQ.out; omega) (by have := IB.out.size; simp; omega) ?_; intro v' w1 hown' hgrow _; obtain ⟨g', cap', rfl⟩ := ownsRow_succ hown'; obtain ⟨hv1, hv2, hr2, hk2, hb2⟩ := I1.out.appended (by decide) I2.out IB.out.size HZ.out.1 hown' hgrow; have hd1 := Aside0.mk (blk_row_kept I4.out (by decide) I2.out hgrow); have hown2 := Aside0.mk hown'; clear hown' hgrow; have hv2' := Aside0.mk hv2; have hr2' := Aside0.mk hr2; have hk2' := Aside0.mk hk2; have hb2' := Aside0.mk hb2; clear hv2 hr2 hk2 hb2; have hc1 := hv1.cell; have hf1 := hv1.frozen)
      refine ⟨hk2'.out.from _, ⟨hb2'.out, ?_⟩, ⟨⟨⟨_, hv2'.out, ?_, trivial⟩, ?_⟩, IB.out.trans hb2'.out⟩⟩
      · exact ((Below.heap_setCell _ _ _ g5 (by have := HZ.out; show g5 ≠ g1; omega)).trans hd1.out).trans I4.out.symm
      · rw [HFo.out, List.length_append, List.map_append]
        exact hr2'.out
      · exact (Below.heap_setCell _ _ _ g5 (by have := HZ.out; show g5 ≠ g1; omega)).trans hd1.out
    | false =>
      rw [if_neg (by decide), List.append_nil] at HFo
      gi_wp2
      refine ⟨KeepsFrom.refl _ _, keepsToo.refl _ _ _, ⟨⟨⟨v, I1.out, ?_, trivial⟩, I4.out⟩, IB.out⟩⟩
      rw [HFo.out]
      exact I2.out
  case done =>
    rintro D ys W hD rfl ⟨⟨⟨v, i1, i2, _⟩, i4⟩, iB⟩ hK
    have I1 := Aside0.mk i1
    have I2 := Aside0.mk i2
    have IB := Aside0.mk iB
    clear i1 i2 i4 iB
    have hq := HF.out
    have hq' : badOf (shelf_upto k l0_0 l0_1 a0_2 a0_3 l0_0.length) = r := hq
    rw [hq'] at I2
    clear hq hq'
    have z0 := I1.out.cell
    have HK := Aside0.mk hK
    clear hK
    gi_wp2
    refine ⟨by simp, .inl ⟨_, _, rfl, run_takeDeferred HK.out, ?_⟩⟩
    refine ⟨_, results_tmp rfl _ _ _, _, rfl, ?_, ?_⟩
    · exact Kd.R_of_own (ownsRow_putObj I2.out _ HK.out rfl) (fun _ _ => trivial)
    · exact IB.out.trans (belowK_b (w := w) (Nat.le_refl _) W D _ _ (Nat.le_trans HZ.out.2.1 hD) HK.out rfl rfl)
  case stop =>
    rintro D c pre W _ _ h _
    exact h.elim
end

end Go.Proofs.Ytffjbbedjddpmaa.PAll
namespace Go.Proofs.Ytffjbbedjddpmaa.PAll
open Go.RowKit Go.Proofs.YtffjbbedjddpmaaW.PrintWords Go.Proofs.YtffjbbedjddpmaaW.PrintLast Go.Proofs.YtffjbbedjddpmaaW.PrintMore
attribute [local go_sem] max2_int min2_int max_two min_two max_three min_three max_four min_four   -- for this text's walks alone
set_option linter.unusedVariables false
set_option linter.unusedSimpArgs false
attribute [local irreducible] World.setCell

/-! ### shelf_Free: function 20 -/
-- IMPORT Derived.Test.YtffjbbedjddpmaaShelfIter
def shelf_Free.f (k : Nat) (l0_0 : List ByteArray) (l0_1 : List S94) (a0_2 : Int) (a0_3 : Bool) : Option Int := (shelf_go k l0_0 l0_1 a0_2 a0_3 l0_0.length 0).bind fun l => some ((l.filter (·.2.1)).length : Int)
theorem shelf_Free.mono : ∀ l0_0 l0_1 a0_2 a0_3 k, LeO (shelf_Free.f k l0_0 l0_1 a0_2 a0_3) (shelf_Free.f (k + 1) l0_0 l0_1 a0_2 a0_3) := fun l0 l1 a2 a3 k => LeO.bind (shelf_go_mono k l0 l1 a2 a3 _ _) (fun _ => LeO.refl _)
section
attribute [local go_sem] Oper.semAt_some
set_option maxRecDepth 100000 in
set_option maxHeartbeats 4000000 in
theorem shelf_Free.calls (k : Nat) (A0_0 : Option Addr) (c0_0 : Nat) (l0_0 : List ByteArray) (A0_1 : Option Addr) (c0_1 : Nat) (l0_1 : List (S94)) (a0_2 : Int) (a0_3 : Bool) (r : Int) (w : World) (hr0_0 : Kd.C Kd.string w A0_0 l0_0.length l0_0) (hc0_0 : l0_0.length ≤ c0_0) (hr0_1 : Kd.C k94 w A0_1 l0_1.length l0_1) (hc0_1 : l0_1.length ≤ c0_1) (h : shelf_Free.f k l0_0 l0_1 a0_2 a0_3 = some r) :
    Calls Try.prog 20 #[.agg #[.slice A0_0 l0_0.length c0_0, .slice A0_1 l0_1.length c0_1, .int .i64 a0_2, .bool a0_3]] w fun e w' => e = .returned (.int .i64 r) ∧ Below w.heap.size w w' := by
  have hu25 := Try.underlying25
  have hu75 := Try.underlying75
  obtain ⟨q, hq, h⟩ := Option.bind_eq_some_iff.mp h
  obtain ⟨hw, rfl⟩ := shelf_all_well hq
  have HW := Aside0.mk hw
  have HF := Aside0.mk (Option.some.inj h)
  have HR0 := Aside0.mk hr0_0
  have HR1 := Aside0.mk hr0_1
  have HC0 := Aside0.mk hc0_0
  have HC1 := Aside0.mk hc0_1
  have HL := Aside0.mk (show l0_0.length ≤ 9223372036854775807 from hr0_0.2.1)
  clear h hq hw hr0_0 hr0_1 hc0_0 hc0_1
  refine (callsIn_wide (n := 4)).1 ?_
  refine callsIn_of_wp_marks Try.func20 rfl trivial ?_ rfl
  simp only [Try.ntmps20, List.size_toArray, List.length_cons, List.length_nil, Nat.reduceAdd, Nat.reduceSub, Array.replicate_succ, Array.replicate_zero, List.push_toArray, List.append_toArray, List.nil_append, List.cons_append]
  gi_wp2_with (first | (refine ⟨trivial, ?_⟩; gi_at_call 36; refine (callsIn_wide.2 (shelf_all.calls _ _ _ _ _ _ _ _ _)).mono ?_; rintro e w' ⟨rfl, rfl⟩))
  have hs1 := blk_new w (.cells #[.slice A0_0 l0_0.length c0_0, .slice A0_1 l0_1.length c0_1, .int .i64 a0_2, .bool a0_3] 25)
  have hB1 := (Below.refl w.heap.size w).alloc (Nat.le_refl _) (.cells #[.slice A0_0 l0_0.length c0_0, .slice A0_1 l0_1.length c0_1, .int .i64 a0_2, .bool a0_3] 25)
  generalize hW1 : w.alloc (.cells #[.slice A0_0 l0_0.length c0_0, .slice A0_1 l0_1.length c0_1, .int .i64 a0_2, .bool a0_3] 25) = W1 at *
  have hz1 : W1.heap.size = w.heap.size + 1 := by rw [← hW1]; simp
  rw [← hz1]
  have hs2 := blk_new W1 (.cells #[.int .i64 0] 3)
  have hB2 := hB1.alloc hB1.size (.cells #[.int .i64 0] 3)
  generalize hW2 : W1.alloc (.cells #[.int .i64 0] 3) = W2 at *
  have hz2 : W2.heap.size = W1.heap.size + 1 := by rw [← hW2]; simp
  rw [← hz2]
  have hs3 := blk_new W2 (.cells #[.slice A0_0 l0_0.length c0_0, .slice A0_1 l0_1.length c0_1, .int .i64 a0_2, .bool a0_3] 25)
  have hs23 := blk_alloc hs2 (.cells #[.slice A0_0 l0_0.length c0_0, .slice A0_1 l0_1.length c0_1, .int .i64 a0_2, .bool a0_3] 25)
  have hB3 := hB2.alloc hB2.size (.cells #[.slice A0_0 l0_0.length c0_0, .slice A0_1 l0_1.length c0_1, .int .i64 a0_2, .bool a0_3] 25)
  generalize hW3 : W2.alloc (.cells #[.slice A0_0 l0_0.length c0_0, .slice A0_1 l0_1.length c0_1, .int .i64 a0_2, .bool a0_3] 25) = W3 at *
  have hz3 : W3.heap.size = W2.heap.size + 1 := by rw [← hW3]; simp
  clear hW1 hW2 hW3 hs1 hs2 hB1 hB2
  generalize W1.heap.size = g1 at *
  generalize W2.heap.size = g5 at *
  have HB3 := Aside0.mk hB3
  have HZ := Aside0.mk (show w.heap.size ≤ g1 ∧ w.heap.size ≤ W3.heap.size ∧ g5 < W3.heap.size ∧ g1 < g5 by omega)
  clear hz1 hz2 hz3 hB3
  have h1 : 1 ≤ 4 := by omega
  refine wpIn_rangeFunc_ownH rfl h1 (gf := 55) (lb := #[.pointer (some ⟨g5, 0, none⟩)]) rfl trivial (enters_of Try.func55 (by kernel_rfl) rfl)
    (shelf_stops k l0_0 l0_1 a0_2 a0_3 HW.out 3 (by omega) w.heap.size g5 c0_0 c0_1 A0_0 A0_1 W3 HZ.out.2.1 hs3 (fun W' h => Kd.C_below HR0.out (HB3.out.trans h)) HC0.out (fun W' h => Kd.C_below HR1.out (HB3.out.trans h)) HC1.out HL.out)
    keepsToo_t (keepsToo_b HZ.out.2.1 HZ.out.2.2.1) (Below.refl _ _) (fun _ => rfl)
    (fun pre W => (W.heap[g1]? = some (.cells #[.int .i64 ((pre.filter (·.2.1)).length : Int)] 3 (0, 0)) ∧ g5 < W.heap.size) ∧ Below w.heap.size w W)
    (fun _ _ _ => False)
    (OwnFrom.and (fun s A B row hs hg hr => ⟨blk_kept hs.1 hg hr, Nat.lt_of_lt_of_le hs.2 hg.size⟩) (ownFrom_below (Nat.le_refl _) HZ.out.2.1))
    (fun _ _ _ _ _ hs _ _ => hs)
    ⟨⟨hs23, HZ.out.2.2.1⟩, HB3.out⟩
    (fun x a' W => ∃ gx, g5 < gx ∧ W.heap[gx]? = some (.cells #[.int .i64 x.1, .bool x.2.1, .bool x.2.2.1, .int .i64 x.2.2.2.1, .int .i64 x.2.2.2.2.1, .string x.2.2.2.2.2] 75 (0, 0)) ∧ a' = { tmps := #[.agg #[.slice A0_0 l0_0.length c0_0, .slice A0_1 l0_1.length c0_1, .int .i64 a0_2, .bool a0_3], .pointer (some ⟨w.heap.size, 0, none⟩), .int .i64 0, .pointer (some ⟨g1, 0, none⟩), .pointer (some ⟨gx, 0, none⟩), .agg #[.slice A0_0 l0_0.length c0_0, .slice A0_1 l0_1.length c0_1, .int .i64 a0_2, .bool a0_3], .func (.func 55) #[] #[.pointer (some ⟨g5, 0, none⟩)], spotVal x, undef, undef, undef, undef, undef], defers := [] })
    (fun x a' s A B row hs hg hr => by obtain ⟨gx, h1, h2, h3⟩ := hs; exact ⟨gx, h1, blk_kept h2 hg hr, h3⟩) ?assign ?body ?done ?stop
  case assign =>
    rintro l pre x W K ⟨⟨i1, i4⟩, iB⟩ hK
    have I1 := Aside0.mk i1
    have I4 := Aside0.mk i4
    have IB := Aside0.mk iB
    have HK := Aside0.mk hK
    clear i1 i4 iB hK
    dsimp only [spotVal]
    gi_wp2
    refine HK.out _ _ ((KeepsOthers.alloc _ _).from _) (keepsToo.new _ IB.out.size I4.out) ⟨⟨blk_alloc I1.out _, ?_⟩, IB.out.alloc IB.out.size _⟩ ⟨W.heap.size, I4.out, blk_new _ _, rfl⟩
    have := I4.out
    simp
    omega
  case body =>
    rintro l pre x a' W hl ⟨r, hr⟩ ⟨⟨i1, i4⟩, iB⟩ ⟨gx, h5x, iX, rfl⟩ hlen
    have I1 := Aside0.mk i1
    have I4 := Aside0.mk i4
    have IB := Aside0.mk iB
    have IX := Aside0.mk iX
    have H5 := Aside0.mk h5x
    have hfold : (pre ++ [x]).filter (·.2.1) = pre.filter (·.2.1) ++ (if x.2.1 = true then [x] else []) := by rw [List.filter_append, List.filter_cons, List.filter_nil]
    have HFo := Aside0.mk hfold
    have hq : (pre.filter (·.2.1)).length ≤ pre.length := List.length_filter_le _ _
    have HQ := Aside0.mk (show (pre.filter (·.2.1)).length < 9223372036854775807 from Nat.lt_of_le_of_lt hq (Nat.lt_of_lt_of_le hlen HL.out))
    clear i1 i4 iB iX h5x hr hl hlen hfold hq
    obtain ⟨x0, x1, x2, x3, x4, x5⟩ := x
    simp only at HFo
    generalize pre.filter (·.2.1) = q at *
    have z1 : W.cell? ⟨gx, 1, none⟩ = some (.bool x1) := (blk_cell IX.out 1).trans rfl
    have y0 : W.cell? ⟨g1, 0, none⟩ = some (.int .i64 (q.length : Int)) := (blk_cell I1.out 0).trans rfl
    have f0 := blk_frozen I1.out 0
    have hadd : wrap64 ((q.length : Int) + 1) = (q.length : Int) + 1 := by have := HQ.out; unfold wrap64; omega
    cases x1 with
    | true =>
      rw [if_pos rfl] at HFo
      gi_wp2
      refine ⟨(KeepsOthers.setCell _ _ _).from _, (keepsToo.refl _ _ _).set _ _ ?_ ?_, ⟨⟨?_, ?_⟩, ?_⟩⟩
      · exact HZ.out.1
      · have := HZ.out
        show g5 ≠ g1
        omega
      · rw [HFo.out, show ((q ++ [(x0, true, x2, x3, x4, x5)]).length : Int) = (q.length : Int) + 1 by simp]
        exact blk_put I1.out 0 _ rfl
      · simpa using I4.out
      · exact IB.out.setCell HZ.out.1 _
    | false =>
      rw [if_neg (by decide), List.append_nil] at HFo
      gi_wp2
      refine ⟨KeepsFrom.refl _ _, keepsToo.refl _ _ _, ⟨⟨?_, I4.out⟩, IB.out⟩⟩
      rw [HFo.out]
      exact I1.out
  case done =>
    rintro D ys W hD rfl ⟨⟨i1, i4⟩, iB⟩ hK
    have I1 := Aside0.mk i1
    have I4 := Aside0.mk i4
    have IB := Aside0.mk iB
    clear i1 i4 iB
    have hq := HF.out
    rw [hq] at I1
    clear hq
    have z0 : W.cell? ⟨g1, 0, none⟩ = some (.int .i64 r) := (blk_cell I1.out 0).trans rfl
    have HK := Aside0.mk hK
    clear hK
    gi_wp2
    refine ⟨by simp, .inl ⟨_, _, rfl, run_takeDeferred HK.out, ?_⟩⟩
    refine ⟨_, results_tmp rfl _ _ _, rfl, ?_⟩
    exact IB.out.trans (belowK_b (w := w) (Nat.le_refl _) W D _ _ (Nat.le_trans HZ.out.2.1 hD) HK.out rfl rfl)
  case stop =>
    rintro D c pre W _ _ h _
    exact h.elim
end

end Go.Proofs.Ytffjbbedjddpmaa.PAll
namespace Go.Proofs.Ytffjbbedjddpmaa.PAll
open Go.RowKit Go.Proofs.YtffjbbedjddpmaaW.PrintWords Go.Proofs.YtffjbbedjddpmaaW.PrintLast Go.Proofs.YtffjbbedjddpmaaW.PrintMore
attribute [local go_sem] max2_int min2_int max_two min_two max_three min_three max_four min_four   -- for this text's walks alone
set_option linter.unusedVariables false
set_option linter.unusedSimpArgs false
attribute [local irreducible] World.setCell

/-! ### hogsheadref10_Free: function 21 -/
def hogsheadref10_Free.l0 : Nat → Int → Int → List ByteArray → List (S94) → Int → Bool → Option (Int)
 | 0, _, _, _, _, _, _ => none
 | k + 1, x3, x4, x277000, x277001, x277002, x277003 => if x4 < (x277000.length : Int) then ((hogsheadref10_at.f k x277000 x277001 x277002 x277003 x4).bind fun bt277 => (if bt277.2.2.2.2 = true then (hogsheadref10_Free.l0 k (wrap64 (x3 + 1)) (wrap64 (x4 + 1)) x277000 x277001 x277002 x277003) else (hogsheadref10_Free.l0 k x3 (wrap64 (x4 + 1)) x277000 x277001 x277002 x277003))) else (some x3)
def hogsheadref10_Free.f (k : Nat) (l0_0 : List ByteArray) (l0_1 : List (S94)) (a0_2 : Int) (a0_3 : Bool) : Option (Int) := hogsheadref10_Free.l0 k 0 0 l0_0 l0_1 a0_2 a0_3
theorem hogsheadref10_Free.mono_l : ∀ k, (∀ y0 y1 y2 y3 y4 y5, LeO (hogsheadref10_Free.l0 k y0 y1 y2 y3 y4 y5) (hogsheadref10_Free.l0 (k + 1) y0 y1 y2 y3 y4 y5))
 | 0 => fun _ _ _ _ _ _ r h => by simp [hogsheadref10_Free.l0] at h
 | k + 1 => by
  have ih0 := hogsheadref10_Free.mono_l k
  ·intro y0 y1 y2 y3 y4 y5
   unfold hogsheadref10_Free.l0
   repeat' first
   | (with_reducible exact ih0 _ _ _ _ _ _)
   | (with_reducible exact hogsheadref10_at.mono _ _ _ _ _ _)
   | (with_reducible exact LeO.refl _)
   | (with_reducible exact LeO.none _)
   | (with_reducible refine LeO.ite ?_ ?_)
   | (with_reducible refine LeO.bind ?_ (fun _ => ?_))
   | exact ih0 _ _ _ _ _ _
   | exact hogsheadref10_at.mono _ _ _ _ _ _
   | exact LeO.none _
   | refine LeO.ite ?_ ?_
   | refine LeO.bind ?_ (fun _ => ?_)
theorem hogsheadref10_Free.mono : ∀ a0 a1 a2 a3 k, LeO (hogsheadref10_Free.f k a0 a1 a2 a3) (hogsheadref10_Free.f (k + 1) a0 a1 a2 a3) := by
 intro a0 a1 a2 a3 k
 have ih0 := hogsheadref10_Free.mono_l k
 unfold hogsheadref10_Free.f
 repeat' first
   | (with_reducible exact ih0 _ _ _ _ _ _)
   | (with_reducible exact hogsheadref10_at.mono _ _ _ _ _ _)
   | (with_reducible exact LeO.refl _)
   | (with_reducible exact LeO.none _)
   | (with_reducible refine LeO.ite ?_ ?_)
   | (with_reducible refine LeO.bind ?_ (fun _ => ?_))
   | exact ih0 _ _ _ _ _ _
   | exact hogsheadref10_at.mono _ _ _ _ _ _
   | exact LeO.none _
   | refine LeO.ite ?_ ?_
   | refine LeO.bind ?_ (fun _ => ?_)
set_option maxHeartbeats 40000000 in
set_option maxRecDepth 100000 in
theorem hogsheadref10_Free.calls (k : Nat) (A0_0 : Option Addr) (c0_0 : Nat) (l0_0 : List ByteArray) (A0_1 : Option Addr) (c0_1 : Nat) (l0_1 : List (S94)) (a0_2 : Int) (a0_3 : Bool) (r : Int) (w : World) (hr0_0 : Kd.C Kd.string w A0_0 l0_0.length l0_0) (hc0_0 : l0_0.length ≤ c0_0) (hr0_1 : Kd.C k94 w A0_1 l0_1.length l0_1) (hc0_1 : l0_1.length ≤ c0_1) (h : hogsheadref10_Free.f k l0_0 l0_1 a0_2 a0_3 = some r) :
  Calls Try.prog 21 #[.agg #[.slice A0_0 l0_0.length c0_0, .slice A0_1 l0_1.length c0_1, .int .i64 a0_2, .bool a0_3]] w fun e w' => e = .returned (.int .i64 r) ∧ Below w.heap.size w w' := by
 have hu25 := Try.underlying25
 have hu43 := Try.underlying43
 have HR0_0 := qM hr0_0
 have HC0_0 := qM hc0_0
 clear hr0_0 hc0_0
 have HR0_1 := qM hr0_1
 have HC0_1 := qM hc0_1
 clear hr0_1 hc0_1
 have HB := qM (Below.refl w.heap.size w)
 have H : (hogsheadref10_Free.l0 k 0 0 l0_0 l0_1 a0_2 a0_3) = some r := h
 clear h
 have H' := qM H
 clear H
 go_enter Try.func21, Try.ntmps21
 go_wp2_with (first | ((with_reducible refine gate_dst (N := 1) rfl ?_); refine box_event ?hg (N := 1) ?hd (cs := #[.slice A0_0 l0_0.length c0_0, .slice A0_1 l0_1.length c0_1, .int .i64 a0_2, .bool a0_3]) (t := 25) ?hr ?_; (case hd => rfl); (case hg => rfl); (case hr => first | (go_simp; done) | (go_simp; rfl)); intro g276 hg w2 hbox hb; have n0_ := qM (eT (by repeat (first | (with_reducible first | exact HB.out | apply eA | apply eN | apply eD) | exact HB.out)) hb); have n1_ := qM (hbox); have n2_ := qM ((by rw [hg]; exact (eZ (by repeat (first | (with_reducible first | exact HB.out | apply eA | apply eN | apply eD) | exact HB.out))) : w.heap.size ≤ g276)); have n3_ := n2_; clear HB; have HB := n0_; have B276 := n1_; have GW276 := n2_; have GE276 := n3_; clear n0_ n1_ n2_ n3_; clear hb hbox hg))
 go_loopg [3, 4] k (fun kq v3 v4 w' => ∃ (x3_1 : Int) (x4_1 : Int), v3 = .int .i64 x3_1 ∧ v4 = .int .i64 x4_1 ∧ Aside0 (hogsheadref10_Free.l0 kq x3_1 x4_1 l0_0 l0_1 a0_2 a0_3 = some r) ∧ Aside0 (kq ≤ k) ∧ Aside0 (w'.heap[g276]? = some (.cells #[(.slice A0_0 l0_0.length c0_0), (.slice A0_1 l0_1.length c0_1), .int .i64 a0_2, .bool a0_3] 25 (0, 0))) ∧ Aside0 (Below w.heap.size w w'))
 case atStart => exact ⟨(0), (0), (by first | rfl | (simp; done) | (simp [*]; done)), (by first | rfl | (simp; done) | (simp [*]; done)), H', ⟨Nat.le_refl _⟩, ⟨by (with_reducible repeat first | refine qN ?_ _ | refine qD ?_ | refine qA ?_ _); exact B276.out⟩, ⟨by repeat (first | (with_reducible first | exact HB.out | apply eA | apply eN | apply eD | refine eS ?_ GE276.out) | exact HB.out)⟩⟩
 case round =>
  clear H'
  try clear c2
  try clear p2
  obtain ⟨x3_1, x4_1, rfl, rfl, HA, HK1, B276, HB⟩ := hrel
  cases gk with
  | zero => exact absurd HA.out (by simp [hogsheadref10_Free.l0])
  | succ k1 =>
   have H := HA.out
   clear HA
   simp only [hogsheadref10_Free.l0] at H
   by_cases c3 : x4_1 < (l0_0.length : Int)
   ·rw [if_pos c3] at H
    have c3b0 : decide (x4_1 < (l0_0.length : Int)) = true := decide_eq_true c3
    clear c3
    replace H := Option.bind_eq_some_iff.mp H
    obtain ⟨⟨t277, t278, t279, t280, t281⟩, A40, H⟩ := H
    replace H : (if t281 = true then (hogsheadref10_Free.l0 k1 (wrap64 (x3_1 + 1)) (wrap64 (x4_1 + 1)) l0_0 l0_1 a0_2 a0_3) else (hogsheadref10_Free.l0 k1 x3_1 (wrap64 (x4_1 + 1)) l0_0 l0_1 a0_2 a0_3)) = some r := H
    have A4 := qM A40
    clear A40
    by_cases c5 : t281 = true
    ·subst c5
     have H1 : (hogsheadref10_Free.l0 k1 (wrap64 (x3_1 + 1)) (wrap64 (x4_1 + 1)) l0_0 l0_1 a0_2 a0_3) = some r := by rw [if_pos rfl] at H; exact H
     clear H
     have H := H1
     clear H1
     have H' := qM H
     clear H
     obtain ⟨z6_0, z6_1, z6_2, z6_3, f6_0, f6_1, f6_2, f6_3⟩ := cells4 B276.out
     go_wp2_with (first | ((with_reducible refine gate_callee (f := 38) rfl ?_); refine goesL_ (some 18) rfl rfl Try.func38 (by kernel_rfl) rfl #[.agg #[.slice A0_0 l0_0.length c0_0, .slice A0_1 l0_1.length c0_1, .int .i64 a0_2, .bool a0_3], .int .i64 x4_1] rfl (by (try simp only [List.map_toArray, List.map_cons, List.map_nil]); first | done | rfl | (simp only [List.length_drop, List.length_take]; rfl)) ?_; (with_reducible refine (hogsheadref10_at.calls k1 _ _ l0_0 _ _ l0_1 a0_2 a0_3 x4_1 t277 t278 t279 t280 true _ ?side1 ?side2 ?side3 ?side4 A4.out).mono ?_); (case side1 => repeat (first | exact (Kd.C_below HR0_0.out HB.out) | (with_reducible refine Kd.C_alloc ?_ _) | (with_reducible refine Kd.C_drewN ?_ _) | (with_reducible refine Kd.C_drew ?_))); (case side2 => exact HC0_0.out); (case side3 => repeat (first | exact (Kd.C_below HR0_1.out HB.out) | (with_reducible refine Kd.C_alloc ?_ _) | (with_reducible refine Kd.C_drewN ?_ _) | (with_reducible refine Kd.C_drew ?_))); (case side4 => exact HC0_1.out); rintro e w7 ⟨rfl, hb⟩; refine ⟨_, rfl, ?_⟩; have n0_ := qM (qB (g := g276) (by (with_reducible repeat first | refine qN ?_ _ | refine qD ?_ | refine qA ?_ _); exact B276.out) hb); have n1_ := qM (eT (by repeat (first | (with_reducible first | exact HB.out | apply eA | apply eN | apply eD | refine eU ?_ (by assumption)) | exact HB.out)) hb); clear B276 HB; have B276 := n0_; have HB := n1_; clear n0_ n1_; (try clear hb); (try clear hb2); (try clear hk); (try clear hi)) | ((with_reducible refine gate_dst (N := 5) rfl ?_); refine box_event ?hg (N := 5) ?hd (cs := #[.int .i64 0, .int .i64 0, .string (⟨#[]⟩ : ByteArray)]) (t := 43) ?hr ?_; (case hd => rfl); (case hg => rfl); (case hr => first | (go_simp; done) | (go_simp; rfl)); intro g282 hg w8 hbox hb; have n0_ := qM (qB (g := g276) (by (with_reducible repeat first | refine qN ?_ _ | refine qD ?_ | refine qA ?_ _); exact B276.out) hb); have n1_ := qM (eT (by repeat (first | (with_reducible first | exact HB.out | apply eA | apply eN | apply eD | refine eU ?_ (by assumption)) | exact HB.out)) hb); have n2_ := qM (hbox); have n3_ := qM ((by rw [hg]; exact (eZ (by repeat (first | (with_reducible first | exact HB.out | apply eA | apply eN | apply eD | refine eU ?_ (by assumption)) | exact HB.out))) : w.heap.size ≤ g282)); have n4_ := n3_; have n5_ := qM ((by rw [hg]; exact Nat.ne_of_lt (qL (g := g276) (by (with_reducible repeat first | refine qN ?_ _ | refine qD ?_ | refine qA ?_ _); exact B276.out)) : g276 ≠ g282)); have n6_ := qM (Ne.symm n5_.out); clear B276 HB; have B276 := n0_; have HB := n1_; have B282 := n2_; have GW282 := n3_; have GE282 := n4_; have NB276_282 := n5_; have NB282_276 := n6_; clear n0_ n1_ n2_ n3_ n4_ n5_ n6_; clear hb hbox hg; have hnb9 := NB282_276.out; have hnc9 := NB276_282.out; obtain ⟨z10_0, z10_1, z10_2, f10_0, f10_1, f10_2⟩ := cells3 B282.out))
     go_roundg k1
     case measure => have := HK1.out; omega
     case rel => exact ⟨(wrap64 (x3_1 + 1)), (wrap64 (x4_1 + 1)), (by first | rfl | (simp; done) | (simp [*]; done)), (by first | rfl | (simp; done) | (simp [*]; done)), H', ⟨by have := HK1.out; omega⟩, ⟨by (with_reducible repeat first | refine qN ?_ _ | refine qD ?_ | refine qA ?_ _); (iterate 3 (refine qR ?_ NB276_282.out _; (with_reducible repeat first | refine qN ?_ _ | refine qD ?_ | refine qA ?_ _))); exact B276.out⟩, ⟨by repeat (first | (with_reducible first | exact HB.out | apply eA | apply eN | apply eD | refine eS ?_ GE276.out | refine eS ?_ GE282.out) | exact HB.out)⟩⟩
    ·replace c5 := Bool.eq_false_iff.mpr c5
     subst c5
     have H1 : (hogsheadref10_Free.l0 k1 x3_1 (wrap64 (x4_1 + 1)) l0_0 l0_1 a0_2 a0_3) = some r := by rw [if_neg (show ¬ (false = true) by decide)] at H; exact H
     clear H
     have H := H1
     clear H1
     have H' := qM H
     clear H
     obtain ⟨z11_0, z11_1, z11_2, z11_3, f11_0, f11_1, f11_2, f11_3⟩ := cells4 B276.out
     go_wp2_with (first | ((with_reducible refine gate_callee (f := 38) rfl ?_); refine goesL_ (some 18) rfl rfl Try.func38 (by kernel_rfl) rfl #[.agg #[.slice A0_0 l0_0.length c0_0, .slice A0_1 l0_1.length c0_1, .int .i64 a0_2, .bool a0_3], .int .i64 x4_1] rfl (by (try simp only [List.map_toArray, List.map_cons, List.map_nil]); first | done | rfl | (simp only [List.length_drop, List.length_take]; rfl)) ?_; (with_reducible refine (hogsheadref10_at.calls k1 _ _ l0_0 _ _ l0_1 a0_2 a0_3 x4_1 t277 t278 t279 t280 false _ ?side1 ?side2 ?side3 ?side4 A4.out).mono ?_); (case side1 => repeat (first | exact (Kd.C_below HR0_0.out HB.out) | (with_reducible refine Kd.C_alloc ?_ _) | (with_reducible refine Kd.C_drewN ?_ _) | (with_reducible refine Kd.C_drew ?_))); (case side2 => exact HC0_0.out); (case side3 => repeat (first | exact (Kd.C_below HR0_1.out HB.out) | (with_reducible refine Kd.C_alloc ?_ _) | (with_reducible refine Kd.C_drewN ?_ _) | (with_reducible refine Kd.C_drew ?_))); (case side4 => exact HC0_1.out); rintro e w12 ⟨rfl, hb⟩; refine ⟨_, rfl, ?_⟩; have n0_ := qM (qB (g := g276) (by (with_reducible repeat first | refine qN ?_ _ | refine qD ?_ | refine qA ?_ _); exact B276.out) hb); have n1_ := qM (eT (by repeat (first | (with_reducible first | exact HB.out | apply eA | apply eN | apply eD | refine eU ?_ (by assumption)) | exact HB.out)) hb); clear B276 HB; have B276 := n0_; have HB := n1_; clear n0_ n1_; (try clear hb); (try clear hb2); (try clear hk); (try clear hi)) | ((with_reducible refine gate_dst (N := 5) rfl ?_); refine box_event ?hg (N := 5) ?hd (cs := #[.int .i64 0, .int .i64 0, .string (⟨#[]⟩ : ByteArray)]) (t := 43) ?hr ?_; (case hd => rfl); (case hg => rfl); (case hr => first | (go_simp; done) | (go_simp; rfl)); intro g282 hg w13 hbox hb; have n0_ := qM (qB (g := g276) (by (with_reducible repeat first | refine qN ?_ _ | refine qD ?_ | refine qA ?_ _); exact B276.out) hb); have n1_ := qM (eT (by repeat (first | (with_reducible first | exact HB.out | apply eA | apply eN | apply eD | refine eU ?_ (by assumption)) | exact HB.out)) hb); have n2_ := qM (hbox); have n3_ := qM ((by rw [hg]; exact (eZ (by repeat (first | (with_reducible first | exact HB.out | apply eA | apply eN | apply eD | refine eU ?_ (by assumption)) | exact HB.out))) : w.heap.size ≤ g282)); have n4_ := n3_; have n5_ := qM ((by rw [hg]; exact Nat.ne_of_lt (qL (g := g276) (by (with_reducible repeat first | refine qN ?_ _ | refine qD ?_ | refine qA ?_ _); exact B276.out)) : g276 ≠ g282)); have n6_ := qM (Ne.symm n5_.out); clear B276 HB; have B276 := n0_; have HB := n1_; have B282 := n2_; have GW282 := n3_; have GE282 := n4_; have NB276_282 := n5_; have NB282_276 := n6_; clear n0_ n1_ n2_ n3_ n4_ n5_ n6_; clear hb hbox hg; have hnb14 := NB282_276.out; have hnc14 := NB276_282.out; obtain ⟨z15_0, z15_1, z15_2, f15_0, f15_1, f15_2⟩ := cells3 B282.out))
     go_roundg k1
     case measure => have := HK1.out; omega
     case rel => exact ⟨(x3_1), (wrap64 (x4_1 + 1)), (by first | rfl | (simp; done) | (simp [*]; done)), (by first | rfl | (simp; done) | (simp [*]; done)), H', ⟨by have := HK1.out; omega⟩, ⟨by (with_reducible repeat first | refine qN ?_ _ | refine qD ?_ | refine qA ?_ _); (iterate 3 (refine qR ?_ NB276_282.out _; (with_reducible repeat first | refine qN ?_ _ | refine qD ?_ | refine qA ?_ _))); exact B276.out⟩, ⟨by repeat (first | (with_reducible first | exact HB.out | apply eA | apply eN | apply eD | refine eS ?_ GE276.out | refine eS ?_ GE282.out) | exact HB.out)⟩⟩
   ·rw [if_neg c3] at H
    have c3b0 : decide (x4_1 < (l0_0.length : Int)) = false := decide_eq_false c3
    clear c3
    obtain rfl := Option.some.inj H
    obtain ⟨z16_0, z16_1, z16_2, z16_3, f16_0, f16_1, f16_2, f16_3⟩ := cells4 B276.out
    go_wp2
    go_ret
    exact ⟨by first | rfl | (simp [errW_none, errW_some] <;> rfl) | (simp [*, errW_none, errW_some] <;> rfl), by repeat (first | (with_reducible first | exact HB.out | apply eA | apply eN | apply eD | refine eS ?_ GE276.out) | exact HB.out)⟩

end Go.Proofs.Ytffjbbedjddpmaa.PAll
