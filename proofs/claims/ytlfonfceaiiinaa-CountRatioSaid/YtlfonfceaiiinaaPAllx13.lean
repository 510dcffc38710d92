/- Functions of the program as plain Lean functions, and that each call comes to what they say. Laid by a program of this session (hprint.py); Lean checks it. -/
import Derived.Test.YtlfonfceaiiinaaPAllx0
import Derived.Test.YtlfonfceaiiinaaPAllx2
namespace Go.Proofs.Ytlfonfceaiiinaa.PAll
open Go.RowKit Go.Proofs.YtlfonfceaiiinaaW.PrintWords Go.Proofs.YtlfonfceaiiinaaW.PrintLast Go.Proofs.YtlfonfceaiiinaaW.PrintMore
attribute [local go_sem] max2_int min2_int max_two min_two max_three min_three max_four min_four   -- for this text's walks alone
set_option linter.unusedVariables false
set_option linter.unusedSimpArgs false

attribute [local go_sem high] eqA75
/-! ### hogsheadref15_whole: function 33 -/
mutual
def hogsheadref15_whole.l0 : Nat → List (S75) → Int → Int → Option (Bool)
 | 0, _, _, _ => none
 | k + 1, x0, x1, x5 => if x5 < (x0.length : Int) then (if 0 ≤ x5 then (if ((rd_T75 x0 x5).f0) = x1 then (hogsheadref15_whole.l1 k x0 x1 x5 0) else (some false)) else (none)) else (some true)
def hogsheadref15_whole.l1 : Nat → List (S75) → Int → Int → Int → Option (Bool)
 | 0, _, _, _, _ => none
 | k + 1, x0, x1, x5, x6 => if x6 < x5 then (if 0 ≤ x6 then (if x6 < (x0.length : Int) then (if 0 ≤ x5 then (if x5 < (x0.length : Int) then (if (((rd_T75 x0 x6).f0) == ((rd_T75 x0 x5).f0) && (((rd_T75 x0 x6).f1) == ((rd_T75 x0 x5).f1))) = true then (some false) else (hogsheadref15_whole.l1 k x0 x1 x5 (wrap64 (x6 + 1)))) else (none)) else (none)) else (none)) else (none)) else (hogsheadref15_whole.l0 k x0 x1 (wrap64 (x5 + 1)))
end
def hogsheadref15_whole.f (k : Nat) (l0 : List (S75)) (a1 : Int) : Option (Bool) := if (l0.length : Int) = 14 then (hogsheadref15_whole.l0 k l0 a1 0) else (some false)
theorem hogsheadref15_whole.mono_l : ∀ k, (∀ y0 y1 y2, LeO (hogsheadref15_whole.l0 k y0 y1 y2) (hogsheadref15_whole.l0 (k + 1) y0 y1 y2)) ∧ (∀ y0 y1 y2 y3, LeO (hogsheadref15_whole.l1 k y0 y1 y2 y3) (hogsheadref15_whole.l1 (k + 1) y0 y1 y2 y3))
 | 0 => ⟨fun _ _ _ r h => by simp [hogsheadref15_whole.l0] at h, fun _ _ _ _ r h => by simp [hogsheadref15_whole.l1] at h⟩
 | k + 1 => by
  obtain ⟨ih0, ih1⟩ := hogsheadref15_whole.mono_l k
  refine ⟨?_, ?_⟩
  ·intro y0 y1 y2
   unfold hogsheadref15_whole.l0
   repeat' first
   | (with_reducible exact ih0 _ _ _)
   | (with_reducible exact ih1 _ _ _ _)
   | (with_reducible exact LeO.refl _)
   | (with_reducible exact LeO.none _)
   | (with_reducible refine LeO.ite ?_ ?_)
   | (with_reducible refine LeO.bind ?_ (fun _ => ?_))
   | exact ih0 _ _ _
   | exact ih1 _ _ _ _
   | exact LeO.none _
   | refine LeO.ite ?_ ?_
   | refine LeO.bind ?_ (fun _ => ?_)
  ·intro y0 y1 y2 y3
   unfold hogsheadref15_whole.l1
   repeat' first
   | (with_reducible exact ih0 _ _ _)
   | (with_reducible exact ih1 _ _ _ _)
   | (with_reducible exact LeO.refl _)
   | (with_reducible exact LeO.none _)
   | (with_reducible refine LeO.ite ?_ ?_)
   | (with_reducible refine LeO.bind ?_ (fun _ => ?_))
   | exact ih0 _ _ _
   | exact ih1 _ _ _ _
   | exact LeO.none _
   | refine LeO.ite ?_ ?_
   | refine LeO.bind ?_ (fun _ => ?_)
theorem hogsheadref15_whole.mono : ∀ a0 a1 k, LeO (hogsheadref15_whole.f k a0 a1) (hogsheadref15_whole.f (k + 1) a0 a1) := by
 intro a0 a1 k
 obtain ⟨ih0, ih1⟩ := hogsheadref15_whole.mono_l k
 unfold hogsheadref15_whole.f
 repeat' first
   | (with_reducible exact ih0 _ _ _)
   | (with_reducible exact ih1 _ _ _ _)
   | (with_reducible exact LeO.refl _)
   | (with_reducible exact LeO.none _)
   | (with_reducible refine LeO.ite ?_ ?_)
   | (with_reducible refine LeO.bind ?_ (fun _ => ?_))
   | exact ih0 _ _ _
   | exact ih1 _ _ _ _
   | exact LeO.none _
   | refine LeO.ite ?_ ?_
   | refine LeO.bind ?_ (fun _ => ?_)
set_option maxHeartbeats 40000000 in
set_option maxRecDepth 100000 in
theorem hogsheadref15_whole.calls (k : Nat) (A0 : Option Addr) (c0 : Nat) (l0 : List (S75)) (a1 : Int) (r : Bool) (w : World) (hr0 : Kd.C k75 w A0 l0.length l0) (hc0 : l0.length ≤ c0) (h : hogsheadref15_whole.f k l0 a1 = some r) :
  Calls Try.prog 33 #[.slice A0 l0.length c0, .int .i64 a1] w fun e w' => e = .returned (.bool r) ∧ Drawn0 w w' := by
 have hu75 := Try.underlying75
 have HR0 := qM hr0
 have HC0 := qM hc0
 clear hr0 hc0
 have H : (if (l0.length : Int) = 14 then (hogsheadref15_whole.l0 k l0 a1 0) else (some false)) = some r := h
 clear h
 by_cases c3 : (l0.length : Int) = 14
 ·rw [if_pos c3] at H
  have c3b0 : ((l0.length : Int) == 14) = true := beq_iff_eq.mpr c3
  have c3b1 : ((l0.length : Int) != 14) = false := bne_eq_false_iff_eq.mpr c3
  clear c3
  have H' := qM H
  clear H
  go_enter Try.func33, Try.ntmps33
  go_wp2
  repeat (go_quiet (fail); try go_wp2)
  go_loopg [5] k (fun kq v5 w' => ∃ (x5_1 : Int), v5 = .int .i64 x5_1 ∧ Aside0 (hogsheadref15_whole.l0 kq l0 a1 x5_1 = some r) ∧ Aside0 (kq ≤ k) ∧ Drawn0 w w')
  case atStart => exact ⟨(0), (by first | rfl | (simp; done) | (simp [*]; done)), H', ⟨Nat.le_refl _⟩, by repeat (first | exact Drawn0.refl _ | apply Drawn0.step)⟩
  case round =>
   clear H'
   try clear p2
   try clear c3
   try clear c3b0
   try clear c3b1
   obtain ⟨x5_1, rfl, HA, HK1, ⟨m1, rfl⟩⟩ := hrel
   cases gk with
   | zero => exact absurd HA.out (by simp [hogsheadref15_whole.l0])
   | succ k1 =>
    have H := HA.out
    clear HA
    simp only [hogsheadref15_whole.l0] at H
    by_cases c4 : x5_1 < (l0.length : Int)
    ·rw [if_pos c4] at H
     have c4b0 : decide (x5_1 < (l0.length : Int)) = true := decide_eq_true c4
     clear c4
     by_cases c5 : 0 ≤ x5_1
     ·rw [if_pos c5] at H
      have c5b0 : decide (0 ≤ x5_1) = true := decide_eq_true c5
      clear c5
      by_cases c6 : ((rd_T75 l0 x5_1).f0) = a1
      ·rw [if_pos c6] at H
       have c6b0 : (((rd_T75 l0 x5_1).f0) == a1) = true := beq_iff_eq.mpr c6
       have c6b1 : (((rd_T75 l0 x5_1).f0) != a1) = false := bne_eq_false_iff_eq.mpr c6
       clear c6
       have H' := qM H
       clear H
       have p237 : 0 ≤ (x5_1 : Int) := of_decide_eq_true (by first | (with_reducible assumption) | assumption)
       have q237 : x5_1 < (l0.length : Int) := of_decide_eq_true (by first | (with_reducible assumption) | assumption)
       obtain ⟨ad237, e237, hx237_0, hx237_1⟩ := at_T75 HR0.out x5_1 p237 q237
       cases e237
       replace p237 := eq_true p237
       replace q237 := eq_true q237
       go_wp2
       repeat (go_quiet (fail); try go_wp2)
       go_loopg [6] k1 (fun kq v6 w' => ∃ (x6_2 : Int), v6 = .int .i64 x6_2 ∧ Aside0 (hogsheadref15_whole.l1 kq l0 a1 x5_1 x6_2 = some r) ∧ Aside0 (kq ≤ k1) ∧ Drawn0 w w')
       case atStart => exact ⟨(0), (by first | rfl | (simp; done) | (simp [*]; done)), H', ⟨Nat.le_refl _⟩, by repeat (first | exact Drawn0.refl _ | apply Drawn0.step)⟩
       case round =>
        clear H'
        try clear p2
        try clear q2
        try clear hx2
        try clear c3
        try clear c3b0
        try clear c3b1
        try clear c4
        try clear c4b0
        try clear c5
        try clear c5b0
        try clear c6
        try clear c6b0
        try clear c6b1
        try clear hx237_0
        try clear hx237_1
        try clear p2
        try clear p237
        try clear q237
        obtain ⟨x6_2, rfl, HA, HK2, ⟨m2, rfl⟩⟩ := hrel
        cases gk with
        | zero => exact absurd HA.out (by simp [hogsheadref15_whole.l1])
        | succ k2 =>
         have H := HA.out
         clear HA
         simp only [hogsheadref15_whole.l1] at H
         by_cases c7 : x6_2 < x5_1
         ·rw [if_pos c7] at H
          have c7b0 : decide (x6_2 < x5_1) = true := decide_eq_true c7
          clear c7
          by_cases c8 : 0 ≤ x6_2
          ·rw [if_pos c8] at H
           have c8b0 : decide (0 ≤ x6_2) = true := decide_eq_true c8
           clear c8
           by_cases c9 : x6_2 < (l0.length : Int)
           ·rw [if_pos c9] at H
            have c9b0 : decide (x6_2 < (l0.length : Int)) = true := decide_eq_true c9
            clear c9
            by_cases c10 : 0 ≤ x5_1
            ·rw [if_pos c10] at H
             have c10b0 : decide (0 ≤ x5_1) = true := decide_eq_true c10
             clear c10
             by_cases c11 : x5_1 < (l0.length : Int)
             ·rw [if_pos c11] at H
              have c11b0 : decide (x5_1 < (l0.length : Int)) = true := decide_eq_true c11
              clear c11
              by_cases c12 : (((rd_T75 l0 x6_2).f0) == ((rd_T75 l0 x5_1).f0) && (((rd_T75 l0 x6_2).f1) == ((rd_T75 l0 x5_1).f1))) = true
              ·rw [if_pos c12] at H
               have c12b0 : (((rd_T75 l0 x6_2).f0) == ((rd_T75 l0 x5_1).f0) && (((rd_T75 l0 x6_2).f1) == ((rd_T75 l0 x5_1).f1))) = true := c12
               (try (have c12b1 : decide (((rd_T75 l0 x6_2).f0) = ((rd_T75 l0 x5_1).f0) && (((rd_T75 l0 x6_2).f1) == ((rd_T75 l0 x5_1).f1))) = true := by simpa using c12))
               (try (have c12b2 : (((rd_T75 l0 x6_2).f0) == ((rd_T75 l0 x5_1).f0) && (((rd_T75 l0 x6_2).f1) == ((rd_T75 l0 x5_1).f1))) = true := by simpa using c12))
               clear c12
               obtain rfl := Option.some.inj H
               have p238 : 0 ≤ (x6_2 : Int) := of_decide_eq_true (by first | (with_reducible assumption) | assumption)
               have q238 : x6_2 < (l0.length : Int) := of_decide_eq_true (by first | (with_reducible assumption) | assumption)
               obtain ⟨ad238, e238, hx238_0, hx238_1⟩ := at_T75 HR0.out x6_2 p238 q238
               obtain rfl : ad237 = ad238 := (by injection e238)
               replace p238 := eq_true p238
               replace q238 := eq_true q238
               have p239 : 0 ≤ (x5_1 : Int) := of_decide_eq_true (by first | (with_reducible assumption) | assumption)
               have q239 : x5_1 < (l0.length : Int) := of_decide_eq_true (by first | (with_reducible assumption) | assumption)
               obtain ⟨ad239, e239, hx239_0, hx239_1⟩ := at_T75 HR0.out x5_1 p239 q239
               obtain rfl : ad237 = ad239 := (by injection e239)
               replace p239 := eq_true p239
               replace q239 := eq_true q239
               go_wp2
               repeat (go_quiet (fail); try go_wp2)
               go_ret
               exact ⟨by first | rfl | (simp; done) | (simp [*]; done), by repeat (first | exact Drawn0.refl _ | apply Drawn0.step)⟩
              ·rw [if_neg c12] at H
               have c12b0 : (((rd_T75 l0 x6_2).f0) == ((rd_T75 l0 x5_1).f0) && (((rd_T75 l0 x6_2).f1) == ((rd_T75 l0 x5_1).f1))) = false := by simpa using c12
               (try (have c12b1 : decide (((rd_T75 l0 x6_2).f0) = ((rd_T75 l0 x5_1).f0) && (((rd_T75 l0 x6_2).f1) == ((rd_T75 l0 x5_1).f1))) = false := by simpa using c12))
               (try (have c12b2 : (((rd_T75 l0 x6_2).f0) == ((rd_T75 l0 x5_1).f0) && (((rd_T75 l0 x6_2).f1) == ((rd_T75 l0 x5_1).f1))) = false := by simpa using c12))
               (try (have c12b3 : ¬ (((rd_T75 l0 x6_2).f0) = ((rd_T75 l0 x5_1).f0) && (((rd_T75 l0 x6_2).f1) == ((rd_T75 l0 x5_1).f1))) := by simpa using c12))
               clear c12
               have H' := qM H
               clear H
               have p238 : 0 ≤ (x6_2 : Int) := of_decide_eq_true (by first | (with_reducible assumption) | assumption)
               have q238 : x6_2 < (l0.length : Int) := of_decide_eq_true (by first | (with_reducible assumption) | assumption)
               obtain ⟨ad238, e238, hx238_0, hx238_1⟩ := at_T75 HR0.out x6_2 p238 q238
               obtain rfl : ad237 = ad238 := (by injection e238)
               replace p238 := eq_true p238
               replace q238 := eq_true q238
               have p239 : 0 ≤ (x5_1 : Int) := of_decide_eq_true (by first | (with_reducible assumption) | assumption)
               have q239 : x5_1 < (l0.length : Int) := of_decide_eq_true (by first | (with_reducible assumption) | assumption)
               obtain ⟨ad239, e239, hx239_0, hx239_1⟩ := at_T75 HR0.out x5_1 p239 q239
               obtain rfl : ad237 = ad239 := (by injection e239)
               replace p239 := eq_true p239
               replace q239 := eq_true q239
               go_wp2
               repeat (go_quiet (fail); try go_wp2)
               go_roundg k2
               case measure => have := HK1.out; have := HK2.out; omega
               case rel => exact ⟨(wrap64 (x6_2 + 1)), (by first | rfl | (simp; done) | (simp [*]; done)), H', ⟨by have := HK1.out; have := HK2.out; omega⟩, by repeat (first | exact Drawn0.refl _ | apply Drawn0.step)⟩
             ·rw [if_neg c11] at H
              exact absurd H (by simp)
            ·rw [if_neg c10] at H
             exact absurd H (by simp)
           ·rw [if_neg c9] at H
            exact absurd H (by simp)
          ·rw [if_neg c8] at H
           exact absurd H (by simp)
         ·rw [if_neg c7] at H
          have c7b0 : decide (x6_2 < x5_1) = false := decide_eq_false c7
          clear c7
          have H' := qM H
          clear H
          go_wp2
          repeat (go_quiet (fail); try go_wp2)
          go_roundg k2
          case measure => have := HK1.out; have := HK2.out; omega
          case rel => exact ⟨(wrap64 (x5_1 + 1)), (by first | rfl | (simp; done) | (simp [*]; done)), H', ⟨by have := HK1.out; have := HK2.out; omega⟩, by repeat (first | exact Drawn0.refl _ | apply Drawn0.step)⟩
      ·rw [if_neg c6] at H
       have c6b0 : (((rd_T75 l0 x5_1).f0) == a1) = false := beq_eq_false_iff_ne.mpr c6
       have c6b1 : (((rd_T75 l0 x5_1).f0) != a1) = true := bne_iff_ne.mpr c6
       obtain rfl := Option.some.inj H
       have p237 : 0 ≤ (x5_1 : Int) := of_decide_eq_true (by first | (with_reducible assumption) | assumption)
       have q237 : x5_1 < (l0.length : Int) := of_decide_eq_true (by first | (with_reducible assumption) | assumption)
       obtain ⟨ad237, e237, hx237_0, hx237_1⟩ := at_T75 HR0.out x5_1 p237 q237
       cases e237
       replace p237 := eq_true p237
       replace q237 := eq_true q237
       go_wp2
       repeat (go_quiet (fail); try go_wp2)
       go_ret
       exact ⟨by first | rfl | (simp; done) | (simp [*]; done), by repeat (first | exact Drawn0.refl _ | apply Drawn0.step)⟩
     ·rw [if_neg c5] at H
      exact absurd H (by simp)
    ·rw [if_neg c4] at H
     have c4b0 : decide (x5_1 < (l0.length : Int)) = false := decide_eq_false c4
     clear c4
     obtain rfl := Option.some.inj H
     go_wp2
     repeat (go_quiet (fail); try go_wp2)
     go_ret
     exact ⟨by first | rfl | (simp; done) | (simp [*]; done), by repeat (first | exact Drawn0.refl _ | apply Drawn0.step)⟩
 ·rw [if_neg c3] at H
  have c3b0 : ((l0.length : Int) == 14) = false := beq_eq_false_iff_ne.mpr c3
  have c3b1 : ((l0.length : Int) != 14) = true := bne_iff_ne.mpr c3
  obtain rfl := Option.some.inj H
  go_enter Try.func33, Try.ntmps33
  go_wp2
  repeat (go_quiet (fail); try go_wp2)
  go_ret
  exact ⟨by first | rfl | (simp; done) | (simp [*]; done), by repeat (first | exact Drawn0.refl _ | apply Drawn0.step)⟩

-- NOT PRINTED: function 31 (hogsheadref15_pair)

-- NOT PRINTED: function 21 (hogsheadref15_does)

-- NOT PRINTED: function 13 (hogsheadref15_Do)

end Go.Proofs.Ytlfonfceaiiinaa.PAll
