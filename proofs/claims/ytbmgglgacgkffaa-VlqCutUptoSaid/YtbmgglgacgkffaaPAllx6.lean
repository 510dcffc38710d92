/- Functions of the program as plain Lean functions, and that each call comes to what they say. Laid by a program of this session (hprint.py); Lean checks it. -/
import Derived.Test.YtbmgglgacgkffaaPAllx0
import Derived.Test.YtbmgglgacgkffaaPAllx5
namespace Go.Proofs.Ytbmgglgacgkffaa.PAll
open Go.RowKit Go.Proofs.YtbmgglgacgkffaaW.PrintWords Go.Proofs.YtbmgglgacgkffaaW.PrintLast Go.Proofs.YtbmgglgacgkffaaW.PrintMore
attribute [local go_sem] max2_int min2_int max_two min_two max_three min_three max_four min_four   -- for this text's walks alone
set_option linter.unusedVariables false
set_option linter.unusedSimpArgs false

/-! ### hogsheadref01_TakeText: function 19 -/
def hogsheadref01_TakeText.j0 : Nat → Int → ByteArray → Bool → Option (ByteArray × ByteArray × Int)
 | 0, _, _, _ => none
 | k + 1, x7, x8, x26 => if x26 = true then (some ((⟨#[]⟩ : ByteArray), (⟨#[]⟩ : ByteArray), 4)) else (if x7 > (IntKind.u64.wrap ((x8.size : Int))) then (some ((⟨#[]⟩ : ByteArray), (⟨#[]⟩ : ByteArray), 2)) else (if 0 ≤ x7 then (if x7 ≤ (x8.size : Int) then (some (x8.extract 0 (x7 : Int).toNat, x8.extract (x7 : Int).toNat x8.size, 0)) else (none)) else (none)))
def hogsheadref01_TakeText.f (k : Nat) (a0 : ByteArray) (a1 : Int) : Option (ByteArray × ByteArray × Int) := (hogsheadref01_TakeNum.f k a0).bind fun bt113 => (if bt113.2.2 = 0 then (if a1 < 0 then (hogsheadref01_TakeText.j0 k bt113.1 bt113.2.1 true) else (hogsheadref01_TakeText.j0 k bt113.1 bt113.2.1 (decide (bt113.1 > (IntKind.u64.wrap (a1)))))) else (some ((⟨#[]⟩ : ByteArray), (⟨#[]⟩ : ByteArray), bt113.2.2)))
theorem hogsheadref01_TakeText.mono_l : ∀ k, (∀ y0 y1 y2, LeO (hogsheadref01_TakeText.j0 k y0 y1 y2) (hogsheadref01_TakeText.j0 (k + 1) y0 y1 y2))
 | 0 => fun _ _ _ r h => by simp [hogsheadref01_TakeText.j0] at h
 | k + 1 => by
  have ih0 := hogsheadref01_TakeText.mono_l k
  ·intro y0 y1 y2
   unfold hogsheadref01_TakeText.j0
   repeat' first
   | (with_reducible exact ih0 _ _ _)
   | (with_reducible exact hogsheadref01_TakeNum.mono _ _)
   | (with_reducible exact LeO.refl _)
   | (with_reducible exact LeO.none _)
   | (with_reducible refine LeO.ite ?_ ?_)
   | (with_reducible refine LeO.bind ?_ (fun _ => ?_))
   | exact ih0 _ _ _
   | exact hogsheadref01_TakeNum.mono _ _
   | exact LeO.none _
   | refine LeO.ite ?_ ?_
   | refine LeO.bind ?_ (fun _ => ?_)
theorem hogsheadref01_TakeText.mono : ∀ a0 a1 k, LeO (hogsheadref01_TakeText.f k a0 a1) (hogsheadref01_TakeText.f (k + 1) a0 a1) := by
 intro a0 a1 k
 have ih0 := hogsheadref01_TakeText.mono_l k
 unfold hogsheadref01_TakeText.f
 repeat' first
   | (with_reducible exact ih0 _ _ _)
   | (with_reducible exact hogsheadref01_TakeNum.mono _ _)
   | (with_reducible exact LeO.refl _)
   | (with_reducible exact LeO.none _)
   | (with_reducible refine LeO.ite ?_ ?_)
   | (with_reducible refine LeO.bind ?_ (fun _ => ?_))
   | exact ih0 _ _ _
   | exact hogsheadref01_TakeNum.mono _ _
   | exact LeO.none _
   | refine LeO.ite ?_ ?_
   | refine LeO.bind ?_ (fun _ => ?_)
set_option maxHeartbeats 40000000 in
set_option maxRecDepth 100000 in
theorem hogsheadref01_TakeText.calls (k : Nat) (a0 : ByteArray) (a1 : Int) (r1 : ByteArray) (r2 : ByteArray) (r3 : Int) (w : World) (h : hogsheadref01_TakeText.f k a0 a1 = some (r1, r2, r3)) :
  Calls Try.prog 19 #[.string a0, .int .i64 a1] w fun e w' => e = .returned (.tuple #[.string r1, .string r2, .int .i64 r3]) ∧ Drawn0 w w' := by
 have H : ((hogsheadref01_TakeNum.f k a0).bind fun bt113 => (if bt113.2.2 = 0 then (if a1 < 0 then (hogsheadref01_TakeText.j0 k bt113.1 bt113.2.1 true) else (hogsheadref01_TakeText.j0 k bt113.1 bt113.2.1 (decide (bt113.1 > (IntKind.u64.wrap (a1)))))) else (some ((⟨#[]⟩ : ByteArray), (⟨#[]⟩ : ByteArray), bt113.2.2)))) = some (r1, r2, r3) := h
 clear h
 replace H := Option.bind_eq_some_iff.mp H
 obtain ⟨⟨t113, t114, t115⟩, A30, H⟩ := H
 replace H : (if t115 = 0 then (if a1 < 0 then (hogsheadref01_TakeText.j0 k t113 t114 true) else (hogsheadref01_TakeText.j0 k t113 t114 (decide (t113 > (IntKind.u64.wrap (a1)))))) else (some ((⟨#[]⟩ : ByteArray), (⟨#[]⟩ : ByteArray), t115))) = some (r1, r2, r3) := H
 have A3 := qM A30
 clear A30
 by_cases c4 : t115 = 0
 ·rw [if_pos c4] at H
  have c4b0 : (t115 == 0) = true := beq_iff_eq.mpr c4
  have c4b1 : (t115 != 0) = false := bne_eq_false_iff_eq.mpr c4
  clear c4
  have HC5 := qM H
  clear H
  go_enter Try.func19, Try.ntmps19
  go_upto_region 4 with (first | (go_at_call 13; (with_reducible refine (hogsheadref01_TakeNum.calls k a0 t113 t114 t115 _ A3.out).mono ?_); rintro e w' ⟨rfl, ⟨nd, rfl⟩⟩; (try first | exact ⟨rfl, _, World.drewN_drewN _ _ _⟩ | exact ⟨rfl, _, Eq.trans (World.drewN_drewN _ _ _) (congrArg (World.drewN _) (Nat.add_assoc _ _ _))⟩)))
  repeat (go_quiet (first | (go_at_call 13; (with_reducible refine (hogsheadref01_TakeNum.calls k a0 t113 t114 t115 _ A3.out).mono ?_); rintro e w' ⟨rfl, ⟨nd, rfl⟩⟩; (try first | exact ⟨rfl, _, World.drewN_drewN _ _ _⟩ | exact ⟨rfl, _, Eq.trans (World.drewN_drewN _ _ _) (congrArg (World.drewN _) (Nat.add_assoc _ _ _))⟩))); go_upto_region 4 with (first | (go_at_call 13; (with_reducible refine (hogsheadref01_TakeNum.calls k a0 t113 t114 t115 _ A3.out).mono ?_); rintro e w' ⟨rfl, ⟨nd, rfl⟩⟩; (try first | exact ⟨rfl, _, World.drewN_drewN _ _ _⟩ | exact ⟨rfl, _, Eq.trans (World.drewN_drewN _ _ _) (congrArg (World.drewN _) (Nat.add_assoc _ _ _))⟩))))
  (try simp only [Act.put, List.setIfInBounds_toArray, List.set_cons_zero, List.set_cons_succ])
  go_cut [26] (fun v26 wc => ∃ (kq : Nat) (x26_4 : Bool), v26 = .bool x26_4 ∧ Aside0 (hogsheadref01_TakeText.j0 kq t113 t114 x26_4 = some (r1, r2, r3)) ∧ Aside0 (kq ≤ k) ∧ Drawn0 w wc)
  case first =>
   have H := HC5.out
   clear HC5
   by_cases c6 : a1 < 0
   ·rw [if_pos c6] at H
    have c6b0 : decide (a1 < 0) = true := decide_eq_true c6
    clear c6
    (first | rw [c6b0] | (simp only [i64_w, i32_w]; rw [c6b0]) | skip)
    have H' := qM H
    clear H
    go_wp2
    repeat (go_quiet (fail); try go_wp2)
    go_meet
    case rel => exact ⟨_, (true), (by first | rfl | (simp; done) | (simp [*]; done)), H', ⟨by first | omega | exact Nat.le_refl _⟩, by repeat (first | exact Drawn0.refl _ | apply Drawn0.step)⟩
   ·rw [if_neg c6] at H
    have c6b0 : decide (a1 < 0) = false := decide_eq_false c6
    clear c6
    (first | rw [c6b0] | (simp only [i64_w, i32_w]; rw [c6b0]) | skip)
    have H' := qM H
    clear H
    go_wp2
    repeat (go_quiet (fail); try go_wp2)
    go_meet
    case rel => exact ⟨_, (decide (t113 > (IntKind.u64.wrap (a1)))), (by first | rfl | (simp; done) | (simp [*]; done)), H', ⟨by first | omega | exact Nat.le_refl _⟩, by repeat (first | exact Drawn0.refl _ | apply Drawn0.step)⟩
  case rest =>
   clear HC5
   try clear c1
   try clear p2
   try clear c4
   try clear c4b0
   try clear c4b1
   try clear c6
   try clear c6b0
   obtain ⟨kq, x26_4, rfl, HA, HJ4, ⟨mc4, rfl⟩⟩ := hcut
   cases kq with
   | zero => exact absurd HA.out (by simp [hogsheadref01_TakeText.j0])
   | succ kj4 =>
    have H := HA.out
    clear HA
    simp only [hogsheadref01_TakeText.j0] at H
    by_cases c7 : x26_4 = true
    ·subst c7
     have H1 : (some ((⟨#[]⟩ : ByteArray), (⟨#[]⟩ : ByteArray), 4)) = some (r1, r2, r3) := by rw [if_pos rfl] at H; exact H
     clear H
     have H := H1
     clear H1
     simp only [Option.some.injEq, Prod.mk.injEq] at H
     obtain ⟨rfl, rfl, rfl⟩ := H
     go_wp2
     repeat (go_quiet (fail); try go_wp2)
     go_ret3
     exact ⟨by first | rfl | (simp; done) | (simp [*]; done), by repeat (first | exact Drawn0.refl _ | apply Drawn0.step)⟩
    ·replace c7 := Bool.eq_false_iff.mpr c7
     subst c7
     have H1 : (if t113 > (IntKind.u64.wrap ((t114.size : Int))) then (some ((⟨#[]⟩ : ByteArray), (⟨#[]⟩ : ByteArray), 2)) else (if 0 ≤ t113 then (if t113 ≤ (t114.size : Int) then (some (t114.extract 0 (t113 : Int).toNat, t114.extract (t113 : Int).toNat t114.size, 0)) else (none)) else (none))) = some (r1, r2, r3) := by rw [if_neg (show ¬ (false = true) by decide)] at H; exact H
     clear H
     have H := H1
     clear H1
     by_cases c8 : t113 > (IntKind.u64.wrap ((t114.size : Int)))
     ·rw [if_pos c8] at H
      have c8b0 : decide ((IntKind.u64.wrap ((t114.size : Int))) < t113) = true := decide_eq_true c8
      clear c8
      simp only [Option.some.injEq, Prod.mk.injEq] at H
      obtain ⟨rfl, rfl, rfl⟩ := H
      go_wp2
      repeat (go_quiet (fail); try go_wp2)
      go_ret3
      exact ⟨by first | rfl | (simp; done) | (simp [*]; done), by repeat (first | exact Drawn0.refl _ | apply Drawn0.step)⟩
     ·rw [if_neg c8] at H
      have c8b0 : decide ((IntKind.u64.wrap ((t114.size : Int))) < t113) = false := decide_eq_false c8
      clear c8
      by_cases c9 : 0 ≤ t113
      ·rw [if_pos c9] at H
       have c9b0 := eq_true c9
       have c9b1 : decide (0 ≤ t113) = true := decide_eq_true c9
       clear c9
       by_cases c10 : t113 ≤ (t114.size : Int)
       ·rw [if_pos c10] at H
        have c10b0 := eq_true c10
        have c10b1 : decide (t113 ≤ (t114.size : Int)) = true := decide_eq_true c10
        clear c10
        have c11b0 := eq_true (of_decide_eq_true (by first | (with_reducible assumption) | assumption) : 0 ≤ t113)
        have c12b0 := eq_true (of_decide_eq_true (by first | (with_reducible assumption) | assumption) : t113 ≤ (t114.size : Int))
        simp only [Option.some.injEq, Prod.mk.injEq] at H
        obtain ⟨rfl, rfl, rfl⟩ := H
        go_wp2
        repeat (go_quiet (fail); try go_wp2)
        go_ret3
        exact ⟨by first | rfl | (simp; done) | (simp [*]; done), by repeat (first | exact Drawn0.refl _ | apply Drawn0.step)⟩
       ·rw [if_neg c10] at H
        exact absurd H (by simp)
      ·rw [if_neg c9] at H
       exact absurd H (by simp)
 ·rw [if_neg c4] at H
  have c4b0 : (t115 == 0) = false := beq_eq_false_iff_ne.mpr c4
  have c4b1 : (t115 != 0) = true := bne_iff_ne.mpr c4
  simp only [Option.some.injEq, Prod.mk.injEq] at H
  obtain ⟨rfl, rfl, rfl⟩ := H
  go_enter Try.func19, Try.ntmps19
  go_wp2_with (first | (go_at_call 13; (with_reducible refine (hogsheadref01_TakeNum.calls k a0 t113 t114 t115 _ A3.out).mono ?_); rintro e w' ⟨rfl, ⟨nd, rfl⟩⟩; (try first | exact ⟨rfl, _, World.drewN_drewN _ _ _⟩ | exact ⟨rfl, _, Eq.trans (World.drewN_drewN _ _ _) (congrArg (World.drewN _) (Nat.add_assoc _ _ _))⟩)))
  repeat (go_quiet (first | (go_at_call 13; (with_reducible refine (hogsheadref01_TakeNum.calls k a0 t113 t114 t115 _ A3.out).mono ?_); rintro e w' ⟨rfl, ⟨nd, rfl⟩⟩; (try first | exact ⟨rfl, _, World.drewN_drewN _ _ _⟩ | exact ⟨rfl, _, Eq.trans (World.drewN_drewN _ _ _) (congrArg (World.drewN _) (Nat.add_assoc _ _ _))⟩))); try go_wp2_with (first | (go_at_call 13; (with_reducible refine (hogsheadref01_TakeNum.calls k a0 t113 t114 t115 _ A3.out).mono ?_); rintro e w' ⟨rfl, ⟨nd, rfl⟩⟩; (try first | exact ⟨rfl, _, World.drewN_drewN _ _ _⟩ | exact ⟨rfl, _, Eq.trans (World.drewN_drewN _ _ _) (congrArg (World.drewN _) (Nat.add_assoc _ _ _))⟩))))
  go_ret3
  exact ⟨by first | rfl | (simp; done) | (simp [*]; done), by repeat (first | exact Drawn0.refl _ | apply Drawn0.step)⟩

end Go.Proofs.Ytbmgglgacgkffaa.PAll
