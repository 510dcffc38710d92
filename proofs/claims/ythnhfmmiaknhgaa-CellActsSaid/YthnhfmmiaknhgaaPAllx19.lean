/- Functions of the program as plain Lean functions, and that each call comes to what they say. Laid by a program of this session (hprint.py); Lean checks it. -/
import Derived.Test.YthnhfmmiaknhgaaPAllx0
import Derived.Test.YthnhfmmiaknhgaaPAllx18
namespace Go.Proofs.Ythnhfmmiaknhgaa.PAll
open Go.RowKit Go.Proofs.YthnhfmmiaknhgaaW.PrintWords Go.Proofs.YthnhfmmiaknhgaaW.PrintLast Go.Proofs.YthnhfmmiaknhgaaW.PrintMore
attribute [local go_sem] max2_int min2_int max_two min_two max_three min_three max_four min_four   -- for this text's walks alone
set_option linter.unusedVariables false
set_option linter.unusedSimpArgs false

/-! ### hogsheadref01_TakeText: function 35 -/
def hogsheadref01_TakeText.j0 : Nat → Int → ByteArray → Bool → Option (ByteArray × ByteArray × Int)
 | 0, _, _, _ => none
 | k + 1, x7, x8, x26 => if x26 = true then (some ((⟨#[]⟩ : ByteArray), (⟨#[]⟩ : ByteArray), 4)) else (if x7 > (IntKind.u64.wrap ((x8.size : Int))) then (some ((⟨#[]⟩ : ByteArray), (⟨#[]⟩ : ByteArray), 2)) else (if 0 ≤ x7 then (if x7 ≤ (x8.size : Int) then (some (x8.extract 0 (x7 : Int).toNat, x8.extract (x7 : Int).toNat x8.size, 0)) else (none)) else (none)))
def hogsheadref01_TakeText.f (k : Nat) (a0 : ByteArray) (a1 : Int) : Option (ByteArray × ByteArray × Int) := (hogsheadref01_TakeNum.f k a0).bind fun bt244 => (if bt244.2.2 = 0 then (if a1 < 0 then (hogsheadref01_TakeText.j0 k bt244.1 bt244.2.1 true) else (hogsheadref01_TakeText.j0 k bt244.1 bt244.2.1 (decide (bt244.1 > (IntKind.u64.wrap (a1)))))) else (some ((⟨#[]⟩ : ByteArray), (⟨#[]⟩ : ByteArray), bt244.2.2)))
theorem hogsheadref01_TakeText.mono_l : ∀ k, (∀ y0 y1 y2, LeO (hogsheadref01_TakeText.j0 k y0 y1 y2) (hogsheadref01_TakeText.j0 (k + 1) y0 y1 y2))
 | 0 => fun _ _ _ r h => by simp [hogsheadref01_TakeText.j0] at h
 | k + 1 => by
  have ih0 := hogsheadref01_TakeText.mono_l k
  ·intro y0 y1 y2
   unfold hogsheadref01_TakeText.j0
   repeat' first
   | (with_reducible exact ih0 _ _ _)
   | (with_reducible exact hogsheadref01_TakeNum.mono _ _)
   | (with_reducible exact LeO.refl _)
   | (with_reducible exact LeO.none _)
   | (with_reducible refine LeO.ite ?_ ?_)
   | (with_reducible refine LeO.bind ?_ (fun _ => ?_))
   | exact ih0 _ _ _
   | exact hogsheadref01_TakeNum.mono _ _
   | exact LeO.none _
   | refine LeO.ite ?_ ?_
   | refine LeO.bind ?_ (fun _ => ?_)
theorem hogsheadref01_TakeText.mono : ∀ a0 a1 k, LeO (hogsheadref01_TakeText.f k a0 a1) (hogsheadref01_TakeText.f (k + 1) a0 a1) := by
 intro a0 a1 k
 have ih0 := hogsheadref01_TakeText.mono_l k
 unfold hogsheadref01_TakeText.f
 repeat' first
   | (with_reducible exact ih0 _ _ _)
   | (with_reducible exact hogsheadref01_TakeNum.mono _ _)
   | (with_reducible exact LeO.refl _)
   | (with_reducible exact LeO.none _)
   | (with_reducible refine LeO.ite ?_ ?_)
   | (with_reducible refine LeO.bind ?_ (fun _ => ?_))
   | exact ih0 _ _ _
   | exact hogsheadref01_TakeNum.mono _ _
   | exact LeO.none _
   | refine LeO.ite ?_ ?_
   | refine LeO.bind ?_ (fun _ => ?_)
set_option maxHeartbeats 40000000 in
set_option maxRecDepth 100000 in
theorem hogsheadref01_TakeText.calls (k : Nat) (a0 : ByteArray) (a1 : Int) (r1 : ByteArray) (r2 : ByteArray) (r3 : Int) (w : World) (h : hogsheadref01_TakeText.f k a0 a1 = some (r1, r2, r3)) :
  Calls Try.prog 35 #[.string a0, .int .i64 a1] w fun e w' => e = .returned (.tuple #[.string r1, .string r2, .int .i64 r3]) ∧ Drawn0 w w' := by
 have H : ((hogsheadref01_TakeNum.f k a0).bind fun bt244 => (if bt244.2.2 = 0 then (if a1 < 0 then (hogsheadref01_TakeText.j0 k bt244.1 bt244.2.1 true) else (hogsheadref01_TakeText.j0 k bt244.1 bt244.2.1 (decide (bt244.1 > (IntKind.u64.wrap (a1)))))) else (some ((⟨#[]⟩ : ByteArray), (⟨#[]⟩ : ByteArray), bt244.2.2)))) = some (r1, r2, r3) := h
 clear h
 replace H := Option.bind_eq_some_iff.mp H
 obtain ⟨⟨t244, t245, t246⟩, A30, H⟩ := H
 replace H : (if t246 = 0 then (if a1 < 0 then (hogsheadref01_TakeText.j0 k t244 t245 true) else (hogsheadref01_TakeText.j0 k t244 t245 (decide (t244 > (IntKind.u64.wrap (a1)))))) else (some ((⟨#[]⟩ : ByteArray), (⟨#[]⟩ : ByteArray), t246))) = some (r1, r2, r3) := H
 have A3 := qM A30
 clear A30
 by_cases c4 : t246 = 0
 ·rw [if_pos c4] at H
  have c4b0 : (t246 == 0) = true := beq_iff_eq.mpr c4
  have c4b1 : (t246 != 0) = false := bne_eq_false_iff_eq.mpr c4
  clear c4
  have HC5 := qM H
  clear H
  go_enter Try.func35, Try.ntmps35
  go_upto_region 4 with (first | (go_at_call 34; (with_reducible refine (hogsheadref01_TakeNum.calls k a0 t244 t245 t246 _ A3.out).mono ?_); rintro e w' ⟨rfl, ⟨nd, rfl⟩⟩; (try first | exact ⟨rfl, _, World.drewN_drewN _ _ _⟩ | exact ⟨rfl, _, Eq.trans (World.drewN_drewN _ _ _) (congrArg (World.drewN _) (Nat.add_assoc _ _ _))⟩)))
  repeat (go_quiet (first | (go_at_call 34; (with_reducible refine (hogsheadref01_TakeNum.calls k a0 t244 t245 t246 _ A3.out).mono ?_); rintro e w' ⟨rfl, ⟨nd, rfl⟩⟩; (try first | exact ⟨rfl, _, World.drewN_drewN _ _ _⟩ | exact ⟨rfl, _, Eq.trans (World.drewN_drewN _ _ _) (congrArg (World.drewN _) (Nat.add_assoc _ _ _))⟩))); go_upto_region 4 with (first | (go_at_call 34; (with_reducible refine (hogsheadref01_TakeNum.calls k a0 t244 t245 t246 _ A3.out).mono ?_); rintro e w' ⟨rfl, ⟨nd, rfl⟩⟩; (try first | exact ⟨rfl, _, World.drewN_drewN _ _ _⟩ | exact ⟨rfl, _, Eq.trans (World.drewN_drewN _ _ _) (congrArg (World.drewN _) (Nat.add_assoc _ _ _))⟩))))
  (try simp only [Act.put, List.setIfInBounds_toArray, List.set_cons_zero, List.set_cons_succ])
  go_cut [26] (fun v26 wc => ∃ (kq : Nat) (x26_4 : Bool), v26 = .bool x26_4 ∧ Aside0 (hogsheadref01_TakeText.j0 kq t244 t245 x26_4 = some (r1, r2, r3)) ∧ Aside0 (kq ≤ k) ∧ Drawn0 w wc)
  case first =>
   have H := HC5.out
   clear HC5
   by_cases c6 : a1 < 0
   ·rw [if_pos c6] at H
    have c6b0 : decide (a1 < 0) = true := decide_eq_true c6
    clear c6
    (first | rw [c6b0] | (simp only [i64_w, i32_w]; rw [c6b0]) | skip)
    have H' := qM H
    clear H
    go_wp2
    repeat (go_quiet (fail); try go_wp2)
    go_meet
    case rel => exact ⟨_, (true), (by first | rfl | (simp; done) | (simp [*]; done)), H', ⟨by first | omega | exact Nat.le_refl _⟩, by repeat (first | exact Drawn0.refl _ | apply Drawn0.step)⟩
   ·rw [if_neg c6] at H
    have c6b0 : decide (a1 < 0) = false := decide_eq_false c6
    clear c6
    (first | rw [c6b0] | (simp only [i64_w, i32_w]; rw [c6b0]) | skip)
    have H' := qM H
    clear H
    go_wp2
    repeat (go_quiet (fail); try go_wp2)
    go_meet
    case rel => exact ⟨_, (decide (t244 > (IntKind.u64.wrap (a1)))), (by first | rfl | (simp; done) | (simp [*]; done)), H', ⟨by first | omega | exact Nat.le_refl _⟩, by repeat (first | exact Drawn0.refl _ | apply Drawn0.step)⟩
  case rest =>
   clear HC5
   try clear p2
   try clear c3
   try clear c4
   try clear c4b0
   try clear c4b1
   try clear c6
   try clear c6b0
   obtain ⟨kq, x26_4, rfl, HA, HJ4, ⟨mc4, rfl⟩⟩ := hcut
   cases kq with
   | zero => exact absurd HA.out (by simp [hogsheadref01_TakeText.j0])
   | succ kj4 =>
    have H := HA.out
    clear HA
    simp only [hogsheadref01_TakeText.j0] at H
    by_cases c7 : x26_4 = true
    ·subst c7
     have H1 : (some ((⟨#[]⟩ : ByteArray), (⟨#[]⟩ : ByteArray), 4)) = some (r1, r2, r3) := by rw [if_pos rfl] at H; exact H
     clear H
     have H := H1
     clear H1
     simp only [Option.some.injEq, Prod.mk.injEq] at H
     obtain ⟨rfl, rfl, rfl⟩ := H
     go_wp2
     repeat (go_quiet (fail); try go_wp2)
     go_ret3
     exact ⟨by first | rfl | (simp; done) | (simp [*]; done), by repeat (first | exact Drawn0.refl _ | apply Drawn0.step)⟩
    ·replace c7 := Bool.eq_false_iff.mpr c7
     subst c7
     have H1 : (if t244 > (IntKind.u64.wrap ((t245.size : Int))) then (some ((⟨#[]⟩ : ByteArray), (⟨#[]⟩ : ByteArray), 2)) else (if 0 ≤ t244 then (if t244 ≤ (t245.size : Int) then (some (t245.extract 0 (t244 : Int).toNat, t245.extract (t244 : Int).toNat t245.size, 0)) else (none)) else (none))) = some (r1, r2, r3) := by rw [if_neg (show ¬ (false = true) by decide)] at H; exact H
     clear H
     have H := H1
     clear H1
     by_cases c8 : t244 > (IntKind.u64.wrap ((t245.size : Int)))
     ·rw [if_pos c8] at H
      have c8b0 : decide ((IntKind.u64.wrap ((t245.size : Int))) < t244) = true := decide_eq_true c8
      clear c8
      simp only [Option.some.injEq, Prod.mk.injEq] at H
      obtain ⟨rfl, rfl, rfl⟩ := H
      go_wp2
      repeat (go_quiet (fail); try go_wp2)
      go_ret3
      exact ⟨by first | rfl | (simp; done) | (simp [*]; done), by repeat (first | exact Drawn0.refl _ | apply Drawn0.step)⟩
     ·rw [if_neg c8] at H
      have c8b0 : decide ((IntKind.u64.wrap ((t245.size : Int))) < t244) = false := decide_eq_false c8
      clear c8
      by_cases c9 : 0 ≤ t244
      ·rw [if_pos c9] at H
       have c9b0 := eq_true c9
       have c9b1 : decide (0 ≤ t244) = true := decide_eq_true c9
       clear c9
       by_cases c10 : t244 ≤ (t245.size : Int)
       ·rw [if_pos c10] at H
        have c10b0 := eq_true c10
        have c10b1 : decide (t244 ≤ (t245.size : Int)) = true := decide_eq_true c10
        clear c10
        have c11b0 := eq_true (of_decide_eq_true (by first | (with_reducible assumption) | assumption) : 0 ≤ t244)
        have c12b0 := eq_true (of_decide_eq_true (by first | (with_reducible assumption) | assumption) : t244 ≤ (t245.size : Int))
        simp only [Option.some.injEq, Prod.mk.injEq] at H
        obtain ⟨rfl, rfl, rfl⟩ := H
        go_wp2
        repeat (go_quiet (fail); try go_wp2)
        go_ret3
        exact ⟨by first | rfl | (simp; done) | (simp [*]; done), by repeat (first | exact Drawn0.refl _ | apply Drawn0.step)⟩
       ·rw [if_neg c10] at H
        exact absurd H (by simp)
      ·rw [if_neg c9] at H
       exact absurd H (by simp)
 ·rw [if_neg c4] at H
  have c4b0 : (t246 == 0) = false := beq_eq_false_iff_ne.mpr c4
  have c4b1 : (t246 != 0) = true := bne_iff_ne.mpr c4
  simp only [Option.some.injEq, Prod.mk.injEq] at H
  obtain ⟨rfl, rfl, rfl⟩ := H
  go_enter Try.func35, Try.ntmps35
  go_wp2_with (first | (go_at_call 34; (with_reducible refine (hogsheadref01_TakeNum.calls k a0 t244 t245 t246 _ A3.out).mono ?_); rintro e w' ⟨rfl, ⟨nd, rfl⟩⟩; (try first | exact ⟨rfl, _, World.drewN_drewN _ _ _⟩ | exact ⟨rfl, _, Eq.trans (World.drewN_drewN _ _ _) (congrArg (World.drewN _) (Nat.add_assoc _ _ _))⟩)))
  repeat (go_quiet (first | (go_at_call 34; (with_reducible refine (hogsheadref01_TakeNum.calls k a0 t244 t245 t246 _ A3.out).mono ?_); rintro e w' ⟨rfl, ⟨nd, rfl⟩⟩; (try first | exact ⟨rfl, _, World.drewN_drewN _ _ _⟩ | exact ⟨rfl, _, Eq.trans (World.drewN_drewN _ _ _) (congrArg (World.drewN _) (Nat.add_assoc _ _ _))⟩))); try go_wp2_with (first | (go_at_call 34; (with_reducible refine (hogsheadref01_TakeNum.calls k a0 t244 t245 t246 _ A3.out).mono ?_); rintro e w' ⟨rfl, ⟨nd, rfl⟩⟩; (try first | exact ⟨rfl, _, World.drewN_drewN _ _ _⟩ | exact ⟨rfl, _, Eq.trans (World.drewN_drewN _ _ _) (congrArg (World.drewN _) (Nat.add_assoc _ _ _))⟩))))
  go_ret3
  exact ⟨by first | rfl | (simp; done) | (simp [*]; done), by repeat (first | exact Drawn0.refl _ | apply Drawn0.step)⟩

/-! ### hogsheadref09_Take: function 14 -/
def hogsheadref09_Take.f (k : Nat) (a0 : ByteArray) : Option (Int × ByteArray × Int) := (hogsheadref02_Open.f k a0).bind fun bt247 => (if bt247.2 = 0 then ((hogsheadref01_TakeNum.f k bt247.1).bind fun bt249 => (if bt249.2.2 = 0 then ((hogsheadref01_TakeText.f k bt249.2.1 1000).bind fun bt252 => (if bt252.2.2 = 0 then (if (bt252.2.1.size : Int) > 0 then (some (0, (⟨#[]⟩ : ByteArray), 3)) else (some (bt249.1, bt252.1, 0))) else (some (0, (⟨#[]⟩ : ByteArray), 3)))) else (some (0, (⟨#[]⟩ : ByteArray), 3)))) else (some (0, (⟨#[]⟩ : ByteArray), 3)))
theorem hogsheadref09_Take.mono : ∀ a0 k, LeO (hogsheadref09_Take.f k a0) (hogsheadref09_Take.f (k + 1) a0) := by
 intro a0 k
 unfold hogsheadref09_Take.f
 repeat' first
   | (with_reducible exact hogsheadref01_TakeNum.mono _ _)
   | (with_reducible exact hogsheadref01_TakeText.mono _ _ _)
   | (with_reducible exact hogsheadref02_Open.mono _ _)
   | (with_reducible exact LeO.refl _)
   | (with_reducible exact LeO.none _)
   | (with_reducible refine LeO.ite ?_ ?_)
   | (with_reducible refine LeO.bind ?_ (fun _ => ?_))
   | exact hogsheadref01_TakeNum.mono _ _
   | exact hogsheadref01_TakeText.mono _ _ _
   | exact hogsheadref02_Open.mono _ _
   | exact LeO.none _
   | refine LeO.ite ?_ ?_
   | refine LeO.bind ?_ (fun _ => ?_)
set_option maxHeartbeats 40000000 in
set_option maxRecDepth 100000 in
theorem hogsheadref09_Take.calls (k : Nat) (a0 : ByteArray) (r1 : Int) (r2 : ByteArray) (r3 : Int) (w : World) (h : hogsheadref09_Take.f k a0 = some (r1, r2, r3)) :
  Calls Try.prog 14 #[.string a0] w fun e w' => e = .returned (.tuple #[.int .u64 r1, .string r2, .int .i64 r3]) ∧ Below w.heap.size w w' := by
 have HB := qM (Below.refl w.heap.size w)
 have H : ((hogsheadref02_Open.f k a0).bind fun bt247 => (if bt247.2 = 0 then ((hogsheadref01_TakeNum.f k bt247.1).bind fun bt249 => (if bt249.2.2 = 0 then ((hogsheadref01_TakeText.f k bt249.2.1 1000).bind fun bt252 => (if bt252.2.2 = 0 then (if (bt252.2.1.size : Int) > 0 then (some (0, (⟨#[]⟩ : ByteArray), 3)) else (some (bt249.1, bt252.1, 0))) else (some (0, (⟨#[]⟩ : ByteArray), 3)))) else (some (0, (⟨#[]⟩ : ByteArray), 3)))) else (some (0, (⟨#[]⟩ : ByteArray), 3)))) = some (r1, r2, r3) := h
 clear h
 replace H := Option.bind_eq_some_iff.mp H
 obtain ⟨⟨t247, t248⟩, A20, H⟩ := H
 replace H : (if t248 = 0 then ((hogsheadref01_TakeNum.f k t247).bind fun bt249 => (if bt249.2.2 = 0 then ((hogsheadref01_TakeText.f k bt249.2.1 1000).bind fun bt252 => (if bt252.2.2 = 0 then (if (bt252.2.1.size : Int) > 0 then (some (0, (⟨#[]⟩ : ByteArray), 3)) else (some (bt249.1, bt252.1, 0))) else (some (0, (⟨#[]⟩ : ByteArray), 3)))) else (some (0, (⟨#[]⟩ : ByteArray), 3)))) else (some (0, (⟨#[]⟩ : ByteArray), 3))) = some (r1, r2, r3) := H
 have A2 := qM A20
 clear A20
 by_cases c3 : t248 = 0
 ·rw [if_pos c3] at H
  have c3b0 : (t248 == 0) = true := beq_iff_eq.mpr c3
  have c3b1 : (t248 != 0) = false := bne_eq_false_iff_eq.mpr c3
  clear c3
  replace H := Option.bind_eq_some_iff.mp H
  obtain ⟨⟨t249, t250, t251⟩, A40, H⟩ := H
  replace H : (if t251 = 0 then ((hogsheadref01_TakeText.f k t250 1000).bind fun bt252 => (if bt252.2.2 = 0 then (if (bt252.2.1.size : Int) > 0 then (some (0, (⟨#[]⟩ : ByteArray), 3)) else (some (t249, bt252.1, 0))) else (some (0, (⟨#[]⟩ : ByteArray), 3)))) else (some (0, (⟨#[]⟩ : ByteArray), 3))) = some (r1, r2, r3) := H
  have A4 := qM A40
  clear A40
  by_cases c5 : t251 = 0
  ·rw [if_pos c5] at H
   have c5b0 : (t251 == 0) = true := beq_iff_eq.mpr c5
   have c5b1 : (t251 != 0) = false := bne_eq_false_iff_eq.mpr c5
   clear c5
   replace H := Option.bind_eq_some_iff.mp H
   obtain ⟨⟨t252, t253, t254⟩, A60, H⟩ := H
   replace H : (if t254 = 0 then (if (t253.size : Int) > 0 then (some (0, (⟨#[]⟩ : ByteArray), 3)) else (some (t249, t252, 0))) else (some (0, (⟨#[]⟩ : ByteArray), 3))) = some (r1, r2, r3) := H
   have A6 := qM A60
   clear A60
   by_cases c7 : t254 = 0
   ·rw [if_pos c7] at H
    have c7b0 : (t254 == 0) = true := beq_iff_eq.mpr c7
    have c7b1 : (t254 != 0) = false := bne_eq_false_iff_eq.mpr c7
    clear c7
    by_cases c8 : (t253.size : Int) > 0
    ·rw [if_pos c8] at H
     have c8b0 : decide (0 < (t253.size : Int)) = true := decide_eq_true c8
     have c8b1 : decide (0 < t253.size) = true := decide_eq_true (by omega)
     clear c8
     simp only [Option.some.injEq, Prod.mk.injEq] at H
     obtain ⟨rfl, rfl, rfl⟩ := H
     go_enter Try.func14, Try.ntmps14
     go_wp2_with (first | ((with_reducible refine gate_callee (f := 33) rfl ?_); refine goesL_ (some 15) rfl rfl Try.func33 (by kernel_rfl) rfl #[.string a0] rfl (by (try simp only [List.map_toArray, List.map_cons, List.map_nil]); first | done | rfl | (simp only [List.length_drop, List.length_take]; rfl)) ?_; (with_reducible refine (hogsheadref02_Open.calls k a0 t247 t248 _ A2.out).mono ?_); rintro e w9 ⟨rfl, hb⟩; refine ⟨_, rfl, ?_⟩; have n0_ := qM (eT (by repeat (first | (with_reducible first | exact HB.out | apply eA | apply eN | apply eD) | exact HB.out)) hb); clear HB; have HB := n0_; clear n0_; (try clear hb); (try clear hb2); (try clear hk); (try clear hi)) | ((with_reducible refine gate_callee (f := 34) rfl ?_); refine goesL_ (some 22) rfl rfl Try.func34 (by kernel_rfl) rfl #[.string t247] rfl (by (try simp only [List.map_toArray, List.map_cons, List.map_nil]); first | done | rfl | (simp only [List.length_drop, List.length_take]; rfl)) ?_; (with_reducible refine (hogsheadref01_TakeNum.calls k t247 t249 t250 t251 _ A4.out).mono ?_); rintro e w' ⟨rfl, ⟨nd, rfl⟩⟩; refine ⟨_, rfl, ?_⟩) | ((with_reducible refine gate_callee (f := 35) rfl ?_); refine goesL_ (some 30) rfl rfl Try.func35 (by kernel_rfl) rfl #[.string t250, .int .i64 1000] rfl (by (try simp only [List.map_toArray, List.map_cons, List.map_nil]); first | done | rfl | (simp only [List.length_drop, List.length_take]; rfl)) ?_; (with_reducible refine (hogsheadref01_TakeText.calls k t250 1000 t252 t253 t254 _ A6.out).mono ?_); rintro e w' ⟨rfl, ⟨nd, rfl⟩⟩; refine ⟨_, rfl, ?_⟩))
     go_ret3
     exact ⟨by first | rfl | (simp [errW_none, errW_some] <;> rfl) | (simp [*, errW_none, errW_some] <;> rfl), by repeat (first | (with_reducible first | exact HB.out | apply eA | apply eN | apply eD) | exact HB.out)⟩
    ·rw [if_neg c8] at H
     have c8b0 : decide (0 < (t253.size : Int)) = false := decide_eq_false c8
     have c8b1 : decide (0 < t253.size) = false := decide_eq_false (by omega)
     clear c8
     simp only [Option.some.injEq, Prod.mk.injEq] at H
     obtain ⟨rfl, rfl, rfl⟩ := H
     go_enter Try.func14, Try.ntmps14
     go_wp2_with (first | ((with_reducible refine gate_callee (f := 33) rfl ?_); refine goesL_ (some 15) rfl rfl Try.func33 (by kernel_rfl) rfl #[.string a0] rfl (by (try simp only [List.map_toArray, List.map_cons, List.map_nil]); first | done | rfl | (simp only [List.length_drop, List.length_take]; rfl)) ?_; (with_reducible refine (hogsheadref02_Open.calls k a0 t247 t248 _ A2.out).mono ?_); rintro e w10 ⟨rfl, hb⟩; refine ⟨_, rfl, ?_⟩; have n0_ := qM (eT (by repeat (first | (with_reducible first | exact HB.out | apply eA | apply eN | apply eD) | exact HB.out)) hb); clear HB; have HB := n0_; clear n0_; (try clear hb); (try clear hb2); (try clear hk); (try clear hi)) | ((with_reducible refine gate_callee (f := 34) rfl ?_); refine goesL_ (some 22) rfl rfl Try.func34 (by kernel_rfl) rfl #[.string t247] rfl (by (try simp only [List.map_toArray, List.map_cons, List.map_nil]); first | done | rfl | (simp only [List.length_drop, List.length_take]; rfl)) ?_; (with_reducible refine (hogsheadref01_TakeNum.calls k t247 t249 t250 t251 _ A4.out).mono ?_); rintro e w' ⟨rfl, ⟨nd, rfl⟩⟩; refine ⟨_, rfl, ?_⟩) | ((with_reducible refine gate_callee (f := 35) rfl ?_); refine goesL_ (some 30) rfl rfl Try.func35 (by kernel_rfl) rfl #[.string t250, .int .i64 1000] rfl (by (try simp only [List.map_toArray, List.map_cons, List.map_nil]); first | done | rfl | (simp only [List.length_drop, List.length_take]; rfl)) ?_; (with_reducible refine (hogsheadref01_TakeText.calls k t250 1000 t252 t253 t254 _ A6.out).mono ?_); rintro e w' ⟨rfl, ⟨nd, rfl⟩⟩; refine ⟨_, rfl, ?_⟩))
     go_ret3
     exact ⟨by first | rfl | (simp [errW_none, errW_some] <;> rfl) | (simp [*, errW_none, errW_some] <;> rfl), by repeat (first | (with_reducible first | exact HB.out | apply eA | apply eN | apply eD) | exact HB.out)⟩
   ·rw [if_neg c7] at H
    have c7b0 : (t254 == 0) = false := beq_eq_false_iff_ne.mpr c7
    have c7b1 : (t254 != 0) = true := bne_iff_ne.mpr c7
    simp only [Option.some.injEq, Prod.mk.injEq] at H
    obtain ⟨rfl, rfl, rfl⟩ := H
    go_enter Try.func14, Try.ntmps14
    go_wp2_with (first | ((with_reducible refine gate_callee (f := 33) rfl ?_); refine goesL_ (some 15) rfl rfl Try.func33 (by kernel_rfl) rfl #[.string a0] rfl (by (try simp only [List.map_toArray, List.map_cons, List.map_nil]); first | done | rfl | (simp only [List.length_drop, List.length_take]; rfl)) ?_; (with_reducible refine (hogsheadref02_Open.calls k a0 t247 t248 _ A2.out).mono ?_); rintro e w11 ⟨rfl, hb⟩; refine ⟨_, rfl, ?_⟩; have n0_ := qM (eT (by repeat (first | (with_reducible first | exact HB.out | apply eA | apply eN | apply eD) | exact HB.out)) hb); clear HB; have HB := n0_; clear n0_; (try clear hb); (try clear hb2); (try clear hk); (try clear hi)) | ((with_reducible refine gate_callee (f := 34) rfl ?_); refine goesL_ (some 22) rfl rfl Try.func34 (by kernel_rfl) rfl #[.string t247] rfl (by (try simp only [List.map_toArray, List.map_cons, List.map_nil]); first | done | rfl | (simp only [List.length_drop, List.length_take]; rfl)) ?_; (with_reducible refine (hogsheadref01_TakeNum.calls k t247 t249 t250 t251 _ A4.out).mono ?_); rintro e w' ⟨rfl, ⟨nd, rfl⟩⟩; refine ⟨_, rfl, ?_⟩) | ((with_reducible refine gate_callee (f := 35) rfl ?_); refine goesL_ (some 30) rfl rfl Try.func35 (by kernel_rfl) rfl #[.string t250, .int .i64 1000] rfl (by (try simp only [List.map_toArray, List.map_cons, List.map_nil]); first | done | rfl | (simp only [List.length_drop, List.length_take]; rfl)) ?_; (with_reducible refine (hogsheadref01_TakeText.calls k t250 1000 t252 t253 t254 _ A6.out).mono ?_); rintro e w' ⟨rfl, ⟨nd, rfl⟩⟩; refine ⟨_, rfl, ?_⟩))
    go_ret3
    exact ⟨by first | rfl | (simp [errW_none, errW_some] <;> rfl) | (simp [*, errW_none, errW_some] <;> rfl), by repeat (first | (with_reducible first | exact HB.out | apply eA | apply eN | apply eD) | exact HB.out)⟩
  ·rw [if_neg c5] at H
   have c5b0 : (t251 == 0) = false := beq_eq_false_iff_ne.mpr c5
   have c5b1 : (t251 != 0) = true := bne_iff_ne.mpr c5
   simp only [Option.some.injEq, Prod.mk.injEq] at H
   obtain ⟨rfl, rfl, rfl⟩ := H
   go_enter Try.func14, Try.ntmps14
   go_wp2_with (first | ((with_reducible refine gate_callee (f := 33) rfl ?_); refine goesL_ (some 15) rfl rfl Try.func33 (by kernel_rfl) rfl #[.string a0] rfl (by (try simp only [List.map_toArray, List.map_cons, List.map_nil]); first | done | rfl | (simp only [List.length_drop, List.length_take]; rfl)) ?_; (with_reducible refine (hogsheadref02_Open.calls k a0 t247 t248 _ A2.out).mono ?_); rintro e w12 ⟨rfl, hb⟩; refine ⟨_, rfl, ?_⟩; have n0_ := qM (eT (by repeat (first | (with_reducible first | exact HB.out | apply eA | apply eN | apply eD) | exact HB.out)) hb); clear HB; have HB := n0_; clear n0_; (try clear hb); (try clear hb2); (try clear hk); (try clear hi)) | ((with_reducible refine gate_callee (f := 34) rfl ?_); refine goesL_ (some 22) rfl rfl Try.func34 (by kernel_rfl) rfl #[.string t247] rfl (by (try simp only [List.map_toArray, List.map_cons, List.map_nil]); first | done | rfl | (simp only [List.length_drop, List.length_take]; rfl)) ?_; (with_reducible refine (hogsheadref01_TakeNum.calls k t247 t249 t250 t251 _ A4.out).mono ?_); rintro e w' ⟨rfl, ⟨nd, rfl⟩⟩; refine ⟨_, rfl, ?_⟩))
   go_ret3
   exact ⟨by first | rfl | (simp [errW_none, errW_some] <;> rfl) | (simp [*, errW_none, errW_some] <;> rfl), by repeat (first | (with_reducible first | exact HB.out | apply eA | apply eN | apply eD) | exact HB.out)⟩
 ·rw [if_neg c3] at H
  have c3b0 : (t248 == 0) = false := beq_eq_false_iff_ne.mpr c3
  have c3b1 : (t248 != 0) = true := bne_iff_ne.mpr c3
  simp only [Option.some.injEq, Prod.mk.injEq] at H
  obtain ⟨rfl, rfl, rfl⟩ := H
  go_enter Try.func14, Try.ntmps14
  go_wp2_with (first | ((with_reducible refine gate_callee (f := 33) rfl ?_); refine goesL_ (some 15) rfl rfl Try.func33 (by kernel_rfl) rfl #[.string a0] rfl (by (try simp only [List.map_toArray, List.map_cons, List.map_nil]); first | done | rfl | (simp only [List.length_drop, List.length_take]; rfl)) ?_; (with_reducible refine (hogsheadref02_Open.calls k a0 t247 t248 _ A2.out).mono ?_); rintro e w13 ⟨rfl, hb⟩; refine ⟨_, rfl, ?_⟩; have n0_ := qM (eT (by repeat (first | (with_reducible first | exact HB.out | apply eA | apply eN | apply eD) | exact HB.out)) hb); clear HB; have HB := n0_; clear n0_; (try clear hb); (try clear hb2); (try clear hk); (try clear hi)))
  go_ret3
  exact ⟨by first | rfl | (simp [errW_none, errW_some] <;> rfl) | (simp [*, errW_none, errW_some] <;> rfl), by repeat (first | (with_reducible first | exact HB.out | apply eA | apply eN | apply eD) | exact HB.out)⟩

end Go.Proofs.Ythnhfmmiaknhgaa.PAll
