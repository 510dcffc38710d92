/- Functions of the program as plain Lean functions, and that each call comes to what they say. Laid by a program of this session (hprint.py); Lean checks it. -/
import Derived.Test.YtbmgglgacgkffaaPAllx0
import Derived.Test.YtbmgglgacgkffaaPAllx5
import Derived.Test.YtbmgglgacgkffaaPAllx6
namespace Go.Proofs.Ytbmgglgacgkffaa.PAll
open Go.RowKit Go.Proofs.YtbmgglgacgkffaaW.PrintWords Go.Proofs.YtbmgglgacgkffaaW.PrintLast Go.Proofs.YtbmgglgacgkffaaW.PrintMore
attribute [local go_sem] max2_int min2_int max_two min_two max_three min_three max_four min_four   -- for this text's walks alone
set_option linter.unusedVariables false
set_option linter.unusedSimpArgs false

/-! ### hogsheadref01_TakeRow: function 21 -/
mutual
def hogsheadref01_TakeRow.j0 : Nat → Int → Int → ByteArray → Bool → Option (List ByteArray × ByteArray × Int)
 | 0, _, _, _, _ => none
 | k + 1, x2, x9, x10, x33 => if x33 = true then (some (([] : List ByteArray), (⟨#[]⟩ : ByteArray), 4)) else (hogsheadref01_TakeRow.l0 k x2 x9 x10 ([] : List ByteArray) 0)
def hogsheadref01_TakeRow.l0 : Nat → Int → Int → ByteArray → List ByteArray → Int → Option (List ByteArray × ByteArray × Int)
 | 0, _, _, _, _, _ => none
 | k + 1, x2, x9, x10, x12, x13 => if x13 < x9 then ((hogsheadref01_TakeText.f k x10 x2).bind fun bt119 => (if bt119.2.2 = 0 then (if x12.length < 8796093022208 then (hogsheadref01_TakeRow.l0 k x2 x9 bt119.2.1 (x12 ++ [bt119.1]) (IntKind.u64.wrap (x13 + 1))) else (none)) else (some (([] : List ByteArray), (⟨#[]⟩ : ByteArray), bt119.2.2)))) else (some (x12, x10, 0))
end
def hogsheadref01_TakeRow.f (k : Nat) (a0 : ByteArray) (a1 : Int) (a2 : Int) : Option (List ByteArray × ByteArray × Int) := (hogsheadref01_TakeNum.f k a0).bind fun bt116 => (if bt116.2.2 = 0 then (if a1 < 0 then (hogsheadref01_TakeRow.j0 k a2 bt116.1 bt116.2.1 true) else (hogsheadref01_TakeRow.j0 k a2 bt116.1 bt116.2.1 (decide (bt116.1 > (IntKind.u64.wrap (a1)))))) else (some (([] : List ByteArray), (⟨#[]⟩ : ByteArray), bt116.2.2)))
theorem hogsheadref01_TakeRow.mono_l : ∀ k, (∀ y0 y1 y2 y3, LeO (hogsheadref01_TakeRow.j0 k y0 y1 y2 y3) (hogsheadref01_TakeRow.j0 (k + 1) y0 y1 y2 y3)) ∧ (∀ y0 y1 y2 y3 y4, LeO (hogsheadref01_TakeRow.l0 k y0 y1 y2 y3 y4) (hogsheadref01_TakeRow.l0 (k + 1) y0 y1 y2 y3 y4))
 | 0 => ⟨fun _ _ _ _ r h => by simp [hogsheadref01_TakeRow.j0] at h, fun _ _ _ _ _ r h => by simp [hogsheadref01_TakeRow.l0] at h⟩
 | k + 1 => by
  obtain ⟨ih0, ih1⟩ := hogsheadref01_TakeRow.mono_l k
  refine ⟨?_, ?_⟩
  ·intro y0 y1 y2 y3
   unfold hogsheadref01_TakeRow.j0
   repeat' first
   | (with_reducible exact ih0 _ _ _ _)
   | (with_reducible exact ih1 _ _ _ _ _)
   | (with_reducible exact hogsheadref01_TakeNum.mono _ _)
   | (with_reducible exact hogsheadref01_TakeText.mono _ _ _)
   | (with_reducible exact LeO.refl _)
   | (with_reducible exact LeO.none _)
   | (with_reducible refine LeO.ite ?_ ?_)
   | (with_reducible refine LeO.bind ?_ (fun _ => ?_))
   | exact ih0 _ _ _ _
   | exact ih1 _ _ _ _ _
   | exact hogsheadref01_TakeNum.mono _ _
   | exact hogsheadref01_TakeText.mono _ _ _
   | exact LeO.none _
   | refine LeO.ite ?_ ?_
   | refine LeO.bind ?_ (fun _ => ?_)
  ·intro y0 y1 y2 y3 y4
   unfold hogsheadref01_TakeRow.l0
   repeat' first
   | (with_reducible exact ih0 _ _ _ _)
   | (with_reducible exact ih1 _ _ _ _ _)
   | (with_reducible exact hogsheadref01_TakeNum.mono _ _)
   | (with_reducible exact hogsheadref01_TakeText.mono _ _ _)
   | (with_reducible exact LeO.refl _)
   | (with_reducible exact LeO.none _)
   | (with_reducible refine LeO.ite ?_ ?_)
   | (with_reducible refine LeO.bind ?_ (fun _ => ?_))
   | exact ih0 _ _ _ _
   | exact ih1 _ _ _ _ _
   | exact hogsheadref01_TakeNum.mono _ _
   | exact hogsheadref01_TakeText.mono _ _ _
   | exact LeO.none _
   | refine LeO.ite ?_ ?_
   | refine LeO.bind ?_ (fun _ => ?_)
theorem hogsheadref01_TakeRow.mono : ∀ a0 a1 a2 k, LeO (hogsheadref01_TakeRow.f k a0 a1 a2) (hogsheadref01_TakeRow.f (k + 1) a0 a1 a2) := by
 intro a0 a1 a2 k
 obtain ⟨ih0, ih1⟩ := hogsheadref01_TakeRow.mono_l k
 unfold hogsheadref01_TakeRow.f
 repeat' first
   | (with_reducible exact ih0 _ _ _ _)
   | (with_reducible exact ih1 _ _ _ _ _)
   | (with_reducible exact hogsheadref01_TakeNum.mono _ _)
   | (with_reducible exact hogsheadref01_TakeText.mono _ _ _)
   | (with_reducible exact LeO.refl _)
   | (with_reducible exact LeO.none _)
   | (with_reducible refine LeO.ite ?_ ?_)
   | (with_reducible refine LeO.bind ?_ (fun _ => ?_))
   | exact ih0 _ _ _ _
   | exact ih1 _ _ _ _ _
   | exact hogsheadref01_TakeNum.mono _ _
   | exact hogsheadref01_TakeText.mono _ _ _
   | exact LeO.none _
   | refine LeO.ite ?_ ?_
   | refine LeO.bind ?_ (fun _ => ?_)
set_option maxHeartbeats 40000000 in
set_option maxRecDepth 100000 in
theorem hogsheadref01_TakeRow.calls (k : Nat) (a0 : ByteArray) (a1 : Int) (a2 : Int) (r1 : List ByteArray) (r2 : ByteArray) (r3 : Int) (w : World) (h : hogsheadref01_TakeRow.f k a0 a1 a2 = some (r1, r2, r3)) :
  Calls Try.prog 21 #[.string a0, .int .i64 a1, .int .i64 a2] w fun e w' => ∃ v0_ : Value, e = .returned (.tuple #[v0_, .string r2, .int .i64 r3]) ∧ Kd.R Kd.string 9 w' w.heap.size (fun _ => True) v0_ r1 ∧ Below w.heap.size w w' := by
 have HB := qM (Below.refl w.heap.size w)
 have H : ((hogsheadref01_TakeNum.f k a0).bind fun bt116 => (if bt116.2.2 = 0 then (if a1 < 0 then (hogsheadref01_TakeRow.j0 k a2 bt116.1 bt116.2.1 true) else (hogsheadref01_TakeRow.j0 k a2 bt116.1 bt116.2.1 (decide (bt116.1 > (IntKind.u64.wrap (a1)))))) else (some (([] : List ByteArray), (⟨#[]⟩ : ByteArray), bt116.2.2)))) = some (r1, r2, r3) := h
 clear h
 replace H := Option.bind_eq_some_iff.mp H
 obtain ⟨⟨t116, t117, t118⟩, A40, H⟩ := H
 replace H : (if t118 = 0 then (if a1 < 0 then (hogsheadref01_TakeRow.j0 k a2 t116 t117 true) else (hogsheadref01_TakeRow.j0 k a2 t116 t117 (decide (t116 > (IntKind.u64.wrap (a1)))))) else (some (([] : List ByteArray), (⟨#[]⟩ : ByteArray), t118))) = some (r1, r2, r3) := H
 have A4 := qM A40
 clear A40
 by_cases c5 : t118 = 0
 ·rw [if_pos c5] at H
  have c5b0 : (t118 == 0) = true := beq_iff_eq.mpr c5
  have c5b1 : (t118 != 0) = false := bne_eq_false_iff_eq.mpr c5
  clear c5
  have HC6 := qM H
  clear H
  go_enter Try.func21, Try.ntmps21
  go_upto_region 4 with (first | ((with_reducible refine gate_callee (f := 13) rfl ?_); refine goesL_ (some 19) rfl rfl Try.func13 (by kernel_rfl) rfl #[.string a0] rfl (by (try simp only [List.map_toArray, List.map_cons, List.map_nil]); first | done | rfl | (simp only [List.length_drop, List.length_take]; rfl)) ?_; (with_reducible refine (hogsheadref01_TakeNum.calls k a0 t116 t117 t118 _ A4.out).mono ?_); rintro e w' ⟨rfl, ⟨nd, rfl⟩⟩; refine ⟨_, rfl, ?_⟩))
  (try simp only [Act.put, List.setIfInBounds_toArray, List.set_cons_zero, List.set_cons_succ])
  go_cut [33] (fun v33 wc => ∃ (kq : Nat) (x33_5 : Bool), v33 = .bool x33_5 ∧ Aside0 (hogsheadref01_TakeRow.j0 kq a2 t116 t117 x33_5 = some (r1, r2, r3)) ∧ Aside0 (kq ≤ k) ∧ Aside0 (Below w.heap.size w wc))
  case first =>
   have H := HC6.out
   clear HC6
   by_cases c7 : a1 < 0
   ·rw [if_pos c7] at H
    have c7b0 : decide (a1 < 0) = true := decide_eq_true c7
    clear c7
    (first | rw [c7b0] | (simp only [i64_w, i32_w]; rw [c7b0]) | skip)
    have H' := qM H
    clear H
    go_wp2
    go_meet
    case rel => exact ⟨_, (true), (by first | rfl | (simp; done) | (simp [*]; done)), H', ⟨by first | omega | exact Nat.le_refl _⟩, ⟨by repeat (first | (with_reducible first | exact HB.out | apply eA | apply eN | apply eD) | exact HB.out)⟩⟩
   ·rw [if_neg c7] at H
    have c7b0 : decide (a1 < 0) = false := decide_eq_false c7
    clear c7
    (first | rw [c7b0] | (simp only [i64_w, i32_w]; rw [c7b0]) | skip)
    have H' := qM H
    clear H
    go_wp2
    go_meet
    case rel => exact ⟨_, (decide (t116 > (IntKind.u64.wrap (a1)))), (by first | rfl | (simp; done) | (simp [*]; done)), H', ⟨by first | omega | exact Nat.le_refl _⟩, ⟨by repeat (first | (with_reducible first | exact HB.out | apply eA | apply eN | apply eD) | exact HB.out)⟩⟩
  case rest =>
   clear HC6
   try clear c1
   try clear c2
   try clear p2
   try clear c5
   try clear c5b0
   try clear c5b1
   try clear c7
   try clear c7b0
   obtain ⟨kq, x33_5, rfl, HA, HJ5, HB⟩ := hcut
   cases kq with
   | zero => exact absurd HA.out (by simp [hogsheadref01_TakeRow.j0])
   | succ kj5 =>
    have H := HA.out
    clear HA
    simp only [hogsheadref01_TakeRow.j0] at H
    by_cases c8 : x33_5 = true
    ·subst c8
     have H1 : (some (([] : List ByteArray), (⟨#[]⟩ : ByteArray), 4)) = some (r1, r2, r3) := by rw [if_pos rfl] at H; exact H
     clear H
     have H := H1
     clear H1
     simp only [Option.some.injEq, Prod.mk.injEq] at H
     obtain ⟨rfl, rfl, rfl⟩ := H
     go_wp2
     go_ret3
     exact ⟨_, by first | rfl | (simp [errW_none, errW_some] <;> rfl) | (simp [*, errW_none, errW_some] <;> rfl), by first | exact Kd.R_nil _ _ _ _ _ | exact Kd.N_nil _ _ _ _ _ | exact Kd.V_nil _ _ _ _ _ | exact Kd.Q_nil _ _ _ _ _ | exact Kd.S_nil _ _ _ _ _, by repeat (first | (with_reducible first | exact HB.out | apply eA | apply eN | apply eD) | exact HB.out)⟩
    ·replace c8 := Bool.eq_false_iff.mpr c8
     subst c8
     have H1 : (hogsheadref01_TakeRow.l0 kj5 a2 t116 t117 ([] : List ByteArray) 0) = some (r1, r2, r3) := by rw [if_neg (show ¬ (false = true) by decide)] at H; exact H
     clear H
     have H := H1
     clear H1
     have H' := qM H
     clear H
     go_wp2
     go_loopg [10, 12, 13] kj5 (fun kq v10 v12 v13 w' => ∃ (x10_2 : ByteArray) (x12_2 : List ByteArray) (x13_2 : Int), v10 = .string x10_2 ∧ v13 = .int .u64 x13_2 ∧ Aside0 (hogsheadref01_TakeRow.l0 kq a2 t116 x10_2 x12_2 x13_2 = some (r1, r2, r3)) ∧ Aside0 (kq ≤ kj5) ∧ Aside0 (Kd.R Kd.string 9 w' w.heap.size (fun _ => True) v12 x12_2) ∧ Aside0 (Below w.heap.size w w'))
     case atStart => exact ⟨(t117), (([] : List ByteArray)), (0), (by first | rfl | (simp; done) | (simp [*]; done)), (by first | rfl | (simp; done) | (simp [*]; done)), H', ⟨Nat.le_refl _⟩, ⟨by first | exact Kd.R_nil _ _ _ _ _ | exact Kd.N_nil _ _ _ _ _ | exact Kd.V_nil _ _ _ _ _ | exact Kd.Q_nil _ _ _ _ _ | exact Kd.S_nil _ _ _ _ _⟩, ⟨by repeat (first | (with_reducible first | exact HB.out | apply eA | apply eN | apply eD) | exact HB.out)⟩⟩
     case round =>
      clear H'
      try clear c1
      try clear c2
      try clear p2
      try clear c5
      try clear c5b0
      try clear c5b1
      try clear c7
      try clear c7b0
      try clear c8
      try clear p2
      obtain ⟨x10_2, x12_2, x13_2, rfl, rfl, HA, HK2, HO_12, HB⟩ := hrel
      cases gk with
      | zero => exact absurd HA.out (by simp [hogsheadref01_TakeRow.l0])
      | succ k2 =>
       have H := HA.out
       clear HA
       simp only [hogsheadref01_TakeRow.l0] at H
       by_cases c9 : x13_2 < t116
       ·rw [if_pos c9] at H
        have c9b0 : decide (x13_2 < t116) = true := decide_eq_true c9
        clear c9
        replace H := Option.bind_eq_some_iff.mp H
        obtain ⟨⟨t119, t120, t121⟩, A100, H⟩ := H
        replace H : (if t121 = 0 then (if x12_2.length < 8796093022208 then (hogsheadref01_TakeRow.l0 k2 a2 t116 t120 (x12_2 ++ [t119]) (IntKind.u64.wrap (x13_2 + 1))) else (none)) else (some (([] : List ByteArray), (⟨#[]⟩ : ByteArray), t121))) = some (r1, r2, r3) := H
        have A10 := qM A100
        clear A100
        by_cases c11 : t121 = 0
        ·rw [if_pos c11] at H
         have c11b0 : (t121 == 0) = true := beq_iff_eq.mpr c11
         have c11b1 : (t121 != 0) = false := bne_eq_false_iff_eq.mpr c11
         clear c11
         by_cases c12 : x12_2.length < 8796093022208
         ·rw [if_pos c12] at H
          have LMc12 := qM c12
          clear c12
          obtain ⟨y122, hy122⟩ : ∃ y_ : List ByteArray, y_ = (x12_2 ++ [t119]) := ⟨_, rfl⟩
          replace H : (hogsheadref01_TakeRow.l0 k2 a2 t116 t120 y122 (IntKind.u64.wrap (x13_2 + 1))) = some (r1, r2, r3) := by first | (rw [hy122]; with_reducible exact H) | (have H2_ := (Option.bind_some _ _).symm.trans H; rw [hy122]; with_reducible exact H2_) | (have H2_ := (Option.bind_some _ _).symm.trans H; with_reducible exact H2_) | with_reducible exact H | (rw [hy122]; exact H) | exact H
          have Ny122 := qM hy122
          clear hy122
          have H' := qM H
          clear H
          go_wp2_with (first | ((with_reducible refine gate_callee (f := 19) rfl ?_); refine goesL_ (some 42) rfl rfl Try.func19 (by kernel_rfl) rfl #[.string x10_2, .int .i64 a2] rfl (by (try simp only [List.map_toArray, List.map_cons, List.map_nil]); first | done | rfl | (simp only [List.length_drop, List.length_take]; rfl)) ?_; (with_reducible refine (hogsheadref01_TakeText.calls k2 x10_2 a2 t119 t120 t121 _ A10.out).mono ?_); rintro e w' ⟨rfl, ⟨nd, rfl⟩⟩; refine ⟨_, rfl, ?_⟩) | ((with_reducible refine gate_builtin (b := .append) (xs := #[.tmp 49, .tmp 51]) rfl ?_); at_builtin; refine Kd.R_append Kd.string (w0 := w) w.heap.size rfl (.tmp 49) (.tmp 51) 40 9 (.string ⟨#[]⟩) 16 rfl Try.underlying40 info9 rfl (by decide) (by omega) u12 x12_2 t119 [.string t119] (fun _ => True) (fun _ => False) rfl rfl ?aP (fun _ hk => hk.elim) ?aF ?aO ?aB ?aS ?aL ?_; (case aP => exact rfl); (case aB => exact (by repeat (first | (with_reducible first | exact HB.out | apply eA | apply eN | apply eD) | exact HB.out))); (case aF => exact (fun _ _ => trivial)); (case aO => exact (by (with_reducible repeat first | apply RA | apply RN | apply RD); exact HO_12.out)); (case aS => exact (eZ (by repeat (first | (with_reducible first | exact HB.out | apply eA | apply eN | apply eD) | exact HB.out)))); (case aL => have := LMc12.out; omega); intro v123 w13 ho hb hg hat; rw [← Ny122.out] at ho; have n0_ := qM (hb); have n1_ := qM (ho); clear HB HO_12; have HB := n0_; have HO124 := n1_; clear n0_ n1_; clear ho hb hg hat))
          go_roundg k2
          case measure => have := HJ5.out; have := HK2.out; omega
          case rel => exact ⟨(t120), (y122), (IntKind.u64.wrap (x13_2 + 1)), (by first | rfl | (simp; done) | (simp [*]; done)), (by first | rfl | (simp; done) | (simp [*]; done)), H', ⟨by have := HJ5.out; have := HK2.out; omega⟩, ⟨by (with_reducible repeat first | apply RA | apply RN | apply RD); exact HO124.out⟩, ⟨by repeat (first | (with_reducible first | exact HB.out | apply eA | apply eN | apply eD) | exact HB.out)⟩⟩
         ·rw [if_neg c12] at H
          exact absurd H (by simp)
        ·rw [if_neg c11] at H
         have c11b0 : (t121 == 0) = false := beq_eq_false_iff_ne.mpr c11
         have c11b1 : (t121 != 0) = true := bne_iff_ne.mpr c11
         simp only [Option.some.injEq, Prod.mk.injEq] at H
         obtain ⟨rfl, rfl, rfl⟩ := H
         go_wp2_with (first | ((with_reducible refine gate_callee (f := 19) rfl ?_); refine goesL_ (some 42) rfl rfl Try.func19 (by kernel_rfl) rfl #[.string x10_2, .int .i64 a2] rfl (by (try simp only [List.map_toArray, List.map_cons, List.map_nil]); first | done | rfl | (simp only [List.length_drop, List.length_take]; rfl)) ?_; (with_reducible refine (hogsheadref01_TakeText.calls k2 x10_2 a2 t119 t120 t121 _ A10.out).mono ?_); rintro e w' ⟨rfl, ⟨nd, rfl⟩⟩; refine ⟨_, rfl, ?_⟩))
         go_ret3
         exact ⟨_, by first | rfl | (simp [errW_none, errW_some] <;> rfl) | (simp [*, errW_none, errW_some] <;> rfl), by first | exact Kd.R_nil _ _ _ _ _ | exact Kd.N_nil _ _ _ _ _ | exact Kd.V_nil _ _ _ _ _ | exact Kd.Q_nil _ _ _ _ _ | exact Kd.S_nil _ _ _ _ _, by repeat (first | (with_reducible first | exact HB.out | apply eA | apply eN | apply eD) | exact HB.out)⟩
       ·rw [if_neg c9] at H
        have c9b0 : decide (x13_2 < t116) = false := decide_eq_false c9
        clear c9
        simp only [Option.some.injEq, Prod.mk.injEq] at H
        obtain ⟨rfl, rfl, rfl⟩ := H
        go_wp2
        go_ret3
        exact ⟨_, by first | rfl | (simp [errW_none, errW_some] <;> rfl) | (simp [*, errW_none, errW_some] <;> rfl), by (with_reducible repeat first | apply RA | apply RN | apply RD); exact HO_12.out, by repeat (first | (with_reducible first | exact HB.out | apply eA | apply eN | apply eD) | exact HB.out)⟩
 ·rw [if_neg c5] at H
  have c5b0 : (t118 == 0) = false := beq_eq_false_iff_ne.mpr c5
  have c5b1 : (t118 != 0) = true := bne_iff_ne.mpr c5
  simp only [Option.some.injEq, Prod.mk.injEq] at H
  obtain ⟨rfl, rfl, rfl⟩ := H
  go_enter Try.func21, Try.ntmps21
  go_wp2_with (first | ((with_reducible refine gate_callee (f := 13) rfl ?_); refine goesL_ (some 19) rfl rfl Try.func13 (by kernel_rfl) rfl #[.string a0] rfl (by (try simp only [List.map_toArray, List.map_cons, List.map_nil]); first | done | rfl | (simp only [List.length_drop, List.length_take]; rfl)) ?_; (with_reducible refine (hogsheadref01_TakeNum.calls k a0 t116 t117 t118 _ A4.out).mono ?_); rintro e w' ⟨rfl, ⟨nd, rfl⟩⟩; refine ⟨_, rfl, ?_⟩))
  go_ret3
  exact ⟨_, by first | rfl | (simp [errW_none, errW_some] <;> rfl) | (simp [*, errW_none, errW_some] <;> rfl), by first | exact Kd.R_nil _ _ _ _ _ | exact Kd.N_nil _ _ _ _ _ | exact Kd.V_nil _ _ _ _ _ | exact Kd.Q_nil _ _ _ _ _ | exact Kd.S_nil _ _ _ _ _, by repeat (first | (with_reducible first | exact HB.out | apply eA | apply eN | apply eD) | exact HB.out)⟩

end Go.Proofs.Ytbmgglgacgkffaa.PAll
