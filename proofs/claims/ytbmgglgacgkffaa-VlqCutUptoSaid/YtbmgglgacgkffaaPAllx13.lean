/- Functions of the program as plain Lean functions, and that each call comes to what they say. Laid by a program of this session (hprint.py); Lean checks it. -/
import Derived.Test.YtbmgglgacgkffaaPAllx0
import Derived.Test.YtbmgglgacgkffaaPAllx1
import Derived.Test.YtbmgglgacgkffaaPAllx2
import Derived.Test.YtbmgglgacgkffaaPAllx4
import Derived.Test.YtbmgglgacgkffaaPAllx9
namespace Go.Proofs.Ytbmgglgacgkffaa.PAll
open Go.RowKit Go.Proofs.YtbmgglgacgkffaaW.PrintWords Go.Proofs.YtbmgglgacgkffaaW.PrintLast Go.Proofs.YtbmgglgacgkffaaW.PrintMore
attribute [local go_sem] max2_int min2_int max_two min_two max_three min_three max_four min_four   -- for this text's walks alone
set_option linter.unusedVariables false
set_option linter.unusedSimpArgs false

/-! ### hogsheadlaw01_VlqCut: function 10 -/
def hogsheadlaw01_VlqCut.j0 : Nat → List ByteArray → Int → Bool → ByteArray → Option (Bool)
 | 0, _, _, _, _ => none
 | k + 1, x1, x2, x7, x9 => if x2 < (x9.size : Int) then (if 0 ≤ x2 then (if x2 ≤ (x9.size : Int) then ((vlq_TakeRow.f k (x9.extract 0 (x2 : Int).toNat) (x1.length : Int) 1073741824).bind fun bt163 => (if bt163.2.2 = 0 then (some false) else (some x7))) else (none)) else (none)) else (some x7)
def hogsheadlaw01_VlqCut.f (k : Nat) (a0 : Int) (l1 : List ByteArray) (a2 : Int) : Option (Bool) := (hogsheadlaw01_shown.f k).bind fun t157 => ((vlq_Num.f a0).bind fun t158 => ((vlq_Row.f l1).bind fun t159 => (if a2 < 0 then (some t157) else (if a2 < (t158.size : Int) then (if 0 ≤ a2 then (if a2 ≤ (t158.size : Int) then ((vlq_TakeNum.f k (t158.extract 0 (a2 : Int).toNat)).bind fun bt160 => (if bt160.2.2 = 2 then (hogsheadlaw01_VlqCut.j0 k l1 a2 t157 t159) else (some false))) else (none)) else (none)) else (hogsheadlaw01_VlqCut.j0 k l1 a2 t157 t159)))))
theorem hogsheadlaw01_VlqCut.mono_l : ∀ k, (∀ y0 y1 y2 y3, LeO (hogsheadlaw01_VlqCut.j0 k y0 y1 y2 y3) (hogsheadlaw01_VlqCut.j0 (k + 1) y0 y1 y2 y3))
 | 0 => fun _ _ _ _ r h => by simp [hogsheadlaw01_VlqCut.j0] at h
 | k + 1 => by
  have ih0 := hogsheadlaw01_VlqCut.mono_l k
  ·intro y0 y1 y2 y3
   unfold hogsheadlaw01_VlqCut.j0
   repeat' first
   | (with_reducible exact ih0 _ _ _ _)
   | (with_reducible exact hogsheadlaw01_shown.mono _)
   | (with_reducible exact vlq_TakeNum.mono _ _)
   | (with_reducible exact vlq_TakeRow.mono _ _ _ _)
   | (with_reducible exact LeO.refl _)
   | (with_reducible exact LeO.none _)
   | (with_reducible refine LeO.ite ?_ ?_)
   | (with_reducible refine LeO.bind ?_ (fun _ => ?_))
   | exact ih0 _ _ _ _
   | exact hogsheadlaw01_shown.mono _
   | exact vlq_TakeNum.mono _ _
   | exact vlq_TakeRow.mono _ _ _ _
   | exact LeO.none _
   | refine LeO.ite ?_ ?_
   | refine LeO.bind ?_ (fun _ => ?_)
theorem hogsheadlaw01_VlqCut.mono : ∀ a0 a1 a2 k, LeO (hogsheadlaw01_VlqCut.f k a0 a1 a2) (hogsheadlaw01_VlqCut.f (k + 1) a0 a1 a2) := by
 intro a0 a1 a2 k
 have ih0 := hogsheadlaw01_VlqCut.mono_l k
 unfold hogsheadlaw01_VlqCut.f
 repeat' first
   | (with_reducible exact ih0 _ _ _ _)
   | (with_reducible exact hogsheadlaw01_shown.mono _)
   | (with_reducible exact vlq_TakeNum.mono _ _)
   | (with_reducible exact vlq_TakeRow.mono _ _ _ _)
   | (with_reducible exact LeO.refl _)
   | (with_reducible exact LeO.none _)
   | (with_reducible refine LeO.ite ?_ ?_)
   | (with_reducible refine LeO.bind ?_ (fun _ => ?_))
   | exact ih0 _ _ _ _
   | exact hogsheadlaw01_shown.mono _
   | exact vlq_TakeNum.mono _ _
   | exact vlq_TakeRow.mono _ _ _ _
   | exact LeO.none _
   | refine LeO.ite ?_ ?_
   | refine LeO.bind ?_ (fun _ => ?_)
set_option maxHeartbeats 40000000 in
set_option maxRecDepth 100000 in
theorem hogsheadlaw01_VlqCut.calls (k : Nat) (a0 : Int) (A1 : Option Addr) (c1 : Nat) (l1 : List ByteArray) (a2 : Int) (r : Bool) (w : World) (hr1 : Kd.C Kd.string w A1 l1.length l1) (hc1 : l1.length ≤ c1) (h : hogsheadlaw01_VlqCut.f k a0 l1 a2 = some r) :
  Calls Try.prog 10 #[.int .u64 a0, .slice A1 l1.length c1, .int .i64 a2] w fun e w' => e = .returned (.bool r) ∧ Below w.heap.size w w' := by
 have HR1 := qM hr1
 have HC1 := qM hc1
 clear hr1 hc1
 have HB := qM (Below.refl w.heap.size w)
 have H : ((hogsheadlaw01_shown.f k).bind fun t157 => ((vlq_Num.f a0).bind fun t158 => ((vlq_Row.f l1).bind fun t159 => (if a2 < 0 then (some t157) else (if a2 < (t158.size : Int) then (if 0 ≤ a2 then (if a2 ≤ (t158.size : Int) then ((vlq_TakeNum.f k (t158.extract 0 (a2 : Int).toNat)).bind fun bt160 => (if bt160.2.2 = 2 then (hogsheadlaw01_VlqCut.j0 k l1 a2 t157 t159) else (some false))) else (none)) else (none)) else (hogsheadlaw01_VlqCut.j0 k l1 a2 t157 t159)))))) = some r := h
 clear h
 replace H := Option.bind_eq_some_iff.mp H
 obtain ⟨t157, A40, H⟩ := H
 replace H : ((vlq_Num.f a0).bind fun t158 => ((vlq_Row.f l1).bind fun t159 => (if a2 < 0 then (some t157) else (if a2 < (t158.size : Int) then (if 0 ≤ a2 then (if a2 ≤ (t158.size : Int) then ((vlq_TakeNum.f k (t158.extract 0 (a2 : Int).toNat)).bind fun bt160 => (if bt160.2.2 = 2 then (hogsheadlaw01_VlqCut.j0 k l1 a2 t157 t159) else (some false))) else (none)) else (none)) else (hogsheadlaw01_VlqCut.j0 k l1 a2 t157 t159))))) = some r := H
 have A4 := qM A40
 clear A40
 replace H := Option.bind_eq_some_iff.mp H
 obtain ⟨t158, A50, H⟩ := H
 replace H : ((vlq_Row.f l1).bind fun t159 => (if a2 < 0 then (some t157) else (if a2 < (t158.size : Int) then (if 0 ≤ a2 then (if a2 ≤ (t158.size : Int) then ((vlq_TakeNum.f k (t158.extract 0 (a2 : Int).toNat)).bind fun bt160 => (if bt160.2.2 = 2 then (hogsheadlaw01_VlqCut.j0 k l1 a2 t157 t159) else (some false))) else (none)) else (none)) else (hogsheadlaw01_VlqCut.j0 k l1 a2 t157 t159)))) = some r := H
 have A5 := qM A50
 clear A50
 replace H := Option.bind_eq_some_iff.mp H
 obtain ⟨t159, A60, H⟩ := H
 replace H : (if a2 < 0 then (some t157) else (if a2 < (t158.size : Int) then (if 0 ≤ a2 then (if a2 ≤ (t158.size : Int) then ((vlq_TakeNum.f k (t158.extract 0 (a2 : Int).toNat)).bind fun bt160 => (if bt160.2.2 = 2 then (hogsheadlaw01_VlqCut.j0 k l1 a2 t157 t159) else (some false))) else (none)) else (none)) else (hogsheadlaw01_VlqCut.j0 k l1 a2 t157 t159))) = some r := H
 have A6 := qM A60
 clear A60
 by_cases c7 : a2 < 0
 ·rw [if_pos c7] at H
  have c7b0 : decide (a2 < 0) = true := decide_eq_true c7
  clear c7
  obtain rfl := Option.some.inj H
  go_enter Try.func10, Try.ntmps10
  go_wp2_with (first | ((with_reducible refine gate_callee (f := 11) rfl ?_); refine goesL_ (some 16) rfl rfl Try.func11 (by kernel_rfl) rfl #[] rfl (by (try simp only [List.map_toArray, List.map_cons, List.map_nil]); first | done | rfl | (simp only [List.length_drop, List.length_take]; rfl)) ?_; (with_reducible refine (hogsheadlaw01_shown.calls k  t157 _ A4.out).mono ?_); rintro e w8 ⟨rfl, hb⟩; refine ⟨_, rfl, ?_⟩; have n0_ := qM (eT (by repeat (first | (with_reducible first | exact HB.out | apply eA | apply eN | apply eD) | exact HB.out)) hb); clear HB; have HB := n0_; clear n0_; (try clear hb); (try clear hb2); (try clear hk); (try clear hi)) | ((with_reducible refine gate_callee (f := 14) rfl ?_); refine goesL_ (some 18) rfl rfl Try.func14 (by kernel_rfl) rfl #[.int .u64 a0] rfl (by (try simp only [List.map_toArray, List.map_cons, List.map_nil]); first | done | rfl | (simp only [List.length_drop, List.length_take]; rfl)) ?_; (with_reducible refine (vlq_Num.calls a0 t158 _ A5.out).mono ?_); rintro e w9 ⟨rfl, hb⟩; refine ⟨_, rfl, ?_⟩; have n0_ := qM (eT (by repeat (first | (with_reducible first | exact HB.out | apply eA | apply eN | apply eD) | exact HB.out)) hb); clear HB; have HB := n0_; clear n0_; (try clear hb); (try clear hb2); (try clear hk); (try clear hi)) | ((with_reducible refine gate_callee (f := 23) rfl ?_); refine goesL_ (some 20) rfl rfl Try.func23 (by kernel_rfl) rfl #[.slice A1 l1.length c1] rfl (by (try simp only [List.map_toArray, List.map_cons, List.map_nil]); first | done | rfl | (simp only [List.length_drop, List.length_take]; rfl)) ?_; (with_reducible refine (vlq_Row.calls _ _ l1 t159 _ ?side1 ?side2 A6.out).mono ?_); (case side1 => repeat (first | exact (Kd.C_below HR1.out HB.out) | (with_reducible refine Kd.C_alloc ?_ _) | (with_reducible refine Kd.C_drewN ?_ _) | (with_reducible refine Kd.C_drew ?_))); (case side2 => exact HC1.out); rintro e w10 ⟨rfl, hb⟩; refine ⟨_, rfl, ?_⟩; have n0_ := qM (eT (by repeat (first | (with_reducible first | exact HB.out | apply eA | apply eN | apply eD) | exact HB.out)) hb); clear HB; have HB := n0_; clear n0_; (try clear hb); (try clear hb2); (try clear hk); (try clear hi)))
  go_ret
  exact ⟨by first | rfl | (simp [errW_none, errW_some] <;> rfl) | (simp [*, errW_none, errW_some] <;> rfl), by repeat (first | (with_reducible first | exact HB.out | apply eA | apply eN | apply eD) | exact HB.out)⟩
 ·rw [if_neg c7] at H
  have c7b0 : decide (a2 < 0) = false := decide_eq_false c7
  clear c7
  have HC11 := qM H
  clear H
  go_enter Try.func10, Try.ntmps10
  go_upto_if 27 with (first | ((with_reducible refine gate_callee (f := 11) rfl ?_); refine goesL_ (some 16) rfl rfl Try.func11 (by kernel_rfl) rfl #[] rfl (by (try simp only [List.map_toArray, List.map_cons, List.map_nil]); first | done | rfl | (simp only [List.length_drop, List.length_take]; rfl)) ?_; (with_reducible refine (hogsheadlaw01_shown.calls k  t157 _ A4.out).mono ?_); rintro e w12 ⟨rfl, hb⟩; refine ⟨_, rfl, ?_⟩; have n0_ := qM (eT (by repeat (first | (with_reducible first | exact HB.out | apply eA | apply eN | apply eD) | exact HB.out)) hb); clear HB; have HB := n0_; clear n0_; (try clear hb); (try clear hb2); (try clear hk); (try clear hi)) | ((with_reducible refine gate_callee (f := 14) rfl ?_); refine goesL_ (some 18) rfl rfl Try.func14 (by kernel_rfl) rfl #[.int .u64 a0] rfl (by (try simp only [List.map_toArray, List.map_cons, List.map_nil]); first | done | rfl | (simp only [List.length_drop, List.length_take]; rfl)) ?_; (with_reducible refine (vlq_Num.calls a0 t158 _ A5.out).mono ?_); rintro e w13 ⟨rfl, hb⟩; refine ⟨_, rfl, ?_⟩; have n0_ := qM (eT (by repeat (first | (with_reducible first | exact HB.out | apply eA | apply eN | apply eD) | exact HB.out)) hb); clear HB; have HB := n0_; clear n0_; (try clear hb); (try clear hb2); (try clear hk); (try clear hi)) | ((with_reducible refine gate_callee (f := 23) rfl ?_); refine goesL_ (some 20) rfl rfl Try.func23 (by kernel_rfl) rfl #[.slice A1 l1.length c1] rfl (by (try simp only [List.map_toArray, List.map_cons, List.map_nil]); first | done | rfl | (simp only [List.length_drop, List.length_take]; rfl)) ?_; (with_reducible refine (vlq_Row.calls _ _ l1 t159 _ ?side1 ?side2 A6.out).mono ?_); (case side1 => repeat (first | exact (Kd.C_below HR1.out HB.out) | (with_reducible refine Kd.C_alloc ?_ _) | (with_reducible refine Kd.C_drewN ?_ _) | (with_reducible refine Kd.C_drew ?_))); (case side2 => exact HC1.out); rintro e w14 ⟨rfl, hb⟩; refine ⟨_, rfl, ?_⟩; have n0_ := qM (eT (by repeat (first | (with_reducible first | exact HB.out | apply eA | apply eN | apply eD) | exact HB.out)) hb); clear HB; have HB := n0_; clear n0_; (try clear hb); (try clear hb2); (try clear hk); (try clear hi)))
  (try simp only [Act.put, List.setIfInBounds_toArray, List.set_cons_zero, List.set_cons_succ])
  go_cut [] (fun wc => ∃ (kq : Nat), Aside0 (hogsheadlaw01_VlqCut.j0 kq l1 a2 t157 t159 = some r) ∧ Aside0 (kq ≤ k) ∧ Aside0 (Below w.heap.size w wc))
  case first =>
   have H := HC11.out
   clear HC11
   by_cases c15 : a2 < (t158.size : Int)
   ·rw [if_pos c15] at H
    have c15b0 : decide (a2 < (t158.size : Int)) = true := decide_eq_true c15
    clear c15
    (first | rw [c15b0] | (simp only [i64_w, i32_w]; rw [c15b0]) | skip)
    by_cases c16 : 0 ≤ a2
    ·rw [if_pos c16] at H
     have c16b0 := eq_true c16
     have c16b1 : decide (0 ≤ a2) = true := decide_eq_true c16
     clear c16
     by_cases c17 : a2 ≤ (t158.size : Int)
     ·rw [if_pos c17] at H
      have c17b0 := eq_true c17
      have c17b1 : decide (a2 ≤ (t158.size : Int)) = true := decide_eq_true c17
      clear c17
      replace H := Option.bind_eq_some_iff.mp H
      obtain ⟨⟨t160, t161, t162⟩, A180, H⟩ := H
      replace H : (if t162 = 2 then (hogsheadlaw01_VlqCut.j0 k l1 a2 t157 t159) else (some false)) = some r := H
      have A18 := qM A180
      clear A180
      by_cases c19 : t162 = 2
      ·rw [if_pos c19] at H
       have c19b0 : (t162 == 2) = true := beq_iff_eq.mpr c19
       have c19b1 : (t162 != 2) = false := bne_eq_false_iff_eq.mpr c19
       clear c19
       have H' := qM H
       clear H
       go_wp2_with (first | ((with_reducible refine gate_callee (f := 12) rfl ?_); refine goesL_ (some 32) rfl rfl Try.func12 (by kernel_rfl) rfl #[.string (t158.extract 0 (a2 : Int).toNat)] rfl (by (try simp only [List.map_toArray, List.map_cons, List.map_nil]); first | done | rfl | (simp only [List.length_drop, List.length_take]; rfl)) ?_; (with_reducible refine (vlq_TakeNum.calls k (t158.extract 0 (a2 : Int).toNat) t160 t161 t162 _ A18.out).mono ?_); rintro e w' ⟨rfl, ⟨nd, rfl⟩⟩; refine ⟨_, rfl, ?_⟩))
       go_meet
       case rel => exact ⟨_, H', ⟨by first | omega | exact Nat.le_refl _⟩, ⟨by repeat (first | (with_reducible first | exact HB.out | apply eA | apply eN | apply eD) | exact HB.out)⟩⟩
      ·rw [if_neg c19] at H
       have c19b0 : (t162 == 2) = false := beq_eq_false_iff_ne.mpr c19
       have c19b1 : (t162 != 2) = true := bne_iff_ne.mpr c19
       obtain rfl := Option.some.inj H
       go_wp2_with (first | ((with_reducible refine gate_callee (f := 12) rfl ?_); refine goesL_ (some 32) rfl rfl Try.func12 (by kernel_rfl) rfl #[.string (t158.extract 0 (a2 : Int).toNat)] rfl (by (try simp only [List.map_toArray, List.map_cons, List.map_nil]); first | done | rfl | (simp only [List.length_drop, List.length_take]; rfl)) ?_; (with_reducible refine (vlq_TakeNum.calls k (t158.extract 0 (a2 : Int).toNat) t160 t161 t162 _ A18.out).mono ?_); rintro e w' ⟨rfl, ⟨nd, rfl⟩⟩; refine ⟨_, rfl, ?_⟩))
       go_ret
       exact ⟨by first | rfl | (simp [errW_none, errW_some] <;> rfl) | (simp [*, errW_none, errW_some] <;> rfl), by repeat (first | (with_reducible first | exact HB.out | apply eA | apply eN | apply eD) | exact HB.out)⟩
     ·rw [if_neg c17] at H
      exact absurd H (by simp)
    ·rw [if_neg c16] at H
     exact absurd H (by simp)
   ·rw [if_neg c15] at H
    have c15b0 : decide (a2 < (t158.size : Int)) = false := decide_eq_false c15
    clear c15
    (first | rw [c15b0] | (simp only [i64_w, i32_w]; rw [c15b0]) | skip)
    have H' := qM H
    clear H
    go_wp2
    go_meet
    case rel => exact ⟨_, H', ⟨by first | omega | exact Nat.le_refl _⟩, ⟨by repeat (first | (with_reducible first | exact HB.out | apply eA | apply eN | apply eD) | exact HB.out)⟩⟩
  case rest =>
   clear HC11
   try clear c1
   try clear c2
   try clear p2
   try clear c7
   try clear c7b0
   try clear c10
   try clear c11
   try clear c12
   try clear c14
   try clear c15
   try clear c15b0
   try clear c16
   try clear c16b0
   try clear c16b1
   try clear c17
   try clear c17b0
   try clear c17b1
   try clear c19
   try clear c19b0
   try clear c19b1
   obtain ⟨kq, HA, HJ10, HB⟩ := hcut
   cases kq with
   | zero => exact absurd HA.out (by simp [hogsheadlaw01_VlqCut.j0])
   | succ kj10 =>
    have H := HA.out
    clear HA
    simp only [hogsheadlaw01_VlqCut.j0] at H
    by_cases c20 : a2 < (t159.size : Int)
    ·rw [if_pos c20] at H
     have c20b0 : decide (a2 < (t159.size : Int)) = true := decide_eq_true c20
     clear c20
     by_cases c21 : 0 ≤ a2
     ·rw [if_pos c21] at H
      have c21b0 := eq_true c21
      have c21b1 : decide (0 ≤ a2) = true := decide_eq_true c21
      clear c21
      by_cases c22 : a2 ≤ (t159.size : Int)
      ·rw [if_pos c22] at H
       have c22b0 := eq_true c22
       have c22b1 : decide (a2 ≤ (t159.size : Int)) = true := decide_eq_true c22
       clear c22
       replace H := Option.bind_eq_some_iff.mp H
       obtain ⟨⟨t163, t164, t165⟩, A230, H⟩ := H
       replace H : (if t165 = 0 then (some false) else (some t157)) = some r := H
       have A23 := qM A230
       clear A230
       by_cases c24 : t165 = 0
       ·rw [if_pos c24] at H
        have c24b0 : (t165 == 0) = true := beq_iff_eq.mpr c24
        have c24b1 : (t165 != 0) = false := bne_eq_false_iff_eq.mpr c24
        clear c24
        obtain rfl := Option.some.inj H
        go_wp2_with (first | ((with_reducible refine gate_callee (f := 20) rfl ?_); refine goesL_ (some 48) rfl rfl Try.func20 (by kernel_rfl) rfl #[.string (t159.extract 0 (a2 : Int).toNat), .int .i64 (l1.length : Int), .int .i64 1073741824] rfl (by (try simp only [List.map_toArray, List.map_cons, List.map_nil]); first | done | rfl | (simp only [List.length_drop, List.length_take]; rfl)) ?_; (with_reducible refine (vlq_TakeRow.calls kj10 (t159.extract 0 (a2 : Int).toNat) (l1.length : Int) 1073741824 t163 t164 t165 _ A23.out).mono ?_); rintro e w25 ⟨v166, rfl, ho0, hb⟩; refine ⟨_, rfl, ?_⟩; have n0_ := qM (Kd.R_lower ho0 (eZ (by repeat (first | (with_reducible first | exact HB.out | apply eA | apply eN | apply eD) | exact HB.out)))); have n1_ := qM (eT (by repeat (first | (with_reducible first | exact HB.out | apply eA | apply eN | apply eD) | exact HB.out)) hb); clear HB; have HO167 := n0_; have HB := n1_; clear n0_ n1_; (try clear hb); (try clear hb2); (try clear hk); (try clear hi); (try clear ho0)))
        go_ret
        exact ⟨by first | rfl | (simp [errW_none, errW_some] <;> rfl) | (simp [*, errW_none, errW_some] <;> rfl), by repeat (first | (with_reducible first | exact HB.out | apply eA | apply eN | apply eD) | exact HB.out)⟩
       ·rw [if_neg c24] at H
        have c24b0 : (t165 == 0) = false := beq_eq_false_iff_ne.mpr c24
        have c24b1 : (t165 != 0) = true := bne_iff_ne.mpr c24
        obtain rfl := Option.some.inj H
        go_wp2_with (first | ((with_reducible refine gate_callee (f := 20) rfl ?_); refine goesL_ (some 48) rfl rfl Try.func20 (by kernel_rfl) rfl #[.string (t159.extract 0 (a2 : Int).toNat), .int .i64 (l1.length : Int), .int .i64 1073741824] rfl (by (try simp only [List.map_toArray, List.map_cons, List.map_nil]); first | done | rfl | (simp only [List.length_drop, List.length_take]; rfl)) ?_; (with_reducible refine (vlq_TakeRow.calls kj10 (t159.extract 0 (a2 : Int).toNat) (l1.length : Int) 1073741824 t163 t164 t165 _ A23.out).mono ?_); rintro e w26 ⟨v166, rfl, ho0, hb⟩; refine ⟨_, rfl, ?_⟩; have n0_ := qM (Kd.R_lower ho0 (eZ (by repeat (first | (with_reducible first | exact HB.out | apply eA | apply eN | apply eD) | exact HB.out)))); have n1_ := qM (eT (by repeat (first | (with_reducible first | exact HB.out | apply eA | apply eN | apply eD) | exact HB.out)) hb); clear HB; have HO167 := n0_; have HB := n1_; clear n0_ n1_; (try clear hb); (try clear hb2); (try clear hk); (try clear hi); (try clear ho0)))
        go_ret
        exact ⟨by first | rfl | (simp [errW_none, errW_some] <;> rfl) | (simp [*, errW_none, errW_some] <;> rfl), by repeat (first | (with_reducible first | exact HB.out | apply eA | apply eN | apply eD) | exact HB.out)⟩
      ·rw [if_neg c22] at H
       exact absurd H (by simp)
     ·rw [if_neg c21] at H
      exact absurd H (by simp)
    ·rw [if_neg c20] at H
     have c20b0 : decide (a2 < (t159.size : Int)) = false := decide_eq_false c20
     clear c20
     obtain rfl := Option.some.inj H
     go_wp2
     go_ret
     exact ⟨by first | rfl | (simp [errW_none, errW_some] <;> rfl) | (simp [*, errW_none, errW_some] <;> rfl), by repeat (first | (with_reducible first | exact HB.out | apply eA | apply eN | apply eD) | exact HB.out)⟩

end Go.Proofs.Ytbmgglgacgkffaa.PAll
