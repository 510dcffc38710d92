/- Functions of the program as plain Lean functions, and that each call comes to what they say. Laid by a program of this session (hprint.py); Lean checks it. -/
import Derived.Test.YthnhfmmiaknhgaaPAllx0
import Derived.Test.YthnhfmmiaknhgaaPAllx5
import Derived.Test.YthnhfmmiaknhgaaPAllx10
import Derived.Test.YthnhfmmiaknhgaaPAllx16
namespace Go.Proofs.Ythnhfmmiaknhgaa.PAll
open Go.RowKit Go.Proofs.YthnhfmmiaknhgaaW.PrintWords Go.Proofs.YthnhfmmiaknhgaaW.PrintLast Go.Proofs.YthnhfmmiaknhgaaW.PrintMore
attribute [local go_sem] max2_int min2_int max_two min_two max_three min_three max_four min_four   -- for this text's walks alone
set_option linter.unusedVariables false
set_option linter.unusedSimpArgs false

/-! ### hogsheadlaw09_CellCut: function 7 -/
mutual
def hogsheadlaw09_CellCut.j0 : Nat → Int → ByteArray → Int → Bool → ByteArray → Bool → Option (Bool)
 | 0, _, _, _, _, _, _ => none
 | k + 1, x0, x1, x2, x7, x8, x34 => if x34 = true then (some x7) else (if 0 ≤ x2 then (if x2 ≤ (x8.size : Int) then ((cell_Take.f k (x8.extract 0 (x2 : Int).toNat)).bind fun bt447 => ((cell_Take.f k x8).bind fun bt450 => (if x7 = true then (if bt447.2.2 = 3 then (if bt450.1 = x0 then (if bt450.2.1.toList = x1.toList then (hogsheadlaw09_CellCut.j1 k (bt450.2.2 == 0)) else (hogsheadlaw09_CellCut.j1 k false)) else (hogsheadlaw09_CellCut.j1 k false)) else (hogsheadlaw09_CellCut.j1 k false)) else (hogsheadlaw09_CellCut.j1 k false)))) else (none)) else (none))
def hogsheadlaw09_CellCut.j1 : Nat → Bool → Option (Bool)
 | 0, _ => none
 | k + 1, x6 => some x6
end
def hogsheadlaw09_CellCut.f (k : Nat) (a0 : Int) (a1 : ByteArray) (a2 : Int) : Option (Bool) := (hogsheadlaw09_shown.f k).bind fun t444 => ((cell_Record.f a0 a1).bind fun bt445 => (if bt445.2 = 0 then (if a2 < 0 then (hogsheadlaw09_CellCut.j0 k a0 a1 a2 t444 bt445.1 true) else (hogsheadlaw09_CellCut.j0 k a0 a1 a2 t444 bt445.1 (decide (a2 ≥ (bt445.1.size : Int))))) else (hogsheadlaw09_CellCut.j0 k a0 a1 a2 t444 bt445.1 true)))
theorem hogsheadlaw09_CellCut.mono_l : ∀ k, (∀ y0 y1 y2 y3 y4 y5, LeO (hogsheadlaw09_CellCut.j0 k y0 y1 y2 y3 y4 y5) (hogsheadlaw09_CellCut.j0 (k + 1) y0 y1 y2 y3 y4 y5)) ∧ (∀ y0, LeO (hogsheadlaw09_CellCut.j1 k y0) (hogsheadlaw09_CellCut.j1 (k + 1) y0))
 | 0 => ⟨fun _ _ _ _ _ _ r h => by simp [hogsheadlaw09_CellCut.j0] at h, fun _ r h => by simp [hogsheadlaw09_CellCut.j1] at h⟩
 | k + 1 => by
  obtain ⟨ih0, ih1⟩ := hogsheadlaw09_CellCut.mono_l k
  refine ⟨?_, ?_⟩
  ·intro y0 y1 y2 y3 y4 y5
   unfold hogsheadlaw09_CellCut.j0
   repeat' first
   | (with_reducible exact ih0 _ _ _ _ _ _)
   | (with_reducible exact ih1 _)
   | (with_reducible exact cell_Take.mono _ _)
   | (with_reducible exact hogsheadlaw09_shown.mono _)
   | (with_reducible exact LeO.refl _)
   | (with_reducible exact LeO.none _)
   | (with_reducible refine LeO.ite ?_ ?_)
   | (with_reducible refine LeO.bind ?_ (fun _ => ?_))
   | exact ih0 _ _ _ _ _ _
   | exact ih1 _
   | exact cell_Take.mono _ _
   | exact hogsheadlaw09_shown.mono _
   | exact LeO.none _
   | refine LeO.ite ?_ ?_
   | refine LeO.bind ?_ (fun _ => ?_)
  ·intro y0
   unfold hogsheadlaw09_CellCut.j1
   repeat' first
   | (with_reducible exact ih0 _ _ _ _ _ _)
   | (with_reducible exact ih1 _)
   | (with_reducible exact cell_Take.mono _ _)
   | (with_reducible exact hogsheadlaw09_shown.mono _)
   | (with_reducible exact LeO.refl _)
   | (with_reducible exact LeO.none _)
   | (with_reducible refine LeO.ite ?_ ?_)
   | (with_reducible refine LeO.bind ?_ (fun _ => ?_))
   | exact ih0 _ _ _ _ _ _
   | exact ih1 _
   | exact cell_Take.mono _ _
   | exact hogsheadlaw09_shown.mono _
   | exact LeO.none _
   | refine LeO.ite ?_ ?_
   | refine LeO.bind ?_ (fun _ => ?_)
theorem hogsheadlaw09_CellCut.mono : ∀ a0 a1 a2 k, LeO (hogsheadlaw09_CellCut.f k a0 a1 a2) (hogsheadlaw09_CellCut.f (k + 1) a0 a1 a2) := by
 intro a0 a1 a2 k
 obtain ⟨ih0, ih1⟩ := hogsheadlaw09_CellCut.mono_l k
 unfold hogsheadlaw09_CellCut.f
 repeat' first
   | (with_reducible exact ih0 _ _ _ _ _ _)
   | (with_reducible exact ih1 _)
   | (with_reducible exact cell_Take.mono _ _)
   | (with_reducible exact hogsheadlaw09_shown.mono _)
   | (with_reducible exact LeO.refl _)
   | (with_reducible exact LeO.none _)
   | (with_reducible refine LeO.ite ?_ ?_)
   | (with_reducible refine LeO.bind ?_ (fun _ => ?_))
   | exact ih0 _ _ _ _ _ _
   | exact ih1 _
   | exact cell_Take.mono _ _
   | exact hogsheadlaw09_shown.mono _
   | exact LeO.none _
   | refine LeO.ite ?_ ?_
   | refine LeO.bind ?_ (fun _ => ?_)
set_option maxHeartbeats 40000000 in
set_option maxRecDepth 100000 in
theorem hogsheadlaw09_CellCut.calls (k : Nat) (a0 : Int) (a1 : ByteArray) (a2 : Int) (r : Bool) (w : World) (h : hogsheadlaw09_CellCut.f k a0 a1 a2 = some r) :
  Calls Try.prog 7 #[.int .u64 a0, .string a1, .int .i64 a2] w fun e w' => e = .returned (.bool r) ∧ Below w.heap.size w w' := by
 have HB := qM (Below.refl w.heap.size w)
 have H : ((hogsheadlaw09_shown.f k).bind fun t444 => ((cell_Record.f a0 a1).bind fun bt445 => (if bt445.2 = 0 then (if a2 < 0 then (hogsheadlaw09_CellCut.j0 k a0 a1 a2 t444 bt445.1 true) else (hogsheadlaw09_CellCut.j0 k a0 a1 a2 t444 bt445.1 (decide (a2 ≥ (bt445.1.size : Int))))) else (hogsheadlaw09_CellCut.j0 k a0 a1 a2 t444 bt445.1 true)))) = some r := h
 clear h
 replace H := Option.bind_eq_some_iff.mp H
 obtain ⟨t444, A40, H⟩ := H
 replace H : ((cell_Record.f a0 a1).bind fun bt445 => (if bt445.2 = 0 then (if a2 < 0 then (hogsheadlaw09_CellCut.j0 k a0 a1 a2 t444 bt445.1 true) else (hogsheadlaw09_CellCut.j0 k a0 a1 a2 t444 bt445.1 (decide (a2 ≥ (bt445.1.size : Int))))) else (hogsheadlaw09_CellCut.j0 k a0 a1 a2 t444 bt445.1 true))) = some r := H
 have A4 := qM A40
 clear A40
 replace H := Option.bind_eq_some_iff.mp H
 obtain ⟨⟨t445, t446⟩, A50, H⟩ := H
 replace H : (if t446 = 0 then (if a2 < 0 then (hogsheadlaw09_CellCut.j0 k a0 a1 a2 t444 t445 true) else (hogsheadlaw09_CellCut.j0 k a0 a1 a2 t444 t445 (decide (a2 ≥ (t445.size : Int))))) else (hogsheadlaw09_CellCut.j0 k a0 a1 a2 t444 t445 true)) = some r := H
 have A5 := qM A50
 clear A50
 have HC6 := qM H
 clear H
 go_enter Try.func7, Try.ntmps7
 go_upto_region 3 with (first | ((with_reducible refine gate_callee (f := 10) rfl ?_); refine goesL_ (some 16) rfl rfl Try.func10 (by kernel_rfl) rfl #[] rfl (by (try simp only [List.map_toArray, List.map_cons, List.map_nil]); first | done | rfl | (simp only [List.length_drop, List.length_take]; rfl)) ?_; (with_reducible refine (hogsheadlaw09_shown.calls k  t444 _ A4.out).mono ?_); rintro e w7 ⟨rfl, hb⟩; refine ⟨_, rfl, ?_⟩; have n0_ := qM (eT (by repeat (first | (with_reducible first | exact HB.out | apply eA | apply eN | apply eD) | exact HB.out)) hb); clear HB; have HB := n0_; clear n0_; (try clear hb); (try clear hb2); (try clear hk); (try clear hi)) | ((with_reducible refine gate_callee (f := 11) rfl ?_); refine goesL_ (some 20) rfl rfl Try.func11 (by kernel_rfl) rfl #[.int .u64 a0, .string a1] rfl (by (try simp only [List.map_toArray, List.map_cons, List.map_nil]); first | done | rfl | (simp only [List.length_drop, List.length_take]; rfl)) ?_; (with_reducible refine (cell_Record.calls a0 a1 t445 t446 _ A5.out).mono ?_); rintro e w8 ⟨rfl, hb⟩; refine ⟨_, rfl, ?_⟩; have n0_ := qM (eT (by repeat (first | (with_reducible first | exact HB.out | apply eA | apply eN | apply eD) | exact HB.out)) hb); clear HB; have HB := n0_; clear n0_; (try clear hb); (try clear hb2); (try clear hk); (try clear hi)))
 (try simp only [Act.put, List.setIfInBounds_toArray, List.set_cons_zero, List.set_cons_succ])
 go_cut [34] (fun v34 wc => ∃ (kq : Nat) (x34_5 : Bool), v34 = .bool x34_5 ∧ Aside0 (hogsheadlaw09_CellCut.j0 kq a0 a1 a2 t444 t445 x34_5 = some r) ∧ Aside0 (kq ≤ k) ∧ Aside0 (Below w.heap.size w wc))
 case first =>
  have H := HC6.out
  clear HC6
  by_cases c9 : t446 = 0
  ·rw [if_pos c9] at H
   have c9b0 : (t446 == 0) = true := beq_iff_eq.mpr c9
   have c9b1 : (t446 != 0) = false := bne_eq_false_iff_eq.mpr c9
   clear c9
   (first | rw [c9b0] | (simp only [i64_w, i32_w]; rw [c9b0]) | skip)
   by_cases c10 : a2 < 0
   ·rw [if_pos c10] at H
    have c10b0 : decide (a2 < 0) = true := decide_eq_true c10
    clear c10
    have H' := qM H
    clear H
    go_wp2
    go_meet
    case rel => exact ⟨_, (true), (by first | rfl | (simp; done) | (simp [*]; done)), H', ⟨by first | omega | exact Nat.le_refl _⟩, ⟨by repeat (first | (with_reducible first | exact HB.out | apply eA | apply eN | apply eD) | exact HB.out)⟩⟩
   ·rw [if_neg c10] at H
    have c10b0 : decide (a2 < 0) = false := decide_eq_false c10
    clear c10
    have H' := qM H
    clear H
    go_wp2
    go_meet
    case rel => exact ⟨_, (decide (a2 ≥ (t445.size : Int))), (by first | rfl | (simp; done) | (simp [*]; done)), H', ⟨by first | omega | exact Nat.le_refl _⟩, ⟨by repeat (first | (with_reducible first | exact HB.out | apply eA | apply eN | apply eD) | exact HB.out)⟩⟩
  ·rw [if_neg c9] at H
   have c9b0 : (t446 == 0) = false := beq_eq_false_iff_ne.mpr c9
   have c9b1 : (t446 != 0) = true := bne_iff_ne.mpr c9
   (first | rw [c9b0] | (simp only [i64_w, i32_w]; rw [c9b0]) | skip)
   have H' := qM H
   clear H
   go_wp2
   go_meet
   case rel => exact ⟨_, (true), (by first | rfl | (simp; done) | (simp [*]; done)), H', ⟨by first | omega | exact Nat.le_refl _⟩, ⟨by repeat (first | (with_reducible first | exact HB.out | apply eA | apply eN | apply eD) | exact HB.out)⟩⟩
 case rest =>
  clear HC6
  try clear c1
  try clear p2
  try clear c7
  try clear c9
  try clear c9b0
  try clear c9b1
  try clear c10
  try clear c10b0
  obtain ⟨kq, x34_5, rfl, HA, HJ5, HB⟩ := hcut
  cases kq with
  | zero => exact absurd HA.out (by simp [hogsheadlaw09_CellCut.j0])
  | succ kj5 =>
   have H := HA.out
   clear HA
   simp only [hogsheadlaw09_CellCut.j0] at H
   by_cases c11 : x34_5 = true
   ·subst c11
    have H1 : (some t444) = some r := by rw [if_pos rfl] at H; exact H
    clear H
    have H := H1
    clear H1
    obtain rfl := Option.some.inj H
    go_wp2
    go_ret
    exact ⟨by first | rfl | (simp [errW_none, errW_some] <;> rfl) | (simp [*, errW_none, errW_some] <;> rfl), by repeat (first | (with_reducible first | exact HB.out | apply eA | apply eN | apply eD) | exact HB.out)⟩
   ·replace c11 := Bool.eq_false_iff.mpr c11
    subst c11
    have H1 : (if 0 ≤ a2 then (if a2 ≤ (t445.size : Int) then ((cell_Take.f kj5 (t445.extract 0 (a2 : Int).toNat)).bind fun bt447 => ((cell_Take.f kj5 t445).bind fun bt450 => (if t444 = true then (if bt447.2.2 = 3 then (if bt450.1 = a0 then (if bt450.2.1.toList = a1.toList then (hogsheadlaw09_CellCut.j1 kj5 (bt450.2.2 == 0)) else (hogsheadlaw09_CellCut.j1 kj5 false)) else (hogsheadlaw09_CellCut.j1 kj5 false)) else (hogsheadlaw09_CellCut.j1 kj5 false)) else (hogsheadlaw09_CellCut.j1 kj5 false)))) else (none)) else (none)) = some r := by rw [if_neg (show ¬ (false = true) by decide)] at H; exact H
    clear H
    have H := H1
    clear H1
    by_cases c12 : 0 ≤ a2
    ·rw [if_pos c12] at H
     have c12b0 := eq_true c12
     have c12b1 : decide (0 ≤ a2) = true := decide_eq_true c12
     clear c12
     by_cases c13 : a2 ≤ (t445.size : Int)
     ·rw [if_pos c13] at H
      have c13b0 := eq_true c13
      have c13b1 : decide (a2 ≤ (t445.size : Int)) = true := decide_eq_true c13
      clear c13
      replace H := Option.bind_eq_some_iff.mp H
      obtain ⟨⟨t447, t448, t449⟩, A140, H⟩ := H
      replace H : ((cell_Take.f kj5 t445).bind fun bt450 => (if t444 = true then (if t449 = 3 then (if bt450.1 = a0 then (if bt450.2.1.toList = a1.toList then (hogsheadlaw09_CellCut.j1 kj5 (bt450.2.2 == 0)) else (hogsheadlaw09_CellCut.j1 kj5 false)) else (hogsheadlaw09_CellCut.j1 kj5 false)) else (hogsheadlaw09_CellCut.j1 kj5 false)) else (hogsheadlaw09_CellCut.j1 kj5 false))) = some r := H
      have A14 := qM A140
      clear A140
      replace H := Option.bind_eq_some_iff.mp H
      obtain ⟨⟨t450, t451, t452⟩, A150, H⟩ := H
      replace H : (if t444 = true then (if t449 = 3 then (if t450 = a0 then (if t451.toList = a1.toList then (hogsheadlaw09_CellCut.j1 kj5 (t452 == 0)) else (hogsheadlaw09_CellCut.j1 kj5 false)) else (hogsheadlaw09_CellCut.j1 kj5 false)) else (hogsheadlaw09_CellCut.j1 kj5 false)) else (hogsheadlaw09_CellCut.j1 kj5 false)) = some r := H
      have A15 := qM A150
      clear A150
      have HC16 := qM H
      clear H
      go_upto_region 7 with (first | ((with_reducible refine gate_callee (f := 13) rfl ?_); refine goesL_ (some 40) rfl rfl Try.func13 (by kernel_rfl) rfl #[.string (t445.extract 0 (a2 : Int).toNat)] rfl (by (try simp only [List.map_toArray, List.map_cons, List.map_nil]); first | done | rfl | (simp only [List.length_drop, List.length_take]; rfl)) ?_; (with_reducible refine (cell_Take.calls kj5 (t445.extract 0 (a2 : Int).toNat) t447 t448 t449 _ A14.out).mono ?_); rintro e w17 ⟨rfl, hb⟩; refine ⟨_, rfl, ?_⟩; have n0_ := qM (eT (by repeat (first | (with_reducible first | exact HB.out | apply eA | apply eN | apply eD) | exact HB.out)) hb); clear HB; have HB := n0_; clear n0_; (try clear hb); (try clear hb2); (try clear hk); (try clear hi)) | ((with_reducible refine gate_callee (f := 13) rfl ?_); refine goesL_ (some 46) rfl rfl Try.func13 (by kernel_rfl) rfl #[.string t445] rfl (by (try simp only [List.map_toArray, List.map_cons, List.map_nil]); first | done | rfl | (simp only [List.length_drop, List.length_take]; rfl)) ?_; (with_reducible refine (cell_Take.calls kj5 t445 t450 t451 t452 _ A15.out).mono ?_); rintro e w18 ⟨rfl, hb⟩; refine ⟨_, rfl, ?_⟩; have n0_ := qM (eT (by repeat (first | (with_reducible first | exact HB.out | apply eA | apply eN | apply eD) | exact HB.out)) hb); clear HB; have HB := n0_; clear n0_; (try clear hb); (try clear hb2); (try clear hk); (try clear hi)))
      (try simp only [Act.put, List.setIfInBounds_toArray, List.set_cons_zero, List.set_cons_succ])
      go_cut [6] (fun v6 wc => ∃ (kq : Nat) (x6_15 : Bool), v6 = .bool x6_15 ∧ Aside0 (hogsheadlaw09_CellCut.j1 kq x6_15 = some r) ∧ Aside0 (kq ≤ kj5) ∧ Aside0 (Below w.heap.size w wc))
      case first =>
       have H := HC16.out
       clear HC16
       by_cases c19 : t444 = true
       ·subst c19
        have H1 : (if t449 = 3 then (if t450 = a0 then (if t451.toList = a1.toList then (hogsheadlaw09_CellCut.j1 kj5 (t452 == 0)) else (hogsheadlaw09_CellCut.j1 kj5 false)) else (hogsheadlaw09_CellCut.j1 kj5 false)) else (hogsheadlaw09_CellCut.j1 kj5 false)) = some r := by rw [if_pos rfl] at H; exact H
        clear H
        have H := H1
        clear H1
        by_cases c20 : t449 = 3
        ·rw [if_pos c20] at H
         have c20b0 : (t449 == 3) = true := beq_iff_eq.mpr c20
         have c20b1 : (t449 != 3) = false := bne_eq_false_iff_eq.mpr c20
         clear c20
         (first | rw [c20b0] | (simp only [i64_w, i32_w]; rw [c20b0]) | skip)
         by_cases c21 : t450 = a0
         ·rw [if_pos c21] at H
          have c21b0 : (t450 == a0) = true := beq_iff_eq.mpr c21
          have c21b1 : (t450 != a0) = false := bne_eq_false_iff_eq.mpr c21
          clear c21
          by_cases c22 : t451.toList = a1.toList
          ·rw [if_pos c22] at H
           have c22b0 : (t451.toList == a1.toList) = true := beq_iff_eq.mpr c22
           have c22b1 : (t451.toList != a1.toList) = false := bne_eq_false_iff_eq.mpr c22
           clear c22
           have H' := qM H
           clear H
           go_wp2
           go_meet
           case rel => exact ⟨_, ((t452 == 0)), (by first | rfl | (simp; done) | (simp [*]; done)), H', ⟨by have := HJ5.out; first | omega | exact Nat.le_refl _⟩, ⟨by repeat (first | (with_reducible first | exact HB.out | apply eA | apply eN | apply eD) | exact HB.out)⟩⟩
          ·rw [if_neg c22] at H
           have c22b0 : (t451.toList == a1.toList) = false := beq_eq_false_iff_ne.mpr c22
           have c22b1 : (t451.toList != a1.toList) = true := bne_iff_ne.mpr c22
           have H' := qM H
           clear H
           go_wp2
           go_meet
           case rel => exact ⟨_, (false), (by first | rfl | (simp; done) | (simp [*]; done)), H', ⟨by have := HJ5.out; first | omega | exact Nat.le_refl _⟩, ⟨by repeat (first | (with_reducible first | exact HB.out | apply eA | apply eN | apply eD) | exact HB.out)⟩⟩
         ·rw [if_neg c21] at H
          have c21b0 : (t450 == a0) = false := beq_eq_false_iff_ne.mpr c21
          have c21b1 : (t450 != a0) = true := bne_iff_ne.mpr c21
          have H' := qM H
          clear H
          go_wp2
          go_meet
          case rel => exact ⟨_, (false), (by first | rfl | (simp; done) | (simp [*]; done)), H', ⟨by have := HJ5.out; first | omega | exact Nat.le_refl _⟩, ⟨by repeat (first | (with_reducible first | exact HB.out | apply eA | apply eN | apply eD) | exact HB.out)⟩⟩
        ·rw [if_neg c20] at H
         have c20b0 : (t449 == 3) = false := beq_eq_false_iff_ne.mpr c20
         have c20b1 : (t449 != 3) = true := bne_iff_ne.mpr c20
         (first | rw [c20b0] | (simp only [i64_w, i32_w]; rw [c20b0]) | skip)
         have H' := qM H
         clear H
         go_wp2
         go_meet
         case rel => exact ⟨_, (false), (by first | rfl | (simp; done) | (simp [*]; done)), H', ⟨by have := HJ5.out; first | omega | exact Nat.le_refl _⟩, ⟨by repeat (first | (with_reducible first | exact HB.out | apply eA | apply eN | apply eD) | exact HB.out)⟩⟩
       ·replace c19 := Bool.eq_false_iff.mpr c19
        subst c19
        have H1 : (hogsheadlaw09_CellCut.j1 kj5 false) = some r := by rw [if_neg (show ¬ (false = true) by decide)] at H; exact H
        clear H
        have H := H1
        clear H1
        have H' := qM H
        clear H
        go_wp2
        go_meet
        case rel => exact ⟨_, (false), (by first | rfl | (simp; done) | (simp [*]; done)), H', ⟨by have := HJ5.out; first | omega | exact Nat.le_refl _⟩, ⟨by repeat (first | (with_reducible first | exact HB.out | apply eA | apply eN | apply eD) | exact HB.out)⟩⟩
      case rest =>
       clear HC16
       try clear c1
       try clear c2
       try clear p2
       try clear c7
       try clear c9
       try clear c9b0
       try clear c9b1
       try clear c10
       try clear c10b0
       try clear c11
       try clear c12
       try clear c12b0
       try clear c12b1
       try clear c13
       try clear c13b0
       try clear c13b1
       try clear c19
       try clear c20
       try clear c20b0
       try clear c20b1
       try clear c21
       try clear c21b0
       try clear c21b1
       try clear c22
       try clear c22b0
       try clear c22b1
       try clear p2
       obtain ⟨kq, x6_15, rfl, HA, HJ15, HB⟩ := hcut
       cases kq with
       | zero => exact absurd HA.out (by simp [hogsheadlaw09_CellCut.j1])
       | succ kj15 =>
        have H := HA.out
        clear HA
        simp only [hogsheadlaw09_CellCut.j1] at H
        obtain rfl := Option.some.inj H
        go_wp2
        go_ret
        exact ⟨by first | rfl | (simp [errW_none, errW_some] <;> rfl) | (simp [*, errW_none, errW_some] <;> rfl), by repeat (first | (with_reducible first | exact HB.out | apply eA | apply eN | apply eD) | exact HB.out)⟩
     ·rw [if_neg c13] at H
      exact absurd H (by simp)
    ·rw [if_neg c12] at H
     exact absurd H (by simp)

end Go.Proofs.Ythnhfmmiaknhgaa.PAll
