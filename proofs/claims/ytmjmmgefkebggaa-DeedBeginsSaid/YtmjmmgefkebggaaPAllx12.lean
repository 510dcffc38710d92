/- Functions of the program as plain Lean functions, and that each call comes to what they say. Laid by a program of this session (hprint.py); Lean checks it. -/
import Derived.Test.YtmjmmgefkebggaaPAllx0
namespace Go.Proofs.Ytmjmmgefkebggaa.PAll
open Go.RowKit Go.Proofs.YtmjmmgefkebggaaW.PrintWords Go.Proofs.YtmjmmgefkebggaaW.PrintLast Go.Proofs.YtmjmmgefkebggaaW.PrintMore
attribute [local go_sem] max2_int min2_int max_two min_two max_three min_three max_four min_four   -- for this text's walks alone
set_option linter.unusedVariables false
set_option linter.unusedSimpArgs false

/-! ### hogsheadref17_New: function 11 -/
mutual
def hogsheadref17_New.j0 : Nat → Int → Int → ByteArray → ByteArray → Int → Bool → Option (Int × Int × ByteArray × ByteArray × Int × Int × Int × Int × Int × Int × Int × Int × ByteArray × Bool × Int)
 | 0, _, _, _, _, _, _ => none
 | k + 1, x0, x1, x2, x3, x4, x44 => if x44 = true then (some (0, 0, (⟨#[]⟩ : ByteArray), (⟨#[]⟩ : ByteArray), 0, 0, 0, 0, 0, 0, 0, 0, (⟨#[]⟩ : ByteArray), false, 1)) else (if x1 = 1 then (if (x3.size : Int) < 1 then (hogsheadref17_New.j1 k x0 x1 x2 x3 x4 true) else (hogsheadref17_New.j1 k x0 x1 x2 x3 x4 (decide ((x3.size : Int) > 32)))) else (hogsheadref17_New.j1 k x0 x1 x2 x3 x4 false))
def hogsheadref17_New.j1 : Nat → Int → Int → ByteArray → ByteArray → Int → Bool → Option (Int × Int × ByteArray × ByteArray × Int × Int × Int × Int × Int × Int × Int × Int × ByteArray × Bool × Int)
 | 0, _, _, _, _, _, _ => none
 | k + 1, x0, x1, x2, x3, x4, x57 => if x57 = true then (some (0, 0, (⟨#[]⟩ : ByteArray), (⟨#[]⟩ : ByteArray), 0, 0, 0, 0, 0, 0, 0, 0, (⟨#[]⟩ : ByteArray), false, 4)) else (if x1 = 1 then (hogsheadref17_New.j2 k x0 x1 x2 x3 x4 false) else (hogsheadref17_New.j2 k x0 x1 x2 x3 x4 (decide ((x3.size : Int) > 0))))
def hogsheadref17_New.j2 : Nat → Int → Int → ByteArray → ByteArray → Int → Bool → Option (Int × Int × ByteArray × ByteArray × Int × Int × Int × Int × Int × Int × Int × Int × ByteArray × Bool × Int)
 | 0, _, _, _, _, _, _ => none
 | k + 1, x0, x1, x2, x3, x4, x65 => if x65 = true then (some (0, 0, (⟨#[]⟩ : ByteArray), (⟨#[]⟩ : ByteArray), 0, 0, 0, 0, 0, 0, 0, 0, (⟨#[]⟩ : ByteArray), false, 1)) else (if x1 = 2 then (if x1 = 3 then (some (x0, x1, x2, x3, x4, 7, 0, 0, (x3.size : Int), 0, 0, 0, (⟨#[]⟩ : ByteArray), false, 0)) else (some (x0, x1, x2, x3, x4, 5, 0, 0, (x3.size : Int), 0, 0, 0, (⟨#[]⟩ : ByteArray), false, 0))) else (if x1 = 3 then (some (x0, x1, x2, x3, x4, 7, 0, 0, (x3.size : Int), 0, 0, 0, (⟨#[]⟩ : ByteArray), false, 0)) else (some (x0, x1, x2, x3, x4, 1, 0, 0, (x3.size : Int), 0, 0, 0, (⟨#[]⟩ : ByteArray), false, 0))))
end
def hogsheadref17_New.f (k : Nat) (a0 : Int) (a1 : Int) (a2 : ByteArray) (a3 : ByteArray) (a4 : Int) : Option (Int × Int × ByteArray × ByteArray × Int × Int × Int × Int × Int × Int × Int × Int × ByteArray × Bool × Int) := if a0 < 1 then (hogsheadref17_New.j0 k a0 a1 a2 a3 a4 true) else (if a0 > 16 then (hogsheadref17_New.j0 k a0 a1 a2 a3 a4 true) else (if a1 < 1 then (hogsheadref17_New.j0 k a0 a1 a2 a3 a4 true) else (if a1 > 3 then (hogsheadref17_New.j0 k a0 a1 a2 a3 a4 true) else (if (a2.size : Int) < 1 then (hogsheadref17_New.j0 k a0 a1 a2 a3 a4 true) else (if (a2.size : Int) > 16 then (hogsheadref17_New.j0 k a0 a1 a2 a3 a4 true) else (if a4 < 0 then (hogsheadref17_New.j0 k a0 a1 a2 a3 a4 true) else (hogsheadref17_New.j0 k a0 a1 a2 a3 a4 (decide (a4 > 1073741822)))))))))
theorem hogsheadref17_New.mono_l : ∀ k, (∀ y0 y1 y2 y3 y4 y5, LeO (hogsheadref17_New.j0 k y0 y1 y2 y3 y4 y5) (hogsheadref17_New.j0 (k + 1) y0 y1 y2 y3 y4 y5)) ∧ (∀ y0 y1 y2 y3 y4 y5, LeO (hogsheadref17_New.j1 k y0 y1 y2 y3 y4 y5) (hogsheadref17_New.j1 (k + 1) y0 y1 y2 y3 y4 y5)) ∧ (∀ y0 y1 y2 y3 y4 y5, LeO (hogsheadref17_New.j2 k y0 y1 y2 y3 y4 y5) (hogsheadref17_New.j2 (k + 1) y0 y1 y2 y3 y4 y5))
 | 0 => ⟨fun _ _ _ _ _ _ r h => by simp [hogsheadref17_New.j0] at h, fun _ _ _ _ _ _ r h => by simp [hogsheadref17_New.j1] at h, fun _ _ _ _ _ _ r h => by simp [hogsheadref17_New.j2] at h⟩
 | k + 1 => by
  obtain ⟨ih0, ih1, ih2⟩ := hogsheadref17_New.mono_l k
  refine ⟨?_, ?_, ?_⟩
  ·intro y0 y1 y2 y3 y4 y5
   unfold hogsheadref17_New.j0
   repeat' first
   | (with_reducible exact ih0 _ _ _ _ _ _)
   | (with_reducible exact ih1 _ _ _ _ _ _)
   | (with_reducible exact ih2 _ _ _ _ _ _)
   | (with_reducible exact LeO.refl _)
   | (with_reducible exact LeO.none _)
   | (with_reducible refine LeO.ite ?_ ?_)
   | (with_reducible refine LeO.bind ?_ (fun _ => ?_))
   | exact ih0 _ _ _ _ _ _
   | exact ih1 _ _ _ _ _ _
   | exact ih2 _ _ _ _ _ _
   | exact LeO.none _
   | refine LeO.ite ?_ ?_
   | refine LeO.bind ?_ (fun _ => ?_)
  ·intro y0 y1 y2 y3 y4 y5
   unfold hogsheadref17_New.j1
   repeat' first
   | (with_reducible exact ih0 _ _ _ _ _ _)
   | (with_reducible exact ih1 _ _ _ _ _ _)
   | (with_reducible exact ih2 _ _ _ _ _ _)
   | (with_reducible exact LeO.refl _)
   | (with_reducible exact LeO.none _)
   | (with_reducible refine LeO.ite ?_ ?_)
   | (with_reducible refine LeO.bind ?_ (fun _ => ?_))
   | exact ih0 _ _ _ _ _ _
   | exact ih1 _ _ _ _ _ _
   | exact ih2 _ _ _ _ _ _
   | exact LeO.none _
   | refine LeO.ite ?_ ?_
   | refine LeO.bind ?_ (fun _ => ?_)
  ·intro y0 y1 y2 y3 y4 y5
   unfold hogsheadref17_New.j2
   repeat' first
   | (with_reducible exact ih0 _ _ _ _ _ _)
   | (with_reducible exact ih1 _ _ _ _ _ _)
   | (with_reducible exact ih2 _ _ _ _ _ _)
   | (with_reducible exact LeO.refl _)
   | (with_reducible exact LeO.none _)
   | (with_reducible refine LeO.ite ?_ ?_)
   | (with_reducible refine LeO.bind ?_ (fun _ => ?_))
   | exact ih0 _ _ _ _ _ _
   | exact ih1 _ _ _ _ _ _
   | exact ih2 _ _ _ _ _ _
   | exact LeO.none _
   | refine LeO.ite ?_ ?_
   | refine LeO.bind ?_ (fun _ => ?_)
theorem hogsheadref17_New.mono : ∀ a0 a1 a2 a3 a4 k, LeO (hogsheadref17_New.f k a0 a1 a2 a3 a4) (hogsheadref17_New.f (k + 1) a0 a1 a2 a3 a4) := by
 intro a0 a1 a2 a3 a4 k
 obtain ⟨ih0, ih1, ih2⟩ := hogsheadref17_New.mono_l k
 unfold hogsheadref17_New.f
 repeat' first
   | (with_reducible exact ih0 _ _ _ _ _ _)
   | (with_reducible exact ih1 _ _ _ _ _ _)
   | (with_reducible exact ih2 _ _ _ _ _ _)
   | (with_reducible exact LeO.refl _)
   | (with_reducible exact LeO.none _)
   | (with_reducible refine LeO.ite ?_ ?_)
   | (with_reducible refine LeO.bind ?_ (fun _ => ?_))
   | exact ih0 _ _ _ _ _ _
   | exact ih1 _ _ _ _ _ _
   | exact ih2 _ _ _ _ _ _
   | exact LeO.none _
   | refine LeO.ite ?_ ?_
   | refine LeO.bind ?_ (fun _ => ?_)
set_option maxHeartbeats 40000000 in
set_option maxRecDepth 100000 in
theorem hogsheadref17_New.calls (k : Nat) (a0 : Int) (a1 : Int) (a2 : ByteArray) (a3 : ByteArray) (a4 : Int) (r1 : Int) (r2 : Int) (r3 : ByteArray) (r4 : ByteArray) (r5 : Int) (r6 : Int) (r7 : Int) (r8 : Int) (r9 : Int) (r10 : Int) (r11 : Int) (r12 : Int) (r13 : ByteArray) (r14 : Bool) (r15 : Int) (w : World) (h : hogsheadref17_New.f k a0 a1 a2 a3 a4 = some (r1, r2, r3, r4, r5, r6, r7, r8, r9, r10, r11, r12, r13, r14, r15)) :
  Calls Try.prog 11 #[.int .i64 a0, .int .i64 a1, .string a2, .string a3, .int .i64 a4] w fun e w' => e = .returned (.tuple #[.agg #[.int .i64 r1, .int .i64 r2, .string r3, .string r4, .int .i64 r5, .int .i64 r6, .int .i64 r7, .int .i64 r8, .int .i64 r9, .int .u32 r10, .int .i64 r11, .int .i64 r12, .string r13, .bool r14], .int .i64 r15]) ∧ Below w.heap.size w w' := by
 have hu28 := Try.underlying28
 have HB := qM (Below.refl w.heap.size w)
 have H : (if a0 < 1 then (hogsheadref17_New.j0 k a0 a1 a2 a3 a4 true) else (if a0 > 16 then (hogsheadref17_New.j0 k a0 a1 a2 a3 a4 true) else (if a1 < 1 then (hogsheadref17_New.j0 k a0 a1 a2 a3 a4 true) else (if a1 > 3 then (hogsheadref17_New.j0 k a0 a1 a2 a3 a4 true) else (if (a2.size : Int) < 1 then (hogsheadref17_New.j0 k a0 a1 a2 a3 a4 true) else (if (a2.size : Int) > 16 then (hogsheadref17_New.j0 k a0 a1 a2 a3 a4 true) else (if a4 < 0 then (hogsheadref17_New.j0 k a0 a1 a2 a3 a4 true) else (hogsheadref17_New.j0 k a0 a1 a2 a3 a4 (decide (a4 > 1073741822)))))))))) = some (r1, r2, r3, r4, r5, r6, r7, r8, r9, r10, r11, r12, r13, r14, r15) := h
 clear h
 have HC6 := qM H
 clear H
 go_enter Try.func11, Try.ntmps11
 go_upto_region 1 with (first | ((with_reducible refine gate_dst (N := 10) rfl ?_); (try (refine gate_guard (by rfl) ?_; dsimp only)); refine box_event ?hg (N := 10) ?hd (cs := #[.int .i64 0, .int .i64 0, .string (⟨#[]⟩ : ByteArray), .string (⟨#[]⟩ : ByteArray), .int .i64 0, .int .i64 0, .int .i64 0, .int .i64 0, .int .i64 0, .int .u32 0, .int .i64 0, .int .i64 0, .string (⟨#[]⟩ : ByteArray), .bool false]) (t := 28) ?hr ?_; (case hd => rfl); (case hg => rfl); (case hr => first | (go_simp; done) | (go_simp; rfl)); intro g216 hg w7 hbox hb; have n0_ := qM (eT (by repeat (first | (with_reducible first | exact HB.out | apply eA | apply eN | apply eD) | exact HB.out)) hb); have n1_ := qM (hbox); have n2_ := qM ((by rw [hg]; exact (eZ (by repeat (first | (with_reducible first | exact HB.out | apply eA | apply eN | apply eD) | exact HB.out))) : w.heap.size ≤ g216)); have n3_ := n2_; clear HB; have HB := n0_; have B216 := n1_; have GW216 := n2_; have GE216 := n3_; clear n0_ n1_ n2_ n3_; clear hb hbox hg))
 (try simp only [Act.put, List.setIfInBounds_toArray, List.set_cons_zero, List.set_cons_succ])
 go_cut [44] (fun v44 wc => ∃ (kq : Nat) (x44_5 : Bool), v44 = .bool x44_5 ∧ Aside0 (hogsheadref17_New.j0 kq a0 a1 a2 a3 a4 x44_5 = some (r1, r2, r3, r4, r5, r6, r7, r8, r9, r10, r11, r12, r13, r14, r15)) ∧ Aside0 (kq ≤ k) ∧ Aside0 (wc.heap[g216]? = some (.cells #[.int .i64 0, .int .i64 0, .string (⟨#[]⟩ : ByteArray), .string (⟨#[]⟩ : ByteArray), .int .i64 0, .int .i64 0, .int .i64 0, .int .i64 0, .int .i64 0, .int .u32 0, .int .i64 0, .int .i64 0, .string (⟨#[]⟩ : ByteArray), .bool false] 28 (0, 0))) ∧ Aside0 (Below w.heap.size w wc))
 case first =>
  have H := HC6.out
  clear HC6
  by_cases c8 : a0 < 1
  ·rw [if_pos c8] at H
   have c8b0 : decide (a0 < 1) = true := decide_eq_true c8
   clear c8
   (first | rw [c8b0] | (simp only [i64_w, i32_w]; rw [c8b0]) | skip)
   have H' := qM H
   clear H
   go_wp2
   go_meet
   case rel => exact ⟨_, (true), (by first | rfl | (simp; done) | (simp [*]; done)), H', ⟨by first | omega | exact Nat.le_refl _⟩, ⟨by (with_reducible repeat first | refine qN ?_ _ | refine qD ?_ | refine qA ?_ _); exact B216.out⟩, ⟨by repeat (first | (with_reducible first | exact HB.out | apply eA | apply eN | apply eD | refine eS ?_ GE216.out) | exact HB.out)⟩⟩
  ·rw [if_neg c8] at H
   have c8b0 : decide (a0 < 1) = false := decide_eq_false c8
   clear c8
   (first | rw [c8b0] | (simp only [i64_w, i32_w]; rw [c8b0]) | skip)
   by_cases c9 : a0 > 16
   ·rw [if_pos c9] at H
    have c9b0 : decide (16 < a0) = true := decide_eq_true c9
    clear c9
    have H' := qM H
    clear H
    go_wp2
    go_meet
    case rel => exact ⟨_, (true), (by first | rfl | (simp; done) | (simp [*]; done)), H', ⟨by first | omega | exact Nat.le_refl _⟩, ⟨by (with_reducible repeat first | refine qN ?_ _ | refine qD ?_ | refine qA ?_ _); exact B216.out⟩, ⟨by repeat (first | (with_reducible first | exact HB.out | apply eA | apply eN | apply eD | refine eS ?_ GE216.out) | exact HB.out)⟩⟩
   ·rw [if_neg c9] at H
    have c9b0 : decide (16 < a0) = false := decide_eq_false c9
    clear c9
    by_cases c10 : a1 < 1
    ·rw [if_pos c10] at H
     have c10b0 : decide (a1 < 1) = true := decide_eq_true c10
     clear c10
     have H' := qM H
     clear H
     go_wp2
     go_meet
     case rel => exact ⟨_, (true), (by first | rfl | (simp; done) | (simp [*]; done)), H', ⟨by first | omega | exact Nat.le_refl _⟩, ⟨by (with_reducible repeat first | refine qN ?_ _ | refine qD ?_ | refine qA ?_ _); exact B216.out⟩, ⟨by repeat (first | (with_reducible first | exact HB.out | apply eA | apply eN | apply eD | refine eS ?_ GE216.out) | exact HB.out)⟩⟩
    ·rw [if_neg c10] at H
     have c10b0 : decide (a1 < 1) = false := decide_eq_false c10
     clear c10
     by_cases c11 : a1 > 3
     ·rw [if_pos c11] at H
      have c11b0 : decide (3 < a1) = true := decide_eq_true c11
      clear c11
      have H' := qM H
      clear H
      go_wp2
      go_meet
      case rel => exact ⟨_, (true), (by first | rfl | (simp; done) | (simp [*]; done)), H', ⟨by first | omega | exact Nat.le_refl _⟩, ⟨by (with_reducible repeat first | refine qN ?_ _ | refine qD ?_ | refine qA ?_ _); exact B216.out⟩, ⟨by repeat (first | (with_reducible first | exact HB.out | apply eA | apply eN | apply eD | refine eS ?_ GE216.out) | exact HB.out)⟩⟩
     ·rw [if_neg c11] at H
      have c11b0 : decide (3 < a1) = false := decide_eq_false c11
      clear c11
      by_cases c12 : (a2.size : Int) < 1
      ·rw [if_pos c12] at H
       have c12b0 : decide ((a2.size : Int) < 1) = true := decide_eq_true c12
       have c12b1 : decide (a2.size < 1) = true := decide_eq_true (by omega)
       clear c12
       have H' := qM H
       clear H
       go_wp2
       go_meet
       case rel => exact ⟨_, (true), (by first | rfl | (simp; done) | (simp [*]; done)), H', ⟨by first | omega | exact Nat.le_refl _⟩, ⟨by (with_reducible repeat first | refine qN ?_ _ | refine qD ?_ | refine qA ?_ _); exact B216.out⟩, ⟨by repeat (first | (with_reducible first | exact HB.out | apply eA | apply eN | apply eD | refine eS ?_ GE216.out) | exact HB.out)⟩⟩
      ·rw [if_neg c12] at H
       have c12b0 : decide ((a2.size : Int) < 1) = false := decide_eq_false c12
       have c12b1 : decide (a2.size < 1) = false := decide_eq_false (by omega)
       clear c12
       by_cases c13 : (a2.size : Int) > 16
       ·rw [if_pos c13] at H
        have c13b0 : decide (16 < (a2.size : Int)) = true := decide_eq_true c13
        have c13b1 : decide (16 < a2.size) = true := decide_eq_true (by omega)
        clear c13
        have H' := qM H
        clear H
        go_wp2
        go_meet
        case rel => exact ⟨_, (true), (by first | rfl | (simp; done) | (simp [*]; done)), H', ⟨by first | omega | exact Nat.le_refl _⟩, ⟨by (with_reducible repeat first | refine qN ?_ _ | refine qD ?_ | refine qA ?_ _); exact B216.out⟩, ⟨by repeat (first | (with_reducible first | exact HB.out | apply eA | apply eN | apply eD | refine eS ?_ GE216.out) | exact HB.out)⟩⟩
       ·rw [if_neg c13] at H
        have c13b0 : decide (16 < (a2.size : Int)) = false := decide_eq_false c13
        have c13b1 : decide (16 < a2.size) = false := decide_eq_false (by omega)
        clear c13
        by_cases c14 : a4 < 0
        ·rw [if_pos c14] at H
         have c14b0 : decide (a4 < 0) = true := decide_eq_true c14
         clear c14
         have H' := qM H
         clear H
         go_wp2
         go_meet
         case rel => exact ⟨_, (true), (by first | rfl | (simp; done) | (simp [*]; done)), H', ⟨by first | omega | exact Nat.le_refl _⟩, ⟨by (with_reducible repeat first | refine qN ?_ _ | refine qD ?_ | refine qA ?_ _); exact B216.out⟩, ⟨by repeat (first | (with_reducible first | exact HB.out | apply eA | apply eN | apply eD | refine eS ?_ GE216.out) | exact HB.out)⟩⟩
        ·rw [if_neg c14] at H
         have c14b0 : decide (a4 < 0) = false := decide_eq_false c14
         clear c14
         have H' := qM H
         clear H
         go_wp2
         go_meet
         case rel => exact ⟨_, (decide (a4 > 1073741822)), (by first | rfl | (simp; done) | (simp [*]; done)), H', ⟨by first | omega | exact Nat.le_refl _⟩, ⟨by (with_reducible repeat first | refine qN ?_ _ | refine qD ?_ | refine qA ?_ _); exact B216.out⟩, ⟨by repeat (first | (with_reducible first | exact HB.out | apply eA | apply eN | apply eD | refine eS ?_ GE216.out) | exact HB.out)⟩⟩
 case rest =>
  clear HC6
  try clear c1
  try clear p2
  try clear c8
  try clear c8b0
  try clear c9
  try clear c9b0
  try clear c10
  try clear c10b0
  try clear c11
  try clear c11b0
  try clear c12
  try clear c12b0
  try clear c12b1
  try clear c13
  try clear c13b0
  try clear c13b1
  try clear c14
  try clear c14b0
  obtain ⟨kq, x44_5, rfl, HA, HJ5, B216, HB⟩ := hcut
  cases kq with
  | zero => exact absurd HA.out (by simp [hogsheadref17_New.j0])
  | succ kj5 =>
   have H := HA.out
   clear HA
   simp only [hogsheadref17_New.j0] at H
   by_cases c15 : x44_5 = true
   ·subst c15
    have H1 : (some (0, 0, (⟨#[]⟩ : ByteArray), (⟨#[]⟩ : ByteArray), 0, 0, 0, 0, 0, 0, 0, 0, (⟨#[]⟩ : ByteArray), false, 1)) = some (r1, r2, r3, r4, r5, r6, r7, r8, r9, r10, r11, r12, r13, r14, r15) := by rw [if_pos rfl] at H; exact H
    clear H
    have H := H1
    clear H1
    simp only [Option.some.injEq, Prod.mk.injEq] at H
    obtain ⟨rfl, rfl, rfl, rfl, rfl, rfl, rfl, rfl, rfl, rfl, rfl, rfl, rfl, rfl, rfl⟩ := H
    obtain ⟨z16_0, z16_1, z16_2, z16_3, z16_4, z16_5, z16_6, z16_7, z16_8, z16_9, z16_10, z16_11, z16_12, z16_13, f16_0, f16_1, f16_2, f16_3, f16_4, f16_5, f16_6, f16_7, f16_8, f16_9, f16_10, f16_11, f16_12, f16_13⟩ := cells14 B216.out
    go_wp2
    refine bodyPost_ret (results_ct rfl _ _ g216 28 #[.int .i64 0, .int .i64 0, .string (⟨#[]⟩ : ByteArray), .string (⟨#[]⟩ : ByteArray), .int .i64 0, .int .i64 0, .int .i64 0, .int .i64 0, .int .i64 0, .int .u32 0, .int .i64 0, .int .i64 0, .string (⟨#[]⟩ : ByteArray), .bool false] (0, 0) _ rfl (by (with_reducible repeat first | refine qN ?_ _ | refine qD ?_ | refine qA ?_ _); apply puts14; (with_reducible repeat first | refine qN ?_ _ | refine qD ?_ | refine qA ?_ _); exact B216.out) Try.underlying28 rfl (by kernel_rfl)) rfl ?_
    exact ⟨by first | rfl | (simp [errW_none, errW_some] <;> rfl) | (simp [*, errW_none, errW_some] <;> rfl), by repeat (first | (with_reducible first | exact HB.out | apply eA | apply eN | apply eD | refine eS ?_ GE216.out) | exact HB.out)⟩
   ·replace c15 := Bool.eq_false_iff.mpr c15
    subst c15
    have H1 : (if a1 = 1 then (if (a3.size : Int) < 1 then (hogsheadref17_New.j1 kj5 a0 a1 a2 a3 a4 true) else (hogsheadref17_New.j1 kj5 a0 a1 a2 a3 a4 (decide ((a3.size : Int) > 32)))) else (hogsheadref17_New.j1 kj5 a0 a1 a2 a3 a4 false)) = some (r1, r2, r3, r4, r5, r6, r7, r8, r9, r10, r11, r12, r13, r14, r15) := by rw [if_neg (show ¬ (false = true) by decide)] at H; exact H
    clear H
    have H := H1
    clear H1
    have HC17 := qM H
    clear H
    go_upto_region 3 with (fail)
    go_cut [57] (fun v57 wc => ∃ (kq : Nat) (x57_16 : Bool), v57 = .bool x57_16 ∧ Aside0 (hogsheadref17_New.j1 kq a0 a1 a2 a3 a4 x57_16 = some (r1, r2, r3, r4, r5, r6, r7, r8, r9, r10, r11, r12, r13, r14, r15)) ∧ Aside0 (kq ≤ kj5) ∧ Aside0 (wc.heap[g216]? = some (.cells #[.int .i64 0, .int .i64 0, .string (⟨#[]⟩ : ByteArray), .string (⟨#[]⟩ : ByteArray), .int .i64 0, .int .i64 0, .int .i64 0, .int .i64 0, .int .i64 0, .int .u32 0, .int .i64 0, .int .i64 0, .string (⟨#[]⟩ : ByteArray), .bool false] 28 (0, 0))) ∧ Aside0 (Below w.heap.size w wc))
    case first =>
     have H := HC17.out
     clear HC17
     by_cases c18 : a1 = 1
     ·rw [if_pos c18] at H
      have c18b0 : (a1 == 1) = true := beq_iff_eq.mpr c18
      have c18b1 : (a1 != 1) = false := bne_eq_false_iff_eq.mpr c18
      clear c18
      (first | rw [c18b0] | (simp only [i64_w, i32_w]; rw [c18b0]) | skip)
      by_cases c19 : (a3.size : Int) < 1
      ·rw [if_pos c19] at H
       have c19b0 : decide ((a3.size : Int) < 1) = true := decide_eq_true c19
       have c19b1 : decide (a3.size < 1) = true := decide_eq_true (by omega)
       clear c19
       have H' := qM H
       clear H
       go_wp2
       go_meet
       case rel => exact ⟨_, (true), (by first | rfl | (simp; done) | (simp [*]; done)), H', ⟨by have := HJ5.out; first | omega | exact Nat.le_refl _⟩, ⟨by (with_reducible repeat first | refine qN ?_ _ | refine qD ?_ | refine qA ?_ _); exact B216.out⟩, ⟨by repeat (first | (with_reducible first | exact HB.out | apply eA | apply eN | apply eD | refine eS ?_ GE216.out) | exact HB.out)⟩⟩
      ·rw [if_neg c19] at H
       have c19b0 : decide ((a3.size : Int) < 1) = false := decide_eq_false c19
       have c19b1 : decide (a3.size < 1) = false := decide_eq_false (by omega)
       clear c19
       have H' := qM H
       clear H
       go_wp2
       go_meet
       case rel => exact ⟨_, (decide ((a3.size : Int) > 32)), (by first | rfl | (simp; done) | (simp [*]; done)), H', ⟨by have := HJ5.out; first | omega | exact Nat.le_refl _⟩, ⟨by (with_reducible repeat first | refine qN ?_ _ | refine qD ?_ | refine qA ?_ _); exact B216.out⟩, ⟨by repeat (first | (with_reducible first | exact HB.out | apply eA | apply eN | apply eD | refine eS ?_ GE216.out) | exact HB.out)⟩⟩
     ·rw [if_neg c18] at H
      have c18b0 : (a1 == 1) = false := beq_eq_false_iff_ne.mpr c18
      have c18b1 : (a1 != 1) = true := bne_iff_ne.mpr c18
      (first | rw [c18b0] | (simp only [i64_w, i32_w]; rw [c18b0]) | skip)
      have H' := qM H
      clear H
      go_wp2
      go_meet
      case rel => exact ⟨_, (false), (by first | rfl | (simp; done) | (simp [*]; done)), H', ⟨by have := HJ5.out; first | omega | exact Nat.le_refl _⟩, ⟨by (with_reducible repeat first | refine qN ?_ _ | refine qD ?_ | refine qA ?_ _); exact B216.out⟩, ⟨by repeat (first | (with_reducible first | exact HB.out | apply eA | apply eN | apply eD | refine eS ?_ GE216.out) | exact HB.out)⟩⟩
    case rest =>
     clear HC17
     try clear c1
     try clear p2
     try clear c8
     try clear c8b0
     try clear c9
     try clear c9b0
     try clear c10
     try clear c10b0
     try clear c11
     try clear c11b0
     try clear c12
     try clear c12b0
     try clear c12b1
     try clear c13
     try clear c13b0
     try clear c13b1
     try clear c14
     try clear c14b0
     try clear c15
     try clear c18
     try clear c18b0
     try clear c18b1
     try clear c19
     try clear c19b0
     try clear c19b1
     try clear z16_0
     try clear z16_1
     try clear z16_10
     try clear z16_11
     try clear z16_12
     try clear z16_13
     try clear z16_2
     try clear z16_3
     try clear z16_4
     try clear z16_5
     try clear z16_6
     try clear z16_7
     try clear z16_8
     try clear z16_9
     try clear f16_0
     try clear f16_1
     try clear f16_10
     try clear f16_11
     try clear f16_12
     try clear f16_13
     try clear f16_2
     try clear f16_3
     try clear f16_4
     try clear f16_5
     try clear f16_6
     try clear f16_7
     try clear f16_8
     try clear f16_9
     try clear p2
     obtain ⟨kq, x57_16, rfl, HA, HJ16, B216, HB⟩ := hcut
     cases kq with
     | zero => exact absurd HA.out (by simp [hogsheadref17_New.j1])
     | succ kj16 =>
      have H := HA.out
      clear HA
      simp only [hogsheadref17_New.j1] at H
      by_cases c20 : x57_16 = true
      ·subst c20
       have H1 : (some (0, 0, (⟨#[]⟩ : ByteArray), (⟨#[]⟩ : ByteArray), 0, 0, 0, 0, 0, 0, 0, 0, (⟨#[]⟩ : ByteArray), false, 4)) = some (r1, r2, r3, r4, r5, r6, r7, r8, r9, r10, r11, r12, r13, r14, r15) := by rw [if_pos rfl] at H; exact H
       clear H
       have H := H1
       clear H1
       simp only [Option.some.injEq, Prod.mk.injEq] at H
       obtain ⟨rfl, rfl, rfl, rfl, rfl, rfl, rfl, rfl, rfl, rfl, rfl, rfl, rfl, rfl, rfl⟩ := H
       obtain ⟨z21_0, z21_1, z21_2, z21_3, z21_4, z21_5, z21_6, z21_7, z21_8, z21_9, z21_10, z21_11, z21_12, z21_13, f21_0, f21_1, f21_2, f21_3, f21_4, f21_5, f21_6, f21_7, f21_8, f21_9, f21_10, f21_11, f21_12, f21_13⟩ := cells14 B216.out
       go_wp2
       refine bodyPost_ret (results_ct rfl _ _ g216 28 #[.int .i64 0, .int .i64 0, .string (⟨#[]⟩ : ByteArray), .string (⟨#[]⟩ : ByteArray), .int .i64 0, .int .i64 0, .int .i64 0, .int .i64 0, .int .i64 0, .int .u32 0, .int .i64 0, .int .i64 0, .string (⟨#[]⟩ : ByteArray), .bool false] (0, 0) _ rfl (by (with_reducible repeat first | refine qN ?_ _ | refine qD ?_ | refine qA ?_ _); apply puts14; (with_reducible repeat first | refine qN ?_ _ | refine qD ?_ | refine qA ?_ _); exact B216.out) Try.underlying28 rfl (by kernel_rfl)) rfl ?_
       exact ⟨by first | rfl | (simp [errW_none, errW_some] <;> rfl) | (simp [*, errW_none, errW_some] <;> rfl), by repeat (first | (with_reducible first | exact HB.out | apply eA | apply eN | apply eD | refine eS ?_ GE216.out) | exact HB.out)⟩
      ·replace c20 := Bool.eq_false_iff.mpr c20
       subst c20
       have H1 : (if a1 = 1 then (hogsheadref17_New.j2 kj16 a0 a1 a2 a3 a4 false) else (hogsheadref17_New.j2 kj16 a0 a1 a2 a3 a4 (decide ((a3.size : Int) > 0)))) = some (r1, r2, r3, r4, r5, r6, r7, r8, r9, r10, r11, r12, r13, r14, r15) := by rw [if_neg (show ¬ (false = true) by decide)] at H; exact H
       clear H
       have H := H1
       clear H1
       have HC22 := qM H
       clear H
       go_upto_region 5 with (fail)
       go_cut [65] (fun v65 wc => ∃ (kq : Nat) (x65_21 : Bool), v65 = .bool x65_21 ∧ Aside0 (hogsheadref17_New.j2 kq a0 a1 a2 a3 a4 x65_21 = some (r1, r2, r3, r4, r5, r6, r7, r8, r9, r10, r11, r12, r13, r14, r15)) ∧ Aside0 (kq ≤ kj16) ∧ Aside0 (wc.heap[g216]? = some (.cells #[.int .i64 0, .int .i64 0, .string (⟨#[]⟩ : ByteArray), .string (⟨#[]⟩ : ByteArray), .int .i64 0, .int .i64 0, .int .i64 0, .int .i64 0, .int .i64 0, .int .u32 0, .int .i64 0, .int .i64 0, .string (⟨#[]⟩ : ByteArray), .bool false] 28 (0, 0))) ∧ Aside0 (Below w.heap.size w wc))
       case first =>
        have H := HC22.out
        clear HC22
        by_cases c23 : a1 = 1
        ·rw [if_pos c23] at H
         have c23b0 : (a1 == 1) = true := beq_iff_eq.mpr c23
         have c23b1 : (a1 != 1) = false := bne_eq_false_iff_eq.mpr c23
         clear c23
         (first | rw [c23b0] | (simp only [i64_w, i32_w]; rw [c23b0]) | skip)
         have H' := qM H
         clear H
         go_wp2
         go_meet
         case rel => exact ⟨_, (false), (by first | rfl | (simp; done) | (simp [*]; done)), H', ⟨by have := HJ5.out; have := HJ16.out; first | omega | exact Nat.le_refl _⟩, ⟨by (with_reducible repeat first | refine qN ?_ _ | refine qD ?_ | refine qA ?_ _); exact B216.out⟩, ⟨by repeat (first | (with_reducible first | exact HB.out | apply eA | apply eN | apply eD | refine eS ?_ GE216.out) | exact HB.out)⟩⟩
        ·rw [if_neg c23] at H
         have c23b0 : (a1 == 1) = false := beq_eq_false_iff_ne.mpr c23
         have c23b1 : (a1 != 1) = true := bne_iff_ne.mpr c23
         (first | rw [c23b0] | (simp only [i64_w, i32_w]; rw [c23b0]) | skip)
         have H' := qM H
         clear H
         go_wp2
         go_meet
         case rel => exact ⟨_, (decide ((a3.size : Int) > 0)), (by first | rfl | (simp; done) | (simp [*]; done)), H', ⟨by have := HJ5.out; have := HJ16.out; first | omega | exact Nat.le_refl _⟩, ⟨by (with_reducible repeat first | refine qN ?_ _ | refine qD ?_ | refine qA ?_ _); exact B216.out⟩, ⟨by repeat (first | (with_reducible first | exact HB.out | apply eA | apply eN | apply eD | refine eS ?_ GE216.out) | exact HB.out)⟩⟩
       case rest =>
        clear HC22
        try clear c1
        try clear c2
        try clear p2
        try clear c8
        try clear c8b0
        try clear c9
        try clear c9b0
        try clear c10
        try clear c10b0
        try clear c11
        try clear c11b0
        try clear c12
        try clear c12b0
        try clear c12b1
        try clear c13
        try clear c13b0
        try clear c13b1
        try clear c14
        try clear c14b0
        try clear c15
        try clear c18
        try clear c18b0
        try clear c18b1
        try clear c19
        try clear c19b0
        try clear c19b1
        try clear c20
        try clear c23
        try clear c23b0
        try clear c23b1
        try clear z16_0
        try clear z16_1
        try clear z16_10
        try clear z16_11
        try clear z16_12
        try clear z16_13
        try clear z16_2
        try clear z16_3
        try clear z16_4
        try clear z16_5
        try clear z16_6
        try clear z16_7
        try clear z16_8
        try clear z16_9
        try clear z21_0
        try clear z21_1
        try clear z21_10
        try clear z21_11
        try clear z21_12
        try clear z21_13
        try clear z21_2
        try clear z21_3
        try clear z21_4
        try clear z21_5
        try clear z21_6
        try clear z21_7
        try clear z21_8
        try clear z21_9
        try clear f16_0
        try clear f16_1
        try clear f16_10
        try clear f16_11
        try clear f16_12
        try clear f16_13
        try clear f16_2
        try clear f16_3
        try clear f16_4
        try clear f16_5
        try clear f16_6
        try clear f16_7
        try clear f16_8
        try clear f16_9
        try clear f21_0
        try clear f21_1
        try clear f21_10
        try clear f21_11
        try clear f21_12
        try clear f21_13
        try clear f21_2
        try clear f21_3
        try clear f21_4
        try clear f21_5
        try clear f21_6
        try clear f21_7
        try clear f21_8
        try clear f21_9
        try clear p2
        obtain ⟨kq, x65_21, rfl, HA, HJ21, B216, HB⟩ := hcut
        cases kq with
        | zero => exact absurd HA.out (by simp [hogsheadref17_New.j2])
        | succ kj21 =>
         have H := HA.out
         clear HA
         simp only [hogsheadref17_New.j2] at H
         by_cases c24 : x65_21 = true
         ·subst c24
          have H1 : (some (0, 0, (⟨#[]⟩ : ByteArray), (⟨#[]⟩ : ByteArray), 0, 0, 0, 0, 0, 0, 0, 0, (⟨#[]⟩ : ByteArray), false, 1)) = some (r1, r2, r3, r4, r5, r6, r7, r8, r9, r10, r11, r12, r13, r14, r15) := by rw [if_pos rfl] at H; exact H
          clear H
          have H := H1
          clear H1
          simp only [Option.some.injEq, Prod.mk.injEq] at H
          obtain ⟨rfl, rfl, rfl, rfl, rfl, rfl, rfl, rfl, rfl, rfl, rfl, rfl, rfl, rfl, rfl⟩ := H
          obtain ⟨z25_0, z25_1, z25_2, z25_3, z25_4, z25_5, z25_6, z25_7, z25_8, z25_9, z25_10, z25_11, z25_12, z25_13, f25_0, f25_1, f25_2, f25_3, f25_4, f25_5, f25_6, f25_7, f25_8, f25_9, f25_10, f25_11, f25_12, f25_13⟩ := cells14 B216.out
          go_wp2
          refine bodyPost_ret (results_ct rfl _ _ g216 28 #[.int .i64 0, .int .i64 0, .string (⟨#[]⟩ : ByteArray), .string (⟨#[]⟩ : ByteArray), .int .i64 0, .int .i64 0, .int .i64 0, .int .i64 0, .int .i64 0, .int .u32 0, .int .i64 0, .int .i64 0, .string (⟨#[]⟩ : ByteArray), .bool false] (0, 0) _ rfl (by (with_reducible repeat first | refine qN ?_ _ | refine qD ?_ | refine qA ?_ _); apply puts14; (with_reducible repeat first | refine qN ?_ _ | refine qD ?_ | refine qA ?_ _); exact B216.out) Try.underlying28 rfl (by kernel_rfl)) rfl ?_
          exact ⟨by first | rfl | (simp [errW_none, errW_some] <;> rfl) | (simp [*, errW_none, errW_some] <;> rfl), by repeat (first | (with_reducible first | exact HB.out | apply eA | apply eN | apply eD | refine eS ?_ GE216.out) | exact HB.out)⟩
         ·replace c24 := Bool.eq_false_iff.mpr c24
          subst c24
          have H1 : (if a1 = 2 then (if a1 = 3 then (some (a0, a1, a2, a3, a4, 7, 0, 0, (a3.size : Int), 0, 0, 0, (⟨#[]⟩ : ByteArray), false, 0)) else (some (a0, a1, a2, a3, a4, 5, 0, 0, (a3.size : Int), 0, 0, 0, (⟨#[]⟩ : ByteArray), false, 0))) else (if a1 = 3 then (some (a0, a1, a2, a3, a4, 7, 0, 0, (a3.size : Int), 0, 0, 0, (⟨#[]⟩ : ByteArray), false, 0)) else (some (a0, a1, a2, a3, a4, 1, 0, 0, (a3.size : Int), 0, 0, 0, (⟨#[]⟩ : ByteArray), false, 0)))) = some (r1, r2, r3, r4, r5, r6, r7, r8, r9, r10, r11, r12, r13, r14, r15) := by rw [if_neg (show ¬ (false = true) by decide)] at H; exact H
          clear H
          have H := H1
          clear H1
          by_cases c26 : a1 = 2
          ·rw [if_pos c26] at H
           have c26b0 : (a1 == 2) = true := beq_iff_eq.mpr c26
           have c26b1 : (a1 != 2) = false := bne_eq_false_iff_eq.mpr c26
           clear c26
           by_cases c27 : a1 = 3
           ·rw [if_pos c27] at H
            have c27b0 : (a1 == 3) = true := beq_iff_eq.mpr c27
            have c27b1 : (a1 != 3) = false := bne_eq_false_iff_eq.mpr c27
            clear c27
            simp only [Option.some.injEq, Prod.mk.injEq] at H
            obtain ⟨rfl, rfl, rfl, rfl, rfl, rfl, rfl, rfl, rfl, rfl, rfl, rfl, rfl, rfl, rfl⟩ := H
            obtain ⟨z28_0, z28_1, z28_2, z28_3, z28_4, z28_5, z28_6, z28_7, z28_8, z28_9, z28_10, z28_11, z28_12, z28_13, f28_0, f28_1, f28_2, f28_3, f28_4, f28_5, f28_6, f28_7, f28_8, f28_9, f28_10, f28_11, f28_12, f28_13⟩ := cells14 B216.out
            go_wp2
            refine bodyPost_ret (results_ct rfl _ _ g216 28 #[.int .i64 a0, .int .i64 a1, .string a2, .string a3, .int .i64 a4, .int .i64 7, .int .i64 0, .int .i64 0, .int .i64 (a3.size : Int), .int .u32 0, .int .i64 0, .int .i64 0, .string (⟨#[]⟩ : ByteArray), .bool false] (0, 0) _ rfl (by (with_reducible repeat first | refine qN ?_ _ | refine qD ?_ | refine qA ?_ _); apply puts14; (with_reducible repeat first | refine qN ?_ _ | refine qD ?_ | refine qA ?_ _); exact B216.out) Try.underlying28 rfl (by kernel_rfl)) rfl ?_
            exact ⟨by first | rfl | (simp [errW_none, errW_some] <;> rfl) | (simp [*, errW_none, errW_some] <;> rfl), by repeat (first | (with_reducible first | exact HB.out | apply eA | apply eN | apply eD | refine eS ?_ GE216.out) | exact HB.out)⟩
           ·rw [if_neg c27] at H
            have c27b0 : (a1 == 3) = false := beq_eq_false_iff_ne.mpr c27
            have c27b1 : (a1 != 3) = true := bne_iff_ne.mpr c27
            simp only [Option.some.injEq, Prod.mk.injEq] at H
            obtain ⟨rfl, rfl, rfl, rfl, rfl, rfl, rfl, rfl, rfl, rfl, rfl, rfl, rfl, rfl, rfl⟩ := H
            obtain ⟨z29_0, z29_1, z29_2, z29_3, z29_4, z29_5, z29_6, z29_7, z29_8, z29_9, z29_10, z29_11, z29_12, z29_13, f29_0, f29_1, f29_2, f29_3, f29_4, f29_5, f29_6, f29_7, f29_8, f29_9, f29_10, f29_11, f29_12, f29_13⟩ := cells14 B216.out
            go_wp2
            refine bodyPost_ret (results_ct rfl _ _ g216 28 #[.int .i64 a0, .int .i64 a1, .string a2, .string a3, .int .i64 a4, .int .i64 5, .int .i64 0, .int .i64 0, .int .i64 (a3.size : Int), .int .u32 0, .int .i64 0, .int .i64 0, .string (⟨#[]⟩ : ByteArray), .bool false] (0, 0) _ rfl (by (with_reducible repeat first | refine qN ?_ _ | refine qD ?_ | refine qA ?_ _); apply puts14; (with_reducible repeat first | refine qN ?_ _ | refine qD ?_ | refine qA ?_ _); exact B216.out) Try.underlying28 rfl (by kernel_rfl)) rfl ?_
            exact ⟨by first | rfl | (simp [errW_none, errW_some] <;> rfl) | (simp [*, errW_none, errW_some] <;> rfl), by repeat (first | (with_reducible first | exact HB.out | apply eA | apply eN | apply eD | refine eS ?_ GE216.out) | exact HB.out)⟩
          ·rw [if_neg c26] at H
           have c26b0 : (a1 == 2) = false := beq_eq_false_iff_ne.mpr c26
           have c26b1 : (a1 != 2) = true := bne_iff_ne.mpr c26
           by_cases c30 : a1 = 3
           ·rw [if_pos c30] at H
            have c30b0 : (a1 == 3) = true := beq_iff_eq.mpr c30
            have c30b1 : (a1 != 3) = false := bne_eq_false_iff_eq.mpr c30
            clear c30
            simp only [Option.some.injEq, Prod.mk.injEq] at H
            obtain ⟨rfl, rfl, rfl, rfl, rfl, rfl, rfl, rfl, rfl, rfl, rfl, rfl, rfl, rfl, rfl⟩ := H
            obtain ⟨z31_0, z31_1, z31_2, z31_3, z31_4, z31_5, z31_6, z31_7, z31_8, z31_9, z31_10, z31_11, z31_12, z31_13, f31_0, f31_1, f31_2, f31_3, f31_4, f31_5, f31_6, f31_7, f31_8, f31_9, f31_10, f31_11, f31_12, f31_13⟩ := cells14 B216.out
            go_wp2
            refine bodyPost_ret (results_ct rfl _ _ g216 28 #[.int .i64 a0, .int .i64 a1, .string a2, .string a3, .int .i64 a4, .int .i64 7, .int .i64 0, .int .i64 0, .int .i64 (a3.size : Int), .int .u32 0, .int .i64 0, .int .i64 0, .string (⟨#[]⟩ : ByteArray), .bool false] (0, 0) _ rfl (by (with_reducible repeat first | refine qN ?_ _ | refine qD ?_ | refine qA ?_ _); apply puts14; (with_reducible repeat first | refine qN ?_ _ | refine qD ?_ | refine qA ?_ _); exact B216.out) Try.underlying28 rfl (by kernel_rfl)) rfl ?_
            exact ⟨by first | rfl | (simp [errW_none, errW_some] <;> rfl) | (simp [*, errW_none, errW_some] <;> rfl), by repeat (first | (with_reducible first | exact HB.out | apply eA | apply eN | apply eD | refine eS ?_ GE216.out) | exact HB.out)⟩
           ·rw [if_neg c30] at H
            have c30b0 : (a1 == 3) = false := beq_eq_false_iff_ne.mpr c30
            have c30b1 : (a1 != 3) = true := bne_iff_ne.mpr c30
            simp only [Option.some.injEq, Prod.mk.injEq] at H
            obtain ⟨rfl, rfl, rfl, rfl, rfl, rfl, rfl, rfl, rfl, rfl, rfl, rfl, rfl, rfl, rfl⟩ := H
            obtain ⟨z32_0, z32_1, z32_2, z32_3, z32_4, z32_5, z32_6, z32_7, z32_8, z32_9, z32_10, z32_11, z32_12, z32_13, f32_0, f32_1, f32_2, f32_3, f32_4, f32_5, f32_6, f32_7, f32_8, f32_9, f32_10, f32_11, f32_12, f32_13⟩ := cells14 B216.out
            go_wp2
            refine bodyPost_ret (results_ct rfl _ _ g216 28 #[.int .i64 a0, .int .i64 a1, .string a2, .string a3, .int .i64 a4, .int .i64 1, .int .i64 0, .int .i64 0, .int .i64 (a3.size : Int), .int .u32 0, .int .i64 0, .int .i64 0, .string (⟨#[]⟩ : ByteArray), .bool false] (0, 0) _ rfl (by (with_reducible repeat first | refine qN ?_ _ | refine qD ?_ | refine qA ?_ _); apply puts14; (with_reducible repeat first | refine qN ?_ _ | refine qD ?_ | refine qA ?_ _); exact B216.out) Try.underlying28 rfl (by kernel_rfl)) rfl ?_
            exact ⟨by first | rfl | (simp [errW_none, errW_some] <;> rfl) | (simp [*, errW_none, errW_some] <;> rfl), by repeat (first | (with_reducible first | exact HB.out | apply eA | apply eN | apply eD | refine eS ?_ GE216.out) | exact HB.out)⟩

end Go.Proofs.Ytmjmmgefkebggaa.PAll
