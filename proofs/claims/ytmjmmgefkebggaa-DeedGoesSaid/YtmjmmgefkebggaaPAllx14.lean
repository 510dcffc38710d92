/- Functions of the program as plain Lean functions, and that each call comes to what they say. Laid by a program of this session (hprint.py); Lean checks it. -/
import Derived.Test.YtmjmmgefkebggaaPAllx0
namespace Go.Proofs.Ytmjmmgefkebggaa.PAll
open Go.RowKit Go.Proofs.YtmjmmgefkebggaaW.PrintWords Go.Proofs.YtmjmmgefkebggaaW.PrintLast Go.Proofs.YtmjmmgefkebggaaW.PrintMore
attribute [local go_sem] max2_int min2_int max_two min_two max_three min_three max_four min_four   -- for this text's walks alone
set_option linter.unusedVariables false
set_option linter.unusedSimpArgs false

/-! ### hogsheadref02_Step: function 31 -/
def hogsheadref02_Step.l0 : Nat → Int → Int → Int → Option (Int)
 | 0, _, _, _ => none
 | k + 1, x0, x1, x5 => if x5 < 8 then (if (Go.bits .xor .u32 ((Int.tdiv x0 2147483648) % 4294967296) ((Int.tdiv x1 128) % 256)) = 1 then (hogsheadref02_Step.l0 k (Go.bits .xor .u32 (((Int.tmod x0 2147483648) * 2) % 4294967296) 79764919) (((Int.tmod x1 128) * 2) % 256) (wrap64 (x5 + 1))) else (hogsheadref02_Step.l0 k (((Int.tmod x0 2147483648) * 2) % 4294967296) (((Int.tmod x1 128) * 2) % 256) (wrap64 (x5 + 1)))) else (some x0)
def hogsheadref02_Step.f (k : Nat) (a0 : Int) (a1 : Int) : Option (Int) := hogsheadref02_Step.l0 k a0 a1 0
theorem hogsheadref02_Step.mono_l : ∀ k, (∀ y0 y1 y2, LeO (hogsheadref02_Step.l0 k y0 y1 y2) (hogsheadref02_Step.l0 (k + 1) y0 y1 y2))
 | 0 => fun _ _ _ r h => by simp [hogsheadref02_Step.l0] at h
 | k + 1 => by
  have ih0 := hogsheadref02_Step.mono_l k
  ·intro y0 y1 y2
   unfold hogsheadref02_Step.l0
   repeat' first
   | (with_reducible exact ih0 _ _ _)
   | (with_reducible exact LeO.refl _)
   | (with_reducible exact LeO.none _)
   | (with_reducible refine LeO.ite ?_ ?_)
   | (with_reducible refine LeO.bind ?_ (fun _ => ?_))
   | exact ih0 _ _ _
   | exact LeO.none _
   | refine LeO.ite ?_ ?_
   | refine LeO.bind ?_ (fun _ => ?_)
theorem hogsheadref02_Step.mono : ∀ a0 a1 k, LeO (hogsheadref02_Step.f k a0 a1) (hogsheadref02_Step.f (k + 1) a0 a1) := by
 intro a0 a1 k
 have ih0 := hogsheadref02_Step.mono_l k
 unfold hogsheadref02_Step.f
 repeat' first
   | (with_reducible exact ih0 _ _ _)
   | (with_reducible exact LeO.refl _)
   | (with_reducible exact LeO.none _)
   | (with_reducible refine LeO.ite ?_ ?_)
   | (with_reducible refine LeO.bind ?_ (fun _ => ?_))
   | exact ih0 _ _ _
   | exact LeO.none _
   | refine LeO.ite ?_ ?_
   | refine LeO.bind ?_ (fun _ => ?_)
set_option maxHeartbeats 40000000 in
set_option maxRecDepth 100000 in
theorem hogsheadref02_Step.calls (k : Nat) (a0 : Int) (a1 : Int) (r : Int) (w : World) (h : hogsheadref02_Step.f k a0 a1 = some r) :
  Calls Try.prog 31 #[.int .u32 a0, .int .u8 a1] w fun e w' => e = .returned (.int .u32 r) ∧ Drawn0 w w' := by
 have H : (hogsheadref02_Step.l0 k a0 a1 0) = some r := h
 clear h
 have H' := qM H
 clear H
 go_enter Try.func31, Try.ntmps31
 go_wp2
 go_loopg [0, 1, 5] k (fun kq v0 v1 v5 w' => ∃ (x0_1 : Int) (x1_1 : Int) (x5_1 : Int), v0 = .int .u32 x0_1 ∧ v1 = .int .u8 x1_1 ∧ v5 = .int .i64 x5_1 ∧ Aside0 (hogsheadref02_Step.l0 kq x0_1 x1_1 x5_1 = some r) ∧ Aside0 (kq ≤ k) ∧ Drawn0 w w')
 case atStart => exact ⟨(a0), (a1), (0), (by first | rfl | (simp; done) | (simp [*]; done)), (by first | rfl | (simp; done) | (simp [*]; done)), (by first | rfl | (simp; done) | (simp [*]; done)), H', ⟨Nat.le_refl _⟩, by repeat (first | exact Drawn0.refl _ | apply Drawn0.step)⟩
 case round =>
  clear H'
  try clear p2
  obtain ⟨x0_1, x1_1, x5_1, rfl, rfl, rfl, HA, HK1, ⟨m1, rfl⟩⟩ := hrel
  cases gk with
  | zero => exact absurd HA.out (by simp [hogsheadref02_Step.l0])
  | succ k1 =>
   have H := HA.out
   clear HA
   simp only [hogsheadref02_Step.l0] at H
   by_cases c3 : x5_1 < 8
   ·rw [if_pos c3] at H
    have c3b0 : decide (x5_1 < 8) = true := decide_eq_true c3
    clear c3
    by_cases c4 : (Go.bits .xor .u32 ((Int.tdiv x0_1 2147483648) % 4294967296) ((Int.tdiv x1_1 128) % 256)) = 1
    ·rw [if_pos c4] at H
     have c4b0 : ((Go.bits .xor .u32 ((Int.tdiv x0_1 2147483648) % 4294967296) ((Int.tdiv x1_1 128) % 256)) == 1) = true := beq_iff_eq.mpr c4
     have c4b1 : ((Go.bits .xor .u32 ((Int.tdiv x0_1 2147483648) % 4294967296) ((Int.tdiv x1_1 128) % 256)) != 1) = false := bne_eq_false_iff_eq.mpr c4
     clear c4
     have H' := qM H
     clear H
     go_wp2
     go_roundg k1
     case measure => have := HK1.out; omega
     case rel => exact ⟨(Go.bits .xor .u32 (((Int.tmod x0_1 2147483648) * 2) % 4294967296) 79764919), (((Int.tmod x1_1 128) * 2) % 256), (wrap64 (x5_1 + 1)), (by first | rfl | (simp; done) | (simp [*]; done)), (by first | rfl | (simp; done) | (simp [*]; done)), (by first | rfl | (simp; done) | (simp [*]; done)), H', ⟨by have := HK1.out; omega⟩, by repeat (first | exact Drawn0.refl _ | apply Drawn0.step)⟩
    ·rw [if_neg c4] at H
     have c4b0 : ((Go.bits .xor .u32 ((Int.tdiv x0_1 2147483648) % 4294967296) ((Int.tdiv x1_1 128) % 256)) == 1) = false := beq_eq_false_iff_ne.mpr c4
     have c4b1 : ((Go.bits .xor .u32 ((Int.tdiv x0_1 2147483648) % 4294967296) ((Int.tdiv x1_1 128) % 256)) != 1) = true := bne_iff_ne.mpr c4
     have H' := qM H
     clear H
     go_wp2
     go_roundg k1
     case measure => have := HK1.out; omega
     case rel => exact ⟨(((Int.tmod x0_1 2147483648) * 2) % 4294967296), (((Int.tmod x1_1 128) * 2) % 256), (wrap64 (x5_1 + 1)), (by first | rfl | (simp; done) | (simp [*]; done)), (by first | rfl | (simp; done) | (simp [*]; done)), (by first | rfl | (simp; done) | (simp [*]; done)), H', ⟨by have := HK1.out; omega⟩, by repeat (first | exact Drawn0.refl _ | apply Drawn0.step)⟩
   ·rw [if_neg c3] at H
    have c3b0 : decide (x5_1 < 8) = false := decide_eq_false c3
    clear c3
    obtain rfl := Option.some.inj H
    go_wp2
    go_ret
    exact ⟨by first | rfl | (simp; done) | (simp [*]; done), by repeat (first | exact Drawn0.refl _ | apply Drawn0.step)⟩

end Go.Proofs.Ytmjmmgefkebggaa.PAll
