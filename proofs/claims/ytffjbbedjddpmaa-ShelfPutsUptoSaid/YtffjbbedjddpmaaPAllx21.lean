/- Functions of the program as plain Lean functions, and that each call comes to what they say. Laid by a program of this session (hprint.py); Lean checks it. -/
import Derived.Test.YtffjbbedjddpmaaPAllx0
namespace Go.Proofs.Ytffjbbedjddpmaa.PAll
open Go.RowKit Go.Proofs.YtffjbbedjddpmaaW.PrintWords Go.Proofs.YtffjbbedjddpmaaW.PrintLast Go.Proofs.YtffjbbedjddpmaaW.PrintMore
attribute [local go_sem] max2_int min2_int max_two min_two max_three min_three max_four min_four   -- for this text's walks alone
set_option linter.unusedVariables false
set_option linter.unusedSimpArgs false
attribute [local irreducible] World.setCell

/-! ### hogsheadref01_Num: function 44 -/
def hogsheadref01_Num.l0 : Nat → Int → ByteArray → Option (ByteArray)
 | 0, _, _ => none
 | k + 1, x0, x3 => if x0 > 0 then ((some (([(((Int.tmod x0 128) % 256) + 128) % 256] : List Int) : List Int)).bind fun y186 => (if (strOfNums y186).size + x3.size ≤ 9223372036854775807 then (hogsheadref01_Num.l0 k (IntKind.u64.wrap (Int.tdiv x0 128)) ((strOfNums y186) ++ x3)) else (none))) else (some x3)
def hogsheadref01_Num.f (k : Nat) (a0 : Int) : Option (ByteArray) := hogsheadref01_Num.l0 k (IntKind.u64.wrap (Int.tdiv a0 128)) (strOfNums (([(Int.tmod a0 128) % 256] : List Int)))
theorem hogsheadref01_Num.mono_l : ∀ k, (∀ y0 y1, LeO (hogsheadref01_Num.l0 k y0 y1) (hogsheadref01_Num.l0 (k + 1) y0 y1))
 | 0 => fun _ _ r h => by simp [hogsheadref01_Num.l0] at h
 | k + 1 => by
  have ih0 := hogsheadref01_Num.mono_l k
  ·intro y0 y1
   unfold hogsheadref01_Num.l0
   repeat' first
   | (with_reducible exact ih0 _ _)
   | (with_reducible exact LeO.refl _)
   | (with_reducible exact LeO.none _)
   | (with_reducible refine LeO.ite ?_ ?_)
   | (with_reducible refine LeO.bind ?_ (fun _ => ?_))
   | exact ih0 _ _
   | exact LeO.none _
   | refine LeO.ite ?_ ?_
   | refine LeO.bind ?_ (fun _ => ?_)
theorem hogsheadref01_Num.mono : ∀ a0 k, LeO (hogsheadref01_Num.f k a0) (hogsheadref01_Num.f (k + 1) a0) := by
 intro a0 k
 have ih0 := hogsheadref01_Num.mono_l k
 unfold hogsheadref01_Num.f
 repeat' first
   | (with_reducible exact ih0 _ _)
   | (with_reducible exact LeO.refl _)
   | (with_reducible exact LeO.none _)
   | (with_reducible refine LeO.ite ?_ ?_)
   | (with_reducible refine LeO.bind ?_ (fun _ => ?_))
   | exact ih0 _ _
   | exact LeO.none _
   | refine LeO.ite ?_ ?_
   | refine LeO.bind ?_ (fun _ => ?_)
set_option maxHeartbeats 40000000 in
set_option maxRecDepth 100000 in
theorem hogsheadref01_Num.calls (k : Nat) (a0 : Int) (r : ByteArray) (w : World) (h : hogsheadref01_Num.f k a0 = some r) :
  Calls Try.prog 44 #[.int .u64 a0] w fun e w' => e = .returned (.string r) ∧ Below w.heap.size w w' := by
 have HB := qM (Below.refl w.heap.size w)
 have H : (hogsheadref01_Num.l0 k (IntKind.u64.wrap (Int.tdiv a0 128)) (strOfNums (([(Int.tmod a0 128) % 256] : List Int)))) = some r := h
 clear h
 obtain ⟨y183, hy183⟩ : ∃ y_ : List Int, y_ = (([(Int.tmod a0 128) % 256] : List Int)) := ⟨_, rfl⟩
 replace H : (hogsheadref01_Num.l0 k (IntKind.u64.wrap (Int.tdiv a0 128)) (strOfNums y183)) = some r := by first | (rw [hy183]; with_reducible exact H) | (have H2_ := (Option.bind_some _ _).symm.trans H; rw [hy183]; with_reducible exact H2_) | (have H2_ := (Option.bind_some _ _).symm.trans H; with_reducible exact H2_) | with_reducible exact H | (rw [hy183]; exact H) | exact H
 have Ny183 := qM hy183
 clear hy183
 have H' := qM H
 clear H
 go_enter Try.func44, Try.ntmps44
 go_wp2_with (first | ((with_reducible refine gate_dst (N := 7) rfl ?_); refine Kd.R_lit (Kd.int .u8) _ 5 ?hg (N := 7) ?hd (xs := ([(Int.tmod a0 128) % 256] : List Int)) (inner := [.int .u8 ((Int.tmod a0 128) % 256)]) (ok := fun _ => True) (okp := fun _ => True) ?hr ?hp (fun _ hk => hk) trivial (Below.refl _ _) (Nat.le_refl _) (by simp) ?_; (case hd => rfl); (case hg => rfl); (case hr => first | (go_simp; done) | (go_simp; rfl)); (case hp => exact (Reps.one (show Kd.M (Kd.int .u8) _ _ _ ((Int.tmod a0 128) % 256) [.int .u8 ((Int.tmod a0 128) % 256)] from rfl) (Reps.none _ _))); intro v184 w2 ho3 hb hg_ hnew_; clear hg_ hnew_; (first | rw [← Ny183.out] at ho3 | (simp only [Int.reduceToNat] at ho3; rw [← Ny183.out] at ho3)); have n0_ := qM (Kd.R_lower ho3 (eZ (by repeat (first | (with_reducible first | exact HB.out | apply eA | apply eN | apply eD) | exact HB.out)))); have n1_ := qM (eT (by repeat (first | (with_reducible first | exact HB.out | apply eA | apply eN | apply eD) | exact HB.out)) hb); clear HB; have HO185 := n0_; have HB := n1_; clear n0_ n1_; clear hb ho3; have hcv4 := own_string (P := Try.prog) Try.underlying107 Try.underlying5 Try.underlying9 (Kd.own_of_R HO185.out)))
 go_loopg [0, 3] k (fun kq v0 v3 w' => ∃ (x0_1 : Int) (x3_1 : ByteArray), v0 = .int .u64 x0_1 ∧ v3 = .string x3_1 ∧ Aside0 (hogsheadref01_Num.l0 kq x0_1 x3_1 = some r) ∧ Aside0 (kq ≤ k) ∧ Aside0 (Below w.heap.size w w'))
 case atStart => exact ⟨(IntKind.u64.wrap (Int.tdiv a0 128)), (strOfNums y183), (by first | rfl | (simp; done) | (simp [*]; done)), (by first | rfl | (simp; done) | (simp [*]; done)), H', ⟨Nat.le_refl _⟩, ⟨by repeat (first | (with_reducible first | exact HB.out | apply eA | apply eN | apply eD) | exact HB.out)⟩⟩
 case round =>
  clear H'
  try clear p2
  try clear c4
  try clear hcv4
  obtain ⟨x0_1, x3_1, rfl, rfl, HA, HK1, HB⟩ := hrel
  cases gk with
  | zero => exact absurd HA.out (by simp [hogsheadref01_Num.l0])
  | succ k1 =>
   have H := HA.out
   clear HA
   simp only [hogsheadref01_Num.l0] at H
   by_cases c5 : x0_1 > 0
   ·rw [if_pos c5] at H
    have c5b0 : decide (0 < x0_1) = true := decide_eq_true c5
    clear c5
    obtain ⟨y186, hy186⟩ : ∃ y_ : List Int, y_ = (([(((Int.tmod x0_1 128) % 256) + 128) % 256] : List Int)) := ⟨_, rfl⟩
    replace H : (if (strOfNums y186).size + x3_1.size ≤ 9223372036854775807 then (hogsheadref01_Num.l0 k1 (IntKind.u64.wrap (Int.tdiv x0_1 128)) ((strOfNums y186) ++ x3_1)) else (none)) = some r := by first | (rw [hy186]; with_reducible exact H) | (have H2_ := (Option.bind_some _ _).symm.trans H; rw [hy186]; with_reducible exact H2_) | (have H2_ := (Option.bind_some _ _).symm.trans H; with_reducible exact H2_) | with_reducible exact H | (rw [hy186]; exact H) | exact H
    have Ny186 := qM hy186
    clear hy186
    by_cases c6 : (strOfNums y186).size + x3_1.size ≤ 9223372036854775807
    ·rw [if_pos c6] at H
     have c6b0 := eq_true c6
     have c6b1 : decide ((strOfNums y186).size + x3_1.size ≤ 9223372036854775807) = true := decide_eq_true c6
     try have c6b2 : (9223372036854775807 < (strOfNums y186).size + x3_1.size) = False := eq_false (Nat.not_lt.2 c6)
     have H' := qM H
     clear H
     go_wp2_with (first | ((with_reducible refine gate_dst (N := 17) rfl ?_); refine Kd.R_lit (Kd.int .u8) _ 5 ?hg (N := 17) ?hd (xs := ([(((Int.tmod x0_1 128) % 256) + 128) % 256] : List Int)) (inner := [.int .u8 ((((Int.tmod x0_1 128) % 256) + 128) % 256)]) (ok := fun _ => True) (okp := fun _ => True) ?hr ?hp (fun _ hk => hk) trivial (Below.refl _ _) (Nat.le_refl _) (by simp) ?_; (case hd => rfl); (case hg => rfl); (case hr => first | (go_simp; done) | (go_simp; rfl)); (case hp => exact (Reps.one (show Kd.M (Kd.int .u8) _ _ _ ((((Int.tmod x0_1 128) % 256) + 128) % 256) [.int .u8 ((((Int.tmod x0_1 128) % 256) + 128) % 256)] from rfl) (Reps.none _ _))); intro v187 w7 ho8 hb hg_ hnew_; clear hg_ hnew_; (first | rw [← Ny186.out] at ho8 | (simp only [Int.reduceToNat] at ho8; rw [← Ny186.out] at ho8)); have n0_ := qM (Kd.R_lower ho8 (eZ (by repeat (first | (with_reducible first | exact HB.out | apply eA | apply eN | apply eD) | exact HB.out)))); have n1_ := qM (eT (by repeat (first | (with_reducible first | exact HB.out | apply eA | apply eN | apply eD) | exact HB.out)) hb); clear HB; have HO188 := n0_; have HB := n1_; clear n0_ n1_; clear hb ho8; have hcv9 := own_string (P := Try.prog) Try.underlying107 Try.underlying5 Try.underlying9 (Kd.own_of_R HO188.out)))
     go_roundg k1
     case measure => have := HK1.out; omega
     case rel => exact ⟨(IntKind.u64.wrap (Int.tdiv x0_1 128)), ((strOfNums y186) ++ x3_1), (by first | rfl | (simp; done) | (simp [*]; done)), (by first | rfl | (simp; done) | (simp [*]; done)), H', ⟨by have := HK1.out; omega⟩, ⟨by repeat (first | (with_reducible first | exact HB.out | apply eA | apply eN | apply eD) | exact HB.out)⟩⟩
    ·rw [if_neg c6] at H
     exact absurd H (by simp)
   ·rw [if_neg c5] at H
    have c5b0 : decide (0 < x0_1) = false := decide_eq_false c5
    clear c5
    obtain rfl := Option.some.inj H
    go_wp2
    go_ret
    exact ⟨by first | rfl | (simp [errW_none, errW_some] <;> rfl) | (simp [*, errW_none, errW_some] <;> rfl), by repeat (first | (with_reducible first | exact HB.out | apply eA | apply eN | apply eD) | exact HB.out)⟩

/-! ### hogsheadref01_Text: function 45 -/
def hogsheadref01_Text.f (k : Nat) (a0 : ByteArray) : Option ByteArray := (hogsheadref01_Num.f k (IntKind.u64.wrap (a0.size : Int))).bind fun t => if t.size + a0.size ≤ 9223372036854775807 then some (t ++ a0) else none
theorem hogsheadref01_Text.mono : ∀ a0 k, LeO (hogsheadref01_Text.f k a0) (hogsheadref01_Text.f (k + 1) a0) := by
  intro a0 k
  unfold hogsheadref01_Text.f
  exact LeO.bind (hogsheadref01_Num.mono _ _) (fun _ => LeO.refl _)
set_option maxRecDepth 100000 in
theorem hogsheadref01_Text.calls (k : Nat) (a0 : ByteArray) (r : ByteArray) (w : World) (h : hogsheadref01_Text.f k a0 = some r) :
    Calls Try.prog 45 #[.string a0] w fun e w' => e = .returned (.string r) ∧ Below w.heap.size w w' := by
  obtain ⟨t, A2, H⟩ := Option.bind_eq_some_iff.mp h
  have A2 := Aside0.mk A2
  clear h
  by_cases c3 : t.size + a0.size ≤ 9223372036854775807
  · rw [if_pos c3] at H
    obtain rfl := Option.some.inj H
    clear H
    have HC := Aside0.mk c3
    clear c3
    go_enter Try.func45, Try.ntmps45
    go_wp2_with (go_at_call 44; (with_reducible refine (hogsheadref01_Num.calls k _ t _ A2.out).mono ?_); rintro e w4 ⟨rfl, hb⟩; have HB := Aside0.mk hb; clear hb; have c3b0 := eq_true HC.out; have c3b1 := decide_eq_true HC.out; have c3b2 := eq_false (Nat.not_lt.2 HC.out))
    go_ret
    exact ⟨rfl, HB.out⟩
  · rw [if_neg c3] at H
    cases H

end Go.Proofs.Ytffjbbedjddpmaa.PAll
