/- Functions of the program as plain Lean functions, and that each call comes to what they say. Laid by a program of this session (hprint.py); Lean checks it. -/
import Derived.Test.YthnhfmmiaknhgaaPAllx0
import Derived.Test.YthnhfmmiaknhgaaPAllx17
namespace Go.Proofs.Ythnhfmmiaknhgaa.PAll
open Go.RowKit Go.Proofs.YthnhfmmiaknhgaaW.PrintWords Go.Proofs.YthnhfmmiaknhgaaW.PrintLast Go.Proofs.YthnhfmmiaknhgaaW.PrintMore
attribute [local go_sem] max2_int min2_int max_two min_two max_three min_three max_four min_four   -- for this text's walks alone
set_option linter.unusedVariables false
set_option linter.unusedSimpArgs false

/-! ### hogsheadref01_Num: function 28 -/
def hogsheadref01_Num.l0 : Nat → Int → ByteArray → Option (ByteArray)
 | 0, _, _ => none
 | k + 1, x0, x3 => if x0 > 0 then ((some (([(((Int.tmod x0 128) % 256) + 128) % 256] : List Int) : List Int)).bind fun y246 => (if (strOfNums y246).size + x3.size ≤ 9223372036854775807 then (hogsheadref01_Num.l0 k (IntKind.u64.wrap (Int.tdiv x0 128)) ((strOfNums y246) ++ x3)) else (none))) else (some x3)
def hogsheadref01_Num.f (k : Nat) (a0 : Int) : Option (ByteArray) := hogsheadref01_Num.l0 k (IntKind.u64.wrap (Int.tdiv a0 128)) (strOfNums (([(Int.tmod a0 128) % 256] : List Int)))
theorem hogsheadref01_Num.mono_l : ∀ k, (∀ y0 y1, LeO (hogsheadref01_Num.l0 k y0 y1) (hogsheadref01_Num.l0 (k + 1) y0 y1))
 | 0 => fun _ _ r h => by simp [hogsheadref01_Num.l0] at h
 | k + 1 => by
  have ih0 := hogsheadref01_Num.mono_l k
  ·intro y0 y1
   unfold hogsheadref01_Num.l0
   repeat' first
   | (with_reducible exact ih0 _ _)
   | (with_reducible exact LeO.refl _)
   | (with_reducible exact LeO.none _)
   | (with_reducible refine LeO.ite ?_ ?_)
   | (with_reducible refine LeO.bind ?_ (fun _ => ?_))
   | exact ih0 _ _
   | exact LeO.none _
   | refine LeO.ite ?_ ?_
   | refine LeO.bind ?_ (fun _ => ?_)
theorem hogsheadref01_Num.mono : ∀ a0 k, LeO (hogsheadref01_Num.f k a0) (hogsheadref01_Num.f (k + 1) a0) := by
 intro a0 k
 have ih0 := hogsheadref01_Num.mono_l k
 unfold hogsheadref01_Num.f
 repeat' first
   | (with_reducible exact ih0 _ _)
   | (with_reducible exact LeO.refl _)
   | (with_reducible exact LeO.none _)
   | (with_reducible refine LeO.ite ?_ ?_)
   | (with_reducible refine LeO.bind ?_ (fun _ => ?_))
   | exact ih0 _ _
   | exact LeO.none _
   | refine LeO.ite ?_ ?_
   | refine LeO.bind ?_ (fun _ => ?_)
set_option maxHeartbeats 40000000 in
set_option maxRecDepth 100000 in
theorem hogsheadref01_Num.calls (k : Nat) (a0 : Int) (r : ByteArray) (w : World) (h : hogsheadref01_Num.f k a0 = some r) :
  Calls Try.prog 28 #[.int .u64 a0] w fun e w' => e = .returned (.string r) ∧ Below w.heap.size w w' := by
 have HB := qM (Below.refl w.heap.size w)
 have H : (hogsheadref01_Num.l0 k (IntKind.u64.wrap (Int.tdiv a0 128)) (strOfNums (([(Int.tmod a0 128) % 256] : List Int)))) = some r := h
 clear h
 obtain ⟨y243, hy243⟩ : ∃ y_ : List Int, y_ = (([(Int.tmod a0 128) % 256] : List Int)) := ⟨_, rfl⟩
 replace H : (hogsheadref01_Num.l0 k (IntKind.u64.wrap (Int.tdiv a0 128)) (strOfNums y243)) = some r := by first | (rw [hy243]; with_reducible exact H) | (have H2_ := (Option.bind_some _ _).symm.trans H; rw [hy243]; with_reducible exact H2_) | (have H2_ := (Option.bind_some _ _).symm.trans H; with_reducible exact H2_) | with_reducible exact H | (rw [hy243]; exact H) | exact H
 have Ny243 := qM hy243
 clear hy243
 have H' := qM H
 clear H
 go_enter Try.func28, Try.ntmps28
 go_wp2_with (first | ((with_reducible refine gate_dst (N := 7) rfl ?_); refine Kd.R_lit (Kd.int .u8) _ 5 ?hg (N := 7) ?hd (xs := ([(Int.tmod a0 128) % 256] : List Int)) (inner := [.int .u8 ((Int.tmod a0 128) % 256)]) (ok := fun _ => True) (okp := fun _ => True) ?hr ?hp (fun _ hk => hk) trivial (Below.refl _ _) (Nat.le_refl _) (by simp) ?_; (case hd => rfl); (case hg => rfl); (case hr => first | (go_simp; done) | (go_simp; rfl)); (case hp => exact (Reps.one (show Kd.M (Kd.int .u8) _ _ _ ((Int.tmod a0 128) % 256) [.int .u8 ((Int.tmod a0 128) % 256)] from rfl) (Reps.none _ _))); intro v244 w2 ho3 hb hg_ hnew_; clear hg_ hnew_; (first | rw [← Ny243.out] at ho3 | (simp only [Int.reduceToNat] at ho3; rw [← Ny243.out] at ho3)); have n0_ := qM (Kd.R_lower ho3 (eZ (by repeat (first | (with_reducible first | exact HB.out | apply eA | apply eN | apply eD) | exact HB.out)))); have n1_ := qM (eT (by repeat (first | (with_reducible first | exact HB.out | apply eA | apply eN | apply eD) | exact HB.out)) hb); clear HB; have HO245 := n0_; have HB := n1_; clear n0_ n1_; clear hb ho3; have hcv4 := own_string (P := Try.prog) Try.underlying84 Try.underlying5 Try.underlying9 (Kd.own_of_R HO245.out)))
 go_loopg [0, 3] k (fun kq v0 v3 w' => ∃ (x0_1 : Int) (x3_1 : ByteArray), v0 = .int .u64 x0_1 ∧ v3 = .string x3_1 ∧ Aside0 (hogsheadref01_Num.l0 kq x0_1 x3_1 = some r) ∧ Aside0 (kq ≤ k) ∧ Aside0 (Below w.heap.size w w'))
 case atStart => exact ⟨(IntKind.u64.wrap (Int.tdiv a0 128)), (strOfNums y243), (by first | rfl | (simp; done) | (simp [*]; done)), (by first | rfl | (simp; done) | (simp [*]; done)), H', ⟨Nat.le_refl _⟩, ⟨by repeat (first | (with_reducible first | exact HB.out | apply eA | apply eN | apply eD) | exact HB.out)⟩⟩
 case round =>
  clear H'
  try clear c2
  try clear p2
  try clear hcv4
  obtain ⟨x0_1, x3_1, rfl, rfl, HA, HK1, HB⟩ := hrel
  cases gk with
  | zero => exact absurd HA.out (by simp [hogsheadref01_Num.l0])
  | succ k1 =>
   have H := HA.out
   clear HA
   simp only [hogsheadref01_Num.l0] at H
   by_cases c5 : x0_1 > 0
   ·rw [if_pos c5] at H
    have c5b0 : decide (0 < x0_1) = true := decide_eq_true c5
    clear c5
    obtain ⟨y246, hy246⟩ : ∃ y_ : List Int, y_ = (([(((Int.tmod x0_1 128) % 256) + 128) % 256] : List Int)) := ⟨_, rfl⟩
    replace H : (if (strOfNums y246).size + x3_1.size ≤ 9223372036854775807 then (hogsheadref01_Num.l0 k1 (IntKind.u64.wrap (Int.tdiv x0_1 128)) ((strOfNums y246) ++ x3_1)) else (none)) = some r := by first | (rw [hy246]; with_reducible exact H) | (have H2_ := (Option.bind_some _ _).symm.trans H; rw [hy246]; with_reducible exact H2_) | (have H2_ := (Option.bind_some _ _).symm.trans H; with_reducible exact H2_) | with_reducible exact H | (rw [hy246]; exact H) | exact H
    have Ny246 := qM hy246
    clear hy246
    by_cases c6 : (strOfNums y246).size + x3_1.size ≤ 9223372036854775807
    ·rw [if_pos c6] at H
     have c6b0 := eq_true c6
     have c6b1 : decide ((strOfNums y246).size + x3_1.size ≤ 9223372036854775807) = true := decide_eq_true c6
     try have c6b2 : (9223372036854775807 < (strOfNums y246).size + x3_1.size) = False := eq_false (Nat.not_lt.2 c6)
     have H' := qM H
     clear H
     go_wp2_with (first | ((with_reducible refine gate_dst (N := 17) rfl ?_); refine Kd.R_lit (Kd.int .u8) _ 5 ?hg (N := 17) ?hd (xs := ([(((Int.tmod x0_1 128) % 256) + 128) % 256] : List Int)) (inner := [.int .u8 ((((Int.tmod x0_1 128) % 256) + 128) % 256)]) (ok := fun _ => True) (okp := fun _ => True) ?hr ?hp (fun _ hk => hk) trivial (Below.refl _ _) (Nat.le_refl _) (by simp) ?_; (case hd => rfl); (case hg => rfl); (case hr => first | (go_simp; done) | (go_simp; rfl)); (case hp => exact (Reps.one (show Kd.M (Kd.int .u8) _ _ _ ((((Int.tmod x0_1 128) % 256) + 128) % 256) [.int .u8 ((((Int.tmod x0_1 128) % 256) + 128) % 256)] from rfl) (Reps.none _ _))); intro v247 w7 ho8 hb hg_ hnew_; clear hg_ hnew_; (first | rw [← Ny246.out] at ho8 | (simp only [Int.reduceToNat] at ho8; rw [← Ny246.out] at ho8)); have n0_ := qM (Kd.R_lower ho8 (eZ (by repeat (first | (with_reducible first | exact HB.out | apply eA | apply eN | apply eD) | exact HB.out)))); have n1_ := qM (eT (by repeat (first | (with_reducible first | exact HB.out | apply eA | apply eN | apply eD) | exact HB.out)) hb); clear HB; have HO248 := n0_; have HB := n1_; clear n0_ n1_; clear hb ho8; have hcv9 := own_string (P := Try.prog) Try.underlying84 Try.underlying5 Try.underlying9 (Kd.own_of_R HO248.out)))
     go_roundg k1
     case measure => have := HK1.out; omega
     case rel => exact ⟨(IntKind.u64.wrap (Int.tdiv x0_1 128)), ((strOfNums y246) ++ x3_1), (by first | rfl | (simp; done) | (simp [*]; done)), (by first | rfl | (simp; done) | (simp [*]; done)), H', ⟨by have := HK1.out; omega⟩, ⟨by repeat (first | (with_reducible first | exact HB.out | apply eA | apply eN | apply eD) | exact HB.out)⟩⟩
    ·rw [if_neg c6] at H
     exact absurd H (by simp)
   ·rw [if_neg c5] at H
    have c5b0 : decide (0 < x0_1) = false := decide_eq_false c5
    clear c5
    obtain rfl := Option.some.inj H
    go_wp2
    go_ret
    exact ⟨by first | rfl | (simp [errW_none, errW_some] <;> rfl) | (simp [*, errW_none, errW_some] <;> rfl), by repeat (first | (with_reducible first | exact HB.out | apply eA | apply eN | apply eD) | exact HB.out)⟩

/-! ### hogsheadref01_Text: function 29 -/
def hogsheadref01_Text.f (k : Nat) (a0 : ByteArray) : Option ByteArray := (hogsheadref01_Num.f k (IntKind.u64.wrap (a0.size : Int))).bind fun t => if t.size + a0.size ≤ 9223372036854775807 then some (t ++ a0) else none
theorem hogsheadref01_Text.mono : ∀ a0 k, LeO (hogsheadref01_Text.f k a0) (hogsheadref01_Text.f (k + 1) a0) := by
  intro a0 k
  unfold hogsheadref01_Text.f
  exact LeO.bind (hogsheadref01_Num.mono _ _) (fun _ => LeO.refl _)
set_option maxRecDepth 100000 in
theorem hogsheadref01_Text.calls (k : Nat) (a0 : ByteArray) (r : ByteArray) (w : World) (h : hogsheadref01_Text.f k a0 = some r) :
    Calls Try.prog 29 #[.string a0] w fun e w' => e = .returned (.string r) ∧ Below w.heap.size w w' := by
  obtain ⟨t, A2, H⟩ := Option.bind_eq_some_iff.mp h
  have A2 := Aside0.mk A2
  clear h
  by_cases c3 : t.size + a0.size ≤ 9223372036854775807
  · rw [if_pos c3] at H
    obtain rfl := Option.some.inj H
    clear H
    have HC := Aside0.mk c3
    clear c3
    go_enter Try.func29, Try.ntmps29
    go_wp2_with (go_at_call 28; (with_reducible refine (hogsheadref01_Num.calls k _ t _ A2.out).mono ?_); rintro e w4 ⟨rfl, hb⟩; have HB := Aside0.mk hb; clear hb; have c3b0 := eq_true HC.out; have c3b1 := decide_eq_true HC.out; have c3b2 := eq_false (Nat.not_lt.2 HC.out))
    go_ret
    exact ⟨rfl, HB.out⟩
  · rw [if_neg c3] at H
    cases H

/-! ### hogsheadref09_Record: function 12 -/
def hogsheadref09_Record.f (k : Nat) (a0 : Int) (a1 : ByteArray) : Option (ByteArray × Int) := if (a1.size : Int) > 1000 then (some ((⟨#[]⟩ : ByteArray), 4)) else ((hogsheadref01_Num.f k a0).bind fun t249 => ((hogsheadref01_Text.f k a1).bind fun t250 => (if t249.size + t250.size ≤ 9223372036854775807 then ((hogsheadref02_Seal.f k (t249 ++ t250)).bind fun t251 => (some (t251, 0))) else (none))))
theorem hogsheadref09_Record.mono : ∀ a0 a1 k, LeO (hogsheadref09_Record.f k a0 a1) (hogsheadref09_Record.f (k + 1) a0 a1) := by
 intro a0 a1 k
 unfold hogsheadref09_Record.f
 repeat' first
   | (with_reducible exact hogsheadref01_Num.mono _ _)
   | (with_reducible exact hogsheadref01_Text.mono _ _)
   | (with_reducible exact hogsheadref02_Seal.mono _ _)
   | (with_reducible exact LeO.refl _)
   | (with_reducible exact LeO.none _)
   | (with_reducible refine LeO.ite ?_ ?_)
   | (with_reducible refine LeO.bind ?_ (fun _ => ?_))
   | exact hogsheadref01_Num.mono _ _
   | exact hogsheadref01_Text.mono _ _
   | exact hogsheadref02_Seal.mono _ _
   | exact LeO.none _
   | refine LeO.ite ?_ ?_
   | refine LeO.bind ?_ (fun _ => ?_)
set_option maxHeartbeats 40000000 in
set_option maxRecDepth 100000 in
theorem hogsheadref09_Record.calls (k : Nat) (a0 : Int) (a1 : ByteArray) (r1 : ByteArray) (r2 : Int) (w : World) (h : hogsheadref09_Record.f k a0 a1 = some (r1, r2)) :
  Calls Try.prog 12 #[.int .u64 a0, .string a1] w fun e w' => e = .returned (.tuple #[.string r1, .int .i64 r2]) ∧ Below w.heap.size w w' := by
 have HB := qM (Below.refl w.heap.size w)
 have H : (if (a1.size : Int) > 1000 then (some ((⟨#[]⟩ : ByteArray), 4)) else ((hogsheadref01_Num.f k a0).bind fun t249 => ((hogsheadref01_Text.f k a1).bind fun t250 => (if t249.size + t250.size ≤ 9223372036854775807 then ((hogsheadref02_Seal.f k (t249 ++ t250)).bind fun t251 => (some (t251, 0))) else (none))))) = some (r1, r2) := h
 clear h
 by_cases c3 : (a1.size : Int) > 1000
 ·rw [if_pos c3] at H
  have c3b0 : decide (1000 < (a1.size : Int)) = true := decide_eq_true c3
  have c3b1 : decide (1000 < a1.size) = true := decide_eq_true (by omega)
  clear c3
  simp only [Option.some.injEq, Prod.mk.injEq] at H
  obtain ⟨rfl, rfl⟩ := H
  go_enter Try.func12, Try.ntmps12
  go_wp2
  go_ret2
  exact ⟨by first | rfl | (simp [errW_none, errW_some] <;> rfl) | (simp [*, errW_none, errW_some] <;> rfl), by repeat (first | (with_reducible first | exact HB.out | apply eA | apply eN | apply eD) | exact HB.out)⟩
 ·rw [if_neg c3] at H
  have c3b0 : decide (1000 < (a1.size : Int)) = false := decide_eq_false c3
  have c3b1 : decide (1000 < a1.size) = false := decide_eq_false (by omega)
  clear c3
  replace H := Option.bind_eq_some_iff.mp H
  obtain ⟨t249, A40, H⟩ := H
  replace H : ((hogsheadref01_Text.f k a1).bind fun t250 => (if t249.size + t250.size ≤ 9223372036854775807 then ((hogsheadref02_Seal.f k (t249 ++ t250)).bind fun t251 => (some (t251, 0))) else (none))) = some (r1, r2) := H
  have A4 := qM A40
  clear A40
  replace H := Option.bind_eq_some_iff.mp H
  obtain ⟨t250, A50, H⟩ := H
  replace H : (if t249.size + t250.size ≤ 9223372036854775807 then ((hogsheadref02_Seal.f k (t249 ++ t250)).bind fun t251 => (some (t251, 0))) else (none)) = some (r1, r2) := H
  have A5 := qM A50
  clear A50
  by_cases c6 : t249.size + t250.size ≤ 9223372036854775807
  ·rw [if_pos c6] at H
   have c6b0 := eq_true c6
   have c6b1 : decide (t249.size + t250.size ≤ 9223372036854775807) = true := decide_eq_true c6
   try have c6b2 : (9223372036854775807 < t249.size + t250.size) = False := eq_false (Nat.not_lt.2 c6)
   replace H := Option.bind_eq_some_iff.mp H
   obtain ⟨t251, A70, H⟩ := H
   replace H : (some (t251, 0)) = some (r1, r2) := H
   have A7 := qM A70
   clear A70
   simp only [Option.some.injEq, Prod.mk.injEq] at H
   obtain ⟨rfl, rfl⟩ := H
   go_enter Try.func12, Try.ntmps12
   go_wp2_with (first | ((with_reducible refine gate_callee (f := 28) rfl ?_); refine goesL_ (some 10) rfl rfl Try.func28 (by kernel_rfl) rfl #[.int .u64 a0] rfl (by (try simp only [List.map_toArray, List.map_cons, List.map_nil]); first | done | rfl | (simp only [List.length_drop, List.length_take]; rfl)) ?_; (with_reducible refine (hogsheadref01_Num.calls k a0 t249 _ A4.out).mono ?_); rintro e w8 ⟨rfl, hb⟩; refine ⟨_, rfl, ?_⟩; have n0_ := qM (eT (by repeat (first | (with_reducible first | exact HB.out | apply eA | apply eN | apply eD) | exact HB.out)) hb); clear HB; have HB := n0_; clear n0_; (try clear hb); (try clear hb2); (try clear hk); (try clear hi)) | ((with_reducible refine gate_callee (f := 29) rfl ?_); refine goesL_ (some 12) rfl rfl Try.func29 (by kernel_rfl) rfl #[.string a1] rfl (by (try simp only [List.map_toArray, List.map_cons, List.map_nil]); first | done | rfl | (simp only [List.length_drop, List.length_take]; rfl)) ?_; (with_reducible refine (hogsheadref01_Text.calls k a1 t250 _ A5.out).mono ?_); rintro e w9 ⟨rfl, hb⟩; refine ⟨_, rfl, ?_⟩; have n0_ := qM (eT (by repeat (first | (with_reducible first | exact HB.out | apply eA | apply eN | apply eD) | exact HB.out)) hb); clear HB; have HB := n0_; clear n0_; (try clear hb); (try clear hb2); (try clear hk); (try clear hi)) | ((with_reducible refine gate_callee (f := 27) rfl ?_); refine goesL_ (some 14) rfl rfl Try.func27 (by kernel_rfl) rfl #[.string (t249 ++ t250)] rfl (by (try simp only [List.map_toArray, List.map_cons, List.map_nil]); first | done | rfl | (simp only [List.length_drop, List.length_take]; rfl)) ?_; (with_reducible refine (hogsheadref02_Seal.calls k (t249 ++ t250) t251 _ A7.out).mono ?_); rintro e w10 ⟨rfl, hb⟩; refine ⟨_, rfl, ?_⟩; have n0_ := qM (eT (by repeat (first | (with_reducible first | exact HB.out | apply eA | apply eN | apply eD) | exact HB.out)) hb); clear HB; have HB := n0_; clear n0_; (try clear hb); (try clear hb2); (try clear hk); (try clear hi)))
   go_ret2
   exact ⟨by first | rfl | (simp [errW_none, errW_some] <;> rfl) | (simp [*, errW_none, errW_some] <;> rfl), by repeat (first | (with_reducible first | exact HB.out | apply eA | apply eN | apply eD) | exact HB.out)⟩
  ·rw [if_neg c6] at H
   exact absurd H (by simp)

/-! ### hogsheadref02_Open: function 33 -/
def hogsheadref02_Open.f (k : Nat) (a0 : ByteArray) : Option (ByteArray × Int) := if (a0.size : Int) < 4 then (some ((⟨#[]⟩ : ByteArray), 2)) else (if 0 ≤ (wrap64 ((a0.size : Int) - 4)) then (if (wrap64 ((a0.size : Int) - 4)) ≤ (a0.size : Int) then ((hogsheadref02_Seal.f k (a0.extract 0 ((wrap64 ((a0.size : Int) - 4)) : Int).toNat)).bind fun t252 => (if t252.toList = a0.toList then (some (a0.extract 0 ((wrap64 ((a0.size : Int) - 4)) : Int).toNat, 0)) else (some ((⟨#[]⟩ : ByteArray), 13)))) else (none)) else (none))
theorem hogsheadref02_Open.mono : ∀ a0 k, LeO (hogsheadref02_Open.f k a0) (hogsheadref02_Open.f (k + 1) a0) := by
 intro a0 k
 unfold hogsheadref02_Open.f
 repeat' first
   | (with_reducible exact hogsheadref02_Seal.mono _ _)
   | (with_reducible exact LeO.refl _)
   | (with_reducible exact LeO.none _)
   | (with_reducible refine LeO.ite ?_ ?_)
   | (with_reducible refine LeO.bind ?_ (fun _ => ?_))
   | exact hogsheadref02_Seal.mono _ _
   | exact LeO.none _
   | refine LeO.ite ?_ ?_
   | refine LeO.bind ?_ (fun _ => ?_)
set_option maxHeartbeats 40000000 in
set_option maxRecDepth 100000 in
theorem hogsheadref02_Open.calls (k : Nat) (a0 : ByteArray) (r1 : ByteArray) (r2 : Int) (w : World) (h : hogsheadref02_Open.f k a0 = some (r1, r2)) :
  Calls Try.prog 33 #[.string a0] w fun e w' => e = .returned (.tuple #[.string r1, .int .i64 r2]) ∧ Below w.heap.size w w' := by
 have HB := qM (Below.refl w.heap.size w)
 have H : (if (a0.size : Int) < 4 then (some ((⟨#[]⟩ : ByteArray), 2)) else (if 0 ≤ (wrap64 ((a0.size : Int) - 4)) then (if (wrap64 ((a0.size : Int) - 4)) ≤ (a0.size : Int) then ((hogsheadref02_Seal.f k (a0.extract 0 ((wrap64 ((a0.size : Int) - 4)) : Int).toNat)).bind fun t252 => (if t252.toList = a0.toList then (some (a0.extract 0 ((wrap64 ((a0.size : Int) - 4)) : Int).toNat, 0)) else (some ((⟨#[]⟩ : ByteArray), 13)))) else (none)) else (none))) = some (r1, r2) := h
 clear h
 by_cases c2 : (a0.size : Int) < 4
 ·rw [if_pos c2] at H
  have c2b0 : decide ((a0.size : Int) < 4) = true := decide_eq_true c2
  have c2b1 : decide (a0.size < 4) = true := decide_eq_true (by omega)
  clear c2
  simp only [Option.some.injEq, Prod.mk.injEq] at H
  obtain ⟨rfl, rfl⟩ := H
  go_enter Try.func33, Try.ntmps33
  go_wp2
  go_ret2
  exact ⟨by first | rfl | (simp [errW_none, errW_some] <;> rfl) | (simp [*, errW_none, errW_some] <;> rfl), by repeat (first | (with_reducible first | exact HB.out | apply eA | apply eN | apply eD) | exact HB.out)⟩
 ·rw [if_neg c2] at H
  have c2b0 : decide ((a0.size : Int) < 4) = false := decide_eq_false c2
  have c2b1 : decide (a0.size < 4) = false := decide_eq_false (by omega)
  clear c2
  obtain ⟨ji3, hji3⟩ : ∃ j_ : Int, (wrap64 ((a0.size : Int) - 4)) = j_ := ⟨_, rfl⟩
  replace H : (if 0 ≤ (ji3) then (if (ji3) ≤ (a0.size : Int) then ((hogsheadref02_Seal.f k (a0.extract 0 ((ji3) : Int).toNat)).bind fun t252 => (if t252.toList = a0.toList then (some (a0.extract 0 ((ji3) : Int).toNat, 0)) else (some ((⟨#[]⟩ : ByteArray), 13)))) else (none)) else (none)) = some (r1, r2) := by first | (rw [hji3] at H; exact H) | (simp only [hji3] at H ⊢; exact H)
  have hji3w : (IntKind.i64.wrap ((a0.size : Int) - 4)) = ji3 := (i64_w _).trans hji3
  by_cases c4 : 0 ≤ (ji3)
  ·rw [if_pos c4] at H
   have c4b0 := eq_true c4
   have c4b1 : decide (0 ≤ (ji3)) = true := decide_eq_true c4
   clear c4
   by_cases c5 : (ji3) ≤ (a0.size : Int)
   ·rw [if_pos c5] at H
    have c5b0 := eq_true c5
    have c5b1 : decide ((ji3) ≤ (a0.size : Int)) = true := decide_eq_true c5
    clear c5
    replace H := Option.bind_eq_some_iff.mp H
    obtain ⟨t252, A60, H⟩ := H
    replace H : (if t252.toList = a0.toList then (some (a0.extract 0 ((ji3) : Int).toNat, 0)) else (some ((⟨#[]⟩ : ByteArray), 13))) = some (r1, r2) := H
    have A6 := qM A60
    clear A60
    by_cases c7 : t252.toList = a0.toList
    ·rw [if_pos c7] at H
     have c7b0 : (t252.toList == a0.toList) = true := beq_iff_eq.mpr c7
     have c7b1 : (t252.toList != a0.toList) = false := bne_eq_false_iff_eq.mpr c7
     clear c7
     simp only [Option.some.injEq, Prod.mk.injEq] at H
     obtain ⟨rfl, rfl⟩ := H
     go_enter Try.func33, Try.ntmps33
     go_wp2_with (first | ((with_reducible refine gate_callee (f := 27) rfl ?_); refine goesL_ (some 14) rfl rfl Try.func27 (by kernel_rfl) rfl #[.string (a0.extract 0 ((ji3) : Int).toNat)] rfl (by (try simp only [List.map_toArray, List.map_cons, List.map_nil]); first | done | (simp only [hji3]; rfl) | rfl | (simp only [List.length_drop, List.length_take]; rfl)) ?_; (with_reducible refine (hogsheadref02_Seal.calls k (a0.extract 0 ((ji3) : Int).toNat) t252 _ A6.out).mono ?_); rintro e w8 ⟨rfl, hb⟩; refine ⟨_, rfl, ?_⟩; have n0_ := qM (eT (by repeat (first | (with_reducible first | exact HB.out | apply eA | apply eN | apply eD) | exact HB.out)) hb); clear HB; have HB := n0_; clear n0_; (try clear hb); (try clear hb2); (try clear hk); (try clear hi)))
     go_ret2
     exact ⟨by first | rfl | (simp [errW_none, errW_some] <;> rfl) | (simp only [← hji3]; first | rfl | (simp [errW_none, errW_some] <;> rfl)) | (simp [*, errW_none, errW_some] <;> rfl), by repeat (first | (with_reducible first | exact HB.out | apply eA | apply eN | apply eD) | exact HB.out)⟩
    ·rw [if_neg c7] at H
     have c7b0 : (t252.toList == a0.toList) = false := beq_eq_false_iff_ne.mpr c7
     have c7b1 : (t252.toList != a0.toList) = true := bne_iff_ne.mpr c7
     simp only [Option.some.injEq, Prod.mk.injEq] at H
     obtain ⟨rfl, rfl⟩ := H
     go_enter Try.func33, Try.ntmps33
     go_wp2_with (first | ((with_reducible refine gate_callee (f := 27) rfl ?_); refine goesL_ (some 14) rfl rfl Try.func27 (by kernel_rfl) rfl #[.string (a0.extract 0 ((ji3) : Int).toNat)] rfl (by (try simp only [List.map_toArray, List.map_cons, List.map_nil]); first | done | (simp only [hji3]; rfl) | rfl | (simp only [List.length_drop, List.length_take]; rfl)) ?_; (with_reducible refine (hogsheadref02_Seal.calls k (a0.extract 0 ((ji3) : Int).toNat) t252 _ A6.out).mono ?_); rintro e w9 ⟨rfl, hb⟩; refine ⟨_, rfl, ?_⟩; have n0_ := qM (eT (by repeat (first | (with_reducible first | exact HB.out | apply eA | apply eN | apply eD) | exact HB.out)) hb); clear HB; have HB := n0_; clear n0_; (try clear hb); (try clear hb2); (try clear hk); (try clear hi)))
     go_ret2
     exact ⟨by first | rfl | (simp [errW_none, errW_some] <;> rfl) | (simp only [← hji3]; first | rfl | (simp [errW_none, errW_some] <;> rfl)) | (simp [*, errW_none, errW_some] <;> rfl), by repeat (first | (with_reducible first | exact HB.out | apply eA | apply eN | apply eD) | exact HB.out)⟩
   ·rw [if_neg c5] at H
    exact absurd H (by simp)
  ·rw [if_neg c4] at H
   exact absurd H (by simp)

end Go.Proofs.Ythnhfmmiaknhgaa.PAll
