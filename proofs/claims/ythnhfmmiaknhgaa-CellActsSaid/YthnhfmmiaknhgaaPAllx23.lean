/- Functions of the program as plain Lean functions, and that each call comes to what they say. Laid by a program of this session (hprint.py); Lean checks it. -/
import Derived.Test.YthnhfmmiaknhgaaPAllx0
import Derived.Test.YthnhfmmiaknhgaaPAllx17
import Derived.Test.YthnhfmmiaknhgaaPAllx22
namespace Go.Proofs.Ythnhfmmiaknhgaa.PAll
open Go.RowKit Go.Proofs.YthnhfmmiaknhgaaW.PrintWords Go.Proofs.YthnhfmmiaknhgaaW.PrintLast Go.Proofs.YthnhfmmiaknhgaaW.PrintMore
attribute [local go_sem] max2_int min2_int max_two min_two max_three min_three max_four min_four   -- for this text's walks alone
set_option linter.unusedVariables false
set_option linter.unusedSimpArgs false

/-! ### hogsheadref09_Record: function 12 -/
def hogsheadref09_Record.f (k : Nat) (a0 : Int) (a1 : ByteArray) : Option (ByteArray × Int) := if (a1.size : Int) > 1000 then (some ((⟨#[]⟩ : ByteArray), 4)) else ((hogsheadref01_Num.f k a0).bind fun t281 => ((hogsheadref01_Text.f k a1).bind fun t282 => (if t281.size + t282.size ≤ 9223372036854775807 then ((hogsheadref02_Seal.f k (t281 ++ t282)).bind fun t283 => (some (t283, 0))) else (none))))
theorem hogsheadref09_Record.mono : ∀ a0 a1 k, LeO (hogsheadref09_Record.f k a0 a1) (hogsheadref09_Record.f (k + 1) a0 a1) := by
 intro a0 a1 k
 unfold hogsheadref09_Record.f
 repeat' first
   | (with_reducible exact hogsheadref01_Num.mono _ _)
   | (with_reducible exact hogsheadref01_Text.mono _ _)
   | (with_reducible exact hogsheadref02_Seal.mono _ _)
   | (with_reducible exact LeO.refl _)
   | (with_reducible exact LeO.none _)
   | (with_reducible refine LeO.ite ?_ ?_)
   | (with_reducible refine LeO.bind ?_ (fun _ => ?_))
   | exact hogsheadref01_Num.mono _ _
   | exact hogsheadref01_Text.mono _ _
   | exact hogsheadref02_Seal.mono _ _
   | exact LeO.none _
   | refine LeO.ite ?_ ?_
   | refine LeO.bind ?_ (fun _ => ?_)
set_option maxHeartbeats 40000000 in
set_option maxRecDepth 100000 in
theorem hogsheadref09_Record.calls (k : Nat) (a0 : Int) (a1 : ByteArray) (r1 : ByteArray) (r2 : Int) (w : World) (h : hogsheadref09_Record.f k a0 a1 = some (r1, r2)) :
  Calls Try.prog 12 #[.int .u64 a0, .string a1] w fun e w' => e = .returned (.tuple #[.string r1, .int .i64 r2]) ∧ Below w.heap.size w w' := by
 have HB := qM (Below.refl w.heap.size w)
 have H : (if (a1.size : Int) > 1000 then (some ((⟨#[]⟩ : ByteArray), 4)) else ((hogsheadref01_Num.f k a0).bind fun t281 => ((hogsheadref01_Text.f k a1).bind fun t282 => (if t281.size + t282.size ≤ 9223372036854775807 then ((hogsheadref02_Seal.f k (t281 ++ t282)).bind fun t283 => (some (t283, 0))) else (none))))) = some (r1, r2) := h
 clear h
 by_cases c3 : (a1.size : Int) > 1000
 ·rw [if_pos c3] at H
  have c3b0 : decide (1000 < (a1.size : Int)) = true := decide_eq_true c3
  have c3b1 : decide (1000 < a1.size) = true := decide_eq_true (by omega)
  clear c3
  simp only [Option.some.injEq, Prod.mk.injEq] at H
  obtain ⟨rfl, rfl⟩ := H
  go_enter Try.func12, Try.ntmps12
  go_wp2
  go_ret2
  exact ⟨by first | rfl | (simp [errW_none, errW_some] <;> rfl) | (simp [*, errW_none, errW_some] <;> rfl), by repeat (first | (with_reducible first | exact HB.out | apply eA | apply eN | apply eD) | exact HB.out)⟩
 ·rw [if_neg c3] at H
  have c3b0 : decide (1000 < (a1.size : Int)) = false := decide_eq_false c3
  have c3b1 : decide (1000 < a1.size) = false := decide_eq_false (by omega)
  clear c3
  replace H := Option.bind_eq_some_iff.mp H
  obtain ⟨t281, A40, H⟩ := H
  replace H : ((hogsheadref01_Text.f k a1).bind fun t282 => (if t281.size + t282.size ≤ 9223372036854775807 then ((hogsheadref02_Seal.f k (t281 ++ t282)).bind fun t283 => (some (t283, 0))) else (none))) = some (r1, r2) := H
  have A4 := qM A40
  clear A40
  replace H := Option.bind_eq_some_iff.mp H
  obtain ⟨t282, A50, H⟩ := H
  replace H : (if t281.size + t282.size ≤ 9223372036854775807 then ((hogsheadref02_Seal.f k (t281 ++ t282)).bind fun t283 => (some (t283, 0))) else (none)) = some (r1, r2) := H
  have A5 := qM A50
  clear A50
  by_cases c6 : t281.size + t282.size ≤ 9223372036854775807
  ·rw [if_pos c6] at H
   have c6b0 := eq_true c6
   have c6b1 : decide (t281.size + t282.size ≤ 9223372036854775807) = true := decide_eq_true c6
   try have c6b2 : (9223372036854775807 < t281.size + t282.size) = False := eq_false (Nat.not_lt.2 c6)
   replace H := Option.bind_eq_some_iff.mp H
   obtain ⟨t283, A70, H⟩ := H
   replace H : (some (t283, 0)) = some (r1, r2) := H
   have A7 := qM A70
   clear A70
   simp only [Option.some.injEq, Prod.mk.injEq] at H
   obtain ⟨rfl, rfl⟩ := H
   go_enter Try.func12, Try.ntmps12
   go_wp2_with (first | ((with_reducible refine gate_callee (f := 28) rfl ?_); refine goesL_ (some 10) rfl rfl Try.func28 (by kernel_rfl) rfl #[.int .u64 a0] rfl (by (try simp only [List.map_toArray, List.map_cons, List.map_nil]); first | done | rfl | (simp only [List.length_drop, List.length_take]; rfl)) ?_; (with_reducible refine (hogsheadref01_Num.calls k a0 t281 _ A4.out).mono ?_); rintro e w8 ⟨rfl, hb⟩; refine ⟨_, rfl, ?_⟩; have n0_ := qM (eT (by repeat (first | (with_reducible first | exact HB.out | apply eA | apply eN | apply eD) | exact HB.out)) hb); clear HB; have HB := n0_; clear n0_; (try clear hb); (try clear hb2); (try clear hk); (try clear hi)) | ((with_reducible refine gate_callee (f := 29) rfl ?_); refine goesL_ (some 12) rfl rfl Try.func29 (by kernel_rfl) rfl #[.string a1] rfl (by (try simp only [List.map_toArray, List.map_cons, List.map_nil]); first | done | rfl | (simp only [List.length_drop, List.length_take]; rfl)) ?_; (with_reducible refine (hogsheadref01_Text.calls k a1 t282 _ A5.out).mono ?_); rintro e w9 ⟨rfl, hb⟩; refine ⟨_, rfl, ?_⟩; have n0_ := qM (eT (by repeat (first | (with_reducible first | exact HB.out | apply eA | apply eN | apply eD) | exact HB.out)) hb); clear HB; have HB := n0_; clear n0_; (try clear hb); (try clear hb2); (try clear hk); (try clear hi)) | ((with_reducible refine gate_callee (f := 27) rfl ?_); refine goesL_ (some 14) rfl rfl Try.func27 (by kernel_rfl) rfl #[.string (t281 ++ t282)] rfl (by (try simp only [List.map_toArray, List.map_cons, List.map_nil]); first | done | rfl | (simp only [List.length_drop, List.length_take]; rfl)) ?_; (with_reducible refine (hogsheadref02_Seal.calls k (t281 ++ t282) t283 _ A7.out).mono ?_); rintro e w10 ⟨rfl, hb⟩; refine ⟨_, rfl, ?_⟩; have n0_ := qM (eT (by repeat (first | (with_reducible first | exact HB.out | apply eA | apply eN | apply eD) | exact HB.out)) hb); clear HB; have HB := n0_; clear n0_; (try clear hb); (try clear hb2); (try clear hk); (try clear hi)))
   go_ret2
   exact ⟨by first | rfl | (simp [errW_none, errW_some] <;> rfl) | (simp [*, errW_none, errW_some] <;> rfl), by repeat (first | (with_reducible first | exact HB.out | apply eA | apply eN | apply eD) | exact HB.out)⟩
  ·rw [if_neg c6] at H
   exact absurd H (by simp)

end Go.Proofs.Ythnhfmmiaknhgaa.PAll
