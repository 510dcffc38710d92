/- Functions of the program as plain Lean functions, and that each call comes to what they say. Laid by a program of this session (hprint.py); Lean checks it. -/
import Derived.Test.YtffjbbedjddpmaaPAllx0
namespace Go.Proofs.Ytffjbbedjddpmaa.PAll
open Go.RowKit Go.Proofs.YtffjbbedjddpmaaW.PrintWords Go.Proofs.YtffjbbedjddpmaaW.PrintLast Go.Proofs.YtffjbbedjddpmaaW.PrintMore
attribute [local go_sem] max2_int min2_int max_two min_two max_three min_three max_four min_four   -- for this text's walks alone
set_option linter.unusedVariables false
set_option linter.unusedSimpArgs false

/-! ### hogsheadref08_New: function 35 -/
def hogsheadref08_New.f (a0 : Int) : Option (List ByteArray × (List (S94)) × Int × Bool × Int) := if a0 < 1 then (some (([] : List ByteArray), ([] : List (S94)), 0, false, 1)) else (if a0 > 256 then (some (([] : List ByteArray), ([] : List (S94)), 0, false, 1)) else (if 0 ≤ a0 then (if (a0 : Int).toNat ≤ 17592186044416 then (some ((List.replicate (a0 : Int).toNat (⟨#[]⟩ : ByteArray)), ([] : List (S94)), (-1), false, 0)) else (none)) else (none)))
set_option maxHeartbeats 40000000 in
set_option maxRecDepth 100000 in
theorem hogsheadref08_New.calls (a0 : Int) (r1 : List ByteArray) (r2 : List (S94)) (r3 : Int) (r4 : Bool) (r5 : Int) (w : World) (h : hogsheadref08_New.f a0 = some (r1, r2, r3, r4, r5)) :
  Calls Try.prog 35 #[.int .i64 a0] w fun e w' => ∃ v0_ v1_ : Value, e = .returned (.tuple #[.agg #[v0_, v1_, .int .i64 r3, .bool r4], .int .i64 r5]) ∧ Kd.R Kd.string 9 w' w.heap.size (fun _ => True) v0_ r1 ∧ Kd.R k94 94 w' w.heap.size (fun _ => True) v1_ r2 ∧ Below w.heap.size w w' := by
 have hu25 := Try.underlying25
 have HB := qM (Below.refl w.heap.size w)
 have H : (if a0 < 1 then (some (([] : List ByteArray), ([] : List (S94)), 0, false, 1)) else (if a0 > 256 then (some (([] : List ByteArray), ([] : List (S94)), 0, false, 1)) else (if 0 ≤ a0 then (if (a0 : Int).toNat ≤ 17592186044416 then (some ((List.replicate (a0 : Int).toNat (⟨#[]⟩ : ByteArray)), ([] : List (S94)), (-1), false, 0)) else (none)) else (none)))) = some (r1, r2, r3, r4, r5) := h
 clear h
 by_cases c2 : a0 < 1
 ·rw [if_pos c2] at H
  have c2b0 : decide (a0 < 1) = true := decide_eq_true c2
  clear c2
  simp only [Option.some.injEq, Prod.mk.injEq] at H
  obtain ⟨rfl, rfl, rfl, rfl, rfl⟩ := H
  go_enter Try.func35, Try.ntmps35
  go_wp2_with (first | ((with_reducible refine gate_dst (N := 2) rfl ?_); refine box_event ?hg (N := 2) ?hd (cs := #[.slice none 0 0, .slice none 0 0, .int .i64 0, .bool false]) (t := 25) ?hr ?_; (case hd => rfl); (case hg => rfl); (case hr => first | (go_simp; done) | (go_simp; rfl)); intro g140 hg w3 hbox hb; have n0_ := qM (eT (by repeat (first | (with_reducible first | exact HB.out | apply eA | apply eN | apply eD) | exact HB.out)) hb); have n1_ := qM (hbox); have n2_ := qM ((by rw [hg]; exact (eZ (by repeat (first | (with_reducible first | exact HB.out | apply eA | apply eN | apply eD) | exact HB.out))) : w.heap.size ≤ g140)); have n3_ := n2_; clear HB; have HB := n0_; have B140 := n1_; have GW140 := n2_; have GE140 := n3_; clear n0_ n1_ n2_ n3_; clear hb hbox hg; obtain ⟨z4_0, z4_1, z4_2, z4_3, f4_0, f4_1, f4_2, f4_3⟩ := cells4 B140.out))
  refine bodyPost_ret (results_ct rfl _ _ g140 25 #[.slice none 0 0, .slice none 0 0, .int .i64 0, .bool false] (0, 0) _ rfl (by (with_reducible repeat first | refine qN ?_ _ | refine qD ?_ | refine qA ?_ _); apply puts4; (with_reducible repeat first | refine qN ?_ _ | refine qD ?_ | refine qA ?_ _); exact B140.out) Try.underlying25 rfl (by kernel_rfl)) rfl ?_
  exact ⟨_, _, by first | rfl | (simp [errW_none, errW_some] <;> rfl) | (simp [*, errW_none, errW_some] <;> rfl), by first | exact Kd.R_nil _ _ _ _ _ | exact Kd.N_nil _ _ _ _ _ | exact Kd.V_nil _ _ _ _ _ | exact Kd.Q_nil _ _ _ _ _ | exact Kd.S_nil _ _ _ _ _, by first | exact Kd.R_nil _ _ _ _ _ | exact Kd.N_nil _ _ _ _ _ | exact Kd.V_nil _ _ _ _ _ | exact Kd.Q_nil _ _ _ _ _ | exact Kd.S_nil _ _ _ _ _, by repeat (first | (with_reducible first | exact HB.out | apply eA | apply eN | apply eD | refine eS ?_ GE140.out) | exact HB.out)⟩
 ·rw [if_neg c2] at H
  have c2b0 : decide (a0 < 1) = false := decide_eq_false c2
  clear c2
  by_cases c5 : a0 > 256
  ·rw [if_pos c5] at H
   have c5b0 : decide (256 < a0) = true := decide_eq_true c5
   clear c5
   simp only [Option.some.injEq, Prod.mk.injEq] at H
   obtain ⟨rfl, rfl, rfl, rfl, rfl⟩ := H
   go_enter Try.func35, Try.ntmps35
   go_wp2_with (first | ((with_reducible refine gate_dst (N := 2) rfl ?_); refine box_event ?hg (N := 2) ?hd (cs := #[.slice none 0 0, .slice none 0 0, .int .i64 0, .bool false]) (t := 25) ?hr ?_; (case hd => rfl); (case hg => rfl); (case hr => first | (go_simp; done) | (go_simp; rfl)); intro g140 hg w6 hbox hb; have n0_ := qM (eT (by repeat (first | (with_reducible first | exact HB.out | apply eA | apply eN | apply eD) | exact HB.out)) hb); have n1_ := qM (hbox); have n2_ := qM ((by rw [hg]; exact (eZ (by repeat (first | (with_reducible first | exact HB.out | apply eA | apply eN | apply eD) | exact HB.out))) : w.heap.size ≤ g140)); have n3_ := n2_; clear HB; have HB := n0_; have B140 := n1_; have GW140 := n2_; have GE140 := n3_; clear n0_ n1_ n2_ n3_; clear hb hbox hg; obtain ⟨z7_0, z7_1, z7_2, z7_3, f7_0, f7_1, f7_2, f7_3⟩ := cells4 B140.out))
   refine bodyPost_ret (results_ct rfl _ _ g140 25 #[.slice none 0 0, .slice none 0 0, .int .i64 0, .bool false] (0, 0) _ rfl (by (with_reducible repeat first | refine qN ?_ _ | refine qD ?_ | refine qA ?_ _); apply puts4; (with_reducible repeat first | refine qN ?_ _ | refine qD ?_ | refine qA ?_ _); exact B140.out) Try.underlying25 rfl (by kernel_rfl)) rfl ?_
   exact ⟨_, _, by first | rfl | (simp [errW_none, errW_some] <;> rfl) | (simp [*, errW_none, errW_some] <;> rfl), by first | exact Kd.R_nil _ _ _ _ _ | exact Kd.N_nil _ _ _ _ _ | exact Kd.V_nil _ _ _ _ _ | exact Kd.Q_nil _ _ _ _ _ | exact Kd.S_nil _ _ _ _ _, by first | exact Kd.R_nil _ _ _ _ _ | exact Kd.N_nil _ _ _ _ _ | exact Kd.V_nil _ _ _ _ _ | exact Kd.Q_nil _ _ _ _ _ | exact Kd.S_nil _ _ _ _ _, by repeat (first | (with_reducible first | exact HB.out | apply eA | apply eN | apply eD | refine eS ?_ GE140.out) | exact HB.out)⟩
  ·rw [if_neg c5] at H
   have c5b0 : decide (256 < a0) = false := decide_eq_false c5
   clear c5
   by_cases c8 : 0 ≤ a0
   ·rw [if_pos c8] at H
    have c8b0 := eq_true c8
    have c8b1 : decide (0 ≤ a0) = true := decide_eq_true c8
    clear c8
    by_cases c9 : (a0 : Int).toNat ≤ 17592186044416
    ·rw [if_pos c9] at H
     have c9b0 := eq_true c9
     have c9b1 : decide ((a0 : Int).toNat ≤ 17592186044416) = true := decide_eq_true c9
     clear c9
     obtain ⟨y141, hy141⟩ : ∃ y_ : List ByteArray, y_ = (List.replicate (a0 : Int).toNat (⟨#[]⟩ : ByteArray)) := ⟨_, rfl⟩
     replace H : (some (y141, ([] : List (S94)), (-1), false, 0)) = some (r1, r2, r3, r4, r5) := by first | (rw [hy141]; with_reducible exact H) | (have H2_ := (Option.bind_some _ _).symm.trans H; rw [hy141]; with_reducible exact H2_) | (have H2_ := (Option.bind_some _ _).symm.trans H; with_reducible exact H2_) | with_reducible exact H | (rw [hy141]; exact H) | exact H
     have Ny141 := qM hy141
     clear hy141
     simp only [Option.some.injEq, Prod.mk.injEq] at H
     obtain ⟨rfl, rfl, rfl, rfl, rfl⟩ := H
     go_enter Try.func35, Try.ntmps35
     go_wp2_with (first | ((with_reducible refine gate_dst (N := 2) rfl ?_); refine box_event ?hg (N := 2) ?hd (cs := #[.slice none 0 0, .slice none 0 0, .int .i64 0, .bool false]) (t := 25) ?hr ?_; (case hd => rfl); (case hg => rfl); (case hr => first | (go_simp; done) | (go_simp; rfl)); intro g140 hg w10 hbox hb; have n0_ := qM (eT (by repeat (first | (with_reducible first | exact HB.out | apply eA | apply eN | apply eD) | exact HB.out)) hb); have n1_ := qM (hbox); have n2_ := qM ((by rw [hg]; exact (eZ (by repeat (first | (with_reducible first | exact HB.out | apply eA | apply eN | apply eD) | exact HB.out))) : w.heap.size ≤ g140)); have n3_ := n2_; clear HB; have HB := n0_; have B140 := n1_; have GW140 := n2_; have GE140 := n3_; clear n0_ n1_ n2_ n3_; clear hb hbox hg) | ((with_reducible refine gate_dst (N := 12) rfl ?_); refine Kd.R_make Kd.string _ 9 rfl (N := 12) rfl 22 _ _ rfl a0 rfl rfl Try.underlying22 (.string ⟨#[]⟩) 16 info9 rfl (by decide) (by omega) (⟨#[]⟩ : ByteArray) (ok := fun _ => True) (okp := fun _ => True) rfl (fun _ hk => hk) trivial (of_decide_eq_true (by first | (with_reducible assumption) | assumption)) (Nat.le_trans (Nat.mul_le_mul_right _ (of_decide_eq_true (by first | (with_reducible assumption) | assumption) : a0.toNat ≤ 17592186044416)) (by omega)) (Below.refl _ _) (Nat.le_refl _) ?_; intro v142 w11 ho12 hb hg_ hnew_; clear hg_ hnew_; (first | rw [← Ny141.out] at ho12 | (simp only [Int.reduceToNat] at ho12; rw [← Ny141.out] at ho12)); have n0_ := qM (Kd.R_lower ho12 (eZ (by repeat (first | (with_reducible first | exact HB.out | apply eA | apply eN | apply eD | refine eU ?_ (by assumption)) | exact HB.out)))); have n1_ := qM (qB (g := g140) (by (with_reducible repeat first | refine qN ?_ _ | refine qD ?_ | refine qA ?_ _); exact B140.out) hb); have n2_ := qM (eT (by repeat (first | (with_reducible first | exact HB.out | apply eA | apply eN | apply eD | refine eU ?_ (by assumption)) | exact HB.out)) hb); clear B140 HB; have HO143 := n0_; have B140 := n1_; have HB := n2_; clear n0_ n1_ n2_; clear hb ho12; obtain ⟨Ao13, co13, eo13⟩ := Kd.R_slice HO143.out; subst eo13; obtain ⟨z14_0, z14_1, z14_2, z14_3, f14_0, f14_1, f14_2, f14_3⟩ := cells4 B140.out))
     refine bodyPost_ret (results_ct rfl _ _ g140 25 #[.slice Ao13 y141.length co13, .slice none 0 0, .int .i64 (-1), .bool false] (0, 0) _ rfl (by (with_reducible repeat first | refine qN ?_ _ | refine qD ?_ | refine qA ?_ _); apply puts4; (with_reducible repeat first | refine qN ?_ _ | refine qD ?_ | refine qA ?_ _); exact B140.out) Try.underlying25 rfl (by kernel_rfl)) rfl ?_
     exact ⟨_, _, by first | rfl | (simp [errW_none, errW_some] <;> rfl) | (simp [*, errW_none, errW_some] <;> rfl), by (with_reducible repeat first | apply RA | apply RN | apply RD); exact Kd.R_mono (Kd.R_far (p := ⟨g140, 3, none⟩) (Kd.R_far (p := ⟨g140, 2, none⟩) (Kd.R_far (p := ⟨g140, 1, none⟩) (Kd.R_far (p := ⟨g140, 0, none⟩) (Kd.R_types HO143.out B140.out (by decide)) (fun _ hk => hk.2) (.slice Ao13 y141.length co13)) (fun _ hk => hk.2) (.slice none 0 0)) (fun _ hk => hk.2) (.int .i64 (-1))) (fun _ hk => hk.2) (.bool false)) (fun _ hk => trivial), by first | exact Kd.R_nil _ _ _ _ _ | exact Kd.N_nil _ _ _ _ _ | exact Kd.V_nil _ _ _ _ _ | exact Kd.Q_nil _ _ _ _ _ | exact Kd.S_nil _ _ _ _ _, by repeat (first | (with_reducible first | exact HB.out | apply eA | apply eN | apply eD | refine eS ?_ GE140.out) | exact HB.out)⟩
    ·rw [if_neg c9] at H
     exact absurd H (by simp)
   ·rw [if_neg c8] at H
    exact absurd H (by simp)

end Go.Proofs.Ytffjbbedjddpmaa.PAll
