/- Functions of the program as plain Lean functions, and that each call comes to what they say. Laid by a program of this session (hprint.py); Lean checks it. -/
import Derived.Test.YtlfonfceaiiinaaPAllx0
import Derived.Test.YtlfonfceaiiinaaPAllx1
import Derived.Test.YtlfonfceaiiinaaPAllx4
import Derived.Test.YtlfonfceaiiinaaPAllx5
namespace Go.Proofs.Ytlfonfceaiiinaa.PAll
open Go.RowKit Go.Proofs.YtlfonfceaiiinaaW.PrintWords Go.Proofs.YtlfonfceaiiinaaW.PrintLast Go.Proofs.YtlfonfceaiiinaaW.PrintMore
attribute [local go_sem] max2_int min2_int max_two min_two max_three min_three max_four min_four   -- for this text's walks alone
set_option linter.unusedVariables false
set_option linter.unusedSimpArgs false

attribute [local go_sem high] eqA29
/-! ### hogsheadlaw19_shown: function 8 -/
def hogsheadlaw19_shown.j0 : Nat → Bool → Option (Bool)
 | 0, _ => none
 | k + 1, x0 => some x0
def hogsheadlaw19_shown.f (k : Nat)  : Option (Bool) := if 14 ≤ 17592186044416 then ((some (List.replicate 14 z75 : List (S75))).bind fun y129 => ((some (([(⟨1, 0, 0, 0, 4, ([] : List (S59)), y129, 0, 0⟩ : S45), (⟨2, 0, 0, 0, 4, ([] : List (S59)), y129, 0, 0⟩ : S45), (⟨3, 0, 0, 0, 5, ([] : List (S59)), y129, 0, 0⟩ : S45)] : List (S45)) : List (S45))).bind fun y132 => ((count_Due.f k y132 ([] : List (S92)) ([] : List (S64))).bind fun bt136 => (if (bt136.1 == 42 && (bt136.2.1 == 672 && (bt136.2.2.1 == 0 && (bt136.2.2.2 == 0)))) = true then ((count_Logical.f k y132 ([] : List (S92)) ([] : List (S64))).bind fun t140 => (hogsheadlaw19_shown.j0 k (t140 == 320))) else (hogsheadlaw19_shown.j0 k false))))) else (none)
theorem hogsheadlaw19_shown.mono_l : ∀ k, (∀ y0, LeO (hogsheadlaw19_shown.j0 k y0) (hogsheadlaw19_shown.j0 (k + 1) y0))
 | 0 => fun _ r h => by simp [hogsheadlaw19_shown.j0] at h
 | k + 1 => by
  have ih0 := hogsheadlaw19_shown.mono_l k
  ·intro y0
   unfold hogsheadlaw19_shown.j0
   repeat' first
   | (with_reducible exact ih0 _)
   | (with_reducible exact count_Due.mono _ _ _ _)
   | (with_reducible exact count_Logical.mono _ _ _ _)
   | (with_reducible exact LeO.refl _)
   | (with_reducible exact LeO.none _)
   | (with_reducible refine LeO.ite ?_ ?_)
   | (with_reducible refine LeO.bind ?_ (fun _ => ?_))
   | exact ih0 _
   | exact count_Due.mono _ _ _ _
   | exact count_Logical.mono _ _ _ _
   | exact LeO.none _
   | refine LeO.ite ?_ ?_
   | refine LeO.bind ?_ (fun _ => ?_)
theorem hogsheadlaw19_shown.mono : ∀ k, LeO (hogsheadlaw19_shown.f k ) (hogsheadlaw19_shown.f (k + 1) ) := by
 intro  k
 have ih0 := hogsheadlaw19_shown.mono_l k
 unfold hogsheadlaw19_shown.f
 repeat' first
   | (with_reducible exact ih0 _)
   | (with_reducible exact count_Due.mono _ _ _ _)
   | (with_reducible exact count_Logical.mono _ _ _ _)
   | (with_reducible exact LeO.refl _)
   | (with_reducible exact LeO.none _)
   | (with_reducible refine LeO.ite ?_ ?_)
   | (with_reducible refine LeO.bind ?_ (fun _ => ?_))
   | exact ih0 _
   | exact count_Due.mono _ _ _ _
   | exact count_Logical.mono _ _ _ _
   | exact LeO.none _
   | refine LeO.ite ?_ ?_
   | refine LeO.bind ?_ (fun _ => ?_)
set_option maxHeartbeats 40000000 in
set_option maxRecDepth 100000 in
theorem hogsheadlaw19_shown.calls (k : Nat)  (r : Bool) (w : World) (h : hogsheadlaw19_shown.f k  = some r) :
  Calls Try.prog 8 #[] w fun e w' => e = .returned (.bool r) ∧ Below w.heap.size w w' := by
 have hu45 := Try.underlying45
 have hu26 := Try.underlying26
 have hu29 := Try.underlying29
 have HB := qM (Below.refl w.heap.size w)
 have H : (if 14 ≤ 17592186044416 then ((some (List.replicate 14 z75 : List (S75))).bind fun y129 => ((some (([(⟨1, 0, 0, 0, 4, ([] : List (S59)), y129, 0, 0⟩ : S45), (⟨2, 0, 0, 0, 4, ([] : List (S59)), y129, 0, 0⟩ : S45), (⟨3, 0, 0, 0, 5, ([] : List (S59)), y129, 0, 0⟩ : S45)] : List (S45)) : List (S45))).bind fun y132 => ((count_Due.f k y132 ([] : List (S92)) ([] : List (S64))).bind fun bt136 => (if (bt136.1 == 42 && (bt136.2.1 == 672 && (bt136.2.2.1 == 0 && (bt136.2.2.2 == 0)))) = true then ((count_Logical.f k y132 ([] : List (S92)) ([] : List (S64))).bind fun t140 => (hogsheadlaw19_shown.j0 k (t140 == 320))) else (hogsheadlaw19_shown.j0 k false))))) else (none)) = some r := h
 clear h
 by_cases c1 : 14 ≤ 17592186044416
 ·rw [if_pos c1] at H
  have c1b0 := eq_true c1
  have c1b1 : decide (14 ≤ 17592186044416) = true := decide_eq_true c1
  clear c1
  obtain ⟨y129, hy129⟩ : ∃ y_ : List (S75), y_ = (List.replicate 14 z75) := ⟨_, rfl⟩
  replace H : ((some (([(⟨1, 0, 0, 0, 4, ([] : List (S59)), y129, 0, 0⟩ : S45), (⟨2, 0, 0, 0, 4, ([] : List (S59)), y129, 0, 0⟩ : S45), (⟨3, 0, 0, 0, 5, ([] : List (S59)), y129, 0, 0⟩ : S45)] : List (S45)) : List (S45))).bind fun y132 => ((count_Due.f k y132 ([] : List (S92)) ([] : List (S64))).bind fun bt136 => (if (bt136.1 == 42 && (bt136.2.1 == 672 && (bt136.2.2.1 == 0 && (bt136.2.2.2 == 0)))) = true then ((count_Logical.f k y132 ([] : List (S92)) ([] : List (S64))).bind fun t140 => (hogsheadlaw19_shown.j0 k (t140 == 320))) else (hogsheadlaw19_shown.j0 k false)))) = some r := by first | (rw [hy129]; with_reducible exact H) | (have H2_ := (Option.bind_some _ _).symm.trans H; rw [hy129]; with_reducible exact H2_) | (have H2_ := (Option.bind_some _ _).symm.trans H; with_reducible exact H2_) | with_reducible exact H | (rw [hy129]; exact H) | exact H
  have Ny129 := qM hy129
  clear hy129
  obtain ⟨y132, hy132⟩ : ∃ y_ : List (S45), y_ = (([(⟨1, 0, 0, 0, 4, ([] : List (S59)), y129, 0, 0⟩ : S45), (⟨2, 0, 0, 0, 4, ([] : List (S59)), y129, 0, 0⟩ : S45), (⟨3, 0, 0, 0, 5, ([] : List (S59)), y129, 0, 0⟩ : S45)] : List (S45))) := ⟨_, rfl⟩
  replace H : ((count_Due.f k y132 ([] : List (S92)) ([] : List (S64))).bind fun bt136 => (if (bt136.1 == 42 && (bt136.2.1 == 672 && (bt136.2.2.1 == 0 && (bt136.2.2.2 == 0)))) = true then ((count_Logical.f k y132 ([] : List (S92)) ([] : List (S64))).bind fun t140 => (hogsheadlaw19_shown.j0 k (t140 == 320))) else (hogsheadlaw19_shown.j0 k false))) = some r := by first | (rw [hy132]; with_reducible exact H) | (have H2_ := (Option.bind_some _ _).symm.trans H; rw [hy132]; with_reducible exact H2_) | (have H2_ := (Option.bind_some _ _).symm.trans H; with_reducible exact H2_) | with_reducible exact H | (rw [hy132]; exact H) | exact H
  have Ny132 := qM hy132
  clear hy132
  have HC2 := qM H
  clear H
  go_enter Try.func8, Try.ntmps8
  go_upto_region 3 with (first | ((with_reducible refine gate_dst (N := 3) rfl ?_); refine Kd.R_make k75 _ 75 rfl (N := 3) rfl 40 _ _ rfl 14 rfl rfl Try.underlying40 (.agg #[(.int .i64 0), (.int .i64 0)]) 16 info75 rfl (by decide) (by omega) z75 (ok := fun _ => True) (okp := fun _ => True) (k75_mkM _ _ _ z75 ) (fun _ hk => hk) trivial (by omega) (by omega) (Below.refl _ _) (Nat.le_refl _) ?_; intro v130 w3 ho4 hb hg_ hnew_; clear hg_ hnew_; (first | rw [← Ny129.out] at ho4 | (simp only [Int.reduceToNat] at ho4; rw [← Ny129.out] at ho4)); have n0_ := qM (Kd.R_lower ho4 (eZ (by repeat (first | (with_reducible first | exact HB.out | apply eA | apply eN | apply eD) | exact HB.out)))); have n1_ := qM (eT (by repeat (first | (with_reducible first | exact HB.out | apply eA | apply eN | apply eD) | exact HB.out)) hb); clear HB; have HO131 := n0_; have HB := n1_; clear n0_ n1_; clear hb ho4; obtain ⟨Ao5, co5, eo5⟩ := Kd.R_slice HO131.out; subst eo5) | ((with_reducible refine gate_dst (N := 10) rfl ?_); refine Kd.N_lit k45 _ 45 ?hg (N' := 10) ?hd (xs := ([(⟨1, 0, 0, 0, 4, ([] : List (S59)), y129, 0, 0⟩ : S45), (⟨2, 0, 0, 0, 4, ([] : List (S59)), y129, 0, 0⟩ : S45), (⟨3, 0, 0, 0, 5, ([] : List (S59)), y129, 0, 0⟩ : S45)] : List (S45))) (inner := [.int .i64 1, .int .i64 0, .int .i64 0, .int .i64 0, .int .i64 4, .slice none 0 0, .slice Ao5 y129.length co5, .int .i64 0, .int .i64 0, .int .i64 2, .int .i64 0, .int .i64 0, .int .i64 0, .int .i64 4, .slice none 0 0, .slice Ao5 y129.length co5, .int .i64 0, .int .i64 0, .int .i64 3, .int .i64 0, .int .i64 0, .int .i64 0, .int .i64 5, .slice none 0 0, .slice Ao5 y129.length co5, .int .i64 0, .int .i64 0]) (ok := (fun _ => True)) (okp := (fun _ => True)) ?hr ?hp (fun _ hk => hk) ((show ∀ k_, w3.heap.size ≤ k_ → (fun _ => True) k_ from fun k_ hk => trivial) _ (Nat.le_refl _)) (Below.refl _ _) (Nat.le_refl _) (by simp) ?_; (case hd => rfl); (case hg => rfl); (case hr => first | (go_simp; done) | (go_simp; rfl)); (case hp => exact (Reps.c9 (show Kd.FK k45 _ _ (⟨1, 0, 0, 0, 4, ([] : List (S59)), y129, 0, 0⟩ : S45) [.int .i64 1, .int .i64 0, .int .i64 0, .int .i64 0, .int .i64 4, .slice none 0 0, .slice Ao5 y129.length co5, .int .i64 0, .int .i64 0] from (k45_mkF _ _ (⟨1, 0, 0, 0, 4, ([] : List (S59)), y129, 0, 0⟩ : S45) (Nat.le_refl _) (Kd.F_nil _ _ _) (Kd.R_reads' (Kd.R_mono (ok' := (fun _ => True)) (HO131.out) (fun k_ hk => trivial))).2.1 (Kd.R_F (Kd.R_mono (ok' := (fun _ => True)) (HO131.out) (fun k_ hk => trivial))))) (Reps.c9 (show Kd.FK k45 _ _ (⟨2, 0, 0, 0, 4, ([] : List (S59)), y129, 0, 0⟩ : S45) [.int .i64 2, .int .i64 0, .int .i64 0, .int .i64 0, .int .i64 4, .slice none 0 0, .slice Ao5 y129.length co5, .int .i64 0, .int .i64 0] from (k45_mkF _ _ (⟨2, 0, 0, 0, 4, ([] : List (S59)), y129, 0, 0⟩ : S45) (Nat.le_refl _) (Kd.F_nil _ _ _) (Kd.R_reads' (Kd.R_mono (ok' := (fun _ => True)) (HO131.out) (fun k_ hk => trivial))).2.1 (Kd.R_F (Kd.R_mono (ok' := (fun _ => True)) (HO131.out) (fun k_ hk => trivial))))) (Reps.c9 (show Kd.FK k45 _ _ (⟨3, 0, 0, 0, 5, ([] : List (S59)), y129, 0, 0⟩ : S45) [.int .i64 3, .int .i64 0, .int .i64 0, .int .i64 0, .int .i64 5, .slice none 0 0, .slice Ao5 y129.length co5, .int .i64 0, .int .i64 0] from (k45_mkF _ _ (⟨3, 0, 0, 0, 5, ([] : List (S59)), y129, 0, 0⟩ : S45) (Nat.le_refl _) (Kd.F_nil _ _ _) (Kd.R_reads' (Kd.R_mono (ok' := (fun _ => True)) (HO131.out) (fun k_ hk => trivial))).2.1 (Kd.R_F (Kd.R_mono (ok' := (fun _ => True)) (HO131.out) (fun k_ hk => trivial))))) (Reps.none _ _))))); intro v133 w6 ho7 hb hg_ hnew_; clear hg_ hnew_; (first | rw [← Ny132.out] at ho7 | (simp only [Int.reduceToNat] at ho7; rw [← Ny132.out] at ho7)); have n0_ := qM (Kd.N_lower ho7 (eZ (by repeat (first | (with_reducible first | exact HB.out | apply eA | apply eN | apply eD) | exact HB.out)))); have n1_ := qM (eT (by repeat (first | (with_reducible first | exact HB.out | apply eA | apply eN | apply eD) | exact HB.out)) hb); clear HB HO131; have HO134 := n0_; have HB := n1_; clear n0_ n1_; clear hb ho7; obtain ⟨Ao8, co8, eo8⟩ := Kd.N_slice HO134.out; subst eo8) | ((with_reducible refine gate_dst (N := 2) rfl ?_); refine box_event ?hg (N := 2) ?hd (cs := #[.slice none 0 0, .slice none 0 0, .slice none 0 0]) (t := 26) ?hr ?_; (case hd => rfl); (case hg => rfl); (case hr => first | (go_simp; done) | (go_simp; rfl)); intro g135 hg w9 hbox hb; have n0_ := qM (Kd.N_below (Kd.N_elderB (by (with_reducible repeat first | apply NA | apply NN | apply ND); exact HO134.out) g135 (Nat.le_of_eq hg.symm)) hb); have n1_ := qM (eT (by repeat (first | (with_reducible first | exact HB.out | apply eA | apply eN | apply eD) | exact HB.out)) hb); have n2_ := qM (hbox); have n3_ := qM ((by rw [hg]; exact (eZ (by repeat (first | (with_reducible first | exact HB.out | apply eA | apply eN | apply eD) | exact HB.out))) : w.heap.size ≤ g135)); have n4_ := n3_; clear HO134 HB; have HO134 := n0_; have HB := n1_; have B135 := n2_; have GW135 := n3_; have GE135 := n4_; clear n0_ n1_ n2_ n3_ n4_; clear hb hbox hg; obtain ⟨hcz10_0, hcz10_1, hcz10_2, f10_0, f10_1, f10_2⟩ := cells3 B135.out))
  (try simp only [Act.put, List.setIfInBounds_toArray, List.set_cons_zero, List.set_cons_succ])
  go_cut [0] (fun v0 wc => ∃ (kq : Nat) (x0_1 : Bool), v0 = .bool x0_1 ∧ Aside0 (hogsheadlaw19_shown.j0 kq x0_1 = some r) ∧ Aside0 (kq ≤ k) ∧ Aside0 (Kd.N k45 45 wc w.heap.size (fun k_ => k_ ≠ g135) (.slice Ao8 y132.length co8) y132) ∧ Aside0 (wc.heap[g135]? = some (.cells #[(.slice Ao8 y132.length co8), (.slice none 0 0), (.slice none 0 0)] 26 (0, 0))) ∧ Aside0 (Below w.heap.size w wc))
  case first =>
   have H := HC2.out
   clear HC2
   replace H := Option.bind_eq_some_iff.mp H
   obtain ⟨⟨t136, t137, t138, t139⟩, A110, H⟩ := H
   replace H : (if (t136 == 42 && (t137 == 672 && (t138 == 0 && (t139 == 0)))) = true then ((count_Logical.f k y132 ([] : List (S92)) ([] : List (S64))).bind fun t140 => (hogsheadlaw19_shown.j0 k (t140 == 320))) else (hogsheadlaw19_shown.j0 k false)) = some r := H
   have A11 := qM A110
   clear A110
   by_cases c12 : (t136 == 42 && (t137 == 672 && (t138 == 0 && (t139 == 0)))) = true
   ·rw [if_pos c12] at H
    have c12b0 : (t136 == 42 && (t137 == 672 && (t138 == 0 && (t139 == 0)))) = true := c12
    (try (have c12b1 : decide (t136 = 42 && (t137 == 672 && (t138 == 0 && (t139 == 0)))) = true := by simpa using c12))
    (try (have c12b2 : (t136 == 42 && (t137 == 672 && (t138 == 0 && (t139 == 0)))) = true := by simpa using c12))
    clear c12
    (first | rw [c12b0] | (simp only [i64_w, i32_w]; rw [c12b0]) | skip)
    replace H := Option.bind_eq_some_iff.mp H
    obtain ⟨t140, A130, H⟩ := H
    replace H : (hogsheadlaw19_shown.j0 k (t140 == 320)) = some r := H
    have A13 := qM A130
    clear A130
    have H' := qM H
    clear H
    obtain ⟨hcz14_0, hcz14_1, hcz14_2, f14_0, f14_1, f14_2⟩ := cells3 B135.out
    go_wp2_with (first | ((with_reducible refine gate_callee (f := 9) rfl ?_); refine goesL_ (some 13) rfl rfl Try.func9 (by kernel_rfl) rfl #[.agg #[.slice Ao8 y132.length co8, .slice none 0 0, .slice none 0 0]] rfl (by (try simp only [List.map_toArray, List.map_cons, List.map_nil]); first | done | rfl | (simp only [List.length_drop, List.length_take]; rfl)) ?_; (refine (count_Due.calls k _ _ y132 _ _ ([] : List (S92)) _ _ ([] : List (S64)) t136 t137 t138 t139 _ ?side1 ?side2 ?side3 ?side4 ?side5 ?side6 A11.out).mono ?_); (case side1 => refine (Kd.N_reads' (e := 45) (base := w.heap.size) (ok := fun k_ => (True ∧ k_ ≠ g135)) (n := y132.length) (c := co8) ?_).2.2; exact (by (with_reducible repeat first | apply NA | apply NN | apply ND); exact (Kd.N_mono (Kd.N_far (p := ⟨g135, 2, none⟩) (Kd.N_far (p := ⟨g135, 1, none⟩) (Kd.N_far (p := ⟨g135, 0, none⟩) (Kd.N_mono HO134.out (fun k_ hk => (⟨hk, hk.2⟩ : _ ∧ k_ ≠ g135))) (fun _ hk => hk.2) (.slice Ao8 y132.length co8)) (fun _ hk => hk.2) (.slice none 0 0)) (fun _ hk => hk.2) (.slice none 0 0)) (fun _ h_ => h_.1)))); (case side2 => exact (Kd.N_reads' HO134.out).2.1); (case side3 => exact Kd.C_nil _ _); (case side4 => exact Nat.le_refl _); (case side5 => exact Kd.C_nil _ _); (case side6 => exact Nat.le_refl _); rintro e w15 ⟨rfl, hb⟩; refine ⟨_, rfl, ?_⟩; have n0_ := qM (Kd.N_below (by (with_reducible repeat first | apply NA | apply NN | apply ND); exact (Kd.N_mono (Kd.N_far (p := ⟨g135, 2, none⟩) (Kd.N_far (p := ⟨g135, 1, none⟩) (Kd.N_far (p := ⟨g135, 0, none⟩) (Kd.N_mono HO134.out (fun k_ hk => (⟨hk, hk.2⟩ : _ ∧ k_ ≠ g135))) (fun _ hk => hk.2) (.slice Ao8 y132.length co8)) (fun _ hk => hk.2) (.slice none 0 0)) (fun _ hk => hk.2) (.slice none 0 0)) (fun _ h_ => h_.1))) hb); have n1_ := qM (qB (g := g135) (by (with_reducible repeat first | refine qN ?_ _ | refine qD ?_ | refine qA ?_ _); apply puts3; (with_reducible repeat first | refine qN ?_ _ | refine qD ?_ | refine qA ?_ _); exact B135.out) hb); have n2_ := qM (eT (by repeat (first | (with_reducible first | exact HB.out | apply eA | apply eN | apply eD | refine eU ?_ (by assumption)) | exact HB.out)) hb); clear HO134 B135 HB; have HO134 := n0_; have B135 := n1_; have HB := n2_; clear n0_ n1_ n2_; (try clear hb); (try clear hb2); (try clear hk); (try clear hi); obtain ⟨hcz16_0, hcz16_1, hcz16_2, f16_0, f16_1, f16_2⟩ := cells3 B135.out) | (go_at_call 11; (refine (count_Logical.calls k _ _ y132 _ _ ([] : List (S92)) _ _ ([] : List (S64)) t140 _ ?side1 ?side2 ?side3 ?side4 ?side5 ?side6 A13.out).mono ?_); (case side1 => repeat (first | exact (Kd.N_reads' HO134.out).2.2 | (with_reducible refine Kd.C_alloc ?_ _) | (with_reducible refine Kd.C_drewN ?_ _) | (with_reducible refine Kd.C_drew ?_))); (case side2 => exact (Kd.N_reads' HO134.out).2.1); (case side3 => exact Kd.C_nil _ _); (case side4 => exact Nat.le_refl _); (case side5 => exact Kd.C_nil _ _); (case side6 => exact Nat.le_refl _); rintro e w17 ⟨rfl, hb⟩; have n0_ := qM (Kd.N_below (by (with_reducible repeat first | apply NA | apply NN | apply ND); exact HO134.out) hb); have n1_ := qM (qB (g := g135) (by (with_reducible repeat first | refine qN ?_ _ | refine qD ?_ | refine qA ?_ _); exact B135.out) hb); have n2_ := qM (eT (by repeat (first | (with_reducible first | exact HB.out | apply eA | apply eN | apply eD | refine eU ?_ (by assumption)) | exact HB.out)) hb); clear HO134 B135 HB; have HO134 := n0_; have B135 := n1_; have HB := n2_; clear n0_ n1_ n2_; (try clear hb); (try clear hb2); (try clear hk); (try clear hi)))
    go_meet
    case rel => exact ⟨_, ((t140 == 320)), (by first | rfl | (simp; done) | (simp [*]; done)), H', ⟨by first | omega | exact Nat.le_refl _⟩, ⟨by (with_reducible repeat first | apply NA | apply NN | apply ND); exact Kd.N_mono HO134.out (fun _ hk => hk.2)⟩, ⟨by (with_reducible repeat first | refine qN ?_ _ | refine qD ?_ | refine qA ?_ _); exact B135.out⟩, ⟨by repeat (first | (with_reducible first | exact HB.out | apply eA | apply eN | apply eD | refine eS ?_ GE135.out) | exact HB.out)⟩⟩
   ·rw [if_neg c12] at H
    have c12b0 : (t136 == 42 && (t137 == 672 && (t138 == 0 && (t139 == 0)))) = false := by simpa using c12
    (try (have c12b1 : decide (t136 = 42 && (t137 == 672 && (t138 == 0 && (t139 == 0)))) = false := by simpa using c12))
    (try (have c12b2 : (t136 == 42 && (t137 == 672 && (t138 == 0 && (t139 == 0)))) = false := by simpa using c12))
    (try (have c12b3 : ¬ (t136 = 42 && (t137 == 672 && (t138 == 0 && (t139 == 0)))) := by simpa using c12))
    clear c12
    (first | rw [c12b0] | (simp only [i64_w, i32_w]; rw [c12b0]) | skip)
    have H' := qM H
    clear H
    obtain ⟨hcz18_0, hcz18_1, hcz18_2, f18_0, f18_1, f18_2⟩ := cells3 B135.out
    go_wp2_with (first | ((with_reducible refine gate_callee (f := 9) rfl ?_); refine goesL_ (some 13) rfl rfl Try.func9 (by kernel_rfl) rfl #[.agg #[.slice Ao8 y132.length co8, .slice none 0 0, .slice none 0 0]] rfl (by (try simp only [List.map_toArray, List.map_cons, List.map_nil]); first | done | rfl | (simp only [List.length_drop, List.length_take]; rfl)) ?_; (refine (count_Due.calls k _ _ y132 _ _ ([] : List (S92)) _ _ ([] : List (S64)) t136 t137 t138 t139 _ ?side1 ?side2 ?side3 ?side4 ?side5 ?side6 A11.out).mono ?_); (case side1 => refine (Kd.N_reads' (e := 45) (base := w.heap.size) (ok := fun k_ => (True ∧ k_ ≠ g135)) (n := y132.length) (c := co8) ?_).2.2; exact (by (with_reducible repeat first | apply NA | apply NN | apply ND); exact (Kd.N_mono (Kd.N_far (p := ⟨g135, 2, none⟩) (Kd.N_far (p := ⟨g135, 1, none⟩) (Kd.N_far (p := ⟨g135, 0, none⟩) (Kd.N_mono HO134.out (fun k_ hk => (⟨hk, hk.2⟩ : _ ∧ k_ ≠ g135))) (fun _ hk => hk.2) (.slice Ao8 y132.length co8)) (fun _ hk => hk.2) (.slice none 0 0)) (fun _ hk => hk.2) (.slice none 0 0)) (fun _ h_ => h_.1)))); (case side2 => exact (Kd.N_reads' HO134.out).2.1); (case side3 => exact Kd.C_nil _ _); (case side4 => exact Nat.le_refl _); (case side5 => exact Kd.C_nil _ _); (case side6 => exact Nat.le_refl _); rintro e w19 ⟨rfl, hb⟩; refine ⟨_, rfl, ?_⟩; have n0_ := qM (Kd.N_below (by (with_reducible repeat first | apply NA | apply NN | apply ND); exact (Kd.N_mono (Kd.N_far (p := ⟨g135, 2, none⟩) (Kd.N_far (p := ⟨g135, 1, none⟩) (Kd.N_far (p := ⟨g135, 0, none⟩) (Kd.N_mono HO134.out (fun k_ hk => (⟨hk, hk.2⟩ : _ ∧ k_ ≠ g135))) (fun _ hk => hk.2) (.slice Ao8 y132.length co8)) (fun _ hk => hk.2) (.slice none 0 0)) (fun _ hk => hk.2) (.slice none 0 0)) (fun _ h_ => h_.1))) hb); have n1_ := qM (qB (g := g135) (by (with_reducible repeat first | refine qN ?_ _ | refine qD ?_ | refine qA ?_ _); apply puts3; (with_reducible repeat first | refine qN ?_ _ | refine qD ?_ | refine qA ?_ _); exact B135.out) hb); have n2_ := qM (eT (by repeat (first | (with_reducible first | exact HB.out | apply eA | apply eN | apply eD | refine eU ?_ (by assumption)) | exact HB.out)) hb); clear HO134 B135 HB; have HO134 := n0_; have B135 := n1_; have HB := n2_; clear n0_ n1_ n2_; (try clear hb); (try clear hb2); (try clear hk); (try clear hi)))
    go_meet
    case rel => exact ⟨_, (false), (by first | rfl | (simp; done) | (simp [*]; done)), H', ⟨by first | omega | exact Nat.le_refl _⟩, ⟨by (with_reducible repeat first | apply NA | apply NN | apply ND); exact Kd.N_mono HO134.out (fun _ hk => hk.2)⟩, ⟨by (with_reducible repeat first | refine qN ?_ _ | refine qD ?_ | refine qA ?_ _); exact B135.out⟩, ⟨by repeat (first | (with_reducible first | exact HB.out | apply eA | apply eN | apply eD | refine eS ?_ GE135.out) | exact HB.out)⟩⟩
  case rest =>
   clear HC2
   try clear c1
   try clear c1b0
   try clear c1b1
   try clear p2
   try clear c8
   try clear c9
   try clear c12
   try clear c12b0
   try clear c12b1
   try clear c12b2
   try clear hcz10_0
   try clear hcz10_1
   try clear hcz10_2
   try clear hcz14_0
   try clear hcz14_1
   try clear hcz14_2
   try clear hcz16_0
   try clear hcz16_1
   try clear hcz16_2
   try clear hcz18_0
   try clear hcz18_1
   try clear hcz18_2
   try clear f10_0
   try clear f10_1
   try clear f10_2
   try clear f14_0
   try clear f14_1
   try clear f14_2
   try clear f16_0
   try clear f16_1
   try clear f16_2
   try clear f18_0
   try clear f18_1
   try clear f18_2
   obtain ⟨kq, x0_1, rfl, HA, HJ1, HO_136000, B135, HB⟩ := hcut
   cases kq with
   | zero => exact absurd HA.out (by simp [hogsheadlaw19_shown.j0])
   | succ kj1 =>
    have H := HA.out
    clear HA
    simp only [hogsheadlaw19_shown.j0] at H
    obtain rfl := Option.some.inj H
    go_wp2
    go_ret
    exact ⟨by first | rfl | (simp [errW_none, errW_some] <;> rfl) | (simp [*, errW_none, errW_some] <;> rfl), by repeat (first | (with_reducible first | exact HB.out | apply eA | apply eN | apply eD | refine eS ?_ GE135.out) | exact HB.out)⟩
 ·rw [if_neg c1] at H
  exact absurd H (by simp)

/-! ### hogsheadref15_small: function 26 -/
def hogsheadref15_small.f (a0 : Int) : Option (Bool) := if a0 ≥ 0 then (some (decide (a0 ≤ 1048576))) else (some false)
set_option maxHeartbeats 40000000 in
set_option maxRecDepth 100000 in
theorem hogsheadref15_small.calls (a0 : Int) (r : Bool) (w : World) (h : hogsheadref15_small.f a0 = some r) :
  Calls Try.prog 26 #[.int .i64 a0] w fun e w' => e = .returned (.bool r) ∧ Drawn0 w w' := by
 have H : (if a0 ≥ 0 then (some (decide (a0 ≤ 1048576))) else (some false)) = some r := h
 clear h
 by_cases c2 : a0 ≥ 0
 ·rw [if_pos c2] at H
  have c2b0 : decide (0 ≤ a0) = true := decide_eq_true c2
  clear c2
  obtain rfl := Option.some.inj H
  go_enter Try.func26, Try.ntmps26
  go_wp2
  go_ret
  exact ⟨by first | rfl | (simp; done) | (simp [*]; done), by repeat (first | exact Drawn0.refl _ | apply Drawn0.step)⟩
 ·rw [if_neg c2] at H
  have c2b0 : decide (0 ≤ a0) = false := decide_eq_false c2
  clear c2
  obtain rfl := Option.some.inj H
  go_enter Try.func26, Try.ntmps26
  go_wp2
  go_ret
  exact ⟨by first | rfl | (simp; done) | (simp [*]; done), by repeat (first | exact Drawn0.refl _ | apply Drawn0.step)⟩

end Go.Proofs.Ytlfonfceaiiinaa.PAll
