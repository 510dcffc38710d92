/- Functions of the program as plain Lean functions, and that each call comes to what they say. Laid by a program of this session (hprint.py); Lean checks it. -/
import Derived.Test.YtffjbbedjddpmaaPAllx0
namespace Go.Proofs.Ytffjbbedjddpmaa.PAll
open Go.RowKit Go.Proofs.YtffjbbedjddpmaaW.PrintWords Go.Proofs.YtffjbbedjddpmaaW.PrintLast Go.Proofs.YtffjbbedjddpmaaW.PrintMore
attribute [local go_sem] max2_int min2_int max_two min_two max_three min_three max_four min_four   -- for this text's walks alone
set_option linter.unusedVariables false
set_option linter.unusedSimpArgs false
attribute [local irreducible] World.setCell

/-! ### hogsheadref08_done: function 52 -/
def hogsheadref08_done.l0 : Nat → Int → List ByteArray → Int → List ByteArray → List (S94) → Int → Bool → Option (List ByteArray)
 | 0, _, _, _, _, _, _, _ => none
 | k + 1, x1, x5, x6, x415000, x415001, x415002, x415003 => if x6 < x1 then (if 0 ≤ x6 then (if x6 < (x415001.length : Int) then (if ((rd_T94 x415001 x6).f0) ≥ 0 then (if ((rd_T94 x415001 x6).f0) < (x5.length : Int) then (if 0 ≤ ((rd_T94 x415001 x6).f0) then (hogsheadref08_done.l0 k x1 (x5.set (((rd_T94 x415001 x6).f0) : Int).toNat ((rd_T94 x415001 x6).f1)) (wrap64 (x6 + 1)) x415000 x415001 x415002 x415003) else (none)) else (hogsheadref08_done.l0 k x1 x5 (wrap64 (x6 + 1)) x415000 x415001 x415002 x415003)) else (hogsheadref08_done.l0 k x1 x5 (wrap64 (x6 + 1)) x415000 x415001 x415002 x415003)) else (none)) else (none)) else (some x5)
def hogsheadref08_done.f (k : Nat) (l0_0 : List ByteArray) (l0_1 : List (S94)) (a0_2 : Int) (a0_3 : Bool) (a1 : Int) : Option (List ByteArray) := (some (([] : List ByteArray) : List ByteArray)).bind fun y415 => (if y415.length + l0_0.length < 8796093022208 then (hogsheadref08_done.l0 k a1 (y415 ++ l0_0) 0 l0_0 l0_1 a0_2 a0_3) else (none))
theorem hogsheadref08_done.mono_l : ∀ k, (∀ y0 y1 y2 y3 y4 y5 y6, LeO (hogsheadref08_done.l0 k y0 y1 y2 y3 y4 y5 y6) (hogsheadref08_done.l0 (k + 1) y0 y1 y2 y3 y4 y5 y6))
 | 0 => fun _ _ _ _ _ _ _ r h => by simp [hogsheadref08_done.l0] at h
 | k + 1 => by
  have ih0 := hogsheadref08_done.mono_l k
  ·intro y0 y1 y2 y3 y4 y5 y6
   unfold hogsheadref08_done.l0
   repeat' first
   | (with_reducible exact ih0 _ _ _ _ _ _ _)
   | (with_reducible exact LeO.refl _)
   | (with_reducible exact LeO.none _)
   | (with_reducible refine LeO.ite ?_ ?_)
   | (with_reducible refine LeO.bind ?_ (fun _ => ?_))
   | exact ih0 _ _ _ _ _ _ _
   | exact LeO.none _
   | refine LeO.ite ?_ ?_
   | refine LeO.bind ?_ (fun _ => ?_)
theorem hogsheadref08_done.mono : ∀ a0 a1 a2 a3 a4 k, LeO (hogsheadref08_done.f k a0 a1 a2 a3 a4) (hogsheadref08_done.f (k + 1) a0 a1 a2 a3 a4) := by
 intro a0 a1 a2 a3 a4 k
 have ih0 := hogsheadref08_done.mono_l k
 unfold hogsheadref08_done.f
 repeat' first
   | (with_reducible exact ih0 _ _ _ _ _ _ _)
   | (with_reducible exact LeO.refl _)
   | (with_reducible exact LeO.none _)
   | (with_reducible refine LeO.ite ?_ ?_)
   | (with_reducible refine LeO.bind ?_ (fun _ => ?_))
   | exact ih0 _ _ _ _ _ _ _
   | exact LeO.none _
   | refine LeO.ite ?_ ?_
   | refine LeO.bind ?_ (fun _ => ?_)
set_option maxHeartbeats 40000000 in
set_option maxRecDepth 100000 in
theorem hogsheadref08_done.calls (k : Nat) (A0_0 : Option Addr) (c0_0 : Nat) (l0_0 : List ByteArray) (A0_1 : Option Addr) (c0_1 : Nat) (l0_1 : List (S94)) (a0_2 : Int) (a0_3 : Bool) (a1 : Int) (r : List ByteArray) (w : World) (hr0_0 : Kd.C Kd.string w A0_0 l0_0.length l0_0) (hc0_0 : l0_0.length ≤ c0_0) (hr0_1 : Kd.C k94 w A0_1 l0_1.length l0_1) (hc0_1 : l0_1.length ≤ c0_1) (h : hogsheadref08_done.f k l0_0 l0_1 a0_2 a0_3 a1 = some r) :
  Calls Try.prog 52 #[.agg #[.slice A0_0 l0_0.length c0_0, .slice A0_1 l0_1.length c0_1, .int .i64 a0_2, .bool a0_3], .int .i64 a1] w fun e w' => ∃ v0_ : Value, e = .returned (v0_) ∧ Kd.R Kd.string 9 w' w.heap.size (fun _ => True) v0_ r ∧ Below w.heap.size w w' := by
 have hu25 := Try.underlying25
 have hu94 := Try.underlying94
 have HR0_0 := qM hr0_0
 have HC0_0 := qM hc0_0
 clear hr0_0 hc0_0
 have HR0_1 := qM hr0_1
 have HC0_1 := qM hc0_1
 clear hr0_1 hc0_1
 have HB := qM (Below.refl w.heap.size w)
 have H : ((some (([] : List ByteArray) : List ByteArray)).bind fun y415 => (if y415.length + l0_0.length < 8796093022208 then (hogsheadref08_done.l0 k a1 (y415 ++ l0_0) 0 l0_0 l0_1 a0_2 a0_3) else (none))) = some r := h
 clear h
 obtain ⟨y415, hy415⟩ : ∃ y_ : List ByteArray, y_ = (([] : List ByteArray)) := ⟨_, rfl⟩
 replace H : (if y415.length + l0_0.length < 8796093022208 then (hogsheadref08_done.l0 k a1 (y415 ++ l0_0) 0 l0_0 l0_1 a0_2 a0_3) else (none)) = some r := by first | (rw [hy415]; with_reducible exact H) | (have H2_ := (Option.bind_some _ _).symm.trans H; rw [hy415]; with_reducible exact H2_) | (have H2_ := (Option.bind_some _ _).symm.trans H; with_reducible exact H2_) | with_reducible exact H | (rw [hy415]; exact H) | exact H
 have Ny415 := qM hy415
 clear hy415
 by_cases c3 : y415.length + l0_0.length < 8796093022208
 ·rw [if_pos c3] at H
  have LMc3 := qM c3
  clear c3
  obtain ⟨y418, hy418⟩ : ∃ y_ : List ByteArray, y_ = (y415 ++ l0_0) := ⟨_, rfl⟩
  replace H : (hogsheadref08_done.l0 k a1 y418 0 l0_0 l0_1 a0_2 a0_3) = some r := by first | (rw [hy418]; with_reducible exact H) | (have H2_ := (Option.bind_some _ _).symm.trans H; rw [hy418]; with_reducible exact H2_) | (have H2_ := (Option.bind_some _ _).symm.trans H; with_reducible exact H2_) | with_reducible exact H | (rw [hy418]; exact H) | exact H
  have Ny418 := qM hy418
  clear hy418
  have H' := qM H
  clear H
  go_enter Try.func52, Try.ntmps52
  go_wp2_with (first | ((with_reducible refine gate_dst (N := 2) rfl ?_); (try (refine gate_guard (by rfl) ?_; dsimp only)); refine box_event ?hg (N := 2) ?hd (cs := #[.slice A0_0 l0_0.length c0_0, .slice A0_1 l0_1.length c0_1, .int .i64 a0_2, .bool a0_3]) (t := 25) ?hr ?_; (case hd => rfl); (case hg => rfl); (case hr => first | (go_simp; done) | (go_simp; rfl)); intro g414 hg w4 hbox hb; have n0_ := qM (eT (by repeat (first | (with_reducible first | exact HB.out | apply eA | apply eN | apply eD) | exact HB.out)) hb); have n1_ := qM (hbox); have n2_ := qM ((by rw [hg]; exact (eZ (by repeat (first | (with_reducible first | exact HB.out | apply eA | apply eN | apply eD) | exact HB.out))) : w.heap.size ≤ g414)); have n3_ := n2_; clear HB; have HB := n0_; have B414 := n1_; have GW414 := n2_; have GE414 := n3_; clear n0_ n1_ n2_ n3_; clear hb hbox hg) | ((with_reducible refine gate_dst (N := 8) rfl ?_); (try (refine gate_guard (by rfl) ?_; dsimp only)); refine Kd.R_lit Kd.string _ 9 ?hg (N := 8) ?hd (xs := ([] : List ByteArray)) (inner := []) (ok := fun _ => True) (okp := fun _ => True) ?hr ?hp (fun _ hk => hk) trivial (Below.refl _ _) (Nat.le_refl _) (by simp) ?_; (case hd => rfl); (case hg => rfl); (case hr => first | (go_simp; done) | (go_simp; rfl)); (case hp => exact (Reps.none _ _)); intro v416 w5 ho6 hb hg_ hnew_; clear hg_ hnew_; (first | rw [← Ny415.out] at ho6 | (simp only [Int.reduceToNat] at ho6; rw [← Ny415.out] at ho6)); have n0_ := qM (Kd.R_lower ho6 (eZ (by repeat (first | (with_reducible first | exact HB.out | apply eA | apply eN | apply eD | refine eU ?_ (by assumption)) | exact HB.out)))); have n1_ := qM (qB (g := g414) (by (with_reducible repeat first | refine qN ?_ _ | refine qD ?_ | refine qA ?_ _); exact B414.out) hb); have n2_ := qM (eT (by repeat (first | (with_reducible first | exact HB.out | apply eA | apply eN | apply eD | refine eU ?_ (by assumption)) | exact HB.out)) hb); clear B414 HB; have HO417 := n0_; have B414 := n1_; have HB := n2_; clear n0_ n1_ n2_; clear hb ho6; obtain ⟨z7_0, z7_1, z7_2, z7_3, f7_0, f7_1, f7_2, f7_3⟩ := cells4 B414.out) | ((with_reducible refine gate_builtin (b := .append) (xs := #[.tmp 8, .tmp 10]) rfl ?_); (try (refine gate_guard (by rfl) ?_; dsimp only)); at_builtin; refine Kd.R_append_rows Kd.string (w0 := w) w.heap.size rfl (.tmp 8) (.tmp 10) 22 9 (.string ⟨#[]⟩) 16 rfl Try.underlying22 info9 rfl (by decide) (by omega) v416 y415 l0_0 _ _ _ (fun _ => True) (fun _ => False) rfl rfl ?aO ?aR (fun _ _ h => h) (fun _ h => h.elim) ?aF ?aB ?aS ?aL ?_; (case aR => repeat (first | exact (Kd.C_below HR0_0.out HB.out) | (with_reducible refine Kd.C_alloc ?_ _) | (with_reducible refine Kd.C_drewN ?_ _) | (with_reducible refine Kd.C_drew ?_))); (case aB => exact (by repeat (first | (with_reducible first | exact HB.out | apply eA | apply eN | apply eD | refine eU ?_ (by assumption)) | exact HB.out))); (case aF => exact (fun _ _ => trivial)); (case aO => exact (by (with_reducible repeat first | apply RA | apply RN | apply RD); exact HO417.out)); (case aS => exact (eZ (by repeat (first | (with_reducible first | exact HB.out | apply eA | apply eN | apply eD | refine eU ?_ (by assumption)) | exact HB.out)))); (case aL => have := LMc3.out; omega); intro v419 w8 ho hb hg hat; rw [← Ny418.out] at ho; have n0_ := qM (blk_grown (g := g414) (o := .cells #[.slice A0_0 l0_0.length c0_0, .slice A0_1 l0_1.length c0_1, .int .i64 a0_2, .bool a0_3] 25 (0, 0)) (by (with_reducible repeat first | refine qN ?_ _ | refine qD ?_ | refine qA ?_ _); exact B414.out) hg (Kd.R_ne HO417.out B414.out (by decide))); have n1_ := qM (hb); have n2_ := qM (ho); clear B414 HB HO417; have B414 := n0_; have HB := n1_; have HO420 := n2_; clear n0_ n1_ n2_; clear ho hb hg hat))
  go_loopg [6] k (fun kq v6 w' => ∃ (x5_1 : List ByteArray) (x6_1 : Int), v6 = .int .i64 x6_1 ∧ Aside0 (hogsheadref08_done.l0 kq a1 x5_1 x6_1 l0_0 l0_1 a0_2 a0_3 = some r) ∧ Aside0 (kq ≤ k) ∧ Aside0 (Kd.R Kd.string 9 w' w.heap.size (fun _ => True) v419 x5_1) ∧ Aside0 (w'.heap[g414]? = some (.cells #[(.slice A0_0 l0_0.length c0_0), (.slice A0_1 l0_1.length c0_1), .int .i64 a0_2, .bool a0_3] 25 (0, 0))) ∧ Aside0 (Below w.heap.size w w'))
  case atStart => exact ⟨(y418), (0), (by first | rfl | (simp; done) | (simp [*]; done)), H', ⟨Nat.le_refl _⟩, ⟨by (with_reducible repeat first | apply RA | apply RN | apply RD); exact HO420.out⟩, ⟨by (with_reducible repeat first | refine qN ?_ _ | refine qD ?_ | refine qA ?_ _); exact B414.out⟩, ⟨by repeat (first | (with_reducible first | exact HB.out | apply eA | apply eN | apply eD | refine eS ?_ GE414.out) | exact HB.out)⟩⟩
  case round =>
   clear H'
   try clear p2
   try clear c3
   try clear c5
   try clear z7_0
   try clear z7_1
   try clear z7_2
   try clear z7_3
   try clear f7_0
   try clear f7_1
   try clear f7_2
   try clear f7_3
   obtain ⟨x5_1, x6_1, rfl, HA, HK1, HO_5, B414, HB⟩ := hrel
   cases gk with
   | zero => exact absurd HA.out (by simp [hogsheadref08_done.l0])
   | succ k1 =>
    have H := HA.out
    clear HA
    simp only [hogsheadref08_done.l0] at H
    by_cases c9 : x6_1 < a1
    ·rw [if_pos c9] at H
     have c9b0 : decide (x6_1 < a1) = true := decide_eq_true c9
     clear c9
     by_cases c10 : 0 ≤ x6_1
     ·rw [if_pos c10] at H
      have c10b0 : decide (0 ≤ x6_1) = true := decide_eq_true c10
      clear c10
      by_cases c11 : x6_1 < (l0_1.length : Int)
      ·rw [if_pos c11] at H
       have c11b0 : decide (x6_1 < (l0_1.length : Int)) = true := decide_eq_true c11
       clear c11
       by_cases c12 : ((rd_T94 l0_1 x6_1).f0) ≥ 0
       ·rw [if_pos c12] at H
        have c12b0 : decide (0 ≤ ((rd_T94 l0_1 x6_1).f0)) = true := decide_eq_true c12
        clear c12
        by_cases c13 : ((rd_T94 l0_1 x6_1).f0) < (x5_1.length : Int)
        ·rw [if_pos c13] at H
         have c13b0 : decide (((rd_T94 l0_1 x6_1).f0) < (x5_1.length : Int)) = true := decide_eq_true c13
         clear c13
         by_cases c14 : 0 ≤ ((rd_T94 l0_1 x6_1).f0)
         ·rw [if_pos c14] at H
          have c14b0 : decide (0 ≤ ((rd_T94 l0_1 x6_1).f0)) = true := decide_eq_true c14
          clear c14
          obtain ⟨y423, hy423⟩ : ∃ y_ : List ByteArray, y_ = (x5_1.set (((rd_T94 l0_1 x6_1).f0) : Int).toNat ((rd_T94 l0_1 x6_1).f1)) := ⟨_, rfl⟩
          replace H : (hogsheadref08_done.l0 k1 a1 y423 (wrap64 (x6_1 + 1)) l0_0 l0_1 a0_2 a0_3) = some r := by first | (rw [hy423]; with_reducible exact H) | (have H2_ := (Option.bind_some _ _).symm.trans H; rw [hy423]; with_reducible exact H2_) | (have H2_ := (Option.bind_some _ _).symm.trans H; with_reducible exact H2_) | with_reducible exact H | (rw [hy423]; exact H) | exact H
          have Ny423 := qM hy423
          clear hy423
          have H' := qM H
          clear H
          obtain ⟨z16_0, z16_1, z16_2, z16_3, f16_0, f16_1, f16_2, f16_3⟩ := cells4 B414.out
          have p421 : 0 ≤ (x6_1 : Int) := of_decide_eq_true (by first | (with_reducible assumption) | assumption)
          have q421 : x6_1 < (l0_1.length : Int) := of_decide_eq_true (by first | (with_reducible assumption) | assumption)
          obtain ⟨ad421, e421, hx421_0, hx421_1⟩ := at_T94 HR0_1.out x6_1 p421 q421
          cases e421
          replace hx421_0 := (HB.out.cell (World.block_lt_of_cell? w _ hx421_0)).trans hx421_0
          replace hx421_1 := (HB.out.cell (World.block_lt_of_cell? w _ hx421_1)).trans hx421_1
          replace p421 := eq_true p421
          replace q421 := eq_true q421
          go_wp2_with (first | ((with_reducible refine gate_dst (N := 7) rfl ?_); (try (refine gate_guard (by rfl) ?_; dsimp only)); refine box_event ?hg (N := 7) ?hd (cs := #[.int .i64 0, .string (⟨#[]⟩ : ByteArray)]) (t := 94) ?hr ?_; (case hd => rfl); (case hg => rfl); (case hr => first | (go_simp; done) | (go_simp; rfl)); intro g422 hg w17 hbox hb; have n0_ := qM (Kd.R_below (by (with_reducible repeat first | apply RA | apply RN | apply RD); exact HO_5.out) hb); have n1_ := qM (qB (g := g414) (by (with_reducible repeat first | refine qN ?_ _ | refine qD ?_ | refine qA ?_ _); exact B414.out) hb); have n2_ := qM (eT (by repeat (first | (with_reducible first | exact HB.out | apply eA | apply eN | apply eD | refine eU ?_ (by assumption)) | exact HB.out)) hb); have n3_ := qM (hbox); have n4_ := qM ((by rw [hg]; exact (eZ (by repeat (first | (with_reducible first | exact HB.out | apply eA | apply eN | apply eD | refine eU ?_ (by assumption)) | exact HB.out))) : w.heap.size ≤ g422)); have n5_ := n4_; have n6_ := qM ((by rw [hg]; exact Nat.ne_of_lt (qL (g := g414) (by (with_reducible repeat first | refine qN ?_ _ | refine qD ?_ | refine qA ?_ _); exact B414.out)) : g414 ≠ g422)); have n7_ := qM (Ne.symm n6_.out); clear HO_5 B414 HB; have HO_5 := n0_; have B414 := n1_; have HB := n2_; have B422 := n3_; have GW422 := n4_; have GE422 := n5_; have NB414_422 := n6_; have NB422_414 := n7_; clear n0_ n1_ n2_ n3_ n4_ n5_ n6_ n7_; clear hb hbox hg; have hnb18 := NB422_414.out; have hnc18 := NB414_422.out; have z19_0 : w17.cell? ⟨g422, 0, none⟩ = some (.int .i64 0) := (qC B422.out 0).trans rfl; have z19_1 : w17.cell? ⟨g422, 1, none⟩ = some (.string (⟨#[]⟩ : ByteArray)) := (qC B422.out 1).trans rfl; have f19_0 := qF B422.out 0; have f19_1 := qF B422.out 1) | ((with_reducible refine gate_store (t := 94) (p := 7) rfl ?_); refine store_event (t := 94) (p := 7) (v := ?vo_w20) (w1 := ((w17.setCell ⟨g422, 0, none⟩ (.int .i64 ((rd_T94 l0_1 x6_1).f0))).setCell ⟨g422, 1, none⟩ (.string ((rd_T94 l0_1 x6_1).f1)))) ?hg ?ho ?hn ?hr ?_; (case ho => rfl); (case hg => rfl); (case hn => rfl); (case hr => first | (go_simp; done) | (go_simp; rfl)); intro w20 hw; have n0_ : Aside0 (Kd.R Kd.string 9 w20 w.heap.size (fun _ => True) v419 x5_1) := ⟨(by rw [hw]; exact (by (with_reducible repeat first | apply RA | apply RN | apply RD); exact Kd.R_mono (Kd.R_far (p := ⟨g422, 1, none⟩) (Kd.R_far (p := ⟨g422, 0, none⟩) (Kd.R_types HO_5.out B422.out (by decide)) (fun _ hk => hk.2) (.int .i64 ((rd_T94 l0_1 x6_1).f0))) (fun _ hk => hk.2) (.string ((rd_T94 l0_1 x6_1).f1))) (fun _ hk => trivial)))⟩; have n1_ : Aside0 (w20.heap[g414]? = some (.cells #[.slice A0_0 l0_0.length c0_0, .slice (some ad421) l0_1.length c0_1, .int .i64 a0_2, .bool a0_3] 25 (0, 0))) := ⟨(by rw [hw]; exact (by (with_reducible repeat first | refine qN ?_ _ | refine qD ?_ | refine qA ?_ _); (iterate 2 (refine qR ?_ NB414_422.out _; (with_reducible repeat first | refine qN ?_ _ | refine qD ?_ | refine qA ?_ _))); exact B414.out))⟩; have n2_ : Aside0 (w20.heap[g422]? = some (.cells #[.int .i64 ((rd_T94 l0_1 x6_1).f0), .string ((rd_T94 l0_1 x6_1).f1)] 94 (0, 0))) := ⟨(by rw [hw]; exact (by (with_reducible repeat first | refine qN ?_ _ | refine qD ?_ | refine qA ?_ _); refine qP (cs := #[.int .i64 ((rd_T94 l0_1 x6_1).f0), .string (⟨#[]⟩ : ByteArray)]) ?_ 1 _ rfl; (with_reducible repeat first | refine qN ?_ _ | refine qD ?_ | refine qA ?_ _); refine qP (cs := #[.int .i64 0, .string (⟨#[]⟩ : ByteArray)]) ?_ 0 _ rfl; (with_reducible repeat first | refine qN ?_ _ | refine qD ?_ | refine qA ?_ _); exact B422.out))⟩; have n3_ : Aside0 (Below w.heap.size w w20) := ⟨(by rw [hw]; exact (by repeat (first | (with_reducible first | exact HB.out | apply eA | apply eN | apply eD | refine eU ?_ (by assumption)) | exact HB.out)))⟩; clear hw HO_5 B414 B422 HB; have HO_5 := n0_; have B414 := n1_; have B422 := n2_; have HB := n3_; clear n0_ n1_ n2_ n3_; have z21_0 : w20.cell? ⟨g422, 0, none⟩ = some (.int .i64 ((rd_T94 l0_1 x6_1).f0)) := (qC B422.out 0).trans rfl; have z21_1 : w20.cell? ⟨g422, 1, none⟩ = some (.string ((rd_T94 l0_1 x6_1).f1)) := (qC B422.out 1).trans rfl; have f21_0 := qF B422.out 0; have f21_1 := qF B422.out 1; obtain ⟨Ao22, co22, eo22⟩ := Kd.R_slice HO_5.out; subst eo22; have p15 : 0 ≤ (((rd_T94 l0_1 x6_1).f0) : Int) := of_decide_eq_true (by first | (with_reducible assumption) | assumption); have q15 : (((rd_T94 l0_1 x6_1).f0) : Int) < ((x5_1.length : Int) : Int) := of_decide_eq_true (by first | (with_reducible assumption) | assumption); obtain ⟨go15, co15, eo15, g15, gl15, cl15, HG15⟩ := Kd.R_form HO_5.out (by omega); (first | cases eo15 | (injection eo15 with ea_ en_ ec_; (first | subst ea_ | (injection ea_ with ea_; subst ea_)); subst ec_; clear en_)); have GB15 := qM g15; have GG15 := qM HG15; clear g15 gl15 HG15; obtain ⟨hx15_0, hf15_0⟩ := Kd.R_celln (⟨#[]⟩ : ByteArray) HO_5.out (((rd_T94 l0_1 x6_1).f0) : Int) p15 q15; replace p15 := eq_true p15; replace q15 := eq_true q15; obtain ⟨hy23_, hz23_⟩ := Kd.R_celln (⟨#[]⟩ : ByteArray) HO_5.out (((rd_T94 l0_1 x6_1).f0) : Int) (of_decide_eq_true (by first | (with_reducible assumption) | assumption)) (of_decide_eq_true (by first | (with_reducible assumption) | assumption)); have HP23 := Kd.R_putg HO_5.out (((rd_T94 l0_1 x6_1).f0) : Int) ((rd_T94 l0_1 x6_1).f1)) | ((with_reducible refine gate_store (t := 9) (p := 37) rfl ?_); refine store_event (t := 9) (p := 37) (v := ?vo_w24) (w1 := (w20.setCell ⟨go15, (((rd_T94 l0_1 x6_1).f0) : Int).toNat, none⟩ (.string ((rd_T94 l0_1 x6_1).f1)))) ?hg ?ho ?hn ?hr ?_; (case ho => rfl); (case hg => rfl); (case hn => rfl); (case hr => first | (go_simp; done) | (go_simp; rfl)); intro w24 hw; have hg : w20.grownBy w24 (some go15) := (by rw [hw]; exact HP23.2); have hp_ : Kd.R Kd.string 9 w24 w.heap.size (fun _ => True) (.slice (some ⟨go15, 0, none⟩) x5_1.length co22) y423 := (by rw [hw, Ny423.out]; exact HP23.1); clear HP23; have n0_ := qM (hp_); have n1_ := qM (blk_grown (g := g414) (o := .cells #[.slice A0_0 l0_0.length c0_0, .slice (some ad421) l0_1.length c0_1, .int .i64 a0_2, .bool a0_3] 25 (0, 0)) (by (with_reducible repeat first | refine qN ?_ _ | refine qD ?_ | refine qA ?_ _); exact B414.out) hg (Kd.R_ne HO_5.out B414.out (by decide))); have n2_ := qM (blk_grown (g := g422) (o := .cells #[.int .i64 ((rd_T94 l0_1 x6_1).f0), .string ((rd_T94 l0_1 x6_1).f1)] 94 (0, 0)) (by (with_reducible repeat first | refine qN ?_ _ | refine qD ?_ | refine qA ?_ _); exact B422.out) hg (Kd.R_ne HO_5.out B422.out (by decide))); have n3_ := qM ((by rw [hw]; exact below_set (HB.out) GB15.out : Below w.heap.size w w24)); clear HO_5 B414 B422 HB; have HO_5 := n0_; have B414 := n1_; have B422 := n2_; have HB := n3_; clear n0_ n1_ n2_ n3_; clear hg hw hp_))
          go_roundg k1
          case measure => have := HK1.out; omega
          case rel => exact ⟨(y423), (wrap64 (x6_1 + 1)), (by first | rfl | (simp; done) | (simp [*]; done)), H', ⟨by have := HK1.out; omega⟩, ⟨by (with_reducible repeat first | apply RA | apply RN | apply RD); exact HO_5.out⟩, ⟨by (with_reducible repeat first | refine qN ?_ _ | refine qD ?_ | refine qA ?_ _); exact B414.out⟩, ⟨by repeat (first | (with_reducible first | exact HB.out | apply eA | apply eN | apply eD | refine eS ?_ GE414.out | refine eS ?_ GE422.out) | exact HB.out)⟩⟩
         ·rw [if_neg c14] at H
          exact absurd H (by simp)
        ·rw [if_neg c13] at H
         have c13b0 : decide (((rd_T94 l0_1 x6_1).f0) < (x5_1.length : Int)) = false := decide_eq_false c13
         clear c13
         have H' := qM H
         clear H
         obtain ⟨z25_0, z25_1, z25_2, z25_3, f25_0, f25_1, f25_2, f25_3⟩ := cells4 B414.out
         have p421 : 0 ≤ (x6_1 : Int) := of_decide_eq_true (by first | (with_reducible assumption) | assumption)
         have q421 : x6_1 < (l0_1.length : Int) := of_decide_eq_true (by first | (with_reducible assumption) | assumption)
         obtain ⟨ad421, e421, hx421_0, hx421_1⟩ := at_T94 HR0_1.out x6_1 p421 q421
         cases e421
         replace hx421_0 := (HB.out.cell (World.block_lt_of_cell? w _ hx421_0)).trans hx421_0
         replace hx421_1 := (HB.out.cell (World.block_lt_of_cell? w _ hx421_1)).trans hx421_1
         replace p421 := eq_true p421
         replace q421 := eq_true q421
         go_wp2_with (first | ((with_reducible refine gate_dst (N := 7) rfl ?_); (try (refine gate_guard (by rfl) ?_; dsimp only)); refine box_event ?hg (N := 7) ?hd (cs := #[.int .i64 0, .string (⟨#[]⟩ : ByteArray)]) (t := 94) ?hr ?_; (case hd => rfl); (case hg => rfl); (case hr => first | (go_simp; done) | (go_simp; rfl)); intro g422 hg w26 hbox hb; have n0_ := qM (Kd.R_below (by (with_reducible repeat first | apply RA | apply RN | apply RD); exact HO_5.out) hb); have n1_ := qM (qB (g := g414) (by (with_reducible repeat first | refine qN ?_ _ | refine qD ?_ | refine qA ?_ _); exact B414.out) hb); have n2_ := qM (eT (by repeat (first | (with_reducible first | exact HB.out | apply eA | apply eN | apply eD | refine eU ?_ (by assumption)) | exact HB.out)) hb); have n3_ := qM (hbox); have n4_ := qM ((by rw [hg]; exact (eZ (by repeat (first | (with_reducible first | exact HB.out | apply eA | apply eN | apply eD | refine eU ?_ (by assumption)) | exact HB.out))) : w.heap.size ≤ g422)); have n5_ := n4_; have n6_ := qM ((by rw [hg]; exact Nat.ne_of_lt (qL (g := g414) (by (with_reducible repeat first | refine qN ?_ _ | refine qD ?_ | refine qA ?_ _); exact B414.out)) : g414 ≠ g422)); have n7_ := qM (Ne.symm n6_.out); clear HO_5 B414 HB; have HO_5 := n0_; have B414 := n1_; have HB := n2_; have B422 := n3_; have GW422 := n4_; have GE422 := n5_; have NB414_422 := n6_; have NB422_414 := n7_; clear n0_ n1_ n2_ n3_ n4_ n5_ n6_ n7_; clear hb hbox hg; have hnb27 := NB422_414.out; have hnc27 := NB414_422.out; have z28_0 : w26.cell? ⟨g422, 0, none⟩ = some (.int .i64 0) := (qC B422.out 0).trans rfl; have z28_1 : w26.cell? ⟨g422, 1, none⟩ = some (.string (⟨#[]⟩ : ByteArray)) := (qC B422.out 1).trans rfl; have f28_0 := qF B422.out 0; have f28_1 := qF B422.out 1; obtain ⟨Ao29, co29, eo29⟩ := Kd.R_slice HO_5.out; subst eo29))
         go_roundg k1
         case measure => have := HK1.out; omega
         case rel => exact ⟨(x5_1), (wrap64 (x6_1 + 1)), (by first | rfl | (simp; done) | (simp [*]; done)), H', ⟨by have := HK1.out; omega⟩, ⟨by (with_reducible repeat first | apply RA | apply RN | apply RD); exact Kd.R_mono (Kd.R_far (p := ⟨g422, 1, none⟩) (Kd.R_far (p := ⟨g422, 0, none⟩) (Kd.R_types HO_5.out B422.out (by decide)) (fun _ hk => hk.2) (.int .i64 ((rd_T94 l0_1 x6_1).f0))) (fun _ hk => hk.2) (.string ((rd_T94 l0_1 x6_1).f1))) (fun _ hk => trivial)⟩, ⟨by (with_reducible repeat first | refine qN ?_ _ | refine qD ?_ | refine qA ?_ _); (iterate 2 (refine qR ?_ NB414_422.out _; (with_reducible repeat first | refine qN ?_ _ | refine qD ?_ | refine qA ?_ _))); exact B414.out⟩, ⟨by repeat (first | (with_reducible first | exact HB.out | apply eA | apply eN | apply eD | refine eS ?_ GE414.out | refine eS ?_ GE422.out) | exact HB.out)⟩⟩
       ·rw [if_neg c12] at H
        have c12b0 : decide (0 ≤ ((rd_T94 l0_1 x6_1).f0)) = false := decide_eq_false c12
        clear c12
        have H' := qM H
        clear H
        obtain ⟨z30_0, z30_1, z30_2, z30_3, f30_0, f30_1, f30_2, f30_3⟩ := cells4 B414.out
        have p421 : 0 ≤ (x6_1 : Int) := of_decide_eq_true (by first | (with_reducible assumption) | assumption)
        have q421 : x6_1 < (l0_1.length : Int) := of_decide_eq_true (by first | (with_reducible assumption) | assumption)
        obtain ⟨ad421, e421, hx421_0, hx421_1⟩ := at_T94 HR0_1.out x6_1 p421 q421
        cases e421
        replace hx421_0 := (HB.out.cell (World.block_lt_of_cell? w _ hx421_0)).trans hx421_0
        replace hx421_1 := (HB.out.cell (World.block_lt_of_cell? w _ hx421_1)).trans hx421_1
        replace p421 := eq_true p421
        replace q421 := eq_true q421
        go_wp2_with (first | ((with_reducible refine gate_dst (N := 7) rfl ?_); (try (refine gate_guard (by rfl) ?_; dsimp only)); refine box_event ?hg (N := 7) ?hd (cs := #[.int .i64 0, .string (⟨#[]⟩ : ByteArray)]) (t := 94) ?hr ?_; (case hd => rfl); (case hg => rfl); (case hr => first | (go_simp; done) | (go_simp; rfl)); intro g422 hg w31 hbox hb; have n0_ := qM (Kd.R_below (by (with_reducible repeat first | apply RA | apply RN | apply RD); exact HO_5.out) hb); have n1_ := qM (qB (g := g414) (by (with_reducible repeat first | refine qN ?_ _ | refine qD ?_ | refine qA ?_ _); exact B414.out) hb); have n2_ := qM (eT (by repeat (first | (with_reducible first | exact HB.out | apply eA | apply eN | apply eD | refine eU ?_ (by assumption)) | exact HB.out)) hb); have n3_ := qM (hbox); have n4_ := qM ((by rw [hg]; exact (eZ (by repeat (first | (with_reducible first | exact HB.out | apply eA | apply eN | apply eD | refine eU ?_ (by assumption)) | exact HB.out))) : w.heap.size ≤ g422)); have n5_ := n4_; have n6_ := qM ((by rw [hg]; exact Nat.ne_of_lt (qL (g := g414) (by (with_reducible repeat first | refine qN ?_ _ | refine qD ?_ | refine qA ?_ _); exact B414.out)) : g414 ≠ g422)); have n7_ := qM (Ne.symm n6_.out); clear HO_5 B414 HB; have HO_5 := n0_; have B414 := n1_; have HB := n2_; have B422 := n3_; have GW422 := n4_; have GE422 := n5_; have NB414_422 := n6_; have NB422_414 := n7_; clear n0_ n1_ n2_ n3_ n4_ n5_ n6_ n7_; clear hb hbox hg; have hnb32 := NB422_414.out; have hnc32 := NB414_422.out; have z33_0 : w31.cell? ⟨g422, 0, none⟩ = some (.int .i64 0) := (qC B422.out 0).trans rfl; have z33_1 : w31.cell? ⟨g422, 1, none⟩ = some (.string (⟨#[]⟩ : ByteArray)) := (qC B422.out 1).trans rfl; have f33_0 := qF B422.out 0; have f33_1 := qF B422.out 1))
        go_roundg k1
        case measure => have := HK1.out; omega
        case rel => exact ⟨(x5_1), (wrap64 (x6_1 + 1)), (by first | rfl | (simp; done) | (simp [*]; done)), H', ⟨by have := HK1.out; omega⟩, ⟨by (with_reducible repeat first | apply RA | apply RN | apply RD); exact Kd.R_mono (Kd.R_far (p := ⟨g422, 1, none⟩) (Kd.R_far (p := ⟨g422, 0, none⟩) (Kd.R_types HO_5.out B422.out (by decide)) (fun _ hk => hk.2) (.int .i64 ((rd_T94 l0_1 x6_1).f0))) (fun _ hk => hk.2) (.string ((rd_T94 l0_1 x6_1).f1))) (fun _ hk => trivial)⟩, ⟨by (with_reducible repeat first | refine qN ?_ _ | refine qD ?_ | refine qA ?_ _); (iterate 2 (refine qR ?_ NB414_422.out _; (with_reducible repeat first | refine qN ?_ _ | refine qD ?_ | refine qA ?_ _))); exact B414.out⟩, ⟨by repeat (first | (with_reducible first | exact HB.out | apply eA | apply eN | apply eD | refine eS ?_ GE414.out | refine eS ?_ GE422.out) | exact HB.out)⟩⟩
      ·rw [if_neg c11] at H
       exact absurd H (by simp)
     ·rw [if_neg c10] at H
      exact absurd H (by simp)
    ·rw [if_neg c9] at H
     have c9b0 : decide (x6_1 < a1) = false := decide_eq_false c9
     clear c9
     obtain rfl := Option.some.inj H
     go_wp2
     go_ret
     exact ⟨_, by first | rfl | (simp [errW_none, errW_some] <;> rfl) | (simp [*, errW_none, errW_some] <;> rfl), by (with_reducible repeat first | apply RA | apply RN | apply RD); exact HO_5.out, by repeat (first | (with_reducible first | exact HB.out | apply eA | apply eN | apply eD | refine eS ?_ GE414.out) | exact HB.out)⟩
 ·rw [if_neg c3] at H
  exact absurd H (by simp)

end Go.Proofs.Ytffjbbedjddpmaa.PAll
