/- Functions of the program as plain Lean functions, and that each call comes to what they say. Laid by a program of this session (hprint.py); Lean checks it. -/
import Derived.Test.YtlfonfceaiiinaaPAllx0
namespace Go.Proofs.Ytlfonfceaiiinaa.PAll
open Go.RowKit Go.Proofs.YtlfonfceaiiinaaW.PrintWords Go.Proofs.YtlfonfceaiiinaaW.PrintLast Go.Proofs.YtlfonfceaiiinaaW.PrintMore
attribute [local go_sem] max2_int min2_int max_two min_two max_three min_three max_four min_four   -- for this text's walks alone
set_option linter.unusedVariables false
set_option linter.unusedSimpArgs false

/-! ### count_Sum: function 14 -/
def count_Sum.l0 : Nat → List (S29) → Int → Int → Int → Int → Int → Int → Option (Int × Int × Int × Int)
 | 0, _, _, _, _, _, _, _ => none
 | k + 1, x6, x7, x8, x103000, x103001, x103002, x103003 => if x8 < x7 then (if 0 ≤ x8 then (if x8 < (x6.length : Int) then (count_Sum.l0 k x6 x7 (wrap64 (x8 + 1)) (wrap64 (x103000 + ((rd_T29 x6 x8).f0))) (wrap64 (x103001 + ((rd_T29 x6 x8).f1))) (wrap64 (x103002 + ((rd_T29 x6 x8).f2))) (wrap64 (x103003 + ((rd_T29 x6 x8).f3)))) else (none)) else (none)) else (some (x103000, x103001, x103002, x103003))
def count_Sum.f (k : Nat) (l0 : List (S29)) : Option (Int × Int × Int × Int) := count_Sum.l0 k l0 (l0.length : Int) 0 0 0 0 0
theorem count_Sum.mono_l : ∀ k, (∀ y0 y1 y2 y3 y4 y5 y6, LeO (count_Sum.l0 k y0 y1 y2 y3 y4 y5 y6) (count_Sum.l0 (k + 1) y0 y1 y2 y3 y4 y5 y6))
 | 0 => fun _ _ _ _ _ _ _ r h => by simp [count_Sum.l0] at h
 | k + 1 => by
  have ih0 := count_Sum.mono_l k
  ·intro y0 y1 y2 y3 y4 y5 y6
   unfold count_Sum.l0
   repeat' first
   | (with_reducible exact ih0 _ _ _ _ _ _ _)
   | (with_reducible exact LeO.refl _)
   | (with_reducible exact LeO.none _)
   | (with_reducible refine LeO.ite ?_ ?_)
   | (with_reducible refine LeO.bind ?_ (fun _ => ?_))
   | exact ih0 _ _ _ _ _ _ _
   | exact LeO.none _
   | refine LeO.ite ?_ ?_
   | refine LeO.bind ?_ (fun _ => ?_)
theorem count_Sum.mono : ∀ a0 k, LeO (count_Sum.f k a0) (count_Sum.f (k + 1) a0) := by
 intro a0 k
 have ih0 := count_Sum.mono_l k
 unfold count_Sum.f
 repeat' first
   | (with_reducible exact ih0 _ _ _ _ _ _ _)
   | (with_reducible exact LeO.refl _)
   | (with_reducible exact LeO.none _)
   | (with_reducible refine LeO.ite ?_ ?_)
   | (with_reducible refine LeO.bind ?_ (fun _ => ?_))
   | exact ih0 _ _ _ _ _ _ _
   | exact LeO.none _
   | refine LeO.ite ?_ ?_
   | refine LeO.bind ?_ (fun _ => ?_)
set_option maxHeartbeats 40000000 in
set_option maxRecDepth 100000 in
theorem count_Sum.calls (k : Nat) (A0 : Option Addr) (c0 : Nat) (l0 : List (S29)) (r1 : Int) (r2 : Int) (r3 : Int) (r4 : Int) (w : World) (hr0 : Kd.C k29 w A0 l0.length l0) (hc0 : l0.length ≤ c0) (h : count_Sum.f k l0 = some (r1, r2, r3, r4)) :
  Calls Try.prog 14 #[.slice A0 l0.length c0] w fun e w' => e = .returned (.agg #[.int .i64 r1, .int .i64 r2, .int .i64 r3, .int .i64 r4]) ∧ Below w.heap.size w w' := by
 have hu29 := Try.underlying29
 have HR0 := qM hr0
 have HC0 := qM hc0
 clear hr0 hc0
 have HB := qM (Below.refl w.heap.size w)
 have H : (count_Sum.l0 k l0 (l0.length : Int) 0 0 0 0 0) = some (r1, r2, r3, r4) := h
 clear h
 have H' := qM H
 clear H
 go_enter Try.func14, Try.ntmps14
 go_wp2_with (first | ((with_reducible refine gate_dst (N := 2) rfl ?_); refine box_event ?hg (N := 2) ?hd (cs := #[.int .i64 0, .int .i64 0, .int .i64 0, .int .i64 0]) (t := 29) ?hr ?_; (case hd => rfl); (case hg => rfl); (case hr => first | (go_simp; done) | (go_simp; rfl)); intro g101 hg w2 hbox hb; have n0_ := qM (eT (by repeat (first | (with_reducible first | exact HB.out | apply eA | apply eN | apply eD) | exact HB.out)) hb); have n1_ := qM (hbox); have n2_ := qM ((by rw [hg]; exact (eZ (by repeat (first | (with_reducible first | exact HB.out | apply eA | apply eN | apply eD) | exact HB.out))) : w.heap.size ≤ g101)); have n3_ := n2_; clear HB; have HB := n0_; have B101 := n1_; have GW101 := n2_; have GE101 := n3_; clear n0_ n1_ n2_ n3_; clear hb hbox hg) | ((with_reducible refine gate_dst (N := 3) rfl ?_); refine box_event ?hg (N := 3) ?hd (cs := #[.int .i64 0, .int .i64 0, .int .i64 0, .int .i64 0]) (t := 29) ?hr ?_; (case hd => rfl); (case hg => rfl); (case hr => first | (go_simp; done) | (go_simp; rfl)); intro g102 hg w3 hbox hb; have n0_ := qM (qB (g := g101) (by (with_reducible repeat first | refine qN ?_ _ | refine qD ?_ | refine qA ?_ _); exact B101.out) hb); have n1_ := qM (eT (by repeat (first | (with_reducible first | exact HB.out | apply eA | apply eN | apply eD | refine eU ?_ (by assumption)) | exact HB.out)) hb); have n2_ := qM (hbox); have n3_ := qM ((by rw [hg]; exact (eZ (by repeat (first | (with_reducible first | exact HB.out | apply eA | apply eN | apply eD | refine eU ?_ (by assumption)) | exact HB.out))) : w.heap.size ≤ g102)); have n4_ := n3_; have n5_ := qM ((by rw [hg]; exact Nat.ne_of_lt (qL (g := g101) (by (with_reducible repeat first | refine qN ?_ _ | refine qD ?_ | refine qA ?_ _); exact B101.out)) : g101 ≠ g102)); have n6_ := qM (Ne.symm n5_.out); clear B101 HB; have B101 := n0_; have HB := n1_; have B102 := n2_; have GW102 := n3_; have GE102 := n4_; have NB101_102 := n5_; have NB102_101 := n6_; clear n0_ n1_ n2_ n3_ n4_ n5_ n6_; clear hb hbox hg))
 go_loopg [8] k (fun kq v8 w' => ∃ (x8_1 : Int) (x103000_1 : Int) (x103001_1 : Int) (x103002_1 : Int) (x103003_1 : Int), v8 = .int .i64 x8_1 ∧ Aside0 (count_Sum.l0 kq l0 (l0.length : Int) x8_1 x103000_1 x103001_1 x103002_1 x103003_1 = some (r1, r2, r3, r4)) ∧ Aside0 (kq ≤ k) ∧ Aside0 (w'.heap[g101]? = some (.cells #[.int .i64 0, .int .i64 0, .int .i64 0, .int .i64 0] 29 (0, 0))) ∧ Aside0 (w'.heap[g102]? = some (.cells #[.int .i64 x103000_1, .int .i64 x103001_1, .int .i64 x103002_1, .int .i64 x103003_1] 29 (0, 0))) ∧ Aside0 (Below w.heap.size w w'))
 case atStart => exact ⟨(0), (0), (0), (0), (0), (by first | rfl | (simp; done) | (simp [*]; done)), H', ⟨Nat.le_refl _⟩, ⟨by (with_reducible repeat first | refine qN ?_ _ | refine qD ?_ | refine qA ?_ _); exact B101.out⟩, ⟨by (with_reducible repeat first | refine qN ?_ _ | refine qD ?_ | refine qA ?_ _); exact B102.out⟩, ⟨by repeat (first | (with_reducible first | exact HB.out | apply eA | apply eN | apply eD | refine eS ?_ GE101.out | refine eS ?_ GE102.out) | exact HB.out)⟩⟩
 case round =>
  clear H'
  try clear c1
  try clear p2
  obtain ⟨x8_1, x103000_1, x103001_1, x103002_1, x103003_1, rfl, HA, HK1, B101, B102, HB⟩ := hrel
  cases gk with
  | zero => exact absurd HA.out (by simp [count_Sum.l0])
  | succ k1 =>
   have H := HA.out
   clear HA
   simp only [count_Sum.l0] at H
   by_cases c4 : x8_1 < (l0.length : Int)
   ·rw [if_pos c4] at H
    have c4b0 : decide (x8_1 < (l0.length : Int)) = true := decide_eq_true c4
    clear c4
    by_cases c5 : 0 ≤ x8_1
    ·rw [if_pos c5] at H
     have c5b0 : decide (0 ≤ x8_1) = true := decide_eq_true c5
     clear c5
     by_cases c6 : x8_1 < (l0.length : Int)
     ·rw [if_pos c6] at H
      have c6b0 : decide (x8_1 < (l0.length : Int)) = true := decide_eq_true c6
      clear c6
      have H' := qM H
      clear H
      have p103 : 0 ≤ (x8_1 : Int) := of_decide_eq_true (by first | (with_reducible assumption) | assumption)
      have q103 : x8_1 < (l0.length : Int) := of_decide_eq_true (by first | (with_reducible assumption) | assumption)
      obtain ⟨ad103, e103, hx103_0, hx103_1, hx103_2, hx103_3⟩ := at_T29 HR0.out x8_1 p103 q103
      cases e103
      replace hx103_0 := (HB.out.cell (World.block_lt_of_cell? w _ hx103_0)).trans hx103_0
      replace hx103_1 := (HB.out.cell (World.block_lt_of_cell? w _ hx103_1)).trans hx103_1
      replace hx103_2 := (HB.out.cell (World.block_lt_of_cell? w _ hx103_2)).trans hx103_2
      replace hx103_3 := (HB.out.cell (World.block_lt_of_cell? w _ hx103_3)).trans hx103_3
      replace p103 := eq_true p103
      replace q103 := eq_true q103
      go_wp2_with (first | ((with_reducible refine gate_dst (N := 5) rfl ?_); refine box_event ?hg (N := 5) ?hd (cs := #[.int .i64 0, .int .i64 0, .int .i64 0, .int .i64 0]) (t := 29) ?hr ?_; (case hd => rfl); (case hg => rfl); (case hr => first | (go_simp; done) | (go_simp; rfl)); intro g104 hg w7 hbox hb; have n0_ := qM (qB (g := g101) (by (with_reducible repeat first | refine qN ?_ _ | refine qD ?_ | refine qA ?_ _); exact B101.out) hb); have n1_ := qM (qB (g := g102) (by (with_reducible repeat first | refine qN ?_ _ | refine qD ?_ | refine qA ?_ _); exact B102.out) hb); have n2_ := qM (eT (by repeat (first | (with_reducible first | exact HB.out | apply eA | apply eN | apply eD | refine eU ?_ (by assumption)) | exact HB.out)) hb); have n3_ := qM (hbox); have n4_ := qM ((by rw [hg]; exact (eZ (by repeat (first | (with_reducible first | exact HB.out | apply eA | apply eN | apply eD | refine eU ?_ (by assumption)) | exact HB.out))) : w.heap.size ≤ g104)); have n5_ := n4_; have n6_ := qM ((by rw [hg]; exact Nat.ne_of_lt (qL (g := g101) (by (with_reducible repeat first | refine qN ?_ _ | refine qD ?_ | refine qA ?_ _); exact B101.out)) : g101 ≠ g104)); have n7_ := qM (Ne.symm n6_.out); have n8_ := qM ((by rw [hg]; exact Nat.ne_of_lt (qL (g := g102) (by (with_reducible repeat first | refine qN ?_ _ | refine qD ?_ | refine qA ?_ _); exact B102.out)) : g102 ≠ g104)); have n9_ := qM (Ne.symm n8_.out); clear B101 B102 HB; have B101 := n0_; have B102 := n1_; have HB := n2_; have B104 := n3_; have GW104 := n4_; have GE104 := n5_; have NB101_104 := n6_; have NB104_101 := n7_; have NB102_104 := n8_; have NB104_102 := n9_; clear n0_ n1_ n2_ n3_ n4_ n5_ n6_ n7_ n8_ n9_; clear hb hbox hg; have hnb8 := NB104_101.out; have hnc8 := NB101_104.out; have hnb9 := NB104_102.out; have hnc9 := NB102_104.out; obtain ⟨z10_0, z10_1, z10_2, z10_3, f10_0, f10_1, f10_2, f10_3⟩ := cells4 B104.out; have hnb11 := NB102_101.out; have hnc11 := NB101_102.out; obtain ⟨z12_0, z12_1, z12_2, z12_3, f12_0, f12_1, f12_2, f12_3⟩ := cells4 B102.out))
      go_roundg k1
      case measure => have := HK1.out; omega
      case rel => exact ⟨(wrap64 (x8_1 + 1)), (wrap64 (x103000_1 + ((rd_T29 l0 x8_1).f0))), (wrap64 (x103001_1 + ((rd_T29 l0 x8_1).f1))), (wrap64 (x103002_1 + ((rd_T29 l0 x8_1).f2))), (wrap64 (x103003_1 + ((rd_T29 l0 x8_1).f3))), (by first | rfl | (simp; done) | (simp [*]; done)), H', ⟨by have := HK1.out; omega⟩, ⟨by (with_reducible repeat first | refine qN ?_ _ | refine qD ?_ | refine qA ?_ _); (iterate 4 (refine qR ?_ NB101_102.out _; (with_reducible repeat first | refine qN ?_ _ | refine qD ?_ | refine qA ?_ _))); (iterate 4 (refine qR ?_ NB101_104.out _; (with_reducible repeat first | refine qN ?_ _ | refine qD ?_ | refine qA ?_ _))); exact B101.out⟩, ⟨by (with_reducible repeat first | refine qN ?_ _ | refine qD ?_ | refine qA ?_ _); apply puts4; (with_reducible repeat first | refine qN ?_ _ | refine qD ?_ | refine qA ?_ _); (iterate 4 (refine qR ?_ NB102_104.out _; (with_reducible repeat first | refine qN ?_ _ | refine qD ?_ | refine qA ?_ _))); exact B102.out⟩, ⟨by repeat (first | (with_reducible first | exact HB.out | apply eA | apply eN | apply eD | refine eS ?_ GE101.out | refine eS ?_ GE102.out | refine eS ?_ GE104.out) | exact HB.out)⟩⟩
     ·rw [if_neg c6] at H
      exact absurd H (by simp)
    ·rw [if_neg c5] at H
     exact absurd H (by simp)
   ·rw [if_neg c4] at H
    have c4b0 : decide (x8_1 < (l0.length : Int)) = false := decide_eq_false c4
    clear c4
    simp only [Option.some.injEq, Prod.mk.injEq] at H
    obtain ⟨rfl, rfl, rfl, rfl⟩ := H
    have hnb13 := NB102_101.out
    have hnc13 := NB101_102.out
    obtain ⟨z14_0, z14_1, z14_2, z14_3, f14_0, f14_1, f14_2, f14_3⟩ := cells4 B102.out
    obtain ⟨z15_0, z15_1, z15_2, z15_3, f15_0, f15_1, f15_2, f15_3⟩ := cells4 B101.out
    go_wp2
    refine bodyPost_ret (results_cell_row rfl _ _ g101 29 #[.int .i64 x103000_1, .int .i64 x103001_1, .int .i64 x103002_1, .int .i64 x103003_1] (0, 0) _ rfl (by (with_reducible repeat first | refine qN ?_ _ | refine qD ?_ | refine qA ?_ _); apply puts4; (with_reducible repeat first | refine qN ?_ _ | refine qD ?_ | refine qA ?_ _); exact B101.out) Try.underlying29 rfl (by kernel_rfl)) rfl ?_
    exact ⟨by first | rfl | (simp [errW_none, errW_some] <;> rfl) | (simp [*, errW_none, errW_some] <;> rfl), by repeat (first | (with_reducible first | exact HB.out | apply eA | apply eN | apply eD | refine eS ?_ GE101.out | refine eS ?_ GE102.out) | exact HB.out)⟩

end Go.Proofs.Ytlfonfceaiiinaa.PAll
