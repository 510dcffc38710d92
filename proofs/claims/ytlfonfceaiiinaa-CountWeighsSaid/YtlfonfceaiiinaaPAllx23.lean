/- Functions of the program as plain Lean functions, and that each call comes to what they say. Laid by a program of this session (hprint.py); Lean checks it. -/
import Derived.Test.YtlfonfceaiiinaaPAllx0
import Derived.Test.YtlfonfceaiiinaaPAllx21
namespace Go.Proofs.Ytlfonfceaiiinaa.PAll
open Go.RowKit Go.Proofs.YtlfonfceaiiinaaW.PrintWords Go.Proofs.YtlfonfceaiiinaaW.PrintLast Go.Proofs.YtlfonfceaiiinaaW.PrintMore
attribute [local go_sem] max2_int min2_int max_two min_two max_three min_three max_four min_four   -- for this text's walks alone
set_option linter.unusedVariables false
set_option linter.unusedSimpArgs false
attribute [local irreducible] World.setCell

/-! ### hogsheadref10_Find: function 25 -/
def hogsheadref10_Find.l0 : Nat → Int → List ByteArray → List (S102) → Int → Bool → Int → Int → Option (ByteArray × Int)
 | 0, _, _, _, _, _, _, _ => none
 | k + 1, x6, x234000, x234001, x234002, x234003, x235000, x235001 => if x6 < (x234000.length : Int) then ((hogsheadref10_at.f k x234000 x234001 x234002 x234003 x6).bind fun bt235 => (if bt235.2.2.2.1 = true then (if bt235.1 = x235000 then (if bt235.2.1 = x235001 then (some (bt235.2.2.1, 0)) else (hogsheadref10_Find.l0 k (wrap64 (x6 + 1)) x234000 x234001 x234002 x234003 x235000 x235001)) else (hogsheadref10_Find.l0 k (wrap64 (x6 + 1)) x234000 x234001 x234002 x234003 x235000 x235001)) else (hogsheadref10_Find.l0 k (wrap64 (x6 + 1)) x234000 x234001 x234002 x234003 x235000 x235001))) else (some ((⟨#[]⟩ : ByteArray), 7))
def hogsheadref10_Find.f (k : Nat) (l0_0 : List ByteArray) (l0_1 : List (S102)) (a0_2 : Int) (a0_3 : Bool) (a1_0 : Int) (a1_1 : Int) : Option (ByteArray × Int) := hogsheadref10_Find.l0 k 0 l0_0 l0_1 a0_2 a0_3 a1_0 a1_1
theorem hogsheadref10_Find.mono_l : ∀ k, (∀ y0 y1 y2 y3 y4 y5 y6, LeO (hogsheadref10_Find.l0 k y0 y1 y2 y3 y4 y5 y6) (hogsheadref10_Find.l0 (k + 1) y0 y1 y2 y3 y4 y5 y6))
 | 0 => fun _ _ _ _ _ _ _ r h => by simp [hogsheadref10_Find.l0] at h
 | k + 1 => by
  have ih0 := hogsheadref10_Find.mono_l k
  ·intro y0 y1 y2 y3 y4 y5 y6
   unfold hogsheadref10_Find.l0
   repeat' first
   | (with_reducible exact ih0 _ _ _ _ _ _ _)
   | (with_reducible exact hogsheadref10_at.mono _ _ _ _ _ _)
   | (with_reducible exact LeO.refl _)
   | (with_reducible exact LeO.none _)
   | (with_reducible refine LeO.ite ?_ ?_)
   | (with_reducible refine LeO.bind ?_ (fun _ => ?_))
   | exact ih0 _ _ _ _ _ _ _
   | exact hogsheadref10_at.mono _ _ _ _ _ _
   | exact LeO.none _
   | refine LeO.ite ?_ ?_
   | refine LeO.bind ?_ (fun _ => ?_)
theorem hogsheadref10_Find.mono : ∀ a0 a1 a2 a3 a4 a5 k, LeO (hogsheadref10_Find.f k a0 a1 a2 a3 a4 a5) (hogsheadref10_Find.f (k + 1) a0 a1 a2 a3 a4 a5) := by
 intro a0 a1 a2 a3 a4 a5 k
 have ih0 := hogsheadref10_Find.mono_l k
 unfold hogsheadref10_Find.f
 repeat' first
   | (with_reducible exact ih0 _ _ _ _ _ _ _)
   | (with_reducible exact hogsheadref10_at.mono _ _ _ _ _ _)
   | (with_reducible exact LeO.refl _)
   | (with_reducible exact LeO.none _)
   | (with_reducible refine LeO.ite ?_ ?_)
   | (with_reducible refine LeO.bind ?_ (fun _ => ?_))
   | exact ih0 _ _ _ _ _ _ _
   | exact hogsheadref10_at.mono _ _ _ _ _ _
   | exact LeO.none _
   | refine LeO.ite ?_ ?_
   | refine LeO.bind ?_ (fun _ => ?_)
set_option maxHeartbeats 40000000 in
set_option maxRecDepth 100000 in
theorem hogsheadref10_Find.calls (k : Nat) (A0_0 : Option Addr) (c0_0 : Nat) (l0_0 : List ByteArray) (A0_1 : Option Addr) (c0_1 : Nat) (l0_1 : List (S102)) (a0_2 : Int) (a0_3 : Bool) (a1_0 : Int) (a1_1 : Int) (r1 : ByteArray) (r2 : Int) (w : World) (hr0_0 : Kd.C Kd.string w A0_0 l0_0.length l0_0) (hc0_0 : l0_0.length ≤ c0_0) (hr0_1 : Kd.C k102 w A0_1 l0_1.length l0_1) (hc0_1 : l0_1.length ≤ c0_1) (h : hogsheadref10_Find.f k l0_0 l0_1 a0_2 a0_3 a1_0 a1_1 = some (r1, r2)) :
  Calls Try.prog 25 #[.agg #[.slice A0_0 l0_0.length c0_0, .slice A0_1 l0_1.length c0_1, .int .i64 a0_2, .bool a0_3], .agg #[.int .i64 a1_0, .int .i64 a1_1]] w fun e w' => e = .returned (.tuple #[.string r1, .int .i64 r2]) ∧ Below w.heap.size w w' := by
 have hu53 := Try.underlying53
 have hu70 := Try.underlying70
 have hu87 := Try.underlying87
 have HR0_0 := qM hr0_0
 have HC0_0 := qM hc0_0
 clear hr0_0 hc0_0
 have HR0_1 := qM hr0_1
 have HC0_1 := qM hc0_1
 clear hr0_1 hc0_1
 have HB := qM (Below.refl w.heap.size w)
 have H : (hogsheadref10_Find.l0 k 0 l0_0 l0_1 a0_2 a0_3 a1_0 a1_1) = some (r1, r2) := h
 clear h
 have H' := qM H
 clear H
 go_enter Try.func25, Try.ntmps25
 go_wp2_with (first | ((with_reducible refine gate_dst (N := 2) rfl ?_); refine box_event ?hg (N := 2) ?hd (cs := #[.slice A0_0 l0_0.length c0_0, .slice A0_1 l0_1.length c0_1, .int .i64 a0_2, .bool a0_3]) (t := 53) ?hr ?_; (case hd => rfl); (case hg => rfl); (case hr => first | (go_simp; done) | (go_simp; rfl)); intro g233 hg w3 hbox hb; have n0_ := qM (eT (by repeat (first | (with_reducible first | exact HB.out | apply eA | apply eN | apply eD) | exact HB.out)) hb); have n1_ := qM (hbox); have n2_ := qM ((by rw [hg]; exact (eZ (by repeat (first | (with_reducible first | exact HB.out | apply eA | apply eN | apply eD) | exact HB.out))) : w.heap.size ≤ g233)); have n3_ := n2_; clear HB; have HB := n0_; have B233 := n1_; have GW233 := n2_; have GE233 := n3_; clear n0_ n1_ n2_ n3_; clear hb hbox hg) | ((with_reducible refine gate_dst (N := 3) rfl ?_); refine box_event ?hg (N := 3) ?hd (cs := #[.int .i64 a1_0, .int .i64 a1_1]) (t := 70) ?hr ?_; (case hd => rfl); (case hg => rfl); (case hr => first | (go_simp; done) | (go_simp; rfl)); intro g234 hg w4 hbox hb; have n0_ := qM (qB (g := g233) (by (with_reducible repeat first | refine qN ?_ _ | refine qD ?_ | refine qA ?_ _); exact B233.out) hb); have n1_ := qM (eT (by repeat (first | (with_reducible first | exact HB.out | apply eA | apply eN | apply eD | refine eU ?_ (by assumption)) | exact HB.out)) hb); have n2_ := qM (hbox); have n3_ := qM ((by rw [hg]; exact (eZ (by repeat (first | (with_reducible first | exact HB.out | apply eA | apply eN | apply eD | refine eU ?_ (by assumption)) | exact HB.out))) : w.heap.size ≤ g234)); have n4_ := n3_; have n5_ := qM ((by rw [hg]; exact Nat.ne_of_lt (qL (g := g233) (by (with_reducible repeat first | refine qN ?_ _ | refine qD ?_ | refine qA ?_ _); exact B233.out)) : g233 ≠ g234)); have n6_ := qM (Ne.symm n5_.out); clear B233 HB; have B233 := n0_; have HB := n1_; have B234 := n2_; have GW234 := n3_; have GE234 := n4_; have NB233_234 := n5_; have NB234_233 := n6_; clear n0_ n1_ n2_ n3_ n4_ n5_ n6_; clear hb hbox hg))
 go_loopg [6] k (fun kq v6 w' => ∃ (x6_1 : Int), v6 = .int .i64 x6_1 ∧ Aside0 (hogsheadref10_Find.l0 kq x6_1 l0_0 l0_1 a0_2 a0_3 a1_0 a1_1 = some (r1, r2)) ∧ Aside0 (kq ≤ k) ∧ Aside0 (w'.heap[g233]? = some (.cells #[(.slice A0_0 l0_0.length c0_0), (.slice A0_1 l0_1.length c0_1), .int .i64 a0_2, .bool a0_3] 53 (0, 0))) ∧ Aside0 (w'.heap[g234]? = some (.cells #[.int .i64 a1_0, .int .i64 a1_1] 70 (0, 0))) ∧ Aside0 (Below w.heap.size w w'))
 case atStart => exact ⟨(0), (by first | rfl | (simp; done) | (simp [*]; done)), H', ⟨Nat.le_refl _⟩, ⟨by (with_reducible repeat first | refine qN ?_ _ | refine qD ?_ | refine qA ?_ _); exact B233.out⟩, ⟨by (with_reducible repeat first | refine qN ?_ _ | refine qD ?_ | refine qA ?_ _); exact B234.out⟩, ⟨by repeat (first | (with_reducible first | exact HB.out | apply eA | apply eN | apply eD | refine eS ?_ GE233.out | refine eS ?_ GE234.out) | exact HB.out)⟩⟩
 case round =>
  clear H'
  try clear c2
  try clear p2
  obtain ⟨x6_1, rfl, HA, HK1, B233, B234, HB⟩ := hrel
  cases gk with
  | zero => exact absurd HA.out (by simp [hogsheadref10_Find.l0])
  | succ k1 =>
   have H := HA.out
   clear HA
   simp only [hogsheadref10_Find.l0] at H
   by_cases c5 : x6_1 < (l0_0.length : Int)
   ·rw [if_pos c5] at H
    have c5b0 : decide (x6_1 < (l0_0.length : Int)) = true := decide_eq_true c5
    clear c5
    replace H := Option.bind_eq_some_iff.mp H
    obtain ⟨⟨t235, t236, t237, t238, t239⟩, A60, H⟩ := H
    replace H : (if t238 = true then (if t235 = a1_0 then (if t236 = a1_1 then (some (t237, 0)) else (hogsheadref10_Find.l0 k1 (wrap64 (x6_1 + 1)) l0_0 l0_1 a0_2 a0_3 a1_0 a1_1)) else (hogsheadref10_Find.l0 k1 (wrap64 (x6_1 + 1)) l0_0 l0_1 a0_2 a0_3 a1_0 a1_1)) else (hogsheadref10_Find.l0 k1 (wrap64 (x6_1 + 1)) l0_0 l0_1 a0_2 a0_3 a1_0 a1_1)) = some (r1, r2) := H
    have A6 := qM A60
    clear A60
    by_cases c7 : t238 = true
    ·subst c7
     have H1 : (if t235 = a1_0 then (if t236 = a1_1 then (some (t237, 0)) else (hogsheadref10_Find.l0 k1 (wrap64 (x6_1 + 1)) l0_0 l0_1 a0_2 a0_3 a1_0 a1_1)) else (hogsheadref10_Find.l0 k1 (wrap64 (x6_1 + 1)) l0_0 l0_1 a0_2 a0_3 a1_0 a1_1)) = some (r1, r2) := by rw [if_pos rfl] at H; exact H
     clear H
     have H := H1
     clear H1
     by_cases c8 : t235 = a1_0
     ·rw [if_pos c8] at H
      have c8b0 : (t235 == a1_0) = true := beq_iff_eq.mpr c8
      have c8b1 : (t235 != a1_0) = false := bne_eq_false_iff_eq.mpr c8
      clear c8
      by_cases c9 : t236 = a1_1
      ·rw [if_pos c9] at H
       have c9b0 : (t236 == a1_1) = true := beq_iff_eq.mpr c9
       have c9b1 : (t236 != a1_1) = false := bne_eq_false_iff_eq.mpr c9
       clear c9
       simp only [Option.some.injEq, Prod.mk.injEq] at H
       obtain ⟨rfl, rfl⟩ := H
       have hnb10 := NB233_234.out
       have hnc10 := NB234_233.out
       obtain ⟨z11_0, z11_1, z11_2, z11_3, f11_0, f11_1, f11_2, f11_3⟩ := cells4 B233.out
       go_wp2_with (first | ((with_reducible refine gate_callee (f := 36) rfl ?_); refine goesL_ (some 20) rfl rfl Try.func36 (by kernel_rfl) rfl #[.agg #[.slice A0_0 l0_0.length c0_0, .slice A0_1 l0_1.length c0_1, .int .i64 a0_2, .bool a0_3], .int .i64 x6_1] rfl (by (try simp only [List.map_toArray, List.map_cons, List.map_nil]); first | done | rfl | (simp only [List.length_drop, List.length_take]; rfl)) ?_; (with_reducible refine (hogsheadref10_at.calls k1 _ _ l0_0 _ _ l0_1 a0_2 a0_3 x6_1 t235 t236 t237 true t239 _ ?side1 ?side2 ?side3 ?side4 A6.out).mono ?_); (case side1 => repeat (first | exact (Kd.C_below HR0_0.out HB.out) | (with_reducible refine Kd.C_alloc ?_ _) | (with_reducible refine Kd.C_drewN ?_ _) | (with_reducible refine Kd.C_drew ?_))); (case side2 => exact HC0_0.out); (case side3 => repeat (first | exact (Kd.C_below HR0_1.out HB.out) | (with_reducible refine Kd.C_alloc ?_ _) | (with_reducible refine Kd.C_drewN ?_ _) | (with_reducible refine Kd.C_drew ?_))); (case side4 => exact HC0_1.out); rintro e w12 ⟨rfl, hb⟩; refine ⟨_, rfl, ?_⟩; have n0_ := qM (qB (g := g233) (by (with_reducible repeat first | refine qN ?_ _ | refine qD ?_ | refine qA ?_ _); exact B233.out) hb); have n1_ := qM (qB (g := g234) (by (with_reducible repeat first | refine qN ?_ _ | refine qD ?_ | refine qA ?_ _); exact B234.out) hb); have n2_ := qM (eT (by repeat (first | (with_reducible first | exact HB.out | apply eA | apply eN | apply eD | refine eU ?_ (by assumption)) | exact HB.out)) hb); clear B233 B234 HB; have B233 := n0_; have B234 := n1_; have HB := n2_; clear n0_ n1_ n2_; (try clear hb); (try clear hb2); (try clear hk); (try clear hi)) | ((with_reducible refine gate_dst (N := 7) rfl ?_); refine box_event ?hg (N := 7) ?hd (cs := #[.int .i64 0, .int .i64 0, .string (⟨#[]⟩ : ByteArray)]) (t := 87) ?hr ?_; (case hd => rfl); (case hg => rfl); (case hr => first | (go_simp; done) | (go_simp; rfl)); intro g240 hg w13 hbox hb; have n0_ := qM (qB (g := g233) (by (with_reducible repeat first | refine qN ?_ _ | refine qD ?_ | refine qA ?_ _); exact B233.out) hb); have n1_ := qM (qB (g := g234) (by (with_reducible repeat first | refine qN ?_ _ | refine qD ?_ | refine qA ?_ _); exact B234.out) hb); have n2_ := qM (eT (by repeat (first | (with_reducible first | exact HB.out | apply eA | apply eN | apply eD | refine eU ?_ (by assumption)) | exact HB.out)) hb); have n3_ := qM (hbox); have n4_ := qM ((by rw [hg]; exact (eZ (by repeat (first | (with_reducible first | exact HB.out | apply eA | apply eN | apply eD | refine eU ?_ (by assumption)) | exact HB.out))) : w.heap.size ≤ g240)); have n5_ := n4_; have n6_ := qM ((by rw [hg]; exact Nat.ne_of_lt (qL (g := g233) (by (with_reducible repeat first | refine qN ?_ _ | refine qD ?_ | refine qA ?_ _); exact B233.out)) : g233 ≠ g240)); have n7_ := qM (Ne.symm n6_.out); have n8_ := qM ((by rw [hg]; exact Nat.ne_of_lt (qL (g := g234) (by (with_reducible repeat first | refine qN ?_ _ | refine qD ?_ | refine qA ?_ _); exact B234.out)) : g234 ≠ g240)); have n9_ := qM (Ne.symm n8_.out); clear B233 B234 HB; have B233 := n0_; have B234 := n1_; have HB := n2_; have B240 := n3_; have GW240 := n4_; have GE240 := n5_; have NB233_240 := n6_; have NB240_233 := n7_; have NB234_240 := n8_; have NB240_234 := n9_; clear n0_ n1_ n2_ n3_ n4_ n5_ n6_ n7_ n8_ n9_; clear hb hbox hg; have hnb14 := NB240_233.out; have hnc14 := NB233_240.out; have hnb15 := NB240_234.out; have hnc15 := NB234_240.out; obtain ⟨z16_0, z16_1, z16_2, f16_0, f16_1, f16_2⟩ := cells3 B240.out; have z17_0 : w13.cell? ⟨g234, 0, none⟩ = some (.int .i64 a1_0) := (qC B234.out 0).trans rfl; have z17_1 : w13.cell? ⟨g234, 1, none⟩ = some (.int .i64 a1_1) := (qC B234.out 1).trans rfl; have f17_0 := qF B234.out 0; have f17_1 := qF B234.out 1))
       go_ret2
       exact ⟨by first | rfl | (simp [errW_none, errW_some] <;> rfl) | (simp [*, errW_none, errW_some] <;> rfl), by repeat (first | (with_reducible first | exact HB.out | apply eA | apply eN | apply eD | refine eS ?_ GE233.out | refine eS ?_ GE234.out | refine eS ?_ GE240.out) | exact HB.out)⟩
      ·rw [if_neg c9] at H
       have c9b0 : (t236 == a1_1) = false := beq_eq_false_iff_ne.mpr c9
       have c9b1 : (t236 != a1_1) = true := bne_iff_ne.mpr c9
       have H' := qM H
       clear H
       have hnb18 := NB233_234.out
       have hnc18 := NB234_233.out
       obtain ⟨z19_0, z19_1, z19_2, z19_3, f19_0, f19_1, f19_2, f19_3⟩ := cells4 B233.out
       go_wp2_with (first | ((with_reducible refine gate_callee (f := 36) rfl ?_); refine goesL_ (some 20) rfl rfl Try.func36 (by kernel_rfl) rfl #[.agg #[.slice A0_0 l0_0.length c0_0, .slice A0_1 l0_1.length c0_1, .int .i64 a0_2, .bool a0_3], .int .i64 x6_1] rfl (by (try simp only [List.map_toArray, List.map_cons, List.map_nil]); first | done | rfl | (simp only [List.length_drop, List.length_take]; rfl)) ?_; (with_reducible refine (hogsheadref10_at.calls k1 _ _ l0_0 _ _ l0_1 a0_2 a0_3 x6_1 t235 t236 t237 true t239 _ ?side1 ?side2 ?side3 ?side4 A6.out).mono ?_); (case side1 => repeat (first | exact (Kd.C_below HR0_0.out HB.out) | (with_reducible refine Kd.C_alloc ?_ _) | (with_reducible refine Kd.C_drewN ?_ _) | (with_reducible refine Kd.C_drew ?_))); (case side2 => exact HC0_0.out); (case side3 => repeat (first | exact (Kd.C_below HR0_1.out HB.out) | (with_reducible refine Kd.C_alloc ?_ _) | (with_reducible refine Kd.C_drewN ?_ _) | (with_reducible refine Kd.C_drew ?_))); (case side4 => exact HC0_1.out); rintro e w20 ⟨rfl, hb⟩; refine ⟨_, rfl, ?_⟩; have n0_ := qM (qB (g := g233) (by (with_reducible repeat first | refine qN ?_ _ | refine qD ?_ | refine qA ?_ _); exact B233.out) hb); have n1_ := qM (qB (g := g234) (by (with_reducible repeat first | refine qN ?_ _ | refine qD ?_ | refine qA ?_ _); exact B234.out) hb); have n2_ := qM (eT (by repeat (first | (with_reducible first | exact HB.out | apply eA | apply eN | apply eD | refine eU ?_ (by assumption)) | exact HB.out)) hb); clear B233 B234 HB; have B233 := n0_; have B234 := n1_; have HB := n2_; clear n0_ n1_ n2_; (try clear hb); (try clear hb2); (try clear hk); (try clear hi)) | ((with_reducible refine gate_dst (N := 7) rfl ?_); refine box_event ?hg (N := 7) ?hd (cs := #[.int .i64 0, .int .i64 0, .string (⟨#[]⟩ : ByteArray)]) (t := 87) ?hr ?_; (case hd => rfl); (case hg => rfl); (case hr => first | (go_simp; done) | (go_simp; rfl)); intro g240 hg w21 hbox hb; have n0_ := qM (qB (g := g233) (by (with_reducible repeat first | refine qN ?_ _ | refine qD ?_ | refine qA ?_ _); exact B233.out) hb); have n1_ := qM (qB (g := g234) (by (with_reducible repeat first | refine qN ?_ _ | refine qD ?_ | refine qA ?_ _); exact B234.out) hb); have n2_ := qM (eT (by repeat (first | (with_reducible first | exact HB.out | apply eA | apply eN | apply eD | refine eU ?_ (by assumption)) | exact HB.out)) hb); have n3_ := qM (hbox); have n4_ := qM ((by rw [hg]; exact (eZ (by repeat (first | (with_reducible first | exact HB.out | apply eA | apply eN | apply eD | refine eU ?_ (by assumption)) | exact HB.out))) : w.heap.size ≤ g240)); have n5_ := n4_; have n6_ := qM ((by rw [hg]; exact Nat.ne_of_lt (qL (g := g233) (by (with_reducible repeat first | refine qN ?_ _ | refine qD ?_ | refine qA ?_ _); exact B233.out)) : g233 ≠ g240)); have n7_ := qM (Ne.symm n6_.out); have n8_ := qM ((by rw [hg]; exact Nat.ne_of_lt (qL (g := g234) (by (with_reducible repeat first | refine qN ?_ _ | refine qD ?_ | refine qA ?_ _); exact B234.out)) : g234 ≠ g240)); have n9_ := qM (Ne.symm n8_.out); clear B233 B234 HB; have B233 := n0_; have B234 := n1_; have HB := n2_; have B240 := n3_; have GW240 := n4_; have GE240 := n5_; have NB233_240 := n6_; have NB240_233 := n7_; have NB234_240 := n8_; have NB240_234 := n9_; clear n0_ n1_ n2_ n3_ n4_ n5_ n6_ n7_ n8_ n9_; clear hb hbox hg; have hnb22 := NB240_233.out; have hnc22 := NB233_240.out; have hnb23 := NB240_234.out; have hnc23 := NB234_240.out; obtain ⟨z24_0, z24_1, z24_2, f24_0, f24_1, f24_2⟩ := cells3 B240.out; have z25_0 : w21.cell? ⟨g234, 0, none⟩ = some (.int .i64 a1_0) := (qC B234.out 0).trans rfl; have z25_1 : w21.cell? ⟨g234, 1, none⟩ = some (.int .i64 a1_1) := (qC B234.out 1).trans rfl; have f25_0 := qF B234.out 0; have f25_1 := qF B234.out 1))
       go_roundg k1
       case measure => have := HK1.out; omega
       case rel => exact ⟨(wrap64 (x6_1 + 1)), (by first | rfl | (simp; done) | (simp [*]; done)), H', ⟨by have := HK1.out; omega⟩, ⟨by (with_reducible repeat first | refine qN ?_ _ | refine qD ?_ | refine qA ?_ _); (iterate 3 (refine qR ?_ NB233_240.out _; (with_reducible repeat first | refine qN ?_ _ | refine qD ?_ | refine qA ?_ _))); exact B233.out⟩, ⟨by (with_reducible repeat first | refine qN ?_ _ | refine qD ?_ | refine qA ?_ _); (iterate 3 (refine qR ?_ NB234_240.out _; (with_reducible repeat first | refine qN ?_ _ | refine qD ?_ | refine qA ?_ _))); exact B234.out⟩, ⟨by repeat (first | (with_reducible first | exact HB.out | apply eA | apply eN | apply eD | refine eS ?_ GE233.out | refine eS ?_ GE234.out | refine eS ?_ GE240.out) | exact HB.out)⟩⟩
     ·rw [if_neg c8] at H
      have c8b0 : (t235 == a1_0) = false := beq_eq_false_iff_ne.mpr c8
      have c8b1 : (t235 != a1_0) = true := bne_iff_ne.mpr c8
      have H' := qM H
      clear H
      have hnb26 := NB233_234.out
      have hnc26 := NB234_233.out
      obtain ⟨z27_0, z27_1, z27_2, z27_3, f27_0, f27_1, f27_2, f27_3⟩ := cells4 B233.out
      go_wp2_with (first | ((with_reducible refine gate_callee (f := 36) rfl ?_); refine goesL_ (some 20) rfl rfl Try.func36 (by kernel_rfl) rfl #[.agg #[.slice A0_0 l0_0.length c0_0, .slice A0_1 l0_1.length c0_1, .int .i64 a0_2, .bool a0_3], .int .i64 x6_1] rfl (by (try simp only [List.map_toArray, List.map_cons, List.map_nil]); first | done | rfl | (simp only [List.length_drop, List.length_take]; rfl)) ?_; (with_reducible refine (hogsheadref10_at.calls k1 _ _ l0_0 _ _ l0_1 a0_2 a0_3 x6_1 t235 t236 t237 true t239 _ ?side1 ?side2 ?side3 ?side4 A6.out).mono ?_); (case side1 => repeat (first | exact (Kd.C_below HR0_0.out HB.out) | (with_reducible refine Kd.C_alloc ?_ _) | (with_reducible refine Kd.C_drewN ?_ _) | (with_reducible refine Kd.C_drew ?_))); (case side2 => exact HC0_0.out); (case side3 => repeat (first | exact (Kd.C_below HR0_1.out HB.out) | (with_reducible refine Kd.C_alloc ?_ _) | (with_reducible refine Kd.C_drewN ?_ _) | (with_reducible refine Kd.C_drew ?_))); (case side4 => exact HC0_1.out); rintro e w28 ⟨rfl, hb⟩; refine ⟨_, rfl, ?_⟩; have n0_ := qM (qB (g := g233) (by (with_reducible repeat first | refine qN ?_ _ | refine qD ?_ | refine qA ?_ _); exact B233.out) hb); have n1_ := qM (qB (g := g234) (by (with_reducible repeat first | refine qN ?_ _ | refine qD ?_ | refine qA ?_ _); exact B234.out) hb); have n2_ := qM (eT (by repeat (first | (with_reducible first | exact HB.out | apply eA | apply eN | apply eD | refine eU ?_ (by assumption)) | exact HB.out)) hb); clear B233 B234 HB; have B233 := n0_; have B234 := n1_; have HB := n2_; clear n0_ n1_ n2_; (try clear hb); (try clear hb2); (try clear hk); (try clear hi)) | ((with_reducible refine gate_dst (N := 7) rfl ?_); refine box_event ?hg (N := 7) ?hd (cs := #[.int .i64 0, .int .i64 0, .string (⟨#[]⟩ : ByteArray)]) (t := 87) ?hr ?_; (case hd => rfl); (case hg => rfl); (case hr => first | (go_simp; done) | (go_simp; rfl)); intro g240 hg w29 hbox hb; have n0_ := qM (qB (g := g233) (by (with_reducible repeat first | refine qN ?_ _ | refine qD ?_ | refine qA ?_ _); exact B233.out) hb); have n1_ := qM (qB (g := g234) (by (with_reducible repeat first | refine qN ?_ _ | refine qD ?_ | refine qA ?_ _); exact B234.out) hb); have n2_ := qM (eT (by repeat (first | (with_reducible first | exact HB.out | apply eA | apply eN | apply eD | refine eU ?_ (by assumption)) | exact HB.out)) hb); have n3_ := qM (hbox); have n4_ := qM ((by rw [hg]; exact (eZ (by repeat (first | (with_reducible first | exact HB.out | apply eA | apply eN | apply eD | refine eU ?_ (by assumption)) | exact HB.out))) : w.heap.size ≤ g240)); have n5_ := n4_; have n6_ := qM ((by rw [hg]; exact Nat.ne_of_lt (qL (g := g233) (by (with_reducible repeat first | refine qN ?_ _ | refine qD ?_ | refine qA ?_ _); exact B233.out)) : g233 ≠ g240)); have n7_ := qM (Ne.symm n6_.out); have n8_ := qM ((by rw [hg]; exact Nat.ne_of_lt (qL (g := g234) (by (with_reducible repeat first | refine qN ?_ _ | refine qD ?_ | refine qA ?_ _); exact B234.out)) : g234 ≠ g240)); have n9_ := qM (Ne.symm n8_.out); clear B233 B234 HB; have B233 := n0_; have B234 := n1_; have HB := n2_; have B240 := n3_; have GW240 := n4_; have GE240 := n5_; have NB233_240 := n6_; have NB240_233 := n7_; have NB234_240 := n8_; have NB240_234 := n9_; clear n0_ n1_ n2_ n3_ n4_ n5_ n6_ n7_ n8_ n9_; clear hb hbox hg; have hnb30 := NB240_233.out; have hnc30 := NB233_240.out; have hnb31 := NB240_234.out; have hnc31 := NB234_240.out; obtain ⟨z32_0, z32_1, z32_2, f32_0, f32_1, f32_2⟩ := cells3 B240.out; have z33_0 : w29.cell? ⟨g234, 0, none⟩ = some (.int .i64 a1_0) := (qC B234.out 0).trans rfl; have z33_1 : w29.cell? ⟨g234, 1, none⟩ = some (.int .i64 a1_1) := (qC B234.out 1).trans rfl; have f33_0 := qF B234.out 0; have f33_1 := qF B234.out 1))
      go_roundg k1
      case measure => have := HK1.out; omega
      case rel => exact ⟨(wrap64 (x6_1 + 1)), (by first | rfl | (simp; done) | (simp [*]; done)), H', ⟨by have := HK1.out; omega⟩, ⟨by (with_reducible repeat first | refine qN ?_ _ | refine qD ?_ | refine qA ?_ _); (iterate 3 (refine qR ?_ NB233_240.out _; (with_reducible repeat first | refine qN ?_ _ | refine qD ?_ | refine qA ?_ _))); exact B233.out⟩, ⟨by (with_reducible repeat first | refine qN ?_ _ | refine qD ?_ | refine qA ?_ _); (iterate 3 (refine qR ?_ NB234_240.out _; (with_reducible repeat first | refine qN ?_ _ | refine qD ?_ | refine qA ?_ _))); exact B234.out⟩, ⟨by repeat (first | (with_reducible first | exact HB.out | apply eA | apply eN | apply eD | refine eS ?_ GE233.out | refine eS ?_ GE234.out | refine eS ?_ GE240.out) | exact HB.out)⟩⟩
    ·replace c7 := Bool.eq_false_iff.mpr c7
     subst c7
     have H1 : (hogsheadref10_Find.l0 k1 (wrap64 (x6_1 + 1)) l0_0 l0_1 a0_2 a0_3 a1_0 a1_1) = some (r1, r2) := by rw [if_neg (show ¬ (false = true) by decide)] at H; exact H
     clear H
     have H := H1
     clear H1
     have H' := qM H
     clear H
     have hnb34 := NB233_234.out
     have hnc34 := NB234_233.out
     obtain ⟨z35_0, z35_1, z35_2, z35_3, f35_0, f35_1, f35_2, f35_3⟩ := cells4 B233.out
     go_wp2_with (first | ((with_reducible refine gate_callee (f := 36) rfl ?_); refine goesL_ (some 20) rfl rfl Try.func36 (by kernel_rfl) rfl #[.agg #[.slice A0_0 l0_0.length c0_0, .slice A0_1 l0_1.length c0_1, .int .i64 a0_2, .bool a0_3], .int .i64 x6_1] rfl (by (try simp only [List.map_toArray, List.map_cons, List.map_nil]); first | done | rfl | (simp only [List.length_drop, List.length_take]; rfl)) ?_; (with_reducible refine (hogsheadref10_at.calls k1 _ _ l0_0 _ _ l0_1 a0_2 a0_3 x6_1 t235 t236 t237 false t239 _ ?side1 ?side2 ?side3 ?side4 A6.out).mono ?_); (case side1 => repeat (first | exact (Kd.C_below HR0_0.out HB.out) | (with_reducible refine Kd.C_alloc ?_ _) | (with_reducible refine Kd.C_drewN ?_ _) | (with_reducible refine Kd.C_drew ?_))); (case side2 => exact HC0_0.out); (case side3 => repeat (first | exact (Kd.C_below HR0_1.out HB.out) | (with_reducible refine Kd.C_alloc ?_ _) | (with_reducible refine Kd.C_drewN ?_ _) | (with_reducible refine Kd.C_drew ?_))); (case side4 => exact HC0_1.out); rintro e w36 ⟨rfl, hb⟩; refine ⟨_, rfl, ?_⟩; have n0_ := qM (qB (g := g233) (by (with_reducible repeat first | refine qN ?_ _ | refine qD ?_ | refine qA ?_ _); exact B233.out) hb); have n1_ := qM (qB (g := g234) (by (with_reducible repeat first | refine qN ?_ _ | refine qD ?_ | refine qA ?_ _); exact B234.out) hb); have n2_ := qM (eT (by repeat (first | (with_reducible first | exact HB.out | apply eA | apply eN | apply eD | refine eU ?_ (by assumption)) | exact HB.out)) hb); clear B233 B234 HB; have B233 := n0_; have B234 := n1_; have HB := n2_; clear n0_ n1_ n2_; (try clear hb); (try clear hb2); (try clear hk); (try clear hi)) | ((with_reducible refine gate_dst (N := 7) rfl ?_); refine box_event ?hg (N := 7) ?hd (cs := #[.int .i64 0, .int .i64 0, .string (⟨#[]⟩ : ByteArray)]) (t := 87) ?hr ?_; (case hd => rfl); (case hg => rfl); (case hr => first | (go_simp; done) | (go_simp; rfl)); intro g240 hg w37 hbox hb; have n0_ := qM (qB (g := g233) (by (with_reducible repeat first | refine qN ?_ _ | refine qD ?_ | refine qA ?_ _); exact B233.out) hb); have n1_ := qM (qB (g := g234) (by (with_reducible repeat first | refine qN ?_ _ | refine qD ?_ | refine qA ?_ _); exact B234.out) hb); have n2_ := qM (eT (by repeat (first | (with_reducible first | exact HB.out | apply eA | apply eN | apply eD | refine eU ?_ (by assumption)) | exact HB.out)) hb); have n3_ := qM (hbox); have n4_ := qM ((by rw [hg]; exact (eZ (by repeat (first | (with_reducible first | exact HB.out | apply eA | apply eN | apply eD | refine eU ?_ (by assumption)) | exact HB.out))) : w.heap.size ≤ g240)); have n5_ := n4_; have n6_ := qM ((by rw [hg]; exact Nat.ne_of_lt (qL (g := g233) (by (with_reducible repeat first | refine qN ?_ _ | refine qD ?_ | refine qA ?_ _); exact B233.out)) : g233 ≠ g240)); have n7_ := qM (Ne.symm n6_.out); have n8_ := qM ((by rw [hg]; exact Nat.ne_of_lt (qL (g := g234) (by (with_reducible repeat first | refine qN ?_ _ | refine qD ?_ | refine qA ?_ _); exact B234.out)) : g234 ≠ g240)); have n9_ := qM (Ne.symm n8_.out); clear B233 B234 HB; have B233 := n0_; have B234 := n1_; have HB := n2_; have B240 := n3_; have GW240 := n4_; have GE240 := n5_; have NB233_240 := n6_; have NB240_233 := n7_; have NB234_240 := n8_; have NB240_234 := n9_; clear n0_ n1_ n2_ n3_ n4_ n5_ n6_ n7_ n8_ n9_; clear hb hbox hg; have hnb38 := NB240_233.out; have hnc38 := NB233_240.out; have hnb39 := NB240_234.out; have hnc39 := NB234_240.out; obtain ⟨z40_0, z40_1, z40_2, f40_0, f40_1, f40_2⟩ := cells3 B240.out))
     go_roundg k1
     case measure => have := HK1.out; omega
     case rel => exact ⟨(wrap64 (x6_1 + 1)), (by first | rfl | (simp; done) | (simp [*]; done)), H', ⟨by have := HK1.out; omega⟩, ⟨by (with_reducible repeat first | refine qN ?_ _ | refine qD ?_ | refine qA ?_ _); (iterate 3 (refine qR ?_ NB233_240.out _; (with_reducible repeat first | refine qN ?_ _ | refine qD ?_ | refine qA ?_ _))); exact B233.out⟩, ⟨by (with_reducible repeat first | refine qN ?_ _ | refine qD ?_ | refine qA ?_ _); (iterate 3 (refine qR ?_ NB234_240.out _; (with_reducible repeat first | refine qN ?_ _ | refine qD ?_ | refine qA ?_ _))); exact B234.out⟩, ⟨by repeat (first | (with_reducible first | exact HB.out | apply eA | apply eN | apply eD | refine eS ?_ GE233.out | refine eS ?_ GE234.out | refine eS ?_ GE240.out) | exact HB.out)⟩⟩
   ·rw [if_neg c5] at H
    have c5b0 : decide (x6_1 < (l0_0.length : Int)) = false := decide_eq_false c5
    clear c5
    simp only [Option.some.injEq, Prod.mk.injEq] at H
    obtain ⟨rfl, rfl⟩ := H
    have hnb41 := NB233_234.out
    have hnc41 := NB234_233.out
    obtain ⟨z42_0, z42_1, z42_2, z42_3, f42_0, f42_1, f42_2, f42_3⟩ := cells4 B233.out
    go_wp2
    go_ret2
    exact ⟨by first | rfl | (simp [errW_none, errW_some] <;> rfl) | (simp [*, errW_none, errW_some] <;> rfl), by repeat (first | (with_reducible first | exact HB.out | apply eA | apply eN | apply eD | refine eS ?_ GE233.out | refine eS ?_ GE234.out) | exact HB.out)⟩

end Go.Proofs.Ytlfonfceaiiinaa.PAll
