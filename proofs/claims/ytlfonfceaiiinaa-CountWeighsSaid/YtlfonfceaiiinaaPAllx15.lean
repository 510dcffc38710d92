/- Functions of the program as plain Lean functions, and that each call comes to what they say. Laid by a program of this session (hprint.py); Lean checks it. -/
import Derived.Test.YtlfonfceaiiinaaPAllx0
import Derived.Test.YtlfonfceaiiinaaPAllx3
import Derived.Test.YtlfonfceaiiinaaPAllx13
import Derived.Test.YtlfonfceaiiinaaPAllx14
namespace Go.Proofs.Ytlfonfceaiiinaa.PAll
open Go.RowKit Go.Proofs.YtlfonfceaiiinaaW.PrintWords Go.Proofs.YtlfonfceaiiinaaW.PrintLast Go.Proofs.YtlfonfceaiiinaaW.PrintMore
attribute [local go_sem] max2_int min2_int max_two min_two max_three min_three max_four min_four   -- for this text's walks alone
set_option linter.unusedVariables false
set_option linter.unusedSimpArgs false
attribute [local irreducible] World.setCell

/-! ### count_Weigh: function 15 -/
def count_Weigh.l0 : Nat → List (S70) → Int → Int → List ByteArray → List (S102) → Int → Bool → Int → Int → Int → Int → Option (Int × Int × Int × Int)
 | 0, _, _, _, _, _, _, _, _, _, _, _ => none
 | k + 1, x4, x11, x12, x164000, x164001, x164002, x164003, x166000, x166001, x166002, x166003 => if x12 < x11 then (if 0 ≤ x12 then (if x12 < (x4.length : Int) then ((shelf_Find.f k x164000 x164001 x164002 x164003 ((rd_T70 x4 x12).f0) ((rd_T70 x4 x12).f1)).bind fun bt170 => (if ((rd_T70 x4 x12).f1) < 100 then ((count_Sum.f k (([(⟨x166000, x166001, x166002, x166003⟩ : S29), (⟨1, (bt170.1.size : Int), 0, 0⟩ : S29)] : List (S29)))).bind fun bt176 => (count_Weigh.l0 k x4 x11 (wrap64 (x12 + 1)) x164000 x164001 x164002 x164003 bt176.1 bt176.2.1 bt176.2.2.1 bt176.2.2.2)) else ((count_Sum.f k (([(⟨x166000, x166001, x166002, x166003⟩ : S29), (⟨0, 0, 1, (bt170.1.size : Int)⟩ : S29)] : List (S29)))).bind fun bt183 => (count_Weigh.l0 k x4 x11 (wrap64 (x12 + 1)) x164000 x164001 x164002 x164003 bt183.1 bt183.2.1 bt183.2.2.1 bt183.2.2.2)))) else (none)) else (none)) else (some (x166000, x166001, x166002, x166003))
def count_Weigh.f (k : Nat) (l0_0 : List ByteArray) (l0_1 : List (S102)) (a0_2 : Int) (a0_3 : Bool) : Option (Int × Int × Int × Int) := (shelf_List.f k l0_0 l0_1 a0_2 a0_3).bind fun t166 => (count_Weigh.l0 k t166 (t166.length : Int) 0 l0_0 l0_1 a0_2 a0_3 0 0 0 0)
theorem count_Weigh.mono_l : ∀ k, (∀ y0 y1 y2 y3 y4 y5 y6 y7 y8 y9 y10, LeO (count_Weigh.l0 k y0 y1 y2 y3 y4 y5 y6 y7 y8 y9 y10) (count_Weigh.l0 (k + 1) y0 y1 y2 y3 y4 y5 y6 y7 y8 y9 y10))
 | 0 => fun _ _ _ _ _ _ _ _ _ _ _ r h => by simp [count_Weigh.l0] at h
 | k + 1 => by
  have ih0 := count_Weigh.mono_l k
  ·intro y0 y1 y2 y3 y4 y5 y6 y7 y8 y9 y10
   unfold count_Weigh.l0
   repeat' first
   | (with_reducible exact ih0 _ _ _ _ _ _ _ _ _ _ _)
   | (with_reducible exact count_Sum.mono _ _)
   | (with_reducible exact shelf_Find.mono _ _ _ _ _ _ _)
   | (with_reducible exact shelf_List.mono _ _ _ _ _)
   | (with_reducible exact LeO.refl _)
   | (with_reducible exact LeO.none _)
   | (with_reducible refine LeO.ite ?_ ?_)
   | (with_reducible refine LeO.bind ?_ (fun _ => ?_))
   | exact ih0 _ _ _ _ _ _ _ _ _ _ _
   | exact count_Sum.mono _ _
   | exact shelf_Find.mono _ _ _ _ _ _ _
   | exact shelf_List.mono _ _ _ _ _
   | exact LeO.none _
   | refine LeO.ite ?_ ?_
   | refine LeO.bind ?_ (fun _ => ?_)
theorem count_Weigh.mono : ∀ a0 a1 a2 a3 k, LeO (count_Weigh.f k a0 a1 a2 a3) (count_Weigh.f (k + 1) a0 a1 a2 a3) := by
 intro a0 a1 a2 a3 k
 have ih0 := count_Weigh.mono_l k
 unfold count_Weigh.f
 repeat' first
   | (with_reducible exact ih0 _ _ _ _ _ _ _ _ _ _ _)
   | (with_reducible exact count_Sum.mono _ _)
   | (with_reducible exact shelf_Find.mono _ _ _ _ _ _ _)
   | (with_reducible exact shelf_List.mono _ _ _ _ _)
   | (with_reducible exact LeO.refl _)
   | (with_reducible exact LeO.none _)
   | (with_reducible refine LeO.ite ?_ ?_)
   | (with_reducible refine LeO.bind ?_ (fun _ => ?_))
   | exact ih0 _ _ _ _ _ _ _ _ _ _ _
   | exact count_Sum.mono _ _
   | exact shelf_Find.mono _ _ _ _ _ _ _
   | exact shelf_List.mono _ _ _ _ _
   | exact LeO.none _
   | refine LeO.ite ?_ ?_
   | refine LeO.bind ?_ (fun _ => ?_)
def count_Weigh.T6 : Bool × List (List Nat × List Nat) := (true, [([], []), ([], []), ([], []), ([1, 2], [1, 2]), ([3], [3]), ([0, 4], [0, 4]), ([5], [5]), ([6], [6]), ([6], [6]), ([7, 5, 0, 1, 2, 3, 4, 5, 6, 7], [7]), ([8, 9, 0, 1, 2, 3, 4, 5, 6, 7, 8, 9], [8])])
def count_Weigh.B6 : List Nat := [0, 0, 0, 6, 14, 31, 63, 127, 127, 255, 1023]
theorem count_Weigh.tab6 : rtab .any (opsOf Try.f15 6) = count_Weigh.T6 := by kernel_rfl
theorem count_Weigh.bits6 : waitsOk count_Weigh.T6.2 count_Weigh.B6 = true := by kernel_rfl
set_option maxHeartbeats 40000000 in
set_option maxRecDepth 100000 in
theorem count_Weigh.calls (k : Nat) (A0_0 : Option Addr) (c0_0 : Nat) (l0_0 : List ByteArray) (A0_1 : Option Addr) (c0_1 : Nat) (l0_1 : List (S102)) (a0_2 : Int) (a0_3 : Bool) (r1 : Int) (r2 : Int) (r3 : Int) (r4 : Int) (w : World) (hr0_0 : Kd.C Kd.string w A0_0 l0_0.length l0_0) (hc0_0 : l0_0.length ≤ c0_0) (hr0_1 : Kd.C k102 w A0_1 l0_1.length l0_1) (hc0_1 : l0_1.length ≤ c0_1) (h : count_Weigh.f k l0_0 l0_1 a0_2 a0_3 = some (r1, r2, r3, r4)) :
  Calls Try.prog 15 #[.agg #[.slice A0_0 l0_0.length c0_0, .slice A0_1 l0_1.length c0_1, .int .i64 a0_2, .bool a0_3]] w fun e w' => e = .returned (.agg #[.int .i64 r1, .int .i64 r2, .int .i64 r3, .int .i64 r4]) ∧ Below w.heap.size w w' := by
 have hu53 := Try.underlying53
 have hu29 := Try.underlying29
 have hu70 := Try.underlying70
 have HR0_0 := qM hr0_0
 have HC0_0 := qM hc0_0
 clear hr0_0 hc0_0
 have HR0_1 := qM hr0_1
 have HC0_1 := qM hc0_1
 clear hr0_1 hc0_1
 have HB := qM (Below.refl w.heap.size w)
 have H : ((shelf_List.f k l0_0 l0_1 a0_2 a0_3).bind fun t166 => (count_Weigh.l0 k t166 (t166.length : Int) 0 l0_0 l0_1 a0_2 a0_3 0 0 0 0)) = some (r1, r2, r3, r4) := h
 clear h
 replace H := Option.bind_eq_some_iff.mp H
 obtain ⟨t166, A20, H⟩ := H
 replace H : (count_Weigh.l0 k t166 (t166.length : Int) 0 l0_0 l0_1 a0_2 a0_3 0 0 0 0) = some (r1, r2, r3, r4) := H
 have A2 := qM A20
 clear A20
 have H' := qM H
 clear H
 go_enter Try.func15, Try.ntmps15
 go_wp2_with (first | ((with_reducible refine gate_dst (N := 1) rfl ?_); refine box_event ?hg (N := 1) ?hd (cs := #[.slice A0_0 l0_0.length c0_0, .slice A0_1 l0_1.length c0_1, .int .i64 a0_2, .bool a0_3]) (t := 53) ?hr ?_; (case hd => rfl); (case hg => rfl); (case hr => first | (go_simp; done) | (go_simp; rfl)); intro g163 hg w3 hbox hb; have n0_ := qM (eT (by repeat (first | (with_reducible first | exact HB.out | apply eA | apply eN | apply eD) | exact HB.out)) hb); have n1_ := qM (hbox); have n2_ := qM ((by rw [hg]; exact (eZ (by repeat (first | (with_reducible first | exact HB.out | apply eA | apply eN | apply eD) | exact HB.out))) : w.heap.size ≤ g163)); have n3_ := n2_; clear HB; have HB := n0_; have B163 := n1_; have GW163 := n2_; have GE163 := n3_; clear n0_ n1_ n2_ n3_; clear hb hbox hg) | ((with_reducible refine gate_dst (N := 2) rfl ?_); refine box_event ?hg (N := 2) ?hd (cs := #[.int .i64 0, .int .i64 0, .int .i64 0, .int .i64 0]) (t := 29) ?hr ?_; (case hd => rfl); (case hg => rfl); (case hr => first | (go_simp; done) | (go_simp; rfl)); intro g164 hg w4 hbox hb; have n0_ := qM (qB (g := g163) (by (with_reducible repeat first | refine qN ?_ _ | refine qD ?_ | refine qA ?_ _); exact B163.out) hb); have n1_ := qM (eT (by repeat (first | (with_reducible first | exact HB.out | apply eA | apply eN | apply eD | refine eU ?_ (by assumption)) | exact HB.out)) hb); have n2_ := qM (hbox); have n3_ := qM ((by rw [hg]; exact (eZ (by repeat (first | (with_reducible first | exact HB.out | apply eA | apply eN | apply eD | refine eU ?_ (by assumption)) | exact HB.out))) : w.heap.size ≤ g164)); have n4_ := n3_; have n5_ := qM ((by rw [hg]; exact Nat.ne_of_lt (qL (g := g163) (by (with_reducible repeat first | refine qN ?_ _ | refine qD ?_ | refine qA ?_ _); exact B163.out)) : g163 ≠ g164)); have n6_ := qM (Ne.symm n5_.out); clear B163 HB; have B163 := n0_; have HB := n1_; have B164 := n2_; have GW164 := n3_; have GE164 := n4_; have NB163_164 := n5_; have NB164_163 := n6_; clear n0_ n1_ n2_ n3_ n4_ n5_ n6_; clear hb hbox hg) | ((with_reducible refine gate_dst (N := 3) rfl ?_); refine box_event ?hg (N := 3) ?hd (cs := #[.int .i64 0, .int .i64 0, .int .i64 0, .int .i64 0]) (t := 29) ?hr ?_; (case hd => rfl); (case hg => rfl); (case hr => first | (go_simp; done) | (go_simp; rfl)); intro g165 hg w5 hbox hb; have n0_ := qM (qB (g := g163) (by (with_reducible repeat first | refine qN ?_ _ | refine qD ?_ | refine qA ?_ _); exact B163.out) hb); have n1_ := qM (qB (g := g164) (by (with_reducible repeat first | refine qN ?_ _ | refine qD ?_ | refine qA ?_ _); exact B164.out) hb); have n2_ := qM (eT (by repeat (first | (with_reducible first | exact HB.out | apply eA | apply eN | apply eD | refine eU ?_ (by assumption)) | exact HB.out)) hb); have n3_ := qM (hbox); have n4_ := qM ((by rw [hg]; exact (eZ (by repeat (first | (with_reducible first | exact HB.out | apply eA | apply eN | apply eD | refine eU ?_ (by assumption)) | exact HB.out))) : w.heap.size ≤ g165)); have n5_ := n4_; have n6_ := qM ((by rw [hg]; exact Nat.ne_of_lt (qL (g := g163) (by (with_reducible repeat first | refine qN ?_ _ | refine qD ?_ | refine qA ?_ _); exact B163.out)) : g163 ≠ g165)); have n7_ := qM (Ne.symm n6_.out); have n8_ := qM ((by rw [hg]; exact Nat.ne_of_lt (qL (g := g164) (by (with_reducible repeat first | refine qN ?_ _ | refine qD ?_ | refine qA ?_ _); exact B164.out)) : g164 ≠ g165)); have n9_ := qM (Ne.symm n8_.out); clear B163 B164 HB; have B163 := n0_; have B164 := n1_; have HB := n2_; have B165 := n3_; have GW165 := n4_; have GE165 := n5_; have NB163_165 := n6_; have NB165_163 := n7_; have NB164_165 := n8_; have NB165_164 := n9_; clear n0_ n1_ n2_ n3_ n4_ n5_ n6_ n7_ n8_ n9_; clear hb hbox hg; have hnb6 := NB163_164.out; have hnc6 := NB164_163.out; have hnb7 := NB163_165.out; have hnc7 := NB165_163.out; obtain ⟨z8_0, z8_1, z8_2, z8_3, f8_0, f8_1, f8_2, f8_3⟩ := cells4 B163.out) | ((with_reducible refine gate_callee (f := 22) rfl ?_); refine goesL_ (some 9) rfl rfl Try.func22 (by kernel_rfl) rfl #[.agg #[.slice A0_0 l0_0.length c0_0, .slice A0_1 l0_1.length c0_1, .int .i64 a0_2, .bool a0_3]] rfl (by (try simp only [List.map_toArray, List.map_cons, List.map_nil]); first | done | rfl | (simp only [List.length_drop, List.length_take]; rfl)) ?_; (with_reducible refine (shelf_List.calls k _ _ l0_0 _ _ l0_1 a0_2 a0_3 t166 _ ?side1 ?side2 ?side3 ?side4 A2.out).mono ?_); (case side1 => repeat (first | exact (Kd.C_below HR0_0.out HB.out) | (with_reducible refine Kd.C_alloc ?_ _) | (with_reducible refine Kd.C_drewN ?_ _) | (with_reducible refine Kd.C_drew ?_))); (case side2 => exact HC0_0.out); (case side3 => repeat (first | exact (Kd.C_below HR0_1.out HB.out) | (with_reducible refine Kd.C_alloc ?_ _) | (with_reducible refine Kd.C_drewN ?_ _) | (with_reducible refine Kd.C_drew ?_))); (case side4 => exact HC0_1.out); rintro e w9 ⟨v167, rfl, ho0, hb⟩; refine ⟨_, rfl, ?_⟩; have n0_ := qM (Kd.R_lower ho0 (eZ (by repeat (first | (with_reducible first | exact HB.out | apply eA | apply eN | apply eD | refine eU ?_ (by assumption)) | exact HB.out)))); have n1_ := qM (qB (g := g163) (by (with_reducible repeat first | refine qN ?_ _ | refine qD ?_ | refine qA ?_ _); exact B163.out) hb); have n2_ := qM (qB (g := g164) (by (with_reducible repeat first | refine qN ?_ _ | refine qD ?_ | refine qA ?_ _); exact B164.out) hb); have n3_ := qM (qB (g := g165) (by (with_reducible repeat first | refine qN ?_ _ | refine qD ?_ | refine qA ?_ _); exact B165.out) hb); have n4_ := qM (eT (by repeat (first | (with_reducible first | exact HB.out | apply eA | apply eN | apply eD | refine eU ?_ (by assumption)) | exact HB.out)) hb); clear B163 B164 B165 HB; have HO168 := n0_; have B163 := n1_; have B164 := n2_; have B165 := n3_; have HB := n4_; clear n0_ n1_ n2_ n3_ n4_; (try clear hb); (try clear hb2); (try clear hk); (try clear hi); (try clear ho0); obtain ⟨Ao10, co10, eo10⟩ := Kd.R_slice HO168.out; subst eo10))
 go_loopg [12] k (fun kq v12 w' => ∃ (x12_1 : Int) (x166000_1 : Int) (x166001_1 : Int) (x166002_1 : Int) (x166003_1 : Int), v12 = .int .i64 x12_1 ∧ Aside0 (count_Weigh.l0 kq t166 (t166.length : Int) x12_1 l0_0 l0_1 a0_2 a0_3 x166000_1 x166001_1 x166002_1 x166003_1 = some (r1, r2, r3, r4)) ∧ Aside0 (kq ≤ k) ∧ Aside0 (Kd.R k70 70 w' w.heap.size (fun _ => True) (.slice Ao10 t166.length co10) t166) ∧ Aside0 (w'.heap[g163]? = some (.cells #[(.slice A0_0 l0_0.length c0_0), (.slice A0_1 l0_1.length c0_1), .int .i64 a0_2, .bool a0_3] 53 (0, 0))) ∧ Aside0 (w'.heap[g164]? = some (.cells #[.int .i64 0, .int .i64 0, .int .i64 0, .int .i64 0] 29 (0, 0))) ∧ Aside0 (w'.heap[g165]? = some (.cells #[.int .i64 x166000_1, .int .i64 x166001_1, .int .i64 x166002_1, .int .i64 x166003_1] 29 (0, 0))) ∧ Aside0 (Below w.heap.size w w'))
 case atStart => exact ⟨(0), (0), (0), (0), (0), (by first | rfl | (simp; done) | (simp [*]; done)), H', ⟨Nat.le_refl _⟩, ⟨by (with_reducible repeat first | apply RA | apply RN | apply RD); exact HO168.out⟩, ⟨by (with_reducible repeat first | refine qN ?_ _ | refine qD ?_ | refine qA ?_ _); exact B163.out⟩, ⟨by (with_reducible repeat first | refine qN ?_ _ | refine qD ?_ | refine qA ?_ _); exact B164.out⟩, ⟨by (with_reducible repeat first | refine qN ?_ _ | refine qD ?_ | refine qA ?_ _); exact B165.out⟩, ⟨by repeat (first | (with_reducible first | exact HB.out | apply eA | apply eN | apply eD | refine eS ?_ GE163.out | refine eS ?_ GE164.out | refine eS ?_ GE165.out) | exact HB.out)⟩⟩
 case round =>
  clear H'
  try clear c1
  try clear c2
  try clear p2
  try clear c6
  try clear c7
  try clear z8_0
  try clear z8_1
  try clear z8_2
  try clear z8_3
  try clear f8_0
  try clear f8_1
  try clear f8_2
  try clear f8_3
  obtain ⟨x12_1, x166000_1, x166001_1, x166002_1, x166003_1, rfl, HA, HK1, HO_4, B163, B164, B165, HB⟩ := hrel
  cases gk with
  | zero => exact absurd HA.out (by simp [count_Weigh.l0])
  | succ k1 =>
   have H := HA.out
   clear HA
   simp only [count_Weigh.l0] at H
   by_cases c11 : x12_1 < (t166.length : Int)
   ·rw [if_pos c11] at H
    have c11b0 : decide (x12_1 < (t166.length : Int)) = true := decide_eq_true c11
    clear c11
    by_cases c12 : 0 ≤ x12_1
    ·rw [if_pos c12] at H
     have c12b0 : decide (0 ≤ x12_1) = true := decide_eq_true c12
     clear c12
     by_cases c13 : x12_1 < (t166.length : Int)
     ·rw [if_pos c13] at H
      have c13b0 : decide (x12_1 < (t166.length : Int)) = true := decide_eq_true c13
      clear c13
      replace H := Option.bind_eq_some_iff.mp H
      obtain ⟨⟨t170, t171⟩, A140, H⟩ := H
      replace H : (if ((rd_T70 t166 x12_1).f1) < 100 then ((count_Sum.f k1 (([(⟨x166000_1, x166001_1, x166002_1, x166003_1⟩ : S29), (⟨1, (t170.size : Int), 0, 0⟩ : S29)] : List (S29)))).bind fun bt176 => (count_Weigh.l0 k1 t166 (t166.length : Int) (wrap64 (x12_1 + 1)) l0_0 l0_1 a0_2 a0_3 bt176.1 bt176.2.1 bt176.2.2.1 bt176.2.2.2)) else ((count_Sum.f k1 (([(⟨x166000_1, x166001_1, x166002_1, x166003_1⟩ : S29), (⟨0, 0, 1, (t170.size : Int)⟩ : S29)] : List (S29)))).bind fun bt183 => (count_Weigh.l0 k1 t166 (t166.length : Int) (wrap64 (x12_1 + 1)) l0_0 l0_1 a0_2 a0_3 bt183.1 bt183.2.1 bt183.2.2.1 bt183.2.2.2))) = some (r1, r2, r3, r4) := H
      have A14 := qM A140
      clear A140
      by_cases c15 : ((rd_T70 t166 x12_1).f1) < 100
      ·rw [if_pos c15] at H
       have c15b0 : decide (((rd_T70 t166 x12_1).f1) < 100) = true := decide_eq_true c15
       clear c15
       obtain ⟨y173, hy173⟩ : ∃ y_ : List (S29), y_ = (([(⟨x166000_1, x166001_1, x166002_1, x166003_1⟩ : S29), (⟨1, (t170.size : Int), 0, 0⟩ : S29)] : List (S29))) := ⟨_, rfl⟩
       replace H : ((count_Sum.f k1 y173).bind fun bt176 => (count_Weigh.l0 k1 t166 (t166.length : Int) (wrap64 (x12_1 + 1)) l0_0 l0_1 a0_2 a0_3 bt176.1 bt176.2.1 bt176.2.2.1 bt176.2.2.2)) = some (r1, r2, r3, r4) := by first | (rw [hy173]; with_reducible exact H) | (have H2_ := (Option.bind_some _ _).symm.trans H; rw [hy173]; with_reducible exact H2_) | (have H2_ := (Option.bind_some _ _).symm.trans H; with_reducible exact H2_) | with_reducible exact H | (rw [hy173]; exact H) | exact H
       have Ny173 := qM hy173
       clear hy173
       replace H := Option.bind_eq_some_iff.mp H
       obtain ⟨⟨t176, t177, t178, t179⟩, A160, H⟩ := H
       replace H : (count_Weigh.l0 k1 t166 (t166.length : Int) (wrap64 (x12_1 + 1)) l0_0 l0_1 a0_2 a0_3 t176 t177 t178 t179) = some (r1, r2, r3, r4) := H
       have A16 := qM A160
       clear A160
       have H' := qM H
       clear H
       try go_wp2
       have n0_ := qM (Kd.R_drew HO_4.out)
       have n1_ := qM (blk_drew B163.out)
       have n2_ := qM (blk_drew B164.out)
       have n3_ := qM (blk_drew B165.out)
       have n4_ := qM (below_drew1 HB.out)
       clear HO_4
       clear B163
       clear B164
       clear B165
       clear HB
       have HO_4 := n0_
       have B163 := n1_
       have B164 := n2_
       have B165 := n3_
       have HB := n4_
       clear n0_ n1_ n2_ n3_ n4_
       have p169 : 0 ≤ (x12_1 : Int) := of_decide_eq_true (by first | (with_reducible assumption) | assumption)
       have q169 : x12_1 < (t166.length : Int) := of_decide_eq_true (by first | (with_reducible assumption) | assumption)
       obtain ⟨ad169, e169, hx169_0, hx169_1⟩ := at_T70 (Kd.R_reads' HO_4.out).2.2 x12_1 p169 q169
       cases e169
       replace p169 := eq_true p169
       replace q169 := eq_true q169
       refine start_ (n := 11) (S := fun w' => w'.cell? ⟨g163, 0, none⟩ = some (.slice A0_0 l0_0.length c0_0) ∧ w'.cell? ⟨g163, 1, none⟩ = some (.slice A0_1 l0_1.length c0_1) ∧ w'.cell? ⟨g163, 2, none⟩ = some (.int .i64 a0_2) ∧ w'.cell? ⟨g163, 3, none⟩ = some (.bool a0_3) ∧ w'.cell? (ad169.add ((x12_1).toNat * 2)) = some (.int .i64 ((rd_T70 t166 x12_1).f0)) ∧ w'.cell? ⟨(ad169.add ((x12_1).toNat * 2)).block, (ad169.add ((x12_1).toNat * 2)).off + 1, none⟩ = some (.int .i64 ((rd_T70 t166 x12_1).f1))) (ds := []) #[false, false, false, false, false, false, false, false, false, false, false] (by kernel_rfl) rfl rfl ⟨(qC B163.out 0).trans rfl, (qC B163.out 1).trans rfl, (qC B163.out 2).trans rfl, (qC B163.out 3).trans rfl, hx169_0, hx169_1⟩ (fun hHeld => ?_); refine with_tabW count_Weigh.tab6 count_Weigh.bits6 (fun HT_ HW_ => ?_)
       generalize wr.drew = w17 at HO_4 B163 B164 B165 HB hx169_0 hx169_1 hHeld ⊢
       refine pure_ (i := 1) (N := some 17) (v := ?_) (a' := ?_) #[false, true, false, false, false, false, false, false, false, false, false] rfl rfl (any_of HT_.out (by kernel_rfl)) (fun _ _ _ h => h) (Or.inl ⟨by rfl, ?_⟩) ?_ ?_
       rotate_left
       ·intro w'; go_simp; with_reducible rfl
       rotate_left
       ·simp only [Act.put, xA, xZ, xS, i64_w, i32_w]; rfl
       refine pure_ (i := 2) (N := some 18) (v := ?_) (a' := ?_) #[false, true, true, false, false, false, false, false, false, false, false] rfl rfl (any_of HT_.out (by kernel_rfl)) (fun _ _ _ h => h) (Or.inl ⟨by rfl, ?_⟩) ?_ ?_
       rotate_left
       ·intro w'; go_simp; with_reducible rfl
       rotate_left
       ·simp only [Act.put, xA, xZ, xS, i64_w, i32_w]; rfl
       refine pure_ (i := 3) (N := some 19) (v := ?_) (a' := ?_) #[false, true, true, true, false, false, false, false, false, false, false] rfl rfl (any_of HT_.out (by kernel_rfl)) (fun _ _ _ h => h) (Or.inl ⟨by rfl, ?_⟩) ?_ ?_
       rotate_left
       ·intro w'; go_simp; with_reducible rfl
       rotate_left
       ·simp only [Act.put, xA, xZ, xS, i64_w, i32_w]; rfl
       refine take_ (i := 0) (N := some 16) (v := ?_) (a' := ?_) #[true, true, true, true, false, false, false, false, false, false, false] rfl rfl (take_ofW HT_.out HW_.out (by kernel_rfl)) (fun _ _ _ h => h) (Or.inl ⟨by rfl, ?_⟩) hHeld ?_ ?_
       rotate_left
       ·rintro w' ⟨s0, s1, s2, s3, s4, s5⟩; go_simp; with_reducible rfl
       rotate_left
       ·simp only [Act.put, xA, xZ, xS, i64_w, i32_w]; rfl
       refine take_ (i := 4) (N := some 20) (v := ?_) (a' := ?_) #[true, true, true, true, true, false, false, false, false, false, false] rfl rfl (take_ofW HT_.out HW_.out (by kernel_rfl)) (fun _ _ _ h => h) (Or.inl ⟨by rfl, ?_⟩) hHeld ?_ ?_
       rotate_left
       ·rintro w' ⟨s0, s1, s2, s3, s4, s5⟩; go_simp; with_reducible rfl
       rotate_left
       ·simp only [Act.put, xA, xZ, xS, i64_w, i32_w]; rfl
       refine one_ (i := 5) (N := some 21) #[true, true, true, true, true, true, false, false, false, false, false] rfl rfl (one_of HT_.out (by kernel_rfl)) (by decide) (fun K hK => ?_)
       refine goes_ Try.func23 (by kernel_rfl) rfl #[.agg #[.slice A0_0 l0_0.length c0_0, .slice A0_1 l0_1.length c0_1, .int .i64 a0_2, .bool a0_3], .agg #[.int .i64 ((rd_T70 t166 x12_1).f0), .int .i64 ((rd_T70 t166 x12_1).f1)]] (by rfl) rfl rfl (by (try simp only [List.map_toArray, List.map_cons, List.map_nil]); first | done | rfl | (simp only [List.length_drop, List.length_take]; rfl)) ?_
       with_reducible refine (shelf_Find.calls k1 _ _ l0_0 _ _ l0_1 a0_2 a0_3 ((rd_T70 t166 x12_1).f0) ((rd_T70 t166 x12_1).f1) t170 t171 _ ?side1 ?side2 ?side3 ?side4 A14.out).mono ?_
       (case side1 => repeat (first | exact (Kd.C_below HR0_0.out HB.out) | (with_reducible refine Kd.C_alloc ?_ _) | (with_reducible refine Kd.C_drewN ?_ _) | (with_reducible refine Kd.C_drew ?_)))
       (case side2 => exact HC0_0.out)
       (case side3 => repeat (first | exact (Kd.C_below HR0_1.out HB.out) | (with_reducible refine Kd.C_alloc ?_ _) | (with_reducible refine Kd.C_drewN ?_ _) | (with_reducible refine Kd.C_drew ?_)))
       (case side4 => exact HC0_1.out)
       rintro e w18 ⟨rfl, hb⟩
       have HS4_ := (hb.cell (World.block_lt_of_cell? _ _ (hHeld.2.2.2.2.1))).trans (hHeld.2.2.2.2.1)
       have HS5_ := (hb.cell (World.block_lt_of_cell? _ _ (hHeld.2.2.2.2.2))).trans (hHeld.2.2.2.2.2)
       refine ⟨_, rfl, ?_⟩
       have n0_ := qM (Kd.R_below (by (with_reducible repeat first | apply RA | apply RN | apply RD); exact HO_4.out) hb)
       have n1_ := qM (qB (g := g163) (by (with_reducible repeat first | refine qN ?_ _ | refine qD ?_ | refine qA ?_ _); exact B163.out) hb)
       have n2_ := qM (qB (g := g164) (by (with_reducible repeat first | refine qN ?_ _ | refine qD ?_ | refine qA ?_ _); exact B164.out) hb)
       have n3_ := qM (qB (g := g165) (by (with_reducible repeat first | refine qN ?_ _ | refine qD ?_ | refine qA ?_ _); exact B165.out) hb)
       have n4_ := qM (eT (by repeat (first | (with_reducible first | exact HB.out | apply eA | apply eN | apply eD | refine eU ?_ (by assumption)) | exact HB.out)) hb)
       clear HO_4
       clear B163
       clear B164
       clear B165
       clear HB
       have HO_4 := n0_
       have B163 := n1_
       have B164 := n2_
       have B165 := n3_
       have HB := n4_
       clear n0_ n1_ n2_ n3_ n4_
       (try clear hb)
       (try clear hb2)
       (try clear hk)
       (try clear hi)
       refine hK.out _ _ ⟨(qC B163.out 0).trans rfl, (qC B163.out 1).trans rfl, (qC B163.out 2).trans rfl, (qC B163.out 3).trans rfl, HS4_, HS5_⟩ (fun hHeld => ?_)
       clear hK K
       refine norm_ (a' := ?_) ?_ ?_
       rotate_left
       ·show Act.put _ (some 21) _ = _
        simp only [Act.put, xA, xZ, xS, i64_w, i32_w]
        rfl
       refine pure_ (i := 6) (N := some 15) (v := ?_) (a' := ?_) #[true, true, true, true, true, true, true, false, false, false, false] rfl rfl (any_of HT_.out (by kernel_rfl)) (fun _ _ _ h => h) (Or.inl ⟨by rfl, ?_⟩) ?_ ?_
       rotate_left
       ·intro w'; go_simp; with_reducible rfl
       rotate_left
       ·simp only [Act.put, xA, xZ, xS, i64_w, i32_w]; rfl
       refine pure_ (i := 7) (N := some 22) (v := ?_) (a' := ?_) #[true, true, true, true, true, true, true, true, false, false, false] rfl rfl (any_of HT_.out (by kernel_rfl)) (fun _ _ _ h => h) (Or.inl ⟨by rfl, ?_⟩) ?_ ?_
       rotate_left
       ·intro w'; go_simp; with_reducible rfl
       rotate_left
       ·simp only [Act.put, xA, xZ, xS, i64_w, i32_w]; rfl
       refine pure_ (i := 8) (N := some 23) (v := ?_) (a' := ?_) #[true, true, true, true, true, true, true, true, true, false, false] rfl rfl (any_of HT_.out (by kernel_rfl)) (fun _ _ _ h => h) (Or.inl ⟨by rfl, ?_⟩) ?_ ?_
       rotate_left
       ·intro w'; go_simp; with_reducible rfl
       rotate_left
       ·simp only [Act.put, xA, xZ, xS, i64_w, i32_w]; rfl
       refine pure_ (i := 9) (N := some 6) (v := ?_) (a' := ?_) #[true, true, true, true, true, true, true, true, true, true, false] rfl rfl (any_of HT_.out (by kernel_rfl)) (fun _ _ _ h => h) (Or.inl ⟨by rfl, ?_⟩) ?_ ?_
       rotate_left
       ·intro w'; go_simp; with_reducible rfl
       rotate_left
       ·simp only [Act.put, xA, xZ, xS, i64_w, i32_w]; rfl
       refine pure_ (i := 10) (N := some 7) (v := ?_) (a' := ?_) #[true, true, true, true, true, true, true, true, true, true, true] rfl rfl (any_of HT_.out (by kernel_rfl)) (fun _ _ _ h => h) (Or.inl ⟨by rfl, ?_⟩) ?_ ?_
       rotate_left
       ·intro w'; go_simp; with_reducible rfl
       rotate_left
       ·simp only [Act.put, xA, xZ, xS, i64_w, i32_w]; rfl
       refine done_ (done_of HT_.out (by kernel_rfl)) ?_
       have p172 : 0 ≤ (x12_1 : Int) := of_decide_eq_true (by first | (with_reducible assumption) | assumption)
       have q172 : x12_1 < (t166.length : Int) := of_decide_eq_true (by first | (with_reducible assumption) | assumption)
       obtain ⟨ad172, e172, hx172_0, hx172_1⟩ := at_T70 (Kd.R_reads' HO_4.out).2.2 x12_1 p172 q172
       obtain rfl : ad169 = ad172 := (by injection e172)
       replace p172 := eq_true p172
       replace q172 := eq_true q172
       have hnb19 := NB165_163.out
       have hnc19 := NB163_165.out
       have hnb20 := NB165_164.out
       have hnc20 := NB164_165.out
       obtain ⟨z21_0, z21_1, z21_2, z21_3, f21_0, f21_1, f21_2, f21_3⟩ := cells4 B165.out
       try go_wp2_with (first | ((with_reducible refine gate_dst (N := 34) rfl ?_); refine Kd.R_lit k29 _ 29 ?hg (N := 34) ?hd (xs := ([(⟨x166000_1, x166001_1, x166002_1, x166003_1⟩ : S29), (⟨1, (t170.size : Int), 0, 0⟩ : S29)] : List (S29))) (inner := [.int .i64 x166000_1, .int .i64 x166001_1, .int .i64 x166002_1, .int .i64 x166003_1, .int .i64 1, .int .i64 (t170.size : Int), .int .i64 0, .int .i64 0]) (ok := fun _ => True) (okp := fun _ => True) ?hr ?hp (fun _ hk => hk) trivial (Below.refl _ _) (Nat.le_refl _) (by simp) ?_; (case hd => rfl); (case hg => rfl); (case hr => first | (go_simp; done) | (go_simp; rfl)); (case hp => exact (Reps.c4 (show Kd.M k29 _ _ _ (⟨x166000_1, x166001_1, x166002_1, x166003_1⟩ : S29) [.int .i64 x166000_1, .int .i64 x166001_1, .int .i64 x166002_1, .int .i64 x166003_1] from (k29_mkM _ _ _ (⟨x166000_1, x166001_1, x166002_1, x166003_1⟩ : S29) )) (Reps.c4 (show Kd.M k29 _ _ _ (⟨1, (t170.size : Int), 0, 0⟩ : S29) [.int .i64 1, .int .i64 (t170.size : Int), .int .i64 0, .int .i64 0] from (k29_mkM _ _ _ (⟨1, (t170.size : Int), 0, 0⟩ : S29) )) (Reps.none _ _)))); intro v174 w22 ho23 hb hg_ hnew_; clear hg_ hnew_; (first | rw [← Ny173.out] at ho23 | (simp only [Int.reduceToNat] at ho23; rw [← Ny173.out] at ho23)); have n0_ := qM (Kd.R_below (by (with_reducible repeat first | apply RA | apply RN | apply RD); exact HO_4.out) hb); have n1_ := qM (Kd.R_lower (Kd.R_newB (Kd.R_newB ho23 (g := g164) (o := .cells #[.int .i64 0, .int .i64 0, .int .i64 0, .int .i64 0] 29 (0, 0)) (by (with_reducible repeat first | refine qN ?_ _ | refine qD ?_ | refine qA ?_ _); exact B164.out)) (g := g165) (o := .cells #[.int .i64 x166000_1, .int .i64 x166001_1, .int .i64 x166002_1, .int .i64 x166003_1] 29 (0, 0)) (by (with_reducible repeat first | refine qN ?_ _ | refine qD ?_ | refine qA ?_ _); exact B165.out)) (eZ (by repeat (first | (with_reducible first | exact HB.out | apply eA | apply eN | apply eD | refine eU ?_ (by assumption)) | exact HB.out)))); have n2_ := qM (qB (g := g163) (by (with_reducible repeat first | refine qN ?_ _ | refine qD ?_ | refine qA ?_ _); exact B163.out) hb); have n3_ := qM (qB (g := g164) (by (with_reducible repeat first | refine qN ?_ _ | refine qD ?_ | refine qA ?_ _); exact B164.out) hb); have n4_ := qM (qB (g := g165) (by (with_reducible repeat first | refine qN ?_ _ | refine qD ?_ | refine qA ?_ _); exact B165.out) hb); have n5_ := qM (eT (by repeat (first | (with_reducible first | exact HB.out | apply eA | apply eN | apply eD | refine eU ?_ (by assumption)) | exact HB.out)) hb); clear HO_4 B163 B164 B165 HB; have HO_4 := n0_; have HO175 := n1_; have B163 := n2_; have B164 := n3_; have B165 := n4_; have HB := n5_; clear n0_ n1_ n2_ n3_ n4_ n5_; clear hb ho23; obtain ⟨Ao24, co24, eo24⟩ := Kd.R_slice HO175.out; subst eo24) | ((with_reducible refine gate_callee (f := 14) rfl ?_); refine goesL_ (some 35) rfl rfl Try.func14 (by kernel_rfl) rfl #[.slice Ao24 y173.length co24] rfl (by (try simp only [List.map_toArray, List.map_cons, List.map_nil]); first | done | rfl | (simp only [List.length_drop, List.length_take]; rfl)) ?_; (with_reducible refine (count_Sum.calls k1 _ _ y173 t176 t177 t178 t179 _ ?side1 ?side2 A16.out).mono ?_); (case side1 => repeat (first | exact (Kd.R_reads' HO175.out).2.2 | (with_reducible refine Kd.C_alloc ?_ _) | (with_reducible refine Kd.C_drewN ?_ _) | (with_reducible refine Kd.C_drew ?_))); (case side2 => exact (Kd.R_reads' HO175.out).2.1); rintro e w25 ⟨rfl, hb⟩; refine ⟨_, rfl, ?_⟩; have n0_ := qM (Kd.R_below (by (with_reducible repeat first | apply RA | apply RN | apply RD); exact HO_4.out) hb); have n1_ := qM (Kd.R_below (by (with_reducible repeat first | apply RA | apply RN | apply RD); exact HO175.out) hb); have n2_ := qM (qB (g := g163) (by (with_reducible repeat first | refine qN ?_ _ | refine qD ?_ | refine qA ?_ _); exact B163.out) hb); have n3_ := qM (qB (g := g164) (by (with_reducible repeat first | refine qN ?_ _ | refine qD ?_ | refine qA ?_ _); exact B164.out) hb); have n4_ := qM (qB (g := g165) (by (with_reducible repeat first | refine qN ?_ _ | refine qD ?_ | refine qA ?_ _); exact B165.out) hb); have n5_ := qM (eT (by repeat (first | (with_reducible first | exact HB.out | apply eA | apply eN | apply eD | refine eU ?_ (by assumption)) | exact HB.out)) hb); clear HO_4 HO175 B163 B164 B165 HB; have HO_4 := n0_; have HO175 := n1_; have B163 := n2_; have B164 := n3_; have B165 := n4_; have HB := n5_; clear n0_ n1_ n2_ n3_ n4_ n5_; (try clear hb); (try clear hb2); (try clear hk); (try clear hi); obtain ⟨z26_0, z26_1, z26_2, z26_3, f26_0, f26_1, f26_2, f26_3⟩ := cells4 B165.out))
       go_roundg k1
       case measure => have := HK1.out; omega
       case rel => exact ⟨(wrap64 (x12_1 + 1)), (t176), (t177), (t178), (t179), (by first | rfl | (simp; done) | (simp [*]; done)), H', ⟨by have := HK1.out; omega⟩, ⟨by (with_reducible repeat first | apply RA | apply RN | apply RD); exact Kd.R_mono (Kd.R_far (p := ⟨g165, 3, none⟩) (Kd.R_far (p := ⟨g165, 2, none⟩) (Kd.R_far (p := ⟨g165, 1, none⟩) (Kd.R_far (p := ⟨g165, 0, none⟩) (Kd.R_types HO_4.out B165.out (by decide)) (fun _ hk => hk.2) (.int .i64 t176)) (fun _ hk => hk.2) (.int .i64 t177)) (fun _ hk => hk.2) (.int .i64 t178)) (fun _ hk => hk.2) (.int .i64 t179)) (fun _ hk => trivial)⟩, ⟨by (with_reducible repeat first | refine qN ?_ _ | refine qD ?_ | refine qA ?_ _); (iterate 4 (refine qR ?_ NB163_165.out _; (with_reducible repeat first | refine qN ?_ _ | refine qD ?_ | refine qA ?_ _))); exact B163.out⟩, ⟨by (with_reducible repeat first | refine qN ?_ _ | refine qD ?_ | refine qA ?_ _); (iterate 4 (refine qR ?_ NB164_165.out _; (with_reducible repeat first | refine qN ?_ _ | refine qD ?_ | refine qA ?_ _))); exact B164.out⟩, ⟨by (with_reducible repeat first | refine qN ?_ _ | refine qD ?_ | refine qA ?_ _); apply puts4; (with_reducible repeat first | refine qN ?_ _ | refine qD ?_ | refine qA ?_ _); exact B165.out⟩, ⟨by repeat (first | (with_reducible first | exact HB.out | apply eA | apply eN | apply eD | refine eS ?_ GE163.out | refine eS ?_ GE164.out | refine eS ?_ GE165.out) | exact HB.out)⟩⟩
      ·rw [if_neg c15] at H
       have c15b0 : decide (((rd_T70 t166 x12_1).f1) < 100) = false := decide_eq_false c15
       clear c15
       obtain ⟨y180, hy180⟩ : ∃ y_ : List (S29), y_ = (([(⟨x166000_1, x166001_1, x166002_1, x166003_1⟩ : S29), (⟨0, 0, 1, (t170.size : Int)⟩ : S29)] : List (S29))) := ⟨_, rfl⟩
       replace H : ((count_Sum.f k1 y180).bind fun bt183 => (count_Weigh.l0 k1 t166 (t166.length : Int) (wrap64 (x12_1 + 1)) l0_0 l0_1 a0_2 a0_3 bt183.1 bt183.2.1 bt183.2.2.1 bt183.2.2.2)) = some (r1, r2, r3, r4) := by first | (rw [hy180]; with_reducible exact H) | (have H2_ := (Option.bind_some _ _).symm.trans H; rw [hy180]; with_reducible exact H2_) | (have H2_ := (Option.bind_some _ _).symm.trans H; with_reducible exact H2_) | with_reducible exact H | (rw [hy180]; exact H) | exact H
       have Ny180 := qM hy180
       clear hy180
       replace H := Option.bind_eq_some_iff.mp H
       obtain ⟨⟨t183, t184, t185, t186⟩, A270, H⟩ := H
       replace H : (count_Weigh.l0 k1 t166 (t166.length : Int) (wrap64 (x12_1 + 1)) l0_0 l0_1 a0_2 a0_3 t183 t184 t185 t186) = some (r1, r2, r3, r4) := H
       have A27 := qM A270
       clear A270
       have H' := qM H
       clear H
       try go_wp2
       have n0_ := qM (Kd.R_drew HO_4.out)
       have n1_ := qM (blk_drew B163.out)
       have n2_ := qM (blk_drew B164.out)
       have n3_ := qM (blk_drew B165.out)
       have n4_ := qM (below_drew1 HB.out)
       clear HO_4
       clear B163
       clear B164
       clear B165
       clear HB
       have HO_4 := n0_
       have B163 := n1_
       have B164 := n2_
       have B165 := n3_
       have HB := n4_
       clear n0_ n1_ n2_ n3_ n4_
       have p169 : 0 ≤ (x12_1 : Int) := of_decide_eq_true (by first | (with_reducible assumption) | assumption)
       have q169 : x12_1 < (t166.length : Int) := of_decide_eq_true (by first | (with_reducible assumption) | assumption)
       obtain ⟨ad169, e169, hx169_0, hx169_1⟩ := at_T70 (Kd.R_reads' HO_4.out).2.2 x12_1 p169 q169
       cases e169
       replace p169 := eq_true p169
       replace q169 := eq_true q169
       refine start_ (n := 11) (S := fun w' => w'.cell? ⟨g163, 0, none⟩ = some (.slice A0_0 l0_0.length c0_0) ∧ w'.cell? ⟨g163, 1, none⟩ = some (.slice A0_1 l0_1.length c0_1) ∧ w'.cell? ⟨g163, 2, none⟩ = some (.int .i64 a0_2) ∧ w'.cell? ⟨g163, 3, none⟩ = some (.bool a0_3) ∧ w'.cell? (ad169.add ((x12_1).toNat * 2)) = some (.int .i64 ((rd_T70 t166 x12_1).f0)) ∧ w'.cell? ⟨(ad169.add ((x12_1).toNat * 2)).block, (ad169.add ((x12_1).toNat * 2)).off + 1, none⟩ = some (.int .i64 ((rd_T70 t166 x12_1).f1))) (ds := []) #[false, false, false, false, false, false, false, false, false, false, false] (by kernel_rfl) rfl rfl ⟨(qC B163.out 0).trans rfl, (qC B163.out 1).trans rfl, (qC B163.out 2).trans rfl, (qC B163.out 3).trans rfl, hx169_0, hx169_1⟩ (fun hHeld => ?_); refine with_tabW count_Weigh.tab6 count_Weigh.bits6 (fun HT_ HW_ => ?_)
       generalize wr.drew = w28 at HO_4 B163 B164 B165 HB hx169_0 hx169_1 hHeld ⊢
       refine pure_ (i := 1) (N := some 17) (v := ?_) (a' := ?_) #[false, true, false, false, false, false, false, false, false, false, false] rfl rfl (any_of HT_.out (by kernel_rfl)) (fun _ _ _ h => h) (Or.inl ⟨by rfl, ?_⟩) ?_ ?_
       rotate_left
       ·intro w'; go_simp; with_reducible rfl
       rotate_left
       ·simp only [Act.put, xA, xZ, xS, i64_w, i32_w]; rfl
       refine pure_ (i := 2) (N := some 18) (v := ?_) (a' := ?_) #[false, true, true, false, false, false, false, false, false, false, false] rfl rfl (any_of HT_.out (by kernel_rfl)) (fun _ _ _ h => h) (Or.inl ⟨by rfl, ?_⟩) ?_ ?_
       rotate_left
       ·intro w'; go_simp; with_reducible rfl
       rotate_left
       ·simp only [Act.put, xA, xZ, xS, i64_w, i32_w]; rfl
       refine pure_ (i := 3) (N := some 19) (v := ?_) (a' := ?_) #[false, true, true, true, false, false, false, false, false, false, false] rfl rfl (any_of HT_.out (by kernel_rfl)) (fun _ _ _ h => h) (Or.inl ⟨by rfl, ?_⟩) ?_ ?_
       rotate_left
       ·intro w'; go_simp; with_reducible rfl
       rotate_left
       ·simp only [Act.put, xA, xZ, xS, i64_w, i32_w]; rfl
       refine take_ (i := 0) (N := some 16) (v := ?_) (a' := ?_) #[true, true, true, true, false, false, false, false, false, false, false] rfl rfl (take_ofW HT_.out HW_.out (by kernel_rfl)) (fun _ _ _ h => h) (Or.inl ⟨by rfl, ?_⟩) hHeld ?_ ?_
       rotate_left
       ·rintro w' ⟨s0, s1, s2, s3, s4, s5⟩; go_simp; with_reducible rfl
       rotate_left
       ·simp only [Act.put, xA, xZ, xS, i64_w, i32_w]; rfl
       refine take_ (i := 4) (N := some 20) (v := ?_) (a' := ?_) #[true, true, true, true, true, false, false, false, false, false, false] rfl rfl (take_ofW HT_.out HW_.out (by kernel_rfl)) (fun _ _ _ h => h) (Or.inl ⟨by rfl, ?_⟩) hHeld ?_ ?_
       rotate_left
       ·rintro w' ⟨s0, s1, s2, s3, s4, s5⟩; go_simp; with_reducible rfl
       rotate_left
       ·simp only [Act.put, xA, xZ, xS, i64_w, i32_w]; rfl
       refine one_ (i := 5) (N := some 21) #[true, true, true, true, true, true, false, false, false, false, false] rfl rfl (one_of HT_.out (by kernel_rfl)) (by decide) (fun K hK => ?_)
       refine goes_ Try.func23 (by kernel_rfl) rfl #[.agg #[.slice A0_0 l0_0.length c0_0, .slice A0_1 l0_1.length c0_1, .int .i64 a0_2, .bool a0_3], .agg #[.int .i64 ((rd_T70 t166 x12_1).f0), .int .i64 ((rd_T70 t166 x12_1).f1)]] (by rfl) rfl rfl (by (try simp only [List.map_toArray, List.map_cons, List.map_nil]); first | done | rfl | (simp only [List.length_drop, List.length_take]; rfl)) ?_
       with_reducible refine (shelf_Find.calls k1 _ _ l0_0 _ _ l0_1 a0_2 a0_3 ((rd_T70 t166 x12_1).f0) ((rd_T70 t166 x12_1).f1) t170 t171 _ ?side1 ?side2 ?side3 ?side4 A14.out).mono ?_
       (case side1 => repeat (first | exact (Kd.C_below HR0_0.out HB.out) | (with_reducible refine Kd.C_alloc ?_ _) | (with_reducible refine Kd.C_drewN ?_ _) | (with_reducible refine Kd.C_drew ?_)))
       (case side2 => exact HC0_0.out)
       (case side3 => repeat (first | exact (Kd.C_below HR0_1.out HB.out) | (with_reducible refine Kd.C_alloc ?_ _) | (with_reducible refine Kd.C_drewN ?_ _) | (with_reducible refine Kd.C_drew ?_)))
       (case side4 => exact HC0_1.out)
       rintro e w29 ⟨rfl, hb⟩
       have HS4_ := (hb.cell (World.block_lt_of_cell? _ _ (hHeld.2.2.2.2.1))).trans (hHeld.2.2.2.2.1)
       have HS5_ := (hb.cell (World.block_lt_of_cell? _ _ (hHeld.2.2.2.2.2))).trans (hHeld.2.2.2.2.2)
       refine ⟨_, rfl, ?_⟩
       have n0_ := qM (Kd.R_below (by (with_reducible repeat first | apply RA | apply RN | apply RD); exact HO_4.out) hb)
       have n1_ := qM (qB (g := g163) (by (with_reducible repeat first | refine qN ?_ _ | refine qD ?_ | refine qA ?_ _); exact B163.out) hb)
       have n2_ := qM (qB (g := g164) (by (with_reducible repeat first | refine qN ?_ _ | refine qD ?_ | refine qA ?_ _); exact B164.out) hb)
       have n3_ := qM (qB (g := g165) (by (with_reducible repeat first | refine qN ?_ _ | refine qD ?_ | refine qA ?_ _); exact B165.out) hb)
       have n4_ := qM (eT (by repeat (first | (with_reducible first | exact HB.out | apply eA | apply eN | apply eD | refine eU ?_ (by assumption)) | exact HB.out)) hb)
       clear HO_4
       clear B163
       clear B164
       clear B165
       clear HB
       have HO_4 := n0_
       have B163 := n1_
       have B164 := n2_
       have B165 := n3_
       have HB := n4_
       clear n0_ n1_ n2_ n3_ n4_
       (try clear hb)
       (try clear hb2)
       (try clear hk)
       (try clear hi)
       refine hK.out _ _ ⟨(qC B163.out 0).trans rfl, (qC B163.out 1).trans rfl, (qC B163.out 2).trans rfl, (qC B163.out 3).trans rfl, HS4_, HS5_⟩ (fun hHeld => ?_)
       clear hK K
       refine norm_ (a' := ?_) ?_ ?_
       rotate_left
       ·show Act.put _ (some 21) _ = _
        simp only [Act.put, xA, xZ, xS, i64_w, i32_w]
        rfl
       refine pure_ (i := 6) (N := some 15) (v := ?_) (a' := ?_) #[true, true, true, true, true, true, true, false, false, false, false] rfl rfl (any_of HT_.out (by kernel_rfl)) (fun _ _ _ h => h) (Or.inl ⟨by rfl, ?_⟩) ?_ ?_
       rotate_left
       ·intro w'; go_simp; with_reducible rfl
       rotate_left
       ·simp only [Act.put, xA, xZ, xS, i64_w, i32_w]; rfl
       refine pure_ (i := 7) (N := some 22) (v := ?_) (a' := ?_) #[true, true, true, true, true, true, true, true, false, false, false] rfl rfl (any_of HT_.out (by kernel_rfl)) (fun _ _ _ h => h) (Or.inl ⟨by rfl, ?_⟩) ?_ ?_
       rotate_left
       ·intro w'; go_simp; with_reducible rfl
       rotate_left
       ·simp only [Act.put, xA, xZ, xS, i64_w, i32_w]; rfl
       refine pure_ (i := 8) (N := some 23) (v := ?_) (a' := ?_) #[true, true, true, true, true, true, true, true, true, false, false] rfl rfl (any_of HT_.out (by kernel_rfl)) (fun _ _ _ h => h) (Or.inl ⟨by rfl, ?_⟩) ?_ ?_
       rotate_left
       ·intro w'; go_simp; with_reducible rfl
       rotate_left
       ·simp only [Act.put, xA, xZ, xS, i64_w, i32_w]; rfl
       refine pure_ (i := 9) (N := some 6) (v := ?_) (a' := ?_) #[true, true, true, true, true, true, true, true, true, true, false] rfl rfl (any_of HT_.out (by kernel_rfl)) (fun _ _ _ h => h) (Or.inl ⟨by rfl, ?_⟩) ?_ ?_
       rotate_left
       ·intro w'; go_simp; with_reducible rfl
       rotate_left
       ·simp only [Act.put, xA, xZ, xS, i64_w, i32_w]; rfl
       refine pure_ (i := 10) (N := some 7) (v := ?_) (a' := ?_) #[true, true, true, true, true, true, true, true, true, true, true] rfl rfl (any_of HT_.out (by kernel_rfl)) (fun _ _ _ h => h) (Or.inl ⟨by rfl, ?_⟩) ?_ ?_
       rotate_left
       ·intro w'; go_simp; with_reducible rfl
       rotate_left
       ·simp only [Act.put, xA, xZ, xS, i64_w, i32_w]; rfl
       refine done_ (done_of HT_.out (by kernel_rfl)) ?_
       have p172 : 0 ≤ (x12_1 : Int) := of_decide_eq_true (by first | (with_reducible assumption) | assumption)
       have q172 : x12_1 < (t166.length : Int) := of_decide_eq_true (by first | (with_reducible assumption) | assumption)
       obtain ⟨ad172, e172, hx172_0, hx172_1⟩ := at_T70 (Kd.R_reads' HO_4.out).2.2 x12_1 p172 q172
       obtain rfl : ad169 = ad172 := (by injection e172)
       replace p172 := eq_true p172
       replace q172 := eq_true q172
       have hnb30 := NB165_163.out
       have hnc30 := NB163_165.out
       have hnb31 := NB165_164.out
       have hnc31 := NB164_165.out
       obtain ⟨z32_0, z32_1, z32_2, z32_3, f32_0, f32_1, f32_2, f32_3⟩ := cells4 B165.out
       try go_wp2_with (first | ((with_reducible refine gate_dst (N := 40) rfl ?_); refine Kd.R_lit k29 _ 29 ?hg (N := 40) ?hd (xs := ([(⟨x166000_1, x166001_1, x166002_1, x166003_1⟩ : S29), (⟨0, 0, 1, (t170.size : Int)⟩ : S29)] : List (S29))) (inner := [.int .i64 x166000_1, .int .i64 x166001_1, .int .i64 x166002_1, .int .i64 x166003_1, .int .i64 0, .int .i64 0, .int .i64 1, .int .i64 (t170.size : Int)]) (ok := fun _ => True) (okp := fun _ => True) ?hr ?hp (fun _ hk => hk) trivial (Below.refl _ _) (Nat.le_refl _) (by simp) ?_; (case hd => rfl); (case hg => rfl); (case hr => first | (go_simp; done) | (go_simp; rfl)); (case hp => exact (Reps.c4 (show Kd.M k29 _ _ _ (⟨x166000_1, x166001_1, x166002_1, x166003_1⟩ : S29) [.int .i64 x166000_1, .int .i64 x166001_1, .int .i64 x166002_1, .int .i64 x166003_1] from (k29_mkM _ _ _ (⟨x166000_1, x166001_1, x166002_1, x166003_1⟩ : S29) )) (Reps.c4 (show Kd.M k29 _ _ _ (⟨0, 0, 1, (t170.size : Int)⟩ : S29) [.int .i64 0, .int .i64 0, .int .i64 1, .int .i64 (t170.size : Int)] from (k29_mkM _ _ _ (⟨0, 0, 1, (t170.size : Int)⟩ : S29) )) (Reps.none _ _)))); intro v181 w33 ho34 hb hg_ hnew_; clear hg_ hnew_; (first | rw [← Ny180.out] at ho34 | (simp only [Int.reduceToNat] at ho34; rw [← Ny180.out] at ho34)); have n0_ := qM (Kd.R_below (by (with_reducible repeat first | apply RA | apply RN | apply RD); exact HO_4.out) hb); have n1_ := qM (Kd.R_lower (Kd.R_newB (Kd.R_newB ho34 (g := g164) (o := .cells #[.int .i64 0, .int .i64 0, .int .i64 0, .int .i64 0] 29 (0, 0)) (by (with_reducible repeat first | refine qN ?_ _ | refine qD ?_ | refine qA ?_ _); exact B164.out)) (g := g165) (o := .cells #[.int .i64 x166000_1, .int .i64 x166001_1, .int .i64 x166002_1, .int .i64 x166003_1] 29 (0, 0)) (by (with_reducible repeat first | refine qN ?_ _ | refine qD ?_ | refine qA ?_ _); exact B165.out)) (eZ (by repeat (first | (with_reducible first | exact HB.out | apply eA | apply eN | apply eD | refine eU ?_ (by assumption)) | exact HB.out)))); have n2_ := qM (qB (g := g163) (by (with_reducible repeat first | refine qN ?_ _ | refine qD ?_ | refine qA ?_ _); exact B163.out) hb); have n3_ := qM (qB (g := g164) (by (with_reducible repeat first | refine qN ?_ _ | refine qD ?_ | refine qA ?_ _); exact B164.out) hb); have n4_ := qM (qB (g := g165) (by (with_reducible repeat first | refine qN ?_ _ | refine qD ?_ | refine qA ?_ _); exact B165.out) hb); have n5_ := qM (eT (by repeat (first | (with_reducible first | exact HB.out | apply eA | apply eN | apply eD | refine eU ?_ (by assumption)) | exact HB.out)) hb); clear HO_4 B163 B164 B165 HB; have HO_4 := n0_; have HO182 := n1_; have B163 := n2_; have B164 := n3_; have B165 := n4_; have HB := n5_; clear n0_ n1_ n2_ n3_ n4_ n5_; clear hb ho34; obtain ⟨Ao35, co35, eo35⟩ := Kd.R_slice HO182.out; subst eo35) | ((with_reducible refine gate_callee (f := 14) rfl ?_); refine goesL_ (some 41) rfl rfl Try.func14 (by kernel_rfl) rfl #[.slice Ao35 y180.length co35] rfl (by (try simp only [List.map_toArray, List.map_cons, List.map_nil]); first | done | rfl | (simp only [List.length_drop, List.length_take]; rfl)) ?_; (with_reducible refine (count_Sum.calls k1 _ _ y180 t183 t184 t185 t186 _ ?side1 ?side2 A27.out).mono ?_); (case side1 => repeat (first | exact (Kd.R_reads' HO182.out).2.2 | (with_reducible refine Kd.C_alloc ?_ _) | (with_reducible refine Kd.C_drewN ?_ _) | (with_reducible refine Kd.C_drew ?_))); (case side2 => exact (Kd.R_reads' HO182.out).2.1); rintro e w36 ⟨rfl, hb⟩; refine ⟨_, rfl, ?_⟩; have n0_ := qM (Kd.R_below (by (with_reducible repeat first | apply RA | apply RN | apply RD); exact HO_4.out) hb); have n1_ := qM (Kd.R_below (by (with_reducible repeat first | apply RA | apply RN | apply RD); exact HO182.out) hb); have n2_ := qM (qB (g := g163) (by (with_reducible repeat first | refine qN ?_ _ | refine qD ?_ | refine qA ?_ _); exact B163.out) hb); have n3_ := qM (qB (g := g164) (by (with_reducible repeat first | refine qN ?_ _ | refine qD ?_ | refine qA ?_ _); exact B164.out) hb); have n4_ := qM (qB (g := g165) (by (with_reducible repeat first | refine qN ?_ _ | refine qD ?_ | refine qA ?_ _); exact B165.out) hb); have n5_ := qM (eT (by repeat (first | (with_reducible first | exact HB.out | apply eA | apply eN | apply eD | refine eU ?_ (by assumption)) | exact HB.out)) hb); clear HO_4 HO182 B163 B164 B165 HB; have HO_4 := n0_; have HO182 := n1_; have B163 := n2_; have B164 := n3_; have B165 := n4_; have HB := n5_; clear n0_ n1_ n2_ n3_ n4_ n5_; (try clear hb); (try clear hb2); (try clear hk); (try clear hi); obtain ⟨z37_0, z37_1, z37_2, z37_3, f37_0, f37_1, f37_2, f37_3⟩ := cells4 B165.out))
       go_roundg k1
       case measure => have := HK1.out; omega
       case rel => exact ⟨(wrap64 (x12_1 + 1)), (t183), (t184), (t185), (t186), (by first | rfl | (simp; done) | (simp [*]; done)), H', ⟨by have := HK1.out; omega⟩, ⟨by (with_reducible repeat first | apply RA | apply RN | apply RD); exact Kd.R_mono (Kd.R_far (p := ⟨g165, 3, none⟩) (Kd.R_far (p := ⟨g165, 2, none⟩) (Kd.R_far (p := ⟨g165, 1, none⟩) (Kd.R_far (p := ⟨g165, 0, none⟩) (Kd.R_types HO_4.out B165.out (by decide)) (fun _ hk => hk.2) (.int .i64 t183)) (fun _ hk => hk.2) (.int .i64 t184)) (fun _ hk => hk.2) (.int .i64 t185)) (fun _ hk => hk.2) (.int .i64 t186)) (fun _ hk => trivial)⟩, ⟨by (with_reducible repeat first | refine qN ?_ _ | refine qD ?_ | refine qA ?_ _); (iterate 4 (refine qR ?_ NB163_165.out _; (with_reducible repeat first | refine qN ?_ _ | refine qD ?_ | refine qA ?_ _))); exact B163.out⟩, ⟨by (with_reducible repeat first | refine qN ?_ _ | refine qD ?_ | refine qA ?_ _); (iterate 4 (refine qR ?_ NB164_165.out _; (with_reducible repeat first | refine qN ?_ _ | refine qD ?_ | refine qA ?_ _))); exact B164.out⟩, ⟨by (with_reducible repeat first | refine qN ?_ _ | refine qD ?_ | refine qA ?_ _); apply puts4; (with_reducible repeat first | refine qN ?_ _ | refine qD ?_ | refine qA ?_ _); exact B165.out⟩, ⟨by repeat (first | (with_reducible first | exact HB.out | apply eA | apply eN | apply eD | refine eS ?_ GE163.out | refine eS ?_ GE164.out | refine eS ?_ GE165.out) | exact HB.out)⟩⟩
     ·rw [if_neg c13] at H
      exact absurd H (by simp)
    ·rw [if_neg c12] at H
     exact absurd H (by simp)
   ·rw [if_neg c11] at H
    have c11b0 : decide (x12_1 < (t166.length : Int)) = false := decide_eq_false c11
    clear c11
    simp only [Option.some.injEq, Prod.mk.injEq] at H
    obtain ⟨rfl, rfl, rfl, rfl⟩ := H
    have hnb38 := NB165_163.out
    have hnc38 := NB163_165.out
    have hnb39 := NB165_164.out
    have hnc39 := NB164_165.out
    obtain ⟨z40_0, z40_1, z40_2, z40_3, f40_0, f40_1, f40_2, f40_3⟩ := cells4 B165.out
    have hnb41 := NB164_163.out
    have hnc41 := NB163_164.out
    obtain ⟨z42_0, z42_1, z42_2, z42_3, f42_0, f42_1, f42_2, f42_3⟩ := cells4 B164.out
    go_wp2
    refine bodyPost_ret (results_cell_row rfl _ _ g164 29 #[.int .i64 x166000_1, .int .i64 x166001_1, .int .i64 x166002_1, .int .i64 x166003_1] (0, 0) _ rfl (by (with_reducible repeat first | refine qN ?_ _ | refine qD ?_ | refine qA ?_ _); apply puts4; (with_reducible repeat first | refine qN ?_ _ | refine qD ?_ | refine qA ?_ _); exact B164.out) Try.underlying29 rfl (by kernel_rfl)) rfl ?_
    exact ⟨by first | rfl | (simp [errW_none, errW_some] <;> rfl) | (simp [*, errW_none, errW_some] <;> rfl), by repeat (first | (with_reducible first | exact HB.out | apply eA | apply eN | apply eD | refine eS ?_ GE163.out | refine eS ?_ GE164.out | refine eS ?_ GE165.out) | exact HB.out)⟩

end Go.Proofs.Ytlfonfceaiiinaa.PAll
