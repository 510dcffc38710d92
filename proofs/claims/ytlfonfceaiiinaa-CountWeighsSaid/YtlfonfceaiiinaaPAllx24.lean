/- Functions of the program as plain Lean functions, and that each call comes to what they say. Laid by a program of this session (hprint.py); Lean checks it. -/
import Derived.Test.YtlfonfceaiiinaaPAllx0
import Derived.Test.YtlfonfceaiiinaaPAllx22
import Derived.Test.YtlfonfceaiiinaaPAllx23
namespace Go.Proofs.Ytlfonfceaiiinaa.PAll
open Go.RowKit Go.Proofs.YtlfonfceaiiinaaW.PrintWords Go.Proofs.YtlfonfceaiiinaaW.PrintLast Go.Proofs.YtlfonfceaiiinaaW.PrintMore
attribute [local go_sem] max2_int min2_int max_two min_two max_three min_three max_four min_four   -- for this text's walks alone
set_option linter.unusedVariables false
set_option linter.unusedSimpArgs false
attribute [local irreducible] World.setCell

/-! ### hogsheadref19_Weigh: function 16 -/
def hogsheadref19_Weigh.l0 : Nat → List (S70) → Int → List ByteArray → List (S102) → Int → Bool → Int → Int → Int → Int → Option (Int × Int × Int × Int)
 | 0, _, _, _, _, _, _, _, _, _, _ => none
 | k + 1, x4, x5, x242000, x242001, x242002, x242003, x244000, x244001, x244002, x244003 => if x5 < (x4.length : Int) then (if 0 ≤ x5 then ((hogsheadref10_Find.f k x242000 x242001 x242002 x242003 ((rd_T70 x4 x5).f0) ((rd_T70 x4 x5).f1)).bind fun bt248 => (if ((rd_T70 x4 x5).f1) < 100 then (hogsheadref19_Weigh.l0 k x4 (wrap64 (x5 + 1)) x242000 x242001 x242002 x242003 (wrap64 (x244000 + 1)) (wrap64 (x244001 + (bt248.1.size : Int))) x244002 x244003) else (hogsheadref19_Weigh.l0 k x4 (wrap64 (x5 + 1)) x242000 x242001 x242002 x242003 x244000 x244001 (wrap64 (x244002 + 1)) (wrap64 (x244003 + (bt248.1.size : Int)))))) else (none)) else (some (x244000, x244001, x244002, x244003))
def hogsheadref19_Weigh.f (k : Nat) (l0_0 : List ByteArray) (l0_1 : List (S102)) (a0_2 : Int) (a0_3 : Bool) : Option (Int × Int × Int × Int) := (hogsheadref10_List.f k l0_0 l0_1 a0_2 a0_3).bind fun t244 => (hogsheadref19_Weigh.l0 k t244 0 l0_0 l0_1 a0_2 a0_3 0 0 0 0)
theorem hogsheadref19_Weigh.mono_l : ∀ k, (∀ y0 y1 y2 y3 y4 y5 y6 y7 y8 y9, LeO (hogsheadref19_Weigh.l0 k y0 y1 y2 y3 y4 y5 y6 y7 y8 y9) (hogsheadref19_Weigh.l0 (k + 1) y0 y1 y2 y3 y4 y5 y6 y7 y8 y9))
 | 0 => fun _ _ _ _ _ _ _ _ _ _ r h => by simp [hogsheadref19_Weigh.l0] at h
 | k + 1 => by
  have ih0 := hogsheadref19_Weigh.mono_l k
  ·intro y0 y1 y2 y3 y4 y5 y6 y7 y8 y9
   unfold hogsheadref19_Weigh.l0
   repeat' first
   | (with_reducible exact ih0 _ _ _ _ _ _ _ _ _ _)
   | (with_reducible exact hogsheadref10_Find.mono _ _ _ _ _ _ _)
   | (with_reducible exact hogsheadref10_List.mono _ _ _ _ _)
   | (with_reducible exact LeO.refl _)
   | (with_reducible exact LeO.none _)
   | (with_reducible refine LeO.ite ?_ ?_)
   | (with_reducible refine LeO.bind ?_ (fun _ => ?_))
   | exact ih0 _ _ _ _ _ _ _ _ _ _
   | exact hogsheadref10_Find.mono _ _ _ _ _ _ _
   | exact hogsheadref10_List.mono _ _ _ _ _
   | exact LeO.none _
   | refine LeO.ite ?_ ?_
   | refine LeO.bind ?_ (fun _ => ?_)
theorem hogsheadref19_Weigh.mono : ∀ a0 a1 a2 a3 k, LeO (hogsheadref19_Weigh.f k a0 a1 a2 a3) (hogsheadref19_Weigh.f (k + 1) a0 a1 a2 a3) := by
 intro a0 a1 a2 a3 k
 have ih0 := hogsheadref19_Weigh.mono_l k
 unfold hogsheadref19_Weigh.f
 repeat' first
   | (with_reducible exact ih0 _ _ _ _ _ _ _ _ _ _)
   | (with_reducible exact hogsheadref10_Find.mono _ _ _ _ _ _ _)
   | (with_reducible exact hogsheadref10_List.mono _ _ _ _ _)
   | (with_reducible exact LeO.refl _)
   | (with_reducible exact LeO.none _)
   | (with_reducible refine LeO.ite ?_ ?_)
   | (with_reducible refine LeO.bind ?_ (fun _ => ?_))
   | exact ih0 _ _ _ _ _ _ _ _ _ _
   | exact hogsheadref10_Find.mono _ _ _ _ _ _ _
   | exact hogsheadref10_List.mono _ _ _ _ _
   | exact LeO.none _
   | refine LeO.ite ?_ ?_
   | refine LeO.bind ?_ (fun _ => ?_)
def hogsheadref19_Weigh.T6 : Bool × List (List Nat × List Nat) := (true, [([], []), ([], []), ([], []), ([1, 2], [1, 2]), ([3], [3]), ([0, 4], [0, 4]), ([5], [5]), ([6], [6]), ([6], [6]), ([7, 5, 0, 1, 2, 3, 4, 5, 6, 7], [7]), ([8, 9, 0, 1, 2, 3, 4, 5, 6, 7, 8, 9], [8])])
def hogsheadref19_Weigh.B6 : List Nat := [0, 0, 0, 6, 14, 31, 63, 127, 127, 255, 1023]
theorem hogsheadref19_Weigh.tab6 : rtab .any (opsOf Try.f16 6) = hogsheadref19_Weigh.T6 := by kernel_rfl
theorem hogsheadref19_Weigh.bits6 : waitsOk hogsheadref19_Weigh.T6.2 hogsheadref19_Weigh.B6 = true := by kernel_rfl
set_option maxHeartbeats 40000000 in
set_option maxRecDepth 100000 in
theorem hogsheadref19_Weigh.calls (k : Nat) (A0_0 : Option Addr) (c0_0 : Nat) (l0_0 : List ByteArray) (A0_1 : Option Addr) (c0_1 : Nat) (l0_1 : List (S102)) (a0_2 : Int) (a0_3 : Bool) (r1 : Int) (r2 : Int) (r3 : Int) (r4 : Int) (w : World) (hr0_0 : Kd.C Kd.string w A0_0 l0_0.length l0_0) (hc0_0 : l0_0.length ≤ c0_0) (hr0_1 : Kd.C k102 w A0_1 l0_1.length l0_1) (hc0_1 : l0_1.length ≤ c0_1) (h : hogsheadref19_Weigh.f k l0_0 l0_1 a0_2 a0_3 = some (r1, r2, r3, r4)) :
  Calls Try.prog 16 #[.agg #[.slice A0_0 l0_0.length c0_0, .slice A0_1 l0_1.length c0_1, .int .i64 a0_2, .bool a0_3]] w fun e w' => e = .returned (.agg #[.int .i64 r1, .int .i64 r2, .int .i64 r3, .int .i64 r4]) ∧ Below w.heap.size w w' := by
 have hu53 := Try.underlying53
 have hu29 := Try.underlying29
 have hu70 := Try.underlying70
 have HR0_0 := qM hr0_0
 have HC0_0 := qM hc0_0
 clear hr0_0 hc0_0
 have HR0_1 := qM hr0_1
 have HC0_1 := qM hc0_1
 clear hr0_1 hc0_1
 have HB := qM (Below.refl w.heap.size w)
 have H : ((hogsheadref10_List.f k l0_0 l0_1 a0_2 a0_3).bind fun t244 => (hogsheadref19_Weigh.l0 k t244 0 l0_0 l0_1 a0_2 a0_3 0 0 0 0)) = some (r1, r2, r3, r4) := h
 clear h
 replace H := Option.bind_eq_some_iff.mp H
 obtain ⟨t244, A20, H⟩ := H
 replace H : (hogsheadref19_Weigh.l0 k t244 0 l0_0 l0_1 a0_2 a0_3 0 0 0 0) = some (r1, r2, r3, r4) := H
 have A2 := qM A20
 clear A20
 have H' := qM H
 clear H
 go_enter Try.func16, Try.ntmps16
 go_wp2_with (first | ((with_reducible refine gate_dst (N := 1) rfl ?_); refine box_event ?hg (N := 1) ?hd (cs := #[.slice A0_0 l0_0.length c0_0, .slice A0_1 l0_1.length c0_1, .int .i64 a0_2, .bool a0_3]) (t := 53) ?hr ?_; (case hd => rfl); (case hg => rfl); (case hr => first | (go_simp; done) | (go_simp; rfl)); intro g241 hg w3 hbox hb; have n0_ := qM (eT (by repeat (first | (with_reducible first | exact HB.out | apply eA | apply eN | apply eD) | exact HB.out)) hb); have n1_ := qM (hbox); have n2_ := qM ((by rw [hg]; exact (eZ (by repeat (first | (with_reducible first | exact HB.out | apply eA | apply eN | apply eD) | exact HB.out))) : w.heap.size ≤ g241)); have n3_ := n2_; clear HB; have HB := n0_; have B241 := n1_; have GW241 := n2_; have GE241 := n3_; clear n0_ n1_ n2_ n3_; clear hb hbox hg) | ((with_reducible refine gate_dst (N := 2) rfl ?_); refine box_event ?hg (N := 2) ?hd (cs := #[.int .i64 0, .int .i64 0, .int .i64 0, .int .i64 0]) (t := 29) ?hr ?_; (case hd => rfl); (case hg => rfl); (case hr => first | (go_simp; done) | (go_simp; rfl)); intro g242 hg w4 hbox hb; have n0_ := qM (qB (g := g241) (by (with_reducible repeat first | refine qN ?_ _ | refine qD ?_ | refine qA ?_ _); exact B241.out) hb); have n1_ := qM (eT (by repeat (first | (with_reducible first | exact HB.out | apply eA | apply eN | apply eD | refine eU ?_ (by assumption)) | exact HB.out)) hb); have n2_ := qM (hbox); have n3_ := qM ((by rw [hg]; exact (eZ (by repeat (first | (with_reducible first | exact HB.out | apply eA | apply eN | apply eD | refine eU ?_ (by assumption)) | exact HB.out))) : w.heap.size ≤ g242)); have n4_ := n3_; have n5_ := qM ((by rw [hg]; exact Nat.ne_of_lt (qL (g := g241) (by (with_reducible repeat first | refine qN ?_ _ | refine qD ?_ | refine qA ?_ _); exact B241.out)) : g241 ≠ g242)); have n6_ := qM (Ne.symm n5_.out); clear B241 HB; have B241 := n0_; have HB := n1_; have B242 := n2_; have GW242 := n3_; have GE242 := n4_; have NB241_242 := n5_; have NB242_241 := n6_; clear n0_ n1_ n2_ n3_ n4_ n5_ n6_; clear hb hbox hg) | ((with_reducible refine gate_dst (N := 3) rfl ?_); refine box_event ?hg (N := 3) ?hd (cs := #[.int .i64 0, .int .i64 0, .int .i64 0, .int .i64 0]) (t := 29) ?hr ?_; (case hd => rfl); (case hg => rfl); (case hr => first | (go_simp; done) | (go_simp; rfl)); intro g243 hg w5 hbox hb; have n0_ := qM (qB (g := g241) (by (with_reducible repeat first | refine qN ?_ _ | refine qD ?_ | refine qA ?_ _); exact B241.out) hb); have n1_ := qM (qB (g := g242) (by (with_reducible repeat first | refine qN ?_ _ | refine qD ?_ | refine qA ?_ _); exact B242.out) hb); have n2_ := qM (eT (by repeat (first | (with_reducible first | exact HB.out | apply eA | apply eN | apply eD | refine eU ?_ (by assumption)) | exact HB.out)) hb); have n3_ := qM (hbox); have n4_ := qM ((by rw [hg]; exact (eZ (by repeat (first | (with_reducible first | exact HB.out | apply eA | apply eN | apply eD | refine eU ?_ (by assumption)) | exact HB.out))) : w.heap.size ≤ g243)); have n5_ := n4_; have n6_ := qM ((by rw [hg]; exact Nat.ne_of_lt (qL (g := g241) (by (with_reducible repeat first | refine qN ?_ _ | refine qD ?_ | refine qA ?_ _); exact B241.out)) : g241 ≠ g243)); have n7_ := qM (Ne.symm n6_.out); have n8_ := qM ((by rw [hg]; exact Nat.ne_of_lt (qL (g := g242) (by (with_reducible repeat first | refine qN ?_ _ | refine qD ?_ | refine qA ?_ _); exact B242.out)) : g242 ≠ g243)); have n9_ := qM (Ne.symm n8_.out); clear B241 B242 HB; have B241 := n0_; have B242 := n1_; have HB := n2_; have B243 := n3_; have GW243 := n4_; have GE243 := n5_; have NB241_243 := n6_; have NB243_241 := n7_; have NB242_243 := n8_; have NB243_242 := n9_; clear n0_ n1_ n2_ n3_ n4_ n5_ n6_ n7_ n8_ n9_; clear hb hbox hg; have hnb6 := NB243_241.out; have hnc6 := NB241_243.out; have hnb7 := NB243_242.out; have hnc7 := NB242_243.out; obtain ⟨z8_0, z8_1, z8_2, z8_3, f8_0, f8_1, f8_2, f8_3⟩ := cells4 B243.out; have hnb9 := NB241_242.out; have hnc9 := NB242_241.out; obtain ⟨z10_0, z10_1, z10_2, z10_3, f10_0, f10_1, f10_2, f10_3⟩ := cells4 B241.out) | ((with_reducible refine gate_callee (f := 24) rfl ?_); refine goesL_ (some 10) rfl rfl Try.func24 (by kernel_rfl) rfl #[.agg #[.slice A0_0 l0_0.length c0_0, .slice A0_1 l0_1.length c0_1, .int .i64 a0_2, .bool a0_3]] rfl (by (try simp only [List.map_toArray, List.map_cons, List.map_nil]); first | done | rfl | (simp only [List.length_drop, List.length_take]; rfl)) ?_; (with_reducible refine (hogsheadref10_List.calls k _ _ l0_0 _ _ l0_1 a0_2 a0_3 t244 _ ?side1 ?side2 ?side3 ?side4 A2.out).mono ?_); (case side1 => exact Kd.C_below HR0_0.out (by repeat (first | (with_reducible first | exact HB.out | apply eA | apply eN | apply eD | refine eU ?_ (by assumption)) | exact HB.out))); (case side2 => exact HC0_0.out); (case side3 => exact Kd.C_below HR0_1.out (by repeat (first | (with_reducible first | exact HB.out | apply eA | apply eN | apply eD | refine eU ?_ (by assumption)) | exact HB.out))); (case side4 => exact HC0_1.out); rintro e w11 ⟨v245, rfl, ho0, hb⟩; refine ⟨_, rfl, ?_⟩; have n0_ := qM (Kd.R_lower ho0 (eZ (by repeat (first | (with_reducible first | exact HB.out | apply eA | apply eN | apply eD | refine eU ?_ (by assumption)) | exact HB.out)))); have n1_ := qM (qB (g := g241) (o := .cells #[.slice A0_0 l0_0.length c0_0, .slice A0_1 l0_1.length c0_1, .int .i64 a0_2, .bool a0_3] 53 (0, 0)) (by (with_reducible repeat first | refine qN ?_ _ | refine qD ?_ | refine qA ?_ _); (iterate 4 (refine qR ?_ NB241_243.out _; (with_reducible repeat first | refine qN ?_ _ | refine qD ?_ | refine qA ?_ _))); exact B241.out) hb); have n2_ := qM (qB (g := g242) (o := .cells #[.int .i64 0, .int .i64 0, .int .i64 0, .int .i64 0] 29 (0, 0)) (by (with_reducible repeat first | refine qN ?_ _ | refine qD ?_ | refine qA ?_ _); (iterate 4 (refine qR ?_ NB242_243.out _; (with_reducible repeat first | refine qN ?_ _ | refine qD ?_ | refine qA ?_ _))); exact B242.out) hb); have n3_ := qM (qB (g := g243) (by (with_reducible repeat first | refine qN ?_ _ | refine qD ?_ | refine qA ?_ _); apply puts4; (with_reducible repeat first | refine qN ?_ _ | refine qD ?_ | refine qA ?_ _); exact B243.out) hb); have n4_ := qM (eT (by repeat (first | (with_reducible first | exact HB.out | apply eA | apply eN | apply eD | refine eU ?_ (by assumption)) | exact HB.out)) hb); clear B241 B242 B243 HB; have HO246 := n0_; have B241 := n1_; have B242 := n2_; have B243 := n3_; have HB := n4_; clear n0_ n1_ n2_ n3_ n4_; (try clear hb); (try clear hb2); (try clear hk); (try clear hi); (try clear ho0)))
 go_loopg [5] k (fun kq v5 w' => ∃ (x5_1 : Int) (x244000_1 : Int) (x244001_1 : Int) (x244002_1 : Int) (x244003_1 : Int), v5 = .int .i64 x5_1 ∧ Aside0 (hogsheadref19_Weigh.l0 kq t244 x5_1 l0_0 l0_1 a0_2 a0_3 x244000_1 x244001_1 x244002_1 x244003_1 = some (r1, r2, r3, r4)) ∧ Aside0 (kq ≤ k) ∧ Aside0 (Kd.R k70 70 w' w.heap.size (fun _ => True) v245 t244) ∧ Aside0 (w'.heap[g241]? = some (.cells #[(.slice A0_0 l0_0.length c0_0), (.slice A0_1 l0_1.length c0_1), .int .i64 a0_2, .bool a0_3] 53 (0, 0))) ∧ Aside0 (w'.heap[g242]? = some (.cells #[.int .i64 0, .int .i64 0, .int .i64 0, .int .i64 0] 29 (0, 0))) ∧ Aside0 (w'.heap[g243]? = some (.cells #[.int .i64 x244000_1, .int .i64 x244001_1, .int .i64 x244002_1, .int .i64 x244003_1] 29 (0, 0))) ∧ Aside0 (Below w.heap.size w w'))
 case atStart => exact ⟨(0), (0), (0), (0), (0), (by first | rfl | (simp; done) | (simp [*]; done)), H', ⟨Nat.le_refl _⟩, ⟨by (with_reducible repeat first | apply RA | apply RN | apply RD); exact HO246.out⟩, ⟨by (with_reducible repeat first | refine qN ?_ _ | refine qD ?_ | refine qA ?_ _); exact B241.out⟩, ⟨by (with_reducible repeat first | refine qN ?_ _ | refine qD ?_ | refine qA ?_ _); exact B242.out⟩, ⟨by (with_reducible repeat first | refine qN ?_ _ | refine qD ?_ | refine qA ?_ _); exact B243.out⟩, ⟨by repeat (first | (with_reducible first | exact HB.out | apply eA | apply eN | apply eD | refine eS ?_ GE241.out | refine eS ?_ GE242.out | refine eS ?_ GE243.out) | exact HB.out)⟩⟩
 case round =>
  clear H'
  try clear c1
  try clear c2
  try clear p2
  try clear c6
  try clear c7
  try clear c9
  try clear z10_0
  try clear z10_1
  try clear z10_2
  try clear z10_3
  try clear z8_0
  try clear z8_1
  try clear z8_2
  try clear z8_3
  try clear f10_0
  try clear f10_1
  try clear f10_2
  try clear f10_3
  try clear f8_0
  try clear f8_1
  try clear f8_2
  try clear f8_3
  obtain ⟨x5_1, x244000_1, x244001_1, x244002_1, x244003_1, rfl, HA, HK1, HO_4, B241, B242, B243, HB⟩ := hrel
  cases gk with
  | zero => exact absurd HA.out (by simp [hogsheadref19_Weigh.l0])
  | succ k1 =>
   have H := HA.out
   clear HA
   simp only [hogsheadref19_Weigh.l0] at H
   by_cases c12 : x5_1 < (t244.length : Int)
   ·rw [if_pos c12] at H
    have c12b0 : decide (x5_1 < (t244.length : Int)) = true := decide_eq_true c12
    clear c12
    by_cases c13 : 0 ≤ x5_1
    ·rw [if_pos c13] at H
     have c13b0 : decide (0 ≤ x5_1) = true := decide_eq_true c13
     clear c13
     replace H := Option.bind_eq_some_iff.mp H
     obtain ⟨⟨t248, t249⟩, A140, H⟩ := H
     replace H : (if ((rd_T70 t244 x5_1).f1) < 100 then (hogsheadref19_Weigh.l0 k1 t244 (wrap64 (x5_1 + 1)) l0_0 l0_1 a0_2 a0_3 (wrap64 (x244000_1 + 1)) (wrap64 (x244001_1 + (t248.size : Int))) x244002_1 x244003_1) else (hogsheadref19_Weigh.l0 k1 t244 (wrap64 (x5_1 + 1)) l0_0 l0_1 a0_2 a0_3 x244000_1 x244001_1 (wrap64 (x244002_1 + 1)) (wrap64 (x244003_1 + (t248.size : Int))))) = some (r1, r2, r3, r4) := H
     have A14 := qM A140
     clear A140
     by_cases c15 : ((rd_T70 t244 x5_1).f1) < 100
     ·rw [if_pos c15] at H
      have c15b0 : decide (((rd_T70 t244 x5_1).f1) < 100) = true := decide_eq_true c15
      clear c15
      have H' := qM H
      clear H
      obtain ⟨Ao16, co16, eo16⟩ := Kd.R_slice HO_4.out
      subst eo16
      try go_wp2
      have n0_ := qM (Kd.R_drew HO_4.out)
      have n1_ := qM (blk_drew B241.out)
      have n2_ := qM (blk_drew B242.out)
      have n3_ := qM (blk_drew B243.out)
      have n4_ := qM (below_drew1 HB.out)
      clear HO_4
      clear B241
      clear B242
      clear B243
      clear HB
      have HO_4 := n0_
      have B241 := n1_
      have B242 := n2_
      have B243 := n3_
      have HB := n4_
      clear n0_ n1_ n2_ n3_ n4_
      have p247 : 0 ≤ (x5_1 : Int) := of_decide_eq_true (by first | (with_reducible assumption) | assumption)
      have q247 : x5_1 < (t244.length : Int) := of_decide_eq_true (by first | (with_reducible assumption) | assumption)
      obtain ⟨ad247, e247, hx247_0, hx247_1⟩ := at_T70 (Kd.R_reads' HO_4.out).2.2 x5_1 p247 q247
      cases e247
      replace p247 := eq_true p247
      replace q247 := eq_true q247
      refine start_ (n := 11) (S := fun w' => w'.cell? ⟨g241, 0, none⟩ = some (.slice A0_0 l0_0.length c0_0) ∧ w'.cell? ⟨g241, 1, none⟩ = some (.slice A0_1 l0_1.length c0_1) ∧ w'.cell? ⟨g241, 2, none⟩ = some (.int .i64 a0_2) ∧ w'.cell? ⟨g241, 3, none⟩ = some (.bool a0_3) ∧ w'.cell? (ad247.add ((x5_1).toNat * 2)) = some (.int .i64 ((rd_T70 t244 x5_1).f0)) ∧ w'.cell? ⟨(ad247.add ((x5_1).toNat * 2)).block, (ad247.add ((x5_1).toNat * 2)).off + 1, none⟩ = some (.int .i64 ((rd_T70 t244 x5_1).f1))) (ds := []) #[false, false, false, false, false, false, false, false, false, false, false] (by kernel_rfl) rfl rfl ⟨(qC B241.out 0).trans rfl, (qC B241.out 1).trans rfl, (qC B241.out 2).trans rfl, (qC B241.out 3).trans rfl, hx247_0, hx247_1⟩ (fun hHeld => ?_); refine with_tabW hogsheadref19_Weigh.tab6 hogsheadref19_Weigh.bits6 (fun HT_ HW_ => ?_)
      generalize wr.drew = w17 at HO_4 B241 B242 B243 HB hx247_0 hx247_1 hHeld ⊢
      refine pure_ (i := 1) (N := some 19) (v := ?_) (a' := ?_) #[false, true, false, false, false, false, false, false, false, false, false] rfl rfl (any_of HT_.out (by kernel_rfl)) (fun _ _ _ h => h) (Or.inl ⟨by rfl, ?_⟩) ?_ ?_
      rotate_left
      ·intro w'; go_simp; with_reducible rfl
      rotate_left
      ·simp only [Act.put, xA, xZ, xS, i64_w, i32_w]; rfl
      refine pure_ (i := 2) (N := some 20) (v := ?_) (a' := ?_) #[false, true, true, false, false, false, false, false, false, false, false] rfl rfl (any_of HT_.out (by kernel_rfl)) (fun _ _ _ h => h) (Or.inl ⟨by rfl, ?_⟩) ?_ ?_
      rotate_left
      ·intro w'; go_simp; with_reducible rfl
      rotate_left
      ·simp only [Act.put, xA, xZ, xS, i64_w, i32_w]; rfl
      refine pure_ (i := 3) (N := some 21) (v := ?_) (a' := ?_) #[false, true, true, true, false, false, false, false, false, false, false] rfl rfl (any_of HT_.out (by kernel_rfl)) (fun _ _ _ h => h) (Or.inl ⟨by rfl, ?_⟩) ?_ ?_
      rotate_left
      ·intro w'; go_simp; with_reducible rfl
      rotate_left
      ·simp only [Act.put, xA, xZ, xS, i64_w, i32_w]; rfl
      refine take_ (i := 0) (N := some 18) (v := ?_) (a' := ?_) #[true, true, true, true, false, false, false, false, false, false, false] rfl rfl (take_ofW HT_.out HW_.out (by kernel_rfl)) (fun _ _ _ h => h) (Or.inl ⟨by rfl, ?_⟩) hHeld ?_ ?_
      rotate_left
      ·rintro w' ⟨s0, s1, s2, s3, s4, s5⟩; go_simp; with_reducible rfl
      rotate_left
      ·simp only [Act.put, xA, xZ, xS, i64_w, i32_w]; rfl
      refine take_ (i := 4) (N := some 22) (v := ?_) (a' := ?_) #[true, true, true, true, true, false, false, false, false, false, false] rfl rfl (take_ofW HT_.out HW_.out (by kernel_rfl)) (fun _ _ _ h => h) (Or.inl ⟨by rfl, ?_⟩) hHeld ?_ ?_
      rotate_left
      ·rintro w' ⟨s0, s1, s2, s3, s4, s5⟩; go_simp; with_reducible rfl
      rotate_left
      ·simp only [Act.put, xA, xZ, xS, i64_w, i32_w]; rfl
      refine one_ (i := 5) (N := some 23) #[true, true, true, true, true, true, false, false, false, false, false] rfl rfl (one_of HT_.out (by kernel_rfl)) (by decide) (fun K hK => ?_)
      refine goes_ Try.func25 (by kernel_rfl) rfl #[.agg #[.slice A0_0 l0_0.length c0_0, .slice A0_1 l0_1.length c0_1, .int .i64 a0_2, .bool a0_3], .agg #[.int .i64 ((rd_T70 t244 x5_1).f0), .int .i64 ((rd_T70 t244 x5_1).f1)]] (by rfl) rfl rfl (by (try simp only [List.map_toArray, List.map_cons, List.map_nil]); first | done | rfl | (simp only [List.length_drop, List.length_take]; rfl)) ?_
      with_reducible refine (hogsheadref10_Find.calls k1 _ _ l0_0 _ _ l0_1 a0_2 a0_3 ((rd_T70 t244 x5_1).f0) ((rd_T70 t244 x5_1).f1) t248 t249 _ ?side1 ?side2 ?side3 ?side4 A14.out).mono ?_
      (case side1 => repeat (first | exact (Kd.C_below HR0_0.out HB.out) | (with_reducible refine Kd.C_alloc ?_ _) | (with_reducible refine Kd.C_drewN ?_ _) | (with_reducible refine Kd.C_drew ?_)))
      (case side2 => exact HC0_0.out)
      (case side3 => repeat (first | exact (Kd.C_below HR0_1.out HB.out) | (with_reducible refine Kd.C_alloc ?_ _) | (with_reducible refine Kd.C_drewN ?_ _) | (with_reducible refine Kd.C_drew ?_)))
      (case side4 => exact HC0_1.out)
      rintro e w18 ⟨rfl, hb⟩
      have HS4_ := (hb.cell (World.block_lt_of_cell? _ _ (hHeld.2.2.2.2.1))).trans (hHeld.2.2.2.2.1)
      have HS5_ := (hb.cell (World.block_lt_of_cell? _ _ (hHeld.2.2.2.2.2))).trans (hHeld.2.2.2.2.2)
      refine ⟨_, rfl, ?_⟩
      have n0_ := qM (Kd.R_below (by (with_reducible repeat first | apply RA | apply RN | apply RD); exact HO_4.out) hb)
      have n1_ := qM (qB (g := g241) (by (with_reducible repeat first | refine qN ?_ _ | refine qD ?_ | refine qA ?_ _); exact B241.out) hb)
      have n2_ := qM (qB (g := g242) (by (with_reducible repeat first | refine qN ?_ _ | refine qD ?_ | refine qA ?_ _); exact B242.out) hb)
      have n3_ := qM (qB (g := g243) (by (with_reducible repeat first | refine qN ?_ _ | refine qD ?_ | refine qA ?_ _); exact B243.out) hb)
      have n4_ := qM (eT (by repeat (first | (with_reducible first | exact HB.out | apply eA | apply eN | apply eD | refine eU ?_ (by assumption)) | exact HB.out)) hb)
      clear HO_4
      clear B241
      clear B242
      clear B243
      clear HB
      have HO_4 := n0_
      have B241 := n1_
      have B242 := n2_
      have B243 := n3_
      have HB := n4_
      clear n0_ n1_ n2_ n3_ n4_
      (try clear hb)
      (try clear hb2)
      (try clear hk)
      (try clear hi)
      refine hK.out _ _ ⟨(qC B241.out 0).trans rfl, (qC B241.out 1).trans rfl, (qC B241.out 2).trans rfl, (qC B241.out 3).trans rfl, HS4_, HS5_⟩ (fun hHeld => ?_)
      clear hK K
      refine norm_ (a' := ?_) ?_ ?_
      rotate_left
      ·show Act.put _ (some 23) _ = _
       simp only [Act.put, xA, xZ, xS, i64_w, i32_w]
       rfl
      refine pure_ (i := 6) (N := some 17) (v := ?_) (a' := ?_) #[true, true, true, true, true, true, true, false, false, false, false] rfl rfl (any_of HT_.out (by kernel_rfl)) (fun _ _ _ h => h) (Or.inl ⟨by rfl, ?_⟩) ?_ ?_
      rotate_left
      ·intro w'; go_simp; with_reducible rfl
      rotate_left
      ·simp only [Act.put, xA, xZ, xS, i64_w, i32_w]; rfl
      refine pure_ (i := 7) (N := some 24) (v := ?_) (a' := ?_) #[true, true, true, true, true, true, true, true, false, false, false] rfl rfl (any_of HT_.out (by kernel_rfl)) (fun _ _ _ h => h) (Or.inl ⟨by rfl, ?_⟩) ?_ ?_
      rotate_left
      ·intro w'; go_simp; with_reducible rfl
      rotate_left
      ·simp only [Act.put, xA, xZ, xS, i64_w, i32_w]; rfl
      refine pure_ (i := 8) (N := some 25) (v := ?_) (a' := ?_) #[true, true, true, true, true, true, true, true, true, false, false] rfl rfl (any_of HT_.out (by kernel_rfl)) (fun _ _ _ h => h) (Or.inl ⟨by rfl, ?_⟩) ?_ ?_
      rotate_left
      ·intro w'; go_simp; with_reducible rfl
      rotate_left
      ·simp only [Act.put, xA, xZ, xS, i64_w, i32_w]; rfl
      refine pure_ (i := 9) (N := some 6) (v := ?_) (a' := ?_) #[true, true, true, true, true, true, true, true, true, true, false] rfl rfl (any_of HT_.out (by kernel_rfl)) (fun _ _ _ h => h) (Or.inl ⟨by rfl, ?_⟩) ?_ ?_
      rotate_left
      ·intro w'; go_simp; with_reducible rfl
      rotate_left
      ·simp only [Act.put, xA, xZ, xS, i64_w, i32_w]; rfl
      refine pure_ (i := 10) (N := some 7) (v := ?_) (a' := ?_) #[true, true, true, true, true, true, true, true, true, true, true] rfl rfl (any_of HT_.out (by kernel_rfl)) (fun _ _ _ h => h) (Or.inl ⟨by rfl, ?_⟩) ?_ ?_
      rotate_left
      ·intro w'; go_simp; with_reducible rfl
      rotate_left
      ·simp only [Act.put, xA, xZ, xS, i64_w, i32_w]; rfl
      refine done_ (done_of HT_.out (by kernel_rfl)) ?_
      have p250 : 0 ≤ (x5_1 : Int) := of_decide_eq_true (by first | (with_reducible assumption) | assumption)
      have q250 : x5_1 < (t244.length : Int) := of_decide_eq_true (by first | (with_reducible assumption) | assumption)
      obtain ⟨ad250, e250, hx250_0, hx250_1⟩ := at_T70 (Kd.R_reads' HO_4.out).2.2 x5_1 p250 q250
      obtain rfl : ad247 = ad250 := (by injection e250)
      replace p250 := eq_true p250
      replace q250 := eq_true q250
      have hnb19 := NB243_241.out
      have hnc19 := NB241_243.out
      have hnb20 := NB243_242.out
      have hnc20 := NB242_243.out
      obtain ⟨z21_0, z21_1, z21_2, z21_3, f21_0, f21_1, f21_2, f21_3⟩ := cells4 B243.out
      try go_wp2
      go_roundg k1
      case measure => have := HK1.out; omega
      case rel => exact ⟨(wrap64 (x5_1 + 1)), (wrap64 (x244000_1 + 1)), (wrap64 (x244001_1 + (t248.size : Int))), (x244002_1), (x244003_1), (by first | rfl | (simp; done) | (simp [*]; done)), H', ⟨by have := HK1.out; omega⟩, ⟨by (with_reducible repeat first | apply RA | apply RN | apply RD); exact Kd.R_mono (Kd.R_far (p := ⟨g243, 1, none⟩) (Kd.R_far (p := ⟨g243, 0, none⟩) (Kd.R_types HO_4.out B243.out (by decide)) (fun _ hk => hk.2) (.int .i64 (wrap64 (x244000_1 + 1)))) (fun _ hk => hk.2) (.int .i64 (wrap64 (x244001_1 + (t248.size : Int))))) (fun _ hk => trivial)⟩, ⟨by (with_reducible repeat first | refine qN ?_ _ | refine qD ?_ | refine qA ?_ _); (iterate 2 (refine qR ?_ NB241_243.out _; (with_reducible repeat first | refine qN ?_ _ | refine qD ?_ | refine qA ?_ _))); exact B241.out⟩, ⟨by (with_reducible repeat first | refine qN ?_ _ | refine qD ?_ | refine qA ?_ _); (iterate 2 (refine qR ?_ NB242_243.out _; (with_reducible repeat first | refine qN ?_ _ | refine qD ?_ | refine qA ?_ _))); exact B242.out⟩, ⟨by (with_reducible repeat first | refine qN ?_ _ | refine qD ?_ | refine qA ?_ _); refine qP (cs := #[.int .i64 (wrap64 (x244000_1 + 1)), .int .i64 x244001_1, .int .i64 x244002_1, .int .i64 x244003_1]) ?_ 1 _ rfl; (with_reducible repeat first | refine qN ?_ _ | refine qD ?_ | refine qA ?_ _); refine qP (cs := #[.int .i64 x244000_1, .int .i64 x244001_1, .int .i64 x244002_1, .int .i64 x244003_1]) ?_ 0 _ rfl; (with_reducible repeat first | refine qN ?_ _ | refine qD ?_ | refine qA ?_ _); exact B243.out⟩, ⟨by repeat (first | (with_reducible first | exact HB.out | apply eA | apply eN | apply eD | refine eS ?_ GE241.out | refine eS ?_ GE242.out | refine eS ?_ GE243.out) | exact HB.out)⟩⟩
     ·rw [if_neg c15] at H
      have c15b0 : decide (((rd_T70 t244 x5_1).f1) < 100) = false := decide_eq_false c15
      clear c15
      have H' := qM H
      clear H
      obtain ⟨Ao22, co22, eo22⟩ := Kd.R_slice HO_4.out
      subst eo22
      try go_wp2
      have n0_ := qM (Kd.R_drew HO_4.out)
      have n1_ := qM (blk_drew B241.out)
      have n2_ := qM (blk_drew B242.out)
      have n3_ := qM (blk_drew B243.out)
      have n4_ := qM (below_drew1 HB.out)
      clear HO_4
      clear B241
      clear B242
      clear B243
      clear HB
      have HO_4 := n0_
      have B241 := n1_
      have B242 := n2_
      have B243 := n3_
      have HB := n4_
      clear n0_ n1_ n2_ n3_ n4_
      have p247 : 0 ≤ (x5_1 : Int) := of_decide_eq_true (by first | (with_reducible assumption) | assumption)
      have q247 : x5_1 < (t244.length : Int) := of_decide_eq_true (by first | (with_reducible assumption) | assumption)
      obtain ⟨ad247, e247, hx247_0, hx247_1⟩ := at_T70 (Kd.R_reads' HO_4.out).2.2 x5_1 p247 q247
      cases e247
      replace p247 := eq_true p247
      replace q247 := eq_true q247
      refine start_ (n := 11) (S := fun w' => w'.cell? ⟨g241, 0, none⟩ = some (.slice A0_0 l0_0.length c0_0) ∧ w'.cell? ⟨g241, 1, none⟩ = some (.slice A0_1 l0_1.length c0_1) ∧ w'.cell? ⟨g241, 2, none⟩ = some (.int .i64 a0_2) ∧ w'.cell? ⟨g241, 3, none⟩ = some (.bool a0_3) ∧ w'.cell? (ad247.add ((x5_1).toNat * 2)) = some (.int .i64 ((rd_T70 t244 x5_1).f0)) ∧ w'.cell? ⟨(ad247.add ((x5_1).toNat * 2)).block, (ad247.add ((x5_1).toNat * 2)).off + 1, none⟩ = some (.int .i64 ((rd_T70 t244 x5_1).f1))) (ds := []) #[false, false, false, false, false, false, false, false, false, false, false] (by kernel_rfl) rfl rfl ⟨(qC B241.out 0).trans rfl, (qC B241.out 1).trans rfl, (qC B241.out 2).trans rfl, (qC B241.out 3).trans rfl, hx247_0, hx247_1⟩ (fun hHeld => ?_); refine with_tabW hogsheadref19_Weigh.tab6 hogsheadref19_Weigh.bits6 (fun HT_ HW_ => ?_)
      generalize wr.drew = w23 at HO_4 B241 B242 B243 HB hx247_0 hx247_1 hHeld ⊢
      refine pure_ (i := 1) (N := some 19) (v := ?_) (a' := ?_) #[false, true, false, false, false, false, false, false, false, false, false] rfl rfl (any_of HT_.out (by kernel_rfl)) (fun _ _ _ h => h) (Or.inl ⟨by rfl, ?_⟩) ?_ ?_
      rotate_left
      ·intro w'; go_simp; with_reducible rfl
      rotate_left
      ·simp only [Act.put, xA, xZ, xS, i64_w, i32_w]; rfl
      refine pure_ (i := 2) (N := some 20) (v := ?_) (a' := ?_) #[false, true, true, false, false, false, false, false, false, false, false] rfl rfl (any_of HT_.out (by kernel_rfl)) (fun _ _ _ h => h) (Or.inl ⟨by rfl, ?_⟩) ?_ ?_
      rotate_left
      ·intro w'; go_simp; with_reducible rfl
      rotate_left
      ·simp only [Act.put, xA, xZ, xS, i64_w, i32_w]; rfl
      refine pure_ (i := 3) (N := some 21) (v := ?_) (a' := ?_) #[false, true, true, true, false, false, false, false, false, false, false] rfl rfl (any_of HT_.out (by kernel_rfl)) (fun _ _ _ h => h) (Or.inl ⟨by rfl, ?_⟩) ?_ ?_
      rotate_left
      ·intro w'; go_simp; with_reducible rfl
      rotate_left
      ·simp only [Act.put, xA, xZ, xS, i64_w, i32_w]; rfl
      refine take_ (i := 0) (N := some 18) (v := ?_) (a' := ?_) #[true, true, true, true, false, false, false, false, false, false, false] rfl rfl (take_ofW HT_.out HW_.out (by kernel_rfl)) (fun _ _ _ h => h) (Or.inl ⟨by rfl, ?_⟩) hHeld ?_ ?_
      rotate_left
      ·rintro w' ⟨s0, s1, s2, s3, s4, s5⟩; go_simp; with_reducible rfl
      rotate_left
      ·simp only [Act.put, xA, xZ, xS, i64_w, i32_w]; rfl
      refine take_ (i := 4) (N := some 22) (v := ?_) (a' := ?_) #[true, true, true, true, true, false, false, false, false, false, false] rfl rfl (take_ofW HT_.out HW_.out (by kernel_rfl)) (fun _ _ _ h => h) (Or.inl ⟨by rfl, ?_⟩) hHeld ?_ ?_
      rotate_left
      ·rintro w' ⟨s0, s1, s2, s3, s4, s5⟩; go_simp; with_reducible rfl
      rotate_left
      ·simp only [Act.put, xA, xZ, xS, i64_w, i32_w]; rfl
      refine one_ (i := 5) (N := some 23) #[true, true, true, true, true, true, false, false, false, false, false] rfl rfl (one_of HT_.out (by kernel_rfl)) (by decide) (fun K hK => ?_)
      refine goes_ Try.func25 (by kernel_rfl) rfl #[.agg #[.slice A0_0 l0_0.length c0_0, .slice A0_1 l0_1.length c0_1, .int .i64 a0_2, .bool a0_3], .agg #[.int .i64 ((rd_T70 t244 x5_1).f0), .int .i64 ((rd_T70 t244 x5_1).f1)]] (by rfl) rfl rfl (by (try simp only [List.map_toArray, List.map_cons, List.map_nil]); first | done | rfl | (simp only [List.length_drop, List.length_take]; rfl)) ?_
      with_reducible refine (hogsheadref10_Find.calls k1 _ _ l0_0 _ _ l0_1 a0_2 a0_3 ((rd_T70 t244 x5_1).f0) ((rd_T70 t244 x5_1).f1) t248 t249 _ ?side1 ?side2 ?side3 ?side4 A14.out).mono ?_
      (case side1 => repeat (first | exact (Kd.C_below HR0_0.out HB.out) | (with_reducible refine Kd.C_alloc ?_ _) | (with_reducible refine Kd.C_drewN ?_ _) | (with_reducible refine Kd.C_drew ?_)))
      (case side2 => exact HC0_0.out)
      (case side3 => repeat (first | exact (Kd.C_below HR0_1.out HB.out) | (with_reducible refine Kd.C_alloc ?_ _) | (with_reducible refine Kd.C_drewN ?_ _) | (with_reducible refine Kd.C_drew ?_)))
      (case side4 => exact HC0_1.out)
      rintro e w24 ⟨rfl, hb⟩
      have HS4_ := (hb.cell (World.block_lt_of_cell? _ _ (hHeld.2.2.2.2.1))).trans (hHeld.2.2.2.2.1)
      have HS5_ := (hb.cell (World.block_lt_of_cell? _ _ (hHeld.2.2.2.2.2))).trans (hHeld.2.2.2.2.2)
      refine ⟨_, rfl, ?_⟩
      have n0_ := qM (Kd.R_below (by (with_reducible repeat first | apply RA | apply RN | apply RD); exact HO_4.out) hb)
      have n1_ := qM (qB (g := g241) (by (with_reducible repeat first | refine qN ?_ _ | refine qD ?_ | refine qA ?_ _); exact B241.out) hb)
      have n2_ := qM (qB (g := g242) (by (with_reducible repeat first | refine qN ?_ _ | refine qD ?_ | refine qA ?_ _); exact B242.out) hb)
      have n3_ := qM (qB (g := g243) (by (with_reducible repeat first | refine qN ?_ _ | refine qD ?_ | refine qA ?_ _); exact B243.out) hb)
      have n4_ := qM (eT (by repeat (first | (with_reducible first | exact HB.out | apply eA | apply eN | apply eD | refine eU ?_ (by assumption)) | exact HB.out)) hb)
      clear HO_4
      clear B241
      clear B242
      clear B243
      clear HB
      have HO_4 := n0_
      have B241 := n1_
      have B242 := n2_
      have B243 := n3_
      have HB := n4_
      clear n0_ n1_ n2_ n3_ n4_
      (try clear hb)
      (try clear hb2)
      (try clear hk)
      (try clear hi)
      refine hK.out _ _ ⟨(qC B241.out 0).trans rfl, (qC B241.out 1).trans rfl, (qC B241.out 2).trans rfl, (qC B241.out 3).trans rfl, HS4_, HS5_⟩ (fun hHeld => ?_)
      clear hK K
      refine norm_ (a' := ?_) ?_ ?_
      rotate_left
      ·show Act.put _ (some 23) _ = _
       simp only [Act.put, xA, xZ, xS, i64_w, i32_w]
       rfl
      refine pure_ (i := 6) (N := some 17) (v := ?_) (a' := ?_) #[true, true, true, true, true, true, true, false, false, false, false] rfl rfl (any_of HT_.out (by kernel_rfl)) (fun _ _ _ h => h) (Or.inl ⟨by rfl, ?_⟩) ?_ ?_
      rotate_left
      ·intro w'; go_simp; with_reducible rfl
      rotate_left
      ·simp only [Act.put, xA, xZ, xS, i64_w, i32_w]; rfl
      refine pure_ (i := 7) (N := some 24) (v := ?_) (a' := ?_) #[true, true, true, true, true, true, true, true, false, false, false] rfl rfl (any_of HT_.out (by kernel_rfl)) (fun _ _ _ h => h) (Or.inl ⟨by rfl, ?_⟩) ?_ ?_
      rotate_left
      ·intro w'; go_simp; with_reducible rfl
      rotate_left
      ·simp only [Act.put, xA, xZ, xS, i64_w, i32_w]; rfl
      refine pure_ (i := 8) (N := some 25) (v := ?_) (a' := ?_) #[true, true, true, true, true, true, true, true, true, false, false] rfl rfl (any_of HT_.out (by kernel_rfl)) (fun _ _ _ h => h) (Or.inl ⟨by rfl, ?_⟩) ?_ ?_
      rotate_left
      ·intro w'; go_simp; with_reducible rfl
      rotate_left
      ·simp only [Act.put, xA, xZ, xS, i64_w, i32_w]; rfl
      refine pure_ (i := 9) (N := some 6) (v := ?_) (a' := ?_) #[true, true, true, true, true, true, true, true, true, true, false] rfl rfl (any_of HT_.out (by kernel_rfl)) (fun _ _ _ h => h) (Or.inl ⟨by rfl, ?_⟩) ?_ ?_
      rotate_left
      ·intro w'; go_simp; with_reducible rfl
      rotate_left
      ·simp only [Act.put, xA, xZ, xS, i64_w, i32_w]; rfl
      refine pure_ (i := 10) (N := some 7) (v := ?_) (a' := ?_) #[true, true, true, true, true, true, true, true, true, true, true] rfl rfl (any_of HT_.out (by kernel_rfl)) (fun _ _ _ h => h) (Or.inl ⟨by rfl, ?_⟩) ?_ ?_
      rotate_left
      ·intro w'; go_simp; with_reducible rfl
      rotate_left
      ·simp only [Act.put, xA, xZ, xS, i64_w, i32_w]; rfl
      refine done_ (done_of HT_.out (by kernel_rfl)) ?_
      have p250 : 0 ≤ (x5_1 : Int) := of_decide_eq_true (by first | (with_reducible assumption) | assumption)
      have q250 : x5_1 < (t244.length : Int) := of_decide_eq_true (by first | (with_reducible assumption) | assumption)
      obtain ⟨ad250, e250, hx250_0, hx250_1⟩ := at_T70 (Kd.R_reads' HO_4.out).2.2 x5_1 p250 q250
      obtain rfl : ad247 = ad250 := (by injection e250)
      replace p250 := eq_true p250
      replace q250 := eq_true q250
      have hnb25 := NB243_241.out
      have hnc25 := NB241_243.out
      have hnb26 := NB243_242.out
      have hnc26 := NB242_243.out
      obtain ⟨z27_0, z27_1, z27_2, z27_3, f27_0, f27_1, f27_2, f27_3⟩ := cells4 B243.out
      try go_wp2
      go_roundg k1
      case measure => have := HK1.out; omega
      case rel => exact ⟨(wrap64 (x5_1 + 1)), (x244000_1), (x244001_1), (wrap64 (x244002_1 + 1)), (wrap64 (x244003_1 + (t248.size : Int))), (by first | rfl | (simp; done) | (simp [*]; done)), H', ⟨by have := HK1.out; omega⟩, ⟨by (with_reducible repeat first | apply RA | apply RN | apply RD); exact Kd.R_mono (Kd.R_far (p := ⟨g243, 3, none⟩) (Kd.R_far (p := ⟨g243, 2, none⟩) (Kd.R_types HO_4.out B243.out (by decide)) (fun _ hk => hk.2) (.int .i64 (wrap64 (x244002_1 + 1)))) (fun _ hk => hk.2) (.int .i64 (wrap64 (x244003_1 + (t248.size : Int))))) (fun _ hk => trivial)⟩, ⟨by (with_reducible repeat first | refine qN ?_ _ | refine qD ?_ | refine qA ?_ _); (iterate 2 (refine qR ?_ NB241_243.out _; (with_reducible repeat first | refine qN ?_ _ | refine qD ?_ | refine qA ?_ _))); exact B241.out⟩, ⟨by (with_reducible repeat first | refine qN ?_ _ | refine qD ?_ | refine qA ?_ _); (iterate 2 (refine qR ?_ NB242_243.out _; (with_reducible repeat first | refine qN ?_ _ | refine qD ?_ | refine qA ?_ _))); exact B242.out⟩, ⟨by (with_reducible repeat first | refine qN ?_ _ | refine qD ?_ | refine qA ?_ _); refine qP (cs := #[.int .i64 x244000_1, .int .i64 x244001_1, .int .i64 (wrap64 (x244002_1 + 1)), .int .i64 x244003_1]) ?_ 3 _ rfl; (with_reducible repeat first | refine qN ?_ _ | refine qD ?_ | refine qA ?_ _); refine qP (cs := #[.int .i64 x244000_1, .int .i64 x244001_1, .int .i64 x244002_1, .int .i64 x244003_1]) ?_ 2 _ rfl; (with_reducible repeat first | refine qN ?_ _ | refine qD ?_ | refine qA ?_ _); exact B243.out⟩, ⟨by repeat (first | (with_reducible first | exact HB.out | apply eA | apply eN | apply eD | refine eS ?_ GE241.out | refine eS ?_ GE242.out | refine eS ?_ GE243.out) | exact HB.out)⟩⟩
    ·rw [if_neg c13] at H
     exact absurd H (by simp)
   ·rw [if_neg c12] at H
    have c12b0 : decide (x5_1 < (t244.length : Int)) = false := decide_eq_false c12
    clear c12
    simp only [Option.some.injEq, Prod.mk.injEq] at H
    obtain ⟨rfl, rfl, rfl, rfl⟩ := H
    obtain ⟨Ao28, co28, eo28⟩ := Kd.R_slice HO_4.out
    subst eo28
    have hnb29 := NB243_241.out
    have hnc29 := NB241_243.out
    have hnb30 := NB243_242.out
    have hnc30 := NB242_243.out
    obtain ⟨z31_0, z31_1, z31_2, z31_3, f31_0, f31_1, f31_2, f31_3⟩ := cells4 B243.out
    have hnb32 := NB242_241.out
    have hnc32 := NB241_242.out
    obtain ⟨z33_0, z33_1, z33_2, z33_3, f33_0, f33_1, f33_2, f33_3⟩ := cells4 B242.out
    go_wp2
    refine bodyPost_ret (results_cell_row rfl _ _ g242 29 #[.int .i64 x244000_1, .int .i64 x244001_1, .int .i64 x244002_1, .int .i64 x244003_1] (0, 0) _ rfl (by (with_reducible repeat first | refine qN ?_ _ | refine qD ?_ | refine qA ?_ _); apply puts4; (with_reducible repeat first | refine qN ?_ _ | refine qD ?_ | refine qA ?_ _); exact B242.out) Try.underlying29 rfl (by kernel_rfl)) rfl ?_
    exact ⟨by first | rfl | (simp [errW_none, errW_some] <;> rfl) | (simp [*, errW_none, errW_some] <;> rfl), by repeat (first | (with_reducible first | exact HB.out | apply eA | apply eN | apply eD | refine eS ?_ GE241.out | refine eS ?_ GE242.out | refine eS ?_ GE243.out) | exact HB.out)⟩

end Go.Proofs.Ytlfonfceaiiinaa.PAll
