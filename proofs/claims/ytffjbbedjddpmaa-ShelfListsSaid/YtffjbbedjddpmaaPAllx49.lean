/- Functions of the program as plain Lean functions, and that each call comes to what they say. Laid by a program of this session (hprint.py); Lean checks it. -/
import Derived.Test.YtffjbbedjddpmaaPAllx0
import Derived.Test.YtffjbbedjddpmaaPAllx1
import Derived.Test.YtffjbbedjddpmaaPAllx12
import Derived.Test.YtffjbbedjddpmaaPAllx13
import Derived.Test.YtffjbbedjddpmaaPAllx19
namespace Go.Proofs.Ytffjbbedjddpmaa.PAll
open Go.RowKit Go.Proofs.YtffjbbedjddpmaaW.PrintWords Go.Proofs.YtffjbbedjddpmaaW.PrintLast Go.Proofs.YtffjbbedjddpmaaW.PrintMore
attribute [local go_sem] max2_int min2_int max_two min_two max_three min_three max_four min_four   -- for this text's walks alone
set_option linter.unusedVariables false
set_option linter.unusedSimpArgs false
attribute [local irreducible] World.setCell

attribute [local go_sem high] eqA27
/-! ### hogsheadlaw10_ShelfLists: function 7 -/
def hogsheadlaw10_ShelfLists.l0 : Nat → Bool → List (S27) → Bool → Int → List ByteArray → List (S94) → Int → Bool → Int → Int → Option (Bool)
 | 0, _, _, _, _, _, _, _, _, _, _ => none
 | k + 1, x5, x6, x7, x8, x504000, x504001, x504002, x504003, x505000, x505001 => if x8 < (x6.length : Int) then (if 0 ≤ x8 then ((shelf_Find.f k x504000 x504001 x504002 x504003 ((rd_T27 x6 x8).f0) ((rd_T27 x6 x8).f1)).bind fun bt510 => (if bt510.2 = 0 then (if x7 = true then (hogsheadlaw10_ShelfLists.l0 k x5 x6 true (wrap64 (x8 + 1)) x504000 x504001 x504002 x504003 x505000 x505001) else (hogsheadlaw10_ShelfLists.l0 k x5 x6 (((rd_T27 x6 x8).f0) == x505000 && (((rd_T27 x6 x8).f1) == x505001)) (wrap64 (x8 + 1)) x504000 x504001 x504002 x504003 x505000 x505001)) else (some false))) else (none)) else ((shelf_Find.f k x504000 x504001 x504002 x504003 x505000 x505001).bind fun bt513 => (if x5 = true then (some (x7 == (bt513.2 == 0))) else (some false)))
def hogsheadlaw10_ShelfLists.f (k : Nat) (l0_0 : List ByteArray) (l0_1 : List (S94)) (a0_2 : Int) (a0_3 : Bool) (a1_0 : Int) (a1_1 : Int) : Option (Bool) := (hogsheadlaw10_shown.f k).bind fun t505 => ((shelf_List.f k l0_0 l0_1 a0_2 a0_3).bind fun t506 => (hogsheadlaw10_ShelfLists.l0 k t505 t506 false 0 l0_0 l0_1 a0_2 a0_3 a1_0 a1_1))
theorem hogsheadlaw10_ShelfLists.mono_l : ∀ k, (∀ y0 y1 y2 y3 y4 y5 y6 y7 y8 y9, LeO (hogsheadlaw10_ShelfLists.l0 k y0 y1 y2 y3 y4 y5 y6 y7 y8 y9) (hogsheadlaw10_ShelfLists.l0 (k + 1) y0 y1 y2 y3 y4 y5 y6 y7 y8 y9))
 | 0 => fun _ _ _ _ _ _ _ _ _ _ r h => by simp [hogsheadlaw10_ShelfLists.l0] at h
 | k + 1 => by
  have ih0 := hogsheadlaw10_ShelfLists.mono_l k
  ·intro y0 y1 y2 y3 y4 y5 y6 y7 y8 y9
   unfold hogsheadlaw10_ShelfLists.l0
   repeat' first
   | (with_reducible exact ih0 _ _ _ _ _ _ _ _ _ _)
   | (with_reducible exact hogsheadlaw10_shown.mono _)
   | (with_reducible exact shelf_Find.mono _ _ _ _ _ _ _)
   | (with_reducible exact shelf_List.mono _ _ _ _ _)
   | (with_reducible exact LeO.refl _)
   | (with_reducible exact LeO.none _)
   | (with_reducible refine LeO.ite ?_ ?_)
   | (with_reducible refine LeO.bind ?_ (fun _ => ?_))
   | exact ih0 _ _ _ _ _ _ _ _ _ _
   | exact hogsheadlaw10_shown.mono _
   | exact shelf_Find.mono _ _ _ _ _ _ _
   | exact shelf_List.mono _ _ _ _ _
   | exact LeO.none _
   | refine LeO.ite ?_ ?_
   | refine LeO.bind ?_ (fun _ => ?_)
theorem hogsheadlaw10_ShelfLists.mono : ∀ a0 a1 a2 a3 a4 a5 k, LeO (hogsheadlaw10_ShelfLists.f k a0 a1 a2 a3 a4 a5) (hogsheadlaw10_ShelfLists.f (k + 1) a0 a1 a2 a3 a4 a5) := by
 intro a0 a1 a2 a3 a4 a5 k
 have ih0 := hogsheadlaw10_ShelfLists.mono_l k
 unfold hogsheadlaw10_ShelfLists.f
 repeat' first
   | (with_reducible exact ih0 _ _ _ _ _ _ _ _ _ _)
   | (with_reducible exact hogsheadlaw10_shown.mono _)
   | (with_reducible exact shelf_Find.mono _ _ _ _ _ _ _)
   | (with_reducible exact shelf_List.mono _ _ _ _ _)
   | (with_reducible exact LeO.refl _)
   | (with_reducible exact LeO.none _)
   | (with_reducible refine LeO.ite ?_ ?_)
   | (with_reducible refine LeO.bind ?_ (fun _ => ?_))
   | exact ih0 _ _ _ _ _ _ _ _ _ _
   | exact hogsheadlaw10_shown.mono _
   | exact shelf_Find.mono _ _ _ _ _ _ _
   | exact shelf_List.mono _ _ _ _ _
   | exact LeO.none _
   | refine LeO.ite ?_ ?_
   | refine LeO.bind ?_ (fun _ => ?_)
def hogsheadlaw10_ShelfLists.T7 : Bool × List (List Nat × List Nat) := (true, [([], []), ([], []), ([], []), ([1, 2], [1, 2]), ([3], [3]), ([0, 4], [0, 4]), ([5], [5]), ([6], [6]), ([6], [6]), ([7, 5, 0, 1, 2, 3, 4, 5, 6, 7], [7]), ([8, 9, 0, 1, 2, 3, 4, 5, 6, 7, 8, 9], [8])])
def hogsheadlaw10_ShelfLists.B7 : List Nat := [0, 0, 0, 6, 14, 31, 63, 127, 127, 255, 1023]
theorem hogsheadlaw10_ShelfLists.tab7 : rtab .any (opsOf Try.f7 7) = hogsheadlaw10_ShelfLists.T7 := by kernel_rfl
theorem hogsheadlaw10_ShelfLists.bits7 : waitsOk hogsheadlaw10_ShelfLists.T7.2 hogsheadlaw10_ShelfLists.B7 = true := by kernel_rfl
def hogsheadlaw10_ShelfLists.T10 : Bool × List (List Nat × List Nat) := (true, [([], []), ([0], [0]), ([1], [1]), ([1], [1]), ([2, 3, 1], [1, 2, 3]), ([4, 1], [1, 4]), ([1], [1]), ([5, 6, 1], [1, 5, 6]), ([1, 7], [1, 7]), ([8, 1, 0, 1, 2, 3, 4, 5, 6, 7, 8], [0, 8])])
def hogsheadlaw10_ShelfLists.B10 : List Nat := [0, 1, 3, 3, 15, 31, 3, 127, 255, 511]
theorem hogsheadlaw10_ShelfLists.tab10 : rtab .any (opsOf Try.f7 10) = hogsheadlaw10_ShelfLists.T10 := by kernel_rfl
theorem hogsheadlaw10_ShelfLists.bits10 : waitsOk hogsheadlaw10_ShelfLists.T10.2 hogsheadlaw10_ShelfLists.B10 = true := by kernel_rfl
set_option maxHeartbeats 40000000 in
set_option maxRecDepth 100000 in
theorem hogsheadlaw10_ShelfLists.calls (k : Nat) (A0_0 : Option Addr) (c0_0 : Nat) (l0_0 : List ByteArray) (A0_1 : Option Addr) (c0_1 : Nat) (l0_1 : List (S94)) (a0_2 : Int) (a0_3 : Bool) (a1_0 : Int) (a1_1 : Int) (r : Bool) (w : World) (hr0_0 : Kd.C Kd.string w A0_0 l0_0.length l0_0) (hc0_0 : l0_0.length ≤ c0_0) (hr0_1 : Kd.C k94 w A0_1 l0_1.length l0_1) (hc0_1 : l0_1.length ≤ c0_1) (h : hogsheadlaw10_ShelfLists.f k l0_0 l0_1 a0_2 a0_3 a1_0 a1_1 = some r) :
  Calls Try.prog 7 #[.agg #[.slice A0_0 l0_0.length c0_0, .slice A0_1 l0_1.length c0_1, .int .i64 a0_2, .bool a0_3], .agg #[.int .i64 a1_0, .int .i64 a1_1]] w fun e w' => e = .returned (.bool r) ∧ Below w.heap.size w w' := by
 have hu25 := Try.underlying25
 have hu27 := Try.underlying27
 have HR0_0 := qM hr0_0
 have HC0_0 := qM hc0_0
 clear hr0_0 hc0_0
 have HR0_1 := qM hr0_1
 have HC0_1 := qM hc0_1
 clear hr0_1 hc0_1
 have HB := qM (Below.refl w.heap.size w)
 have H : ((hogsheadlaw10_shown.f k).bind fun t505 => ((shelf_List.f k l0_0 l0_1 a0_2 a0_3).bind fun t506 => (hogsheadlaw10_ShelfLists.l0 k t505 t506 false 0 l0_0 l0_1 a0_2 a0_3 a1_0 a1_1))) = some r := h
 clear h
 replace H := Option.bind_eq_some_iff.mp H
 obtain ⟨t505, A30, H⟩ := H
 replace H : ((shelf_List.f k l0_0 l0_1 a0_2 a0_3).bind fun t506 => (hogsheadlaw10_ShelfLists.l0 k t505 t506 false 0 l0_0 l0_1 a0_2 a0_3 a1_0 a1_1)) = some r := H
 have A3 := qM A30
 clear A30
 replace H := Option.bind_eq_some_iff.mp H
 obtain ⟨t506, A40, H⟩ := H
 replace H : (hogsheadlaw10_ShelfLists.l0 k t505 t506 false 0 l0_0 l0_1 a0_2 a0_3 a1_0 a1_1) = some r := H
 have A4 := qM A40
 clear A40
 have H' := qM H
 clear H
 go_enter Try.func7, Try.ntmps7
 go_wp2_with (first | ((with_reducible refine gate_dst (N := 2) rfl ?_); refine box_event ?hg (N := 2) ?hd (cs := #[.slice A0_0 l0_0.length c0_0, .slice A0_1 l0_1.length c0_1, .int .i64 a0_2, .bool a0_3]) (t := 25) ?hr ?_; (case hd => rfl); (case hg => rfl); (case hr => first | (go_simp; done) | (go_simp; rfl)); intro g503 hg w5 hbox hb; have n0_ := qM (eT (by repeat (first | (with_reducible first | exact HB.out | apply eA | apply eN | apply eD) | exact HB.out)) hb); have n1_ := qM (hbox); have n2_ := qM ((by rw [hg]; exact (eZ (by repeat (first | (with_reducible first | exact HB.out | apply eA | apply eN | apply eD) | exact HB.out))) : w.heap.size ≤ g503)); have n3_ := n2_; clear HB; have HB := n0_; have B503 := n1_; have GW503 := n2_; have GE503 := n3_; clear n0_ n1_ n2_ n3_; clear hb hbox hg) | ((with_reducible refine gate_dst (N := 3) rfl ?_); refine box_event ?hg (N := 3) ?hd (cs := #[.int .i64 a1_0, .int .i64 a1_1]) (t := 27) ?hr ?_; (case hd => rfl); (case hg => rfl); (case hr => first | (go_simp; done) | (go_simp; rfl)); intro g504 hg w6 hbox hb; have n0_ := qM (qB (g := g503) (by (with_reducible repeat first | refine qN ?_ _ | refine qD ?_ | refine qA ?_ _); exact B503.out) hb); have n1_ := qM (eT (by repeat (first | (with_reducible first | exact HB.out | apply eA | apply eN | apply eD | refine eU ?_ (by assumption)) | exact HB.out)) hb); have n2_ := qM (hbox); have n3_ := qM ((by rw [hg]; exact (eZ (by repeat (first | (with_reducible first | exact HB.out | apply eA | apply eN | apply eD | refine eU ?_ (by assumption)) | exact HB.out))) : w.heap.size ≤ g504)); have n4_ := n3_; have n5_ := qM ((by rw [hg]; exact Nat.ne_of_lt (qL (g := g503) (by (with_reducible repeat first | refine qN ?_ _ | refine qD ?_ | refine qA ?_ _); exact B503.out)) : g503 ≠ g504)); have n6_ := qM (Ne.symm n5_.out); clear B503 HB; have B503 := n0_; have HB := n1_; have B504 := n2_; have GW504 := n3_; have GE504 := n4_; have NB503_504 := n5_; have NB504_503 := n6_; clear n0_ n1_ n2_ n3_ n4_ n5_ n6_; clear hb hbox hg) | ((with_reducible refine gate_callee (f := 11) rfl ?_); refine goesL_ (some 13) rfl rfl Try.func11 (by kernel_rfl) rfl #[] rfl (by (try simp only [List.map_toArray, List.map_cons, List.map_nil]); first | done | rfl | (simp only [List.length_drop, List.length_take]; rfl)) ?_; (with_reducible refine (hogsheadlaw10_shown.calls k  t505 _ A3.out).mono ?_); rintro e w7 ⟨rfl, hb⟩; refine ⟨_, rfl, ?_⟩; have n0_ := qM (qB (g := g503) (by (with_reducible repeat first | refine qN ?_ _ | refine qD ?_ | refine qA ?_ _); exact B503.out) hb); have n1_ := qM (qB (g := g504) (by (with_reducible repeat first | refine qN ?_ _ | refine qD ?_ | refine qA ?_ _); exact B504.out) hb); have n2_ := qM (eT (by repeat (first | (with_reducible first | exact HB.out | apply eA | apply eN | apply eD | refine eU ?_ (by assumption)) | exact HB.out)) hb); clear B503 B504 HB; have B503 := n0_; have B504 := n1_; have HB := n2_; clear n0_ n1_ n2_; (try clear hb); (try clear hb2); (try clear hk); (try clear hi); have hnb8 := NB503_504.out; have hnc8 := NB504_503.out; obtain ⟨z9_0, z9_1, z9_2, z9_3, f9_0, f9_1, f9_2, f9_3⟩ := cells4 B503.out) | ((with_reducible refine gate_callee (f := 13) rfl ?_); refine goesL_ (some 15) rfl rfl Try.func13 (by kernel_rfl) rfl #[.agg #[.slice A0_0 l0_0.length c0_0, .slice A0_1 l0_1.length c0_1, .int .i64 a0_2, .bool a0_3]] rfl (by (try simp only [List.map_toArray, List.map_cons, List.map_nil]); first | done | rfl | (simp only [List.length_drop, List.length_take]; rfl)) ?_; (with_reducible refine (shelf_List.calls k _ _ l0_0 _ _ l0_1 a0_2 a0_3 t506 _ ?side1 ?side2 ?side3 ?side4 A4.out).mono ?_); (case side1 => repeat (first | exact (Kd.C_below HR0_0.out HB.out) | (with_reducible refine Kd.C_alloc ?_ _) | (with_reducible refine Kd.C_drewN ?_ _) | (with_reducible refine Kd.C_drew ?_))); (case side2 => exact HC0_0.out); (case side3 => repeat (first | exact (Kd.C_below HR0_1.out HB.out) | (with_reducible refine Kd.C_alloc ?_ _) | (with_reducible refine Kd.C_drewN ?_ _) | (with_reducible refine Kd.C_drew ?_))); (case side4 => exact HC0_1.out); rintro e w10 ⟨v507, rfl, ho0, hb⟩; refine ⟨_, rfl, ?_⟩; have n0_ := qM (Kd.R_lower (Kd.R_newB ho0 (g := g504) (o := .cells #[.int .i64 a1_0, .int .i64 a1_1] 27 (0, 0)) (by (with_reducible repeat first | refine qN ?_ _ | refine qD ?_ | refine qA ?_ _); exact B504.out)) (eZ (by repeat (first | (with_reducible first | exact HB.out | apply eA | apply eN | apply eD | refine eU ?_ (by assumption)) | exact HB.out)))); have n1_ := qM (qB (g := g503) (by (with_reducible repeat first | refine qN ?_ _ | refine qD ?_ | refine qA ?_ _); exact B503.out) hb); have n2_ := qM (qB (g := g504) (by (with_reducible repeat first | refine qN ?_ _ | refine qD ?_ | refine qA ?_ _); exact B504.out) hb); have n3_ := qM (eT (by repeat (first | (with_reducible first | exact HB.out | apply eA | apply eN | apply eD | refine eU ?_ (by assumption)) | exact HB.out)) hb); clear B503 B504 HB; have HO508 := n0_; have B503 := n1_; have B504 := n2_; have HB := n3_; clear n0_ n1_ n2_ n3_; (try clear hb); (try clear hb2); (try clear hk); (try clear hi); (try clear ho0)))
 go_loopg [7, 8] k (fun kq v7 v8 w' => ∃ (x7_1 : Bool) (x8_1 : Int), v7 = .bool x7_1 ∧ v8 = .int .i64 x8_1 ∧ Aside0 (hogsheadlaw10_ShelfLists.l0 kq t505 t506 x7_1 x8_1 l0_0 l0_1 a0_2 a0_3 a1_0 a1_1 = some r) ∧ Aside0 (kq ≤ k) ∧ Aside0 (Kd.R k27 27 w' w.heap.size (fun k_ => k_ ≠ g504) v507 t506) ∧ Aside0 (w'.heap[g503]? = some (.cells #[(.slice A0_0 l0_0.length c0_0), (.slice A0_1 l0_1.length c0_1), .int .i64 a0_2, .bool a0_3] 25 (0, 0))) ∧ Aside0 (w'.heap[g504]? = some (.cells #[.int .i64 a1_0, .int .i64 a1_1] 27 (0, 0))) ∧ Aside0 (Below w.heap.size w w'))
 case atStart => exact ⟨(false), (0), (by first | rfl | (simp; done) | (simp [*]; done)), (by first | rfl | (simp; done) | (simp [*]; done)), H', ⟨Nat.le_refl _⟩, ⟨by (with_reducible repeat first | apply RA | apply RN | apply RD); exact Kd.R_mono HO508.out (fun _ hk => hk.2)⟩, ⟨by (with_reducible repeat first | refine qN ?_ _ | refine qD ?_ | refine qA ?_ _); exact B503.out⟩, ⟨by (with_reducible repeat first | refine qN ?_ _ | refine qD ?_ | refine qA ?_ _); exact B504.out⟩, ⟨by repeat (first | (with_reducible first | exact HB.out | apply eA | apply eN | apply eD | refine eS ?_ GE503.out | refine eS ?_ GE504.out) | exact HB.out)⟩⟩
 case round =>
  clear H'
  try clear c1
  try clear p2
  try clear c7
  try clear c8
  try clear z9_0
  try clear z9_1
  try clear z9_2
  try clear z9_3
  try clear f9_0
  try clear f9_1
  try clear f9_2
  try clear f9_3
  obtain ⟨x7_1, x8_1, rfl, rfl, HA, HK1, HO_6, B503, B504, HB⟩ := hrel
  cases gk with
  | zero => exact absurd HA.out (by simp [hogsheadlaw10_ShelfLists.l0])
  | succ k1 =>
   have H := HA.out
   clear HA
   simp only [hogsheadlaw10_ShelfLists.l0] at H
   by_cases c11 : x8_1 < (t506.length : Int)
   ·rw [if_pos c11] at H
    have c11b0 : decide (x8_1 < (t506.length : Int)) = true := decide_eq_true c11
    clear c11
    by_cases c12 : 0 ≤ x8_1
    ·rw [if_pos c12] at H
     have c12b0 : decide (0 ≤ x8_1) = true := decide_eq_true c12
     clear c12
     replace H := Option.bind_eq_some_iff.mp H
     obtain ⟨⟨t510, t511⟩, A130, H⟩ := H
     replace H : (if t511 = 0 then (if x7_1 = true then (hogsheadlaw10_ShelfLists.l0 k1 t505 t506 true (wrap64 (x8_1 + 1)) l0_0 l0_1 a0_2 a0_3 a1_0 a1_1) else (hogsheadlaw10_ShelfLists.l0 k1 t505 t506 (((rd_T27 t506 x8_1).f0) == a1_0 && (((rd_T27 t506 x8_1).f1) == a1_1)) (wrap64 (x8_1 + 1)) l0_0 l0_1 a0_2 a0_3 a1_0 a1_1)) else (some false)) = some r := H
     have A13 := qM A130
     clear A130
     by_cases c14 : t511 = 0
     ·rw [if_pos c14] at H
      have c14b0 : (t511 == 0) = true := beq_iff_eq.mpr c14
      have c14b1 : (t511 != 0) = false := bne_eq_false_iff_eq.mpr c14
      clear c14
      by_cases c15 : x7_1 = true
      ·subst c15
       have H1 : (hogsheadlaw10_ShelfLists.l0 k1 t505 t506 true (wrap64 (x8_1 + 1)) l0_0 l0_1 a0_2 a0_3 a1_0 a1_1) = some r := by rw [if_pos rfl] at H; exact H
       clear H
       have H := H1
       clear H1
       have H' := qM H
       clear H
       obtain ⟨Ao16, co16, eo16⟩ := Kd.R_slice HO_6.out
       subst eo16
       try go_wp2
       have n0_ := qM (Kd.R_drew HO_6.out)
       have n1_ := qM (blk_drew B503.out)
       have n2_ := qM (blk_drew B504.out)
       have n3_ := qM (below_drew1 HB.out)
       clear HO_6
       clear B503
       clear B504
       clear HB
       have HO_6 := n0_
       have B503 := n1_
       have B504 := n2_
       have HB := n3_
       clear n0_ n1_ n2_ n3_
       have p509 : 0 ≤ (x8_1 : Int) := of_decide_eq_true (by first | (with_reducible assumption) | assumption)
       have q509 : x8_1 < (t506.length : Int) := of_decide_eq_true (by first | (with_reducible assumption) | assumption)
       obtain ⟨ad509, e509, hx509_0, hx509_1⟩ := at_T27 (Kd.R_reads' HO_6.out).2.2 x8_1 p509 q509
       cases e509
       replace p509 := eq_true p509
       replace q509 := eq_true q509
       refine start_ (n := 11) (S := fun w' => w'.cell? ⟨g503, 0, none⟩ = some (.slice A0_0 l0_0.length c0_0) ∧ w'.cell? ⟨g503, 1, none⟩ = some (.slice A0_1 l0_1.length c0_1) ∧ w'.cell? ⟨g503, 2, none⟩ = some (.int .i64 a0_2) ∧ w'.cell? ⟨g503, 3, none⟩ = some (.bool a0_3) ∧ w'.cell? (ad509.add ((x8_1).toNat * 2)) = some (.int .i64 ((rd_T27 t506 x8_1).f0)) ∧ w'.cell? ⟨(ad509.add ((x8_1).toNat * 2)).block, (ad509.add ((x8_1).toNat * 2)).off + 1, none⟩ = some (.int .i64 ((rd_T27 t506 x8_1).f1))) (ds := []) #[false, false, false, false, false, false, false, false, false, false, false] (by kernel_rfl) rfl rfl ⟨(qC B503.out 0).trans rfl, (qC B503.out 1).trans rfl, (qC B503.out 2).trans rfl, (qC B503.out 3).trans rfl, hx509_0, hx509_1⟩ (fun hHeld => ?_); refine with_tabW hogsheadlaw10_ShelfLists.tab7 hogsheadlaw10_ShelfLists.bits7 (fun HT_ HW_ => ?_)
       generalize wr.drew = w17 at HO_6 B503 B504 HB hx509_0 hx509_1 hHeld ⊢
       refine pure_ (i := 1) (N := some 24) (v := ?_) (a' := ?_) #[false, true, false, false, false, false, false, false, false, false, false] rfl rfl (any_of HT_.out (by kernel_rfl)) (fun _ _ _ h => h) (Or.inl ⟨by rfl, ?_⟩) ?_ ?_
       rotate_left
       ·intro w'; go_simp; with_reducible rfl
       rotate_left
       ·simp only [Act.put, xA, xZ, xS, i64_w, i32_w]; rfl
       refine pure_ (i := 2) (N := some 25) (v := ?_) (a' := ?_) #[false, true, true, false, false, false, false, false, false, false, false] rfl rfl (any_of HT_.out (by kernel_rfl)) (fun _ _ _ h => h) (Or.inl ⟨by rfl, ?_⟩) ?_ ?_
       rotate_left
       ·intro w'; go_simp; with_reducible rfl
       rotate_left
       ·simp only [Act.put, xA, xZ, xS, i64_w, i32_w]; rfl
       refine pure_ (i := 3) (N := some 26) (v := ?_) (a' := ?_) #[false, true, true, true, false, false, false, false, false, false, false] rfl rfl (any_of HT_.out (by kernel_rfl)) (fun _ _ _ h => h) (Or.inl ⟨by rfl, ?_⟩) ?_ ?_
       rotate_left
       ·intro w'; go_simp; with_reducible rfl
       rotate_left
       ·simp only [Act.put, xA, xZ, xS, i64_w, i32_w]; rfl
       refine take_ (i := 0) (N := some 23) (v := ?_) (a' := ?_) #[true, true, true, true, false, false, false, false, false, false, false] rfl rfl (take_ofW HT_.out HW_.out (by kernel_rfl)) (fun _ _ _ h => h) (Or.inl ⟨by rfl, ?_⟩) hHeld ?_ ?_
       rotate_left
       ·rintro w' ⟨s0, s1, s2, s3, s4, s5⟩; go_simp; with_reducible rfl
       rotate_left
       ·simp only [Act.put, xA, xZ, xS, i64_w, i32_w]; rfl
       refine take_ (i := 4) (N := some 27) (v := ?_) (a' := ?_) #[true, true, true, true, true, false, false, false, false, false, false] rfl rfl (take_ofW HT_.out HW_.out (by kernel_rfl)) (fun _ _ _ h => h) (Or.inl ⟨by rfl, ?_⟩) hHeld ?_ ?_
       rotate_left
       ·rintro w' ⟨s0, s1, s2, s3, s4, s5⟩; go_simp; with_reducible rfl
       rotate_left
       ·simp only [Act.put, xA, xZ, xS, i64_w, i32_w]; rfl
       refine one_ (i := 5) (N := some 28) #[true, true, true, true, true, true, false, false, false, false, false] rfl rfl (one_of HT_.out (by kernel_rfl)) (by decide) (fun K hK => ?_)
       refine goes_ Try.func18 (by kernel_rfl) rfl #[.agg #[.slice A0_0 l0_0.length c0_0, .slice A0_1 l0_1.length c0_1, .int .i64 a0_2, .bool a0_3], .agg #[.int .i64 ((rd_T27 t506 x8_1).f0), .int .i64 ((rd_T27 t506 x8_1).f1)]] (by rfl) rfl rfl (by (try simp only [List.map_toArray, List.map_cons, List.map_nil]); first | done | rfl | (simp only [List.length_drop, List.length_take]; rfl)) ?_
       with_reducible refine (shelf_Find.calls k1 _ _ l0_0 _ _ l0_1 a0_2 a0_3 ((rd_T27 t506 x8_1).f0) ((rd_T27 t506 x8_1).f1) t510 t511 _ ?side1 ?side2 ?side3 ?side4 A13.out).mono ?_
       (case side1 => repeat (first | exact (Kd.C_below HR0_0.out HB.out) | (with_reducible refine Kd.C_alloc ?_ _) | (with_reducible refine Kd.C_drewN ?_ _) | (with_reducible refine Kd.C_drew ?_)))
       (case side2 => exact HC0_0.out)
       (case side3 => repeat (first | exact (Kd.C_below HR0_1.out HB.out) | (with_reducible refine Kd.C_alloc ?_ _) | (with_reducible refine Kd.C_drewN ?_ _) | (with_reducible refine Kd.C_drew ?_)))
       (case side4 => exact HC0_1.out)
       rintro e w18 ⟨rfl, hb⟩
       have HS4_ := (hb.cell (World.block_lt_of_cell? _ _ (hHeld.2.2.2.2.1))).trans (hHeld.2.2.2.2.1)
       have HS5_ := (hb.cell (World.block_lt_of_cell? _ _ (hHeld.2.2.2.2.2))).trans (hHeld.2.2.2.2.2)
       refine ⟨_, rfl, ?_⟩
       have n0_ := qM (Kd.R_below (by (with_reducible repeat first | apply RA | apply RN | apply RD); exact HO_6.out) hb)
       have n1_ := qM (qB (g := g503) (by (with_reducible repeat first | refine qN ?_ _ | refine qD ?_ | refine qA ?_ _); exact B503.out) hb)
       have n2_ := qM (qB (g := g504) (by (with_reducible repeat first | refine qN ?_ _ | refine qD ?_ | refine qA ?_ _); exact B504.out) hb)
       have n3_ := qM (eT (by repeat (first | (with_reducible first | exact HB.out | apply eA | apply eN | apply eD | refine eU ?_ (by assumption)) | exact HB.out)) hb)
       clear HO_6
       clear B503
       clear B504
       clear HB
       have HO_6 := n0_
       have B503 := n1_
       have B504 := n2_
       have HB := n3_
       clear n0_ n1_ n2_ n3_
       (try clear hb)
       (try clear hb2)
       (try clear hk)
       (try clear hi)
       refine hK.out _ _ ⟨(qC B503.out 0).trans rfl, (qC B503.out 1).trans rfl, (qC B503.out 2).trans rfl, (qC B503.out 3).trans rfl, HS4_, HS5_⟩ (fun hHeld => ?_)
       clear hK K
       refine norm_ (a' := ?_) ?_ ?_
       rotate_left
       ·show Act.put _ (some 28) _ = _
        simp only [Act.put, xA, xZ, xS, i64_w, i32_w]
        rfl
       refine pure_ (i := 6) (N := some 22) (v := ?_) (a' := ?_) #[true, true, true, true, true, true, true, false, false, false, false] rfl rfl (any_of HT_.out (by kernel_rfl)) (fun _ _ _ h => h) (Or.inl ⟨by rfl, ?_⟩) ?_ ?_
       rotate_left
       ·intro w'; go_simp; with_reducible rfl
       rotate_left
       ·simp only [Act.put, xA, xZ, xS, i64_w, i32_w]; rfl
       refine pure_ (i := 7) (N := some 29) (v := ?_) (a' := ?_) #[true, true, true, true, true, true, true, true, false, false, false] rfl rfl (any_of HT_.out (by kernel_rfl)) (fun _ _ _ h => h) (Or.inl ⟨by rfl, ?_⟩) ?_ ?_
       rotate_left
       ·intro w'; go_simp; with_reducible rfl
       rotate_left
       ·simp only [Act.put, xA, xZ, xS, i64_w, i32_w]; rfl
       refine pure_ (i := 8) (N := some 30) (v := ?_) (a' := ?_) #[true, true, true, true, true, true, true, true, true, false, false] rfl rfl (any_of HT_.out (by kernel_rfl)) (fun _ _ _ h => h) (Or.inl ⟨by rfl, ?_⟩) ?_ ?_
       rotate_left
       ·intro w'; go_simp; with_reducible rfl
       rotate_left
       ·simp only [Act.put, xA, xZ, xS, i64_w, i32_w]; rfl
       refine pure_ (i := 9) (N := some 9) (v := ?_) (a' := ?_) #[true, true, true, true, true, true, true, true, true, true, false] rfl rfl (any_of HT_.out (by kernel_rfl)) (fun _ _ _ h => h) (Or.inl ⟨by rfl, ?_⟩) ?_ ?_
       rotate_left
       ·intro w'; go_simp; with_reducible rfl
       rotate_left
       ·simp only [Act.put, xA, xZ, xS, i64_w, i32_w]; rfl
       refine pure_ (i := 10) (N := some 10) (v := ?_) (a' := ?_) #[true, true, true, true, true, true, true, true, true, true, true] rfl rfl (any_of HT_.out (by kernel_rfl)) (fun _ _ _ h => h) (Or.inl ⟨by rfl, ?_⟩) ?_ ?_
       rotate_left
       ·intro w'; go_simp; with_reducible rfl
       rotate_left
       ·simp only [Act.put, xA, xZ, xS, i64_w, i32_w]; rfl
       refine done_ (done_of HT_.out (by kernel_rfl)) ?_
       try go_wp2
       have n0_ := qM (Kd.R_drew HO_6.out)
       have n1_ := qM (blk_drew B503.out)
       have n2_ := qM (blk_drew B504.out)
       have n3_ := qM (below_drew1 HB.out)
       clear HO_6
       clear B503
       clear B504
       clear HB
       have HO_6 := n0_
       have B503 := n1_
       have B504 := n2_
       have HB := n3_
       clear n0_ n1_ n2_ n3_
       refine start_ (n := 10) (S := fun w' => True) (ds := []) #[false, false, false, false, false, false, false, false, false, false] (by kernel_rfl) rfl rfl trivial (fun hHeld => ?_); refine with_tabW hogsheadlaw10_ShelfLists.tab10 hogsheadlaw10_ShelfLists.bits10 (fun HT_ HW_ => ?_)
       generalize w18.drew = w19 at HO_6 B503 B504 HB hHeld ⊢
       refine pure_ (i := 0) (N := some 33) (v := ?_) (a' := ?_) #[true, false, false, false, false, false, false, false, false, false] rfl rfl (any_of HT_.out (by kernel_rfl)) (fun _ _ _ h => h) (Or.inl ⟨by rfl, ?_⟩) ?_ ?_
       rotate_left
       ·intro w'; go_simp; with_reducible rfl
       rotate_left
       ·simp only [Act.put, xA, xZ, xS, i64_w, i32_w]; rfl
       refine pure_ (i := 1) (N := some 34) (v := ?_) (a' := ?_) #[true, true, false, false, false, false, false, false, false, false] rfl rfl (any_of HT_.out (by kernel_rfl)) (fun _ _ _ h => h) (Or.inl ⟨by rfl, ?_⟩) ?_ ?_
       rotate_left
       ·intro w'; go_simp; with_reducible rfl
       rotate_left
       ·simp only [Act.put, xA, xZ, xS, i64_w, i32_w]; rfl
       refine pure_ (i := 2) (N := some 35) (v := undef) (a' := ?_) #[true, true, true, false, false, false, false, false, false, false] rfl rfl (any_of HT_.out (by kernel_rfl)) (fun _ _ _ h => h) (Or.inr ⟨by rfl, rfl⟩) ?_ ?_
       rotate_left
       ·simp only [Act.put, xA, xZ, xS, i64_w, i32_w]; rfl
       refine pure_ (i := 3) (N := some 36) (v := undef) (a' := ?_) #[true, true, true, true, false, false, false, false, false, false] rfl rfl (any_of HT_.out (by kernel_rfl)) (fun _ _ _ h => h) (Or.inr ⟨by rfl, rfl⟩) ?_ ?_
       rotate_left
       ·simp only [Act.put, xA, xZ, xS, i64_w, i32_w]; rfl
       refine pure_ (i := 4) (N := some 37) (v := undef) (a' := ?_) #[true, true, true, true, true, false, false, false, false, false] rfl rfl (any_of HT_.out (by kernel_rfl)) (fun _ _ _ h => h) (Or.inr ⟨by rfl, rfl⟩) ?_ ?_
       rotate_left
       ·simp only [Act.put, xA, xZ, xS, i64_w, i32_w]; rfl
       refine pure_ (i := 5) (N := some 38) (v := undef) (a' := ?_) #[true, true, true, true, true, true, false, false, false, false] rfl rfl (any_of HT_.out (by kernel_rfl)) (fun _ _ _ h => h) (Or.inr ⟨by rfl, rfl⟩) ?_ ?_
       rotate_left
       ·simp only [Act.put, xA, xZ, xS, i64_w, i32_w]; rfl
       refine pure_ (i := 6) (N := some 39) (v := undef) (a' := ?_) #[true, true, true, true, true, true, true, false, false, false] rfl rfl (any_of HT_.out (by kernel_rfl)) (fun _ _ _ h => h) (Or.inr ⟨by rfl, rfl⟩) ?_ ?_
       rotate_left
       ·simp only [Act.put, xA, xZ, xS, i64_w, i32_w]; rfl
       refine pure_ (i := 7) (N := some 40) (v := undef) (a' := ?_) #[true, true, true, true, true, true, true, true, false, false] rfl rfl (any_of HT_.out (by kernel_rfl)) (fun _ _ _ h => h) (Or.inr ⟨by rfl, rfl⟩) ?_ ?_
       rotate_left
       ·simp only [Act.put, xA, xZ, xS, i64_w, i32_w]; rfl
       refine pure_ (i := 8) (N := some 41) (v := ?_) (a' := ?_) #[true, true, true, true, true, true, true, true, true, false] rfl rfl (any_of HT_.out (by kernel_rfl)) (fun _ _ _ h => h) (Or.inl ⟨by rfl, ?_⟩) ?_ ?_
       rotate_left
       ·intro w'; go_simp; with_reducible rfl
       rotate_left
       ·simp only [Act.put, xA, xZ, xS, i64_w, i32_w]; rfl
       refine pure_ (i := 9) (N := some 7) (v := ?_) (a' := ?_) #[true, true, true, true, true, true, true, true, true, true] rfl rfl (any_of HT_.out (by kernel_rfl)) (fun _ _ _ h => h) (Or.inl ⟨by rfl, ?_⟩) ?_ ?_
       rotate_left
       ·intro w'; go_simp; with_reducible rfl
       rotate_left
       ·simp only [Act.put, xA, xZ, xS, i64_w, i32_w]; rfl
       refine done_ (done_of HT_.out (by kernel_rfl)) ?_
       try go_wp2
       go_roundg k1
       case measure => have := HK1.out; omega
       case rel => exact ⟨(true), (wrap64 (x8_1 + 1)), (by first | rfl | (simp; done) | (simp [*]; done)), (by first | rfl | (simp; done) | (simp [*]; done)), H', ⟨by have := HK1.out; omega⟩, ⟨by (with_reducible repeat first | apply RA | apply RN | apply RD); exact HO_6.out⟩, ⟨by (with_reducible repeat first | refine qN ?_ _ | refine qD ?_ | refine qA ?_ _); exact B503.out⟩, ⟨by (with_reducible repeat first | refine qN ?_ _ | refine qD ?_ | refine qA ?_ _); exact B504.out⟩, ⟨by repeat (first | (with_reducible first | exact HB.out | apply eA | apply eN | apply eD | refine eS ?_ GE503.out | refine eS ?_ GE504.out) | exact HB.out)⟩⟩
      ·replace c15 := Bool.eq_false_iff.mpr c15
       subst c15
       have H1 : (hogsheadlaw10_ShelfLists.l0 k1 t505 t506 (((rd_T27 t506 x8_1).f0) == a1_0 && (((rd_T27 t506 x8_1).f1) == a1_1)) (wrap64 (x8_1 + 1)) l0_0 l0_1 a0_2 a0_3 a1_0 a1_1) = some r := by rw [if_neg (show ¬ (false = true) by decide)] at H; exact H
       clear H
       have H := H1
       clear H1
       have H' := qM H
       clear H
       obtain ⟨Ao20, co20, eo20⟩ := Kd.R_slice HO_6.out
       subst eo20
       try go_wp2
       have n0_ := qM (Kd.R_drew HO_6.out)
       have n1_ := qM (blk_drew B503.out)
       have n2_ := qM (blk_drew B504.out)
       have n3_ := qM (below_drew1 HB.out)
       clear HO_6
       clear B503
       clear B504
       clear HB
       have HO_6 := n0_
       have B503 := n1_
       have B504 := n2_
       have HB := n3_
       clear n0_ n1_ n2_ n3_
       have p509 : 0 ≤ (x8_1 : Int) := of_decide_eq_true (by first | (with_reducible assumption) | assumption)
       have q509 : x8_1 < (t506.length : Int) := of_decide_eq_true (by first | (with_reducible assumption) | assumption)
       obtain ⟨ad509, e509, hx509_0, hx509_1⟩ := at_T27 (Kd.R_reads' HO_6.out).2.2 x8_1 p509 q509
       cases e509
       replace p509 := eq_true p509
       replace q509 := eq_true q509
       refine start_ (n := 11) (S := fun w' => w'.cell? ⟨g503, 0, none⟩ = some (.slice A0_0 l0_0.length c0_0) ∧ w'.cell? ⟨g503, 1, none⟩ = some (.slice A0_1 l0_1.length c0_1) ∧ w'.cell? ⟨g503, 2, none⟩ = some (.int .i64 a0_2) ∧ w'.cell? ⟨g503, 3, none⟩ = some (.bool a0_3) ∧ w'.cell? (ad509.add ((x8_1).toNat * 2)) = some (.int .i64 ((rd_T27 t506 x8_1).f0)) ∧ w'.cell? ⟨(ad509.add ((x8_1).toNat * 2)).block, (ad509.add ((x8_1).toNat * 2)).off + 1, none⟩ = some (.int .i64 ((rd_T27 t506 x8_1).f1))) (ds := []) #[false, false, false, false, false, false, false, false, false, false, false] (by kernel_rfl) rfl rfl ⟨(qC B503.out 0).trans rfl, (qC B503.out 1).trans rfl, (qC B503.out 2).trans rfl, (qC B503.out 3).trans rfl, hx509_0, hx509_1⟩ (fun hHeld => ?_); refine with_tabW hogsheadlaw10_ShelfLists.tab7 hogsheadlaw10_ShelfLists.bits7 (fun HT_ HW_ => ?_)
       generalize wr.drew = w21 at HO_6 B503 B504 HB hx509_0 hx509_1 hHeld ⊢
       refine pure_ (i := 1) (N := some 24) (v := ?_) (a' := ?_) #[false, true, false, false, false, false, false, false, false, false, false] rfl rfl (any_of HT_.out (by kernel_rfl)) (fun _ _ _ h => h) (Or.inl ⟨by rfl, ?_⟩) ?_ ?_
       rotate_left
       ·intro w'; go_simp; with_reducible rfl
       rotate_left
       ·simp only [Act.put, xA, xZ, xS, i64_w, i32_w]; rfl
       refine pure_ (i := 2) (N := some 25) (v := ?_) (a' := ?_) #[false, true, true, false, false, false, false, false, false, false, false] rfl rfl (any_of HT_.out (by kernel_rfl)) (fun _ _ _ h => h) (Or.inl ⟨by rfl, ?_⟩) ?_ ?_
       rotate_left
       ·intro w'; go_simp; with_reducible rfl
       rotate_left
       ·simp only [Act.put, xA, xZ, xS, i64_w, i32_w]; rfl
       refine pure_ (i := 3) (N := some 26) (v := ?_) (a' := ?_) #[false, true, true, true, false, false, false, false, false, false, false] rfl rfl (any_of HT_.out (by kernel_rfl)) (fun _ _ _ h => h) (Or.inl ⟨by rfl, ?_⟩) ?_ ?_
       rotate_left
       ·intro w'; go_simp; with_reducible rfl
       rotate_left
       ·simp only [Act.put, xA, xZ, xS, i64_w, i32_w]; rfl
       refine take_ (i := 0) (N := some 23) (v := ?_) (a' := ?_) #[true, true, true, true, false, false, false, false, false, false, false] rfl rfl (take_ofW HT_.out HW_.out (by kernel_rfl)) (fun _ _ _ h => h) (Or.inl ⟨by rfl, ?_⟩) hHeld ?_ ?_
       rotate_left
       ·rintro w' ⟨s0, s1, s2, s3, s4, s5⟩; go_simp; with_reducible rfl
       rotate_left
       ·simp only [Act.put, xA, xZ, xS, i64_w, i32_w]; rfl
       refine take_ (i := 4) (N := some 27) (v := ?_) (a' := ?_) #[true, true, true, true, true, false, false, false, false, false, false] rfl rfl (take_ofW HT_.out HW_.out (by kernel_rfl)) (fun _ _ _ h => h) (Or.inl ⟨by rfl, ?_⟩) hHeld ?_ ?_
       rotate_left
       ·rintro w' ⟨s0, s1, s2, s3, s4, s5⟩; go_simp; with_reducible rfl
       rotate_left
       ·simp only [Act.put, xA, xZ, xS, i64_w, i32_w]; rfl
       refine one_ (i := 5) (N := some 28) #[true, true, true, true, true, true, false, false, false, false, false] rfl rfl (one_of HT_.out (by kernel_rfl)) (by decide) (fun K hK => ?_)
       refine goes_ Try.func18 (by kernel_rfl) rfl #[.agg #[.slice A0_0 l0_0.length c0_0, .slice A0_1 l0_1.length c0_1, .int .i64 a0_2, .bool a0_3], .agg #[.int .i64 ((rd_T27 t506 x8_1).f0), .int .i64 ((rd_T27 t506 x8_1).f1)]] (by rfl) rfl rfl (by (try simp only [List.map_toArray, List.map_cons, List.map_nil]); first | done | rfl | (simp only [List.length_drop, List.length_take]; rfl)) ?_
       with_reducible refine (shelf_Find.calls k1 _ _ l0_0 _ _ l0_1 a0_2 a0_3 ((rd_T27 t506 x8_1).f0) ((rd_T27 t506 x8_1).f1) t510 t511 _ ?side1 ?side2 ?side3 ?side4 A13.out).mono ?_
       (case side1 => repeat (first | exact (Kd.C_below HR0_0.out HB.out) | (with_reducible refine Kd.C_alloc ?_ _) | (with_reducible refine Kd.C_drewN ?_ _) | (with_reducible refine Kd.C_drew ?_)))
       (case side2 => exact HC0_0.out)
       (case side3 => repeat (first | exact (Kd.C_below HR0_1.out HB.out) | (with_reducible refine Kd.C_alloc ?_ _) | (with_reducible refine Kd.C_drewN ?_ _) | (with_reducible refine Kd.C_drew ?_)))
       (case side4 => exact HC0_1.out)
       rintro e w22 ⟨rfl, hb⟩
       have HS4_ := (hb.cell (World.block_lt_of_cell? _ _ (hHeld.2.2.2.2.1))).trans (hHeld.2.2.2.2.1)
       have HS5_ := (hb.cell (World.block_lt_of_cell? _ _ (hHeld.2.2.2.2.2))).trans (hHeld.2.2.2.2.2)
       refine ⟨_, rfl, ?_⟩
       have n0_ := qM (Kd.R_below (by (with_reducible repeat first | apply RA | apply RN | apply RD); exact HO_6.out) hb)
       have n1_ := qM (qB (g := g503) (by (with_reducible repeat first | refine qN ?_ _ | refine qD ?_ | refine qA ?_ _); exact B503.out) hb)
       have n2_ := qM (qB (g := g504) (by (with_reducible repeat first | refine qN ?_ _ | refine qD ?_ | refine qA ?_ _); exact B504.out) hb)
       have n3_ := qM (eT (by repeat (first | (with_reducible first | exact HB.out | apply eA | apply eN | apply eD | refine eU ?_ (by assumption)) | exact HB.out)) hb)
       clear HO_6
       clear B503
       clear B504
       clear HB
       have HO_6 := n0_
       have B503 := n1_
       have B504 := n2_
       have HB := n3_
       clear n0_ n1_ n2_ n3_
       (try clear hb)
       (try clear hb2)
       (try clear hk)
       (try clear hi)
       refine hK.out _ _ ⟨(qC B503.out 0).trans rfl, (qC B503.out 1).trans rfl, (qC B503.out 2).trans rfl, (qC B503.out 3).trans rfl, HS4_, HS5_⟩ (fun hHeld => ?_)
       clear hK K
       refine norm_ (a' := ?_) ?_ ?_
       rotate_left
       ·show Act.put _ (some 28) _ = _
        simp only [Act.put, xA, xZ, xS, i64_w, i32_w]
        rfl
       refine pure_ (i := 6) (N := some 22) (v := ?_) (a' := ?_) #[true, true, true, true, true, true, true, false, false, false, false] rfl rfl (any_of HT_.out (by kernel_rfl)) (fun _ _ _ h => h) (Or.inl ⟨by rfl, ?_⟩) ?_ ?_
       rotate_left
       ·intro w'; go_simp; with_reducible rfl
       rotate_left
       ·simp only [Act.put, xA, xZ, xS, i64_w, i32_w]; rfl
       refine pure_ (i := 7) (N := some 29) (v := ?_) (a' := ?_) #[true, true, true, true, true, true, true, true, false, false, false] rfl rfl (any_of HT_.out (by kernel_rfl)) (fun _ _ _ h => h) (Or.inl ⟨by rfl, ?_⟩) ?_ ?_
       rotate_left
       ·intro w'; go_simp; with_reducible rfl
       rotate_left
       ·simp only [Act.put, xA, xZ, xS, i64_w, i32_w]; rfl
       refine pure_ (i := 8) (N := some 30) (v := ?_) (a' := ?_) #[true, true, true, true, true, true, true, true, true, false, false] rfl rfl (any_of HT_.out (by kernel_rfl)) (fun _ _ _ h => h) (Or.inl ⟨by rfl, ?_⟩) ?_ ?_
       rotate_left
       ·intro w'; go_simp; with_reducible rfl
       rotate_left
       ·simp only [Act.put, xA, xZ, xS, i64_w, i32_w]; rfl
       refine pure_ (i := 9) (N := some 9) (v := ?_) (a' := ?_) #[true, true, true, true, true, true, true, true, true, true, false] rfl rfl (any_of HT_.out (by kernel_rfl)) (fun _ _ _ h => h) (Or.inl ⟨by rfl, ?_⟩) ?_ ?_
       rotate_left
       ·intro w'; go_simp; with_reducible rfl
       rotate_left
       ·simp only [Act.put, xA, xZ, xS, i64_w, i32_w]; rfl
       refine pure_ (i := 10) (N := some 10) (v := ?_) (a' := ?_) #[true, true, true, true, true, true, true, true, true, true, true] rfl rfl (any_of HT_.out (by kernel_rfl)) (fun _ _ _ h => h) (Or.inl ⟨by rfl, ?_⟩) ?_ ?_
       rotate_left
       ·intro w'; go_simp; with_reducible rfl
       rotate_left
       ·simp only [Act.put, xA, xZ, xS, i64_w, i32_w]; rfl
       refine done_ (done_of HT_.out (by kernel_rfl)) ?_
       try go_wp2
       have n0_ := qM (Kd.R_drew HO_6.out)
       have n1_ := qM (blk_drew B503.out)
       have n2_ := qM (blk_drew B504.out)
       have n3_ := qM (below_drew1 HB.out)
       clear HO_6
       clear B503
       clear B504
       clear HB
       have HO_6 := n0_
       have B503 := n1_
       have B504 := n2_
       have HB := n3_
       clear n0_ n1_ n2_ n3_
       have p512 : 0 ≤ (x8_1 : Int) := of_decide_eq_true (by first | (with_reducible assumption) | assumption)
       have q512 : x8_1 < (t506.length : Int) := of_decide_eq_true (by first | (with_reducible assumption) | assumption)
       obtain ⟨ad512, e512, hx512_0, hx512_1⟩ := at_T27 (Kd.R_reads' HO_6.out).2.2 x8_1 p512 q512
       obtain rfl : ad509 = ad512 := (by injection e512)
       replace p512 := eq_true p512
       replace q512 := eq_true q512
       refine start_ (n := 10) (S := fun w' => w'.cell? ⟨g504, 0, none⟩ = some (.int .i64 a1_0) ∧ w'.cell? ⟨g504, 1, none⟩ = some (.int .i64 a1_1) ∧ w'.cell? (ad509.add ((x8_1).toNat * 2)) = some (.int .i64 ((rd_T27 t506 x8_1).f0)) ∧ w'.cell? ⟨(ad509.add ((x8_1).toNat * 2)).block, (ad509.add ((x8_1).toNat * 2)).off + 1, none⟩ = some (.int .i64 ((rd_T27 t506 x8_1).f1))) (ds := []) #[false, false, false, false, false, false, false, false, false, false] (by kernel_rfl) rfl rfl ⟨(qC B504.out 0).trans rfl, (qC B504.out 1).trans rfl, hx512_0, hx512_1⟩ (fun hHeld => ?_); refine with_tabW hogsheadlaw10_ShelfLists.tab10 hogsheadlaw10_ShelfLists.bits10 (fun HT_ HW_ => ?_)
       generalize w22.drew = w23 at HO_6 B503 B504 HB hx512_0 hx512_1 hHeld ⊢
       refine pure_ (i := 0) (N := some 33) (v := ?_) (a' := ?_) #[true, false, false, false, false, false, false, false, false, false] rfl rfl (any_of HT_.out (by kernel_rfl)) (fun _ _ _ h => h) (Or.inl ⟨by rfl, ?_⟩) ?_ ?_
       rotate_left
       ·intro w'; go_simp; with_reducible rfl
       rotate_left
       ·simp only [Act.put, xA, xZ, xS, i64_w, i32_w]; rfl
       refine pure_ (i := 1) (N := some 34) (v := ?_) (a' := ?_) #[true, true, false, false, false, false, false, false, false, false] rfl rfl (any_of HT_.out (by kernel_rfl)) (fun _ _ _ h => h) (Or.inl ⟨by rfl, ?_⟩) ?_ ?_
       rotate_left
       ·intro w'; go_simp; with_reducible rfl
       rotate_left
       ·simp only [Act.put, xA, xZ, xS, i64_w, i32_w]; rfl
       refine pure_ (i := 2) (N := some 35) (v := ?_) (a' := ?_) #[true, true, true, false, false, false, false, false, false, false] rfl rfl (any_of HT_.out (by kernel_rfl)) (fun _ _ _ h => h) (Or.inl ⟨by rfl, ?_⟩) ?_ ?_
       rotate_left
       ·intro w'; go_simp; with_reducible rfl
       rotate_left
       ·simp only [Act.put, xA, xZ, xS, i64_w, i32_w]; rfl
       refine pure_ (i := 3) (N := some 36) (v := ?_) (a' := ?_) #[true, true, true, true, false, false, false, false, false, false] rfl rfl (any_of HT_.out (by kernel_rfl)) (fun _ _ _ h => h) (Or.inl ⟨by rfl, ?_⟩) ?_ ?_
       rotate_left
       ·intro w'; go_simp; with_reducible rfl
       rotate_left
       ·simp only [Act.put, xA, xZ, xS, i64_w, i32_w]; rfl
       refine pure_ (i := 4) (N := some 37) (v := ?_) (a' := ?_) #[true, true, true, true, true, false, false, false, false, false] rfl rfl (any_of HT_.out (by kernel_rfl)) (fun _ _ _ h => h) (Or.inl ⟨by rfl, ?_⟩) ?_ ?_
       rotate_left
       ·intro w'; go_simp; with_reducible rfl
       rotate_left
       ·simp only [Act.put, xA, xZ, xS, i64_w, i32_w]; rfl
       refine take_ (i := 5) (N := some 38) (v := ?_) (a' := ?_) #[true, true, true, true, true, true, false, false, false, false] rfl rfl (take_ofW HT_.out HW_.out (by kernel_rfl)) (fun _ _ _ h => h) (Or.inl ⟨by rfl, ?_⟩) hHeld ?_ ?_
       rotate_left
       ·rintro w' ⟨s0, s1, s2, s3⟩; go_simp; with_reducible rfl
       rotate_left
       ·simp only [Act.put, xA, xZ, xS, i64_w, i32_w]; rfl
       refine take_ (i := 6) (N := some 39) (v := ?_) (a' := ?_) #[true, true, true, true, true, true, true, false, false, false] rfl rfl (take_ofW HT_.out HW_.out (by kernel_rfl)) (fun _ _ _ h => h) (Or.inl ⟨by rfl, ?_⟩) hHeld ?_ ?_
       rotate_left
       ·rintro w' ⟨s0, s1, s2, s3⟩; go_simp; with_reducible rfl
       rotate_left
       ·simp only [Act.put, xA, xZ, xS, i64_w, i32_w]; rfl
       refine pure_ (i := 7) (N := some 40) (v := ?_) (a' := ?_) #[true, true, true, true, true, true, true, true, false, false] rfl rfl (any_of HT_.out (by kernel_rfl)) (fun _ _ _ h => h) (Or.inl ⟨by rfl, ?_⟩) ?_ ?_
       rotate_left
       ·intro w'; go_simp; with_reducible rfl
       rotate_left
       ·simp only [Act.put, xA, xZ, xS, i64_w, i32_w]; rfl
       refine pure_ (i := 8) (N := some 41) (v := ?_) (a' := ?_) #[true, true, true, true, true, true, true, true, true, false] rfl rfl (any_of HT_.out (by kernel_rfl)) (fun _ _ _ h => h) (Or.inl ⟨by rfl, ?_⟩) ?_ ?_
       rotate_left
       ·intro w'; go_simp; with_reducible rfl
       rotate_left
       ·simp only [Act.put, xA, xZ, xS, i64_w, i32_w]; rfl
       refine pure_ (i := 9) (N := some 7) (v := ?_) (a' := ?_) #[true, true, true, true, true, true, true, true, true, true] rfl rfl (any_of HT_.out (by kernel_rfl)) (fun _ _ _ h => h) (Or.inl ⟨by rfl, ?_⟩) ?_ ?_
       rotate_left
       ·intro w'; go_simp; with_reducible rfl
       rotate_left
       ·simp only [Act.put, xA, xZ, xS, i64_w, i32_w]; rfl
       refine done_ (done_of HT_.out (by kernel_rfl)) ?_
       try go_wp2
       go_roundg k1
       case measure => have := HK1.out; omega
       case rel => exact ⟨((((rd_T27 t506 x8_1).f0) == a1_0 && (((rd_T27 t506 x8_1).f1) == a1_1))), (wrap64 (x8_1 + 1)), (by first | rfl | (simp; done) | (simp [*]; done)), (by first | rfl | (simp; done) | (simp [*]; done)), H', ⟨by have := HK1.out; omega⟩, ⟨by (with_reducible repeat first | apply RA | apply RN | apply RD); exact HO_6.out⟩, ⟨by (with_reducible repeat first | refine qN ?_ _ | refine qD ?_ | refine qA ?_ _); exact B503.out⟩, ⟨by (with_reducible repeat first | refine qN ?_ _ | refine qD ?_ | refine qA ?_ _); exact B504.out⟩, ⟨by repeat (first | (with_reducible first | exact HB.out | apply eA | apply eN | apply eD | refine eS ?_ GE503.out | refine eS ?_ GE504.out) | exact HB.out)⟩⟩
     ·rw [if_neg c14] at H
      have c14b0 : (t511 == 0) = false := beq_eq_false_iff_ne.mpr c14
      have c14b1 : (t511 != 0) = true := bne_iff_ne.mpr c14
      obtain rfl := Option.some.inj H
      obtain ⟨Ao24, co24, eo24⟩ := Kd.R_slice HO_6.out
      subst eo24
      try go_wp2
      have n0_ := qM (Kd.R_drew HO_6.out)
      have n1_ := qM (blk_drew B503.out)
      have n2_ := qM (blk_drew B504.out)
      have n3_ := qM (below_drew1 HB.out)
      clear HO_6
      clear B503
      clear B504
      clear HB
      have HO_6 := n0_
      have B503 := n1_
      have B504 := n2_
      have HB := n3_
      clear n0_ n1_ n2_ n3_
      have p509 : 0 ≤ (x8_1 : Int) := of_decide_eq_true (by first | (with_reducible assumption) | assumption)
      have q509 : x8_1 < (t506.length : Int) := of_decide_eq_true (by first | (with_reducible assumption) | assumption)
      obtain ⟨ad509, e509, hx509_0, hx509_1⟩ := at_T27 (Kd.R_reads' HO_6.out).2.2 x8_1 p509 q509
      cases e509
      replace p509 := eq_true p509
      replace q509 := eq_true q509
      refine start_ (n := 11) (S := fun w' => w'.cell? ⟨g503, 0, none⟩ = some (.slice A0_0 l0_0.length c0_0) ∧ w'.cell? ⟨g503, 1, none⟩ = some (.slice A0_1 l0_1.length c0_1) ∧ w'.cell? ⟨g503, 2, none⟩ = some (.int .i64 a0_2) ∧ w'.cell? ⟨g503, 3, none⟩ = some (.bool a0_3) ∧ w'.cell? (ad509.add ((x8_1).toNat * 2)) = some (.int .i64 ((rd_T27 t506 x8_1).f0)) ∧ w'.cell? ⟨(ad509.add ((x8_1).toNat * 2)).block, (ad509.add ((x8_1).toNat * 2)).off + 1, none⟩ = some (.int .i64 ((rd_T27 t506 x8_1).f1))) (ds := []) #[false, false, false, false, false, false, false, false, false, false, false] (by kernel_rfl) rfl rfl ⟨(qC B503.out 0).trans rfl, (qC B503.out 1).trans rfl, (qC B503.out 2).trans rfl, (qC B503.out 3).trans rfl, hx509_0, hx509_1⟩ (fun hHeld => ?_); refine with_tabW hogsheadlaw10_ShelfLists.tab7 hogsheadlaw10_ShelfLists.bits7 (fun HT_ HW_ => ?_)
      generalize wr.drew = w25 at HO_6 B503 B504 HB hx509_0 hx509_1 hHeld ⊢
      refine pure_ (i := 1) (N := some 24) (v := ?_) (a' := ?_) #[false, true, false, false, false, false, false, false, false, false, false] rfl rfl (any_of HT_.out (by kernel_rfl)) (fun _ _ _ h => h) (Or.inl ⟨by rfl, ?_⟩) ?_ ?_
      rotate_left
      ·intro w'; go_simp; with_reducible rfl
      rotate_left
      ·simp only [Act.put, xA, xZ, xS, i64_w, i32_w]; rfl
      refine pure_ (i := 2) (N := some 25) (v := ?_) (a' := ?_) #[false, true, true, false, false, false, false, false, false, false, false] rfl rfl (any_of HT_.out (by kernel_rfl)) (fun _ _ _ h => h) (Or.inl ⟨by rfl, ?_⟩) ?_ ?_
      rotate_left
      ·intro w'; go_simp; with_reducible rfl
      rotate_left
      ·simp only [Act.put, xA, xZ, xS, i64_w, i32_w]; rfl
      refine pure_ (i := 3) (N := some 26) (v := ?_) (a' := ?_) #[false, true, true, true, false, false, false, false, false, false, false] rfl rfl (any_of HT_.out (by kernel_rfl)) (fun _ _ _ h => h) (Or.inl ⟨by rfl, ?_⟩) ?_ ?_
      rotate_left
      ·intro w'; go_simp; with_reducible rfl
      rotate_left
      ·simp only [Act.put, xA, xZ, xS, i64_w, i32_w]; rfl
      refine take_ (i := 0) (N := some 23) (v := ?_) (a' := ?_) #[true, true, true, true, false, false, false, false, false, false, false] rfl rfl (take_ofW HT_.out HW_.out (by kernel_rfl)) (fun _ _ _ h => h) (Or.inl ⟨by rfl, ?_⟩) hHeld ?_ ?_
      rotate_left
      ·rintro w' ⟨s0, s1, s2, s3, s4, s5⟩; go_simp; with_reducible rfl
      rotate_left
      ·simp only [Act.put, xA, xZ, xS, i64_w, i32_w]; rfl
      refine take_ (i := 4) (N := some 27) (v := ?_) (a' := ?_) #[true, true, true, true, true, false, false, false, false, false, false] rfl rfl (take_ofW HT_.out HW_.out (by kernel_rfl)) (fun _ _ _ h => h) (Or.inl ⟨by rfl, ?_⟩) hHeld ?_ ?_
      rotate_left
      ·rintro w' ⟨s0, s1, s2, s3, s4, s5⟩; go_simp; with_reducible rfl
      rotate_left
      ·simp only [Act.put, xA, xZ, xS, i64_w, i32_w]; rfl
      refine one_ (i := 5) (N := some 28) #[true, true, true, true, true, true, false, false, false, false, false] rfl rfl (one_of HT_.out (by kernel_rfl)) (by decide) (fun K hK => ?_)
      refine goes_ Try.func18 (by kernel_rfl) rfl #[.agg #[.slice A0_0 l0_0.length c0_0, .slice A0_1 l0_1.length c0_1, .int .i64 a0_2, .bool a0_3], .agg #[.int .i64 ((rd_T27 t506 x8_1).f0), .int .i64 ((rd_T27 t506 x8_1).f1)]] (by rfl) rfl rfl (by (try simp only [List.map_toArray, List.map_cons, List.map_nil]); first | done | rfl | (simp only [List.length_drop, List.length_take]; rfl)) ?_
      with_reducible refine (shelf_Find.calls k1 _ _ l0_0 _ _ l0_1 a0_2 a0_3 ((rd_T27 t506 x8_1).f0) ((rd_T27 t506 x8_1).f1) t510 t511 _ ?side1 ?side2 ?side3 ?side4 A13.out).mono ?_
      (case side1 => repeat (first | exact (Kd.C_below HR0_0.out HB.out) | (with_reducible refine Kd.C_alloc ?_ _) | (with_reducible refine Kd.C_drewN ?_ _) | (with_reducible refine Kd.C_drew ?_)))
      (case side2 => exact HC0_0.out)
      (case side3 => repeat (first | exact (Kd.C_below HR0_1.out HB.out) | (with_reducible refine Kd.C_alloc ?_ _) | (with_reducible refine Kd.C_drewN ?_ _) | (with_reducible refine Kd.C_drew ?_)))
      (case side4 => exact HC0_1.out)
      rintro e w26 ⟨rfl, hb⟩
      have HS4_ := (hb.cell (World.block_lt_of_cell? _ _ (hHeld.2.2.2.2.1))).trans (hHeld.2.2.2.2.1)
      have HS5_ := (hb.cell (World.block_lt_of_cell? _ _ (hHeld.2.2.2.2.2))).trans (hHeld.2.2.2.2.2)
      refine ⟨_, rfl, ?_⟩
      have n0_ := qM (Kd.R_below (by (with_reducible repeat first | apply RA | apply RN | apply RD); exact HO_6.out) hb)
      have n1_ := qM (qB (g := g503) (by (with_reducible repeat first | refine qN ?_ _ | refine qD ?_ | refine qA ?_ _); exact B503.out) hb)
      have n2_ := qM (qB (g := g504) (by (with_reducible repeat first | refine qN ?_ _ | refine qD ?_ | refine qA ?_ _); exact B504.out) hb)
      have n3_ := qM (eT (by repeat (first | (with_reducible first | exact HB.out | apply eA | apply eN | apply eD | refine eU ?_ (by assumption)) | exact HB.out)) hb)
      clear HO_6
      clear B503
      clear B504
      clear HB
      have HO_6 := n0_
      have B503 := n1_
      have B504 := n2_
      have HB := n3_
      clear n0_ n1_ n2_ n3_
      (try clear hb)
      (try clear hb2)
      (try clear hk)
      (try clear hi)
      refine hK.out _ _ ⟨(qC B503.out 0).trans rfl, (qC B503.out 1).trans rfl, (qC B503.out 2).trans rfl, (qC B503.out 3).trans rfl, HS4_, HS5_⟩ (fun hHeld => ?_)
      clear hK K
      refine norm_ (a' := ?_) ?_ ?_
      rotate_left
      ·show Act.put _ (some 28) _ = _
       simp only [Act.put, xA, xZ, xS, i64_w, i32_w]
       rfl
      refine pure_ (i := 6) (N := some 22) (v := ?_) (a' := ?_) #[true, true, true, true, true, true, true, false, false, false, false] rfl rfl (any_of HT_.out (by kernel_rfl)) (fun _ _ _ h => h) (Or.inl ⟨by rfl, ?_⟩) ?_ ?_
      rotate_left
      ·intro w'; go_simp; with_reducible rfl
      rotate_left
      ·simp only [Act.put, xA, xZ, xS, i64_w, i32_w]; rfl
      refine pure_ (i := 7) (N := some 29) (v := ?_) (a' := ?_) #[true, true, true, true, true, true, true, true, false, false, false] rfl rfl (any_of HT_.out (by kernel_rfl)) (fun _ _ _ h => h) (Or.inl ⟨by rfl, ?_⟩) ?_ ?_
      rotate_left
      ·intro w'; go_simp; with_reducible rfl
      rotate_left
      ·simp only [Act.put, xA, xZ, xS, i64_w, i32_w]; rfl
      refine pure_ (i := 8) (N := some 30) (v := ?_) (a' := ?_) #[true, true, true, true, true, true, true, true, true, false, false] rfl rfl (any_of HT_.out (by kernel_rfl)) (fun _ _ _ h => h) (Or.inl ⟨by rfl, ?_⟩) ?_ ?_
      rotate_left
      ·intro w'; go_simp; with_reducible rfl
      rotate_left
      ·simp only [Act.put, xA, xZ, xS, i64_w, i32_w]; rfl
      refine pure_ (i := 9) (N := some 9) (v := ?_) (a' := ?_) #[true, true, true, true, true, true, true, true, true, true, false] rfl rfl (any_of HT_.out (by kernel_rfl)) (fun _ _ _ h => h) (Or.inl ⟨by rfl, ?_⟩) ?_ ?_
      rotate_left
      ·intro w'; go_simp; with_reducible rfl
      rotate_left
      ·simp only [Act.put, xA, xZ, xS, i64_w, i32_w]; rfl
      refine pure_ (i := 10) (N := some 10) (v := ?_) (a' := ?_) #[true, true, true, true, true, true, true, true, true, true, true] rfl rfl (any_of HT_.out (by kernel_rfl)) (fun _ _ _ h => h) (Or.inl ⟨by rfl, ?_⟩) ?_ ?_
      rotate_left
      ·intro w'; go_simp; with_reducible rfl
      rotate_left
      ·simp only [Act.put, xA, xZ, xS, i64_w, i32_w]; rfl
      refine done_ (done_of HT_.out (by kernel_rfl)) ?_
      try go_wp2
      go_ret
      exact ⟨by first | rfl | (simp [errW_none, errW_some] <;> rfl) | (simp [*, errW_none, errW_some] <;> rfl), by repeat (first | (with_reducible first | exact HB.out | apply eA | apply eN | apply eD | refine eS ?_ GE503.out | refine eS ?_ GE504.out) | exact HB.out)⟩
    ·rw [if_neg c12] at H
     exact absurd H (by simp)
   ·rw [if_neg c11] at H
    have c11b0 : decide (x8_1 < (t506.length : Int)) = false := decide_eq_false c11
    clear c11
    replace H := Option.bind_eq_some_iff.mp H
    obtain ⟨⟨t513, t514⟩, A270, H⟩ := H
    replace H : (if t505 = true then (some (x7_1 == (t514 == 0))) else (some false)) = some r := H
    have A27 := qM A270
    clear A270
    by_cases c28 : t505 = true
    ·subst c28
     have H1 : (some (x7_1 == (t514 == 0))) = some r := by rw [if_pos rfl] at H; exact H
     clear H
     have H := H1
     clear H1
     obtain rfl := Option.some.inj H
     obtain ⟨Ao29, co29, eo29⟩ := Kd.R_slice HO_6.out
     subst eo29
     have hnb30 := NB503_504.out
     have hnc30 := NB504_503.out
     obtain ⟨z31_0, z31_1, z31_2, z31_3, f31_0, f31_1, f31_2, f31_3⟩ := cells4 B503.out
     have z32_0 : wr.cell? ⟨g504, 0, none⟩ = some (.int .i64 a1_0) := (qC B504.out 0).trans rfl
     have z32_1 : wr.cell? ⟨g504, 1, none⟩ = some (.int .i64 a1_1) := (qC B504.out 1).trans rfl
     have f32_0 := qF B504.out 0
     have f32_1 := qF B504.out 1
     go_wp2_with (first | ((with_reducible refine gate_callee (f := 18) rfl ?_); refine goesL_ (some 45) rfl rfl Try.func18 (by kernel_rfl) rfl #[.agg #[.slice A0_0 l0_0.length c0_0, .slice A0_1 l0_1.length c0_1, .int .i64 a0_2, .bool a0_3], .agg #[.int .i64 a1_0, .int .i64 a1_1]] rfl (by (try simp only [List.map_toArray, List.map_cons, List.map_nil]); first | done | rfl | (simp only [List.length_drop, List.length_take]; rfl)) ?_; (with_reducible refine (shelf_Find.calls k1 _ _ l0_0 _ _ l0_1 a0_2 a0_3 a1_0 a1_1 t513 t514 _ ?side1 ?side2 ?side3 ?side4 A27.out).mono ?_); (case side1 => repeat (first | exact (Kd.C_below HR0_0.out HB.out) | (with_reducible refine Kd.C_alloc ?_ _) | (with_reducible refine Kd.C_drewN ?_ _) | (with_reducible refine Kd.C_drew ?_))); (case side2 => exact HC0_0.out); (case side3 => repeat (first | exact (Kd.C_below HR0_1.out HB.out) | (with_reducible refine Kd.C_alloc ?_ _) | (with_reducible refine Kd.C_drewN ?_ _) | (with_reducible refine Kd.C_drew ?_))); (case side4 => exact HC0_1.out); rintro e w33 ⟨rfl, hb⟩; refine ⟨_, rfl, ?_⟩; have n0_ := qM (Kd.R_below (by (with_reducible repeat first | apply RA | apply RN | apply RD); exact HO_6.out) hb); have n1_ := qM (qB (g := g503) (by (with_reducible repeat first | refine qN ?_ _ | refine qD ?_ | refine qA ?_ _); exact B503.out) hb); have n2_ := qM (qB (g := g504) (by (with_reducible repeat first | refine qN ?_ _ | refine qD ?_ | refine qA ?_ _); exact B504.out) hb); have n3_ := qM (eT (by repeat (first | (with_reducible first | exact HB.out | apply eA | apply eN | apply eD | refine eU ?_ (by assumption)) | exact HB.out)) hb); clear HO_6 B503 B504 HB; have HO_6 := n0_; have B503 := n1_; have B504 := n2_; have HB := n3_; clear n0_ n1_ n2_ n3_; (try clear hb); (try clear hb2); (try clear hk); (try clear hi)))
     go_ret
     exact ⟨by first | rfl | (simp [errW_none, errW_some] <;> rfl) | (simp [*, errW_none, errW_some] <;> rfl), by repeat (first | (with_reducible first | exact HB.out | apply eA | apply eN | apply eD | refine eS ?_ GE503.out | refine eS ?_ GE504.out) | exact HB.out)⟩
    ·replace c28 := Bool.eq_false_iff.mpr c28
     subst c28
     have H1 : (some false) = some r := by rw [if_neg (show ¬ (false = true) by decide)] at H; exact H
     clear H
     have H := H1
     clear H1
     obtain rfl := Option.some.inj H
     obtain ⟨Ao34, co34, eo34⟩ := Kd.R_slice HO_6.out
     subst eo34
     have hnb35 := NB503_504.out
     have hnc35 := NB504_503.out
     obtain ⟨z36_0, z36_1, z36_2, z36_3, f36_0, f36_1, f36_2, f36_3⟩ := cells4 B503.out
     have z37_0 : wr.cell? ⟨g504, 0, none⟩ = some (.int .i64 a1_0) := (qC B504.out 0).trans rfl
     have z37_1 : wr.cell? ⟨g504, 1, none⟩ = some (.int .i64 a1_1) := (qC B504.out 1).trans rfl
     have f37_0 := qF B504.out 0
     have f37_1 := qF B504.out 1
     go_wp2_with (first | ((with_reducible refine gate_callee (f := 18) rfl ?_); refine goesL_ (some 45) rfl rfl Try.func18 (by kernel_rfl) rfl #[.agg #[.slice A0_0 l0_0.length c0_0, .slice A0_1 l0_1.length c0_1, .int .i64 a0_2, .bool a0_3], .agg #[.int .i64 a1_0, .int .i64 a1_1]] rfl (by (try simp only [List.map_toArray, List.map_cons, List.map_nil]); first | done | rfl | (simp only [List.length_drop, List.length_take]; rfl)) ?_; (with_reducible refine (shelf_Find.calls k1 _ _ l0_0 _ _ l0_1 a0_2 a0_3 a1_0 a1_1 t513 t514 _ ?side1 ?side2 ?side3 ?side4 A27.out).mono ?_); (case side1 => repeat (first | exact (Kd.C_below HR0_0.out HB.out) | (with_reducible refine Kd.C_alloc ?_ _) | (with_reducible refine Kd.C_drewN ?_ _) | (with_reducible refine Kd.C_drew ?_))); (case side2 => exact HC0_0.out); (case side3 => repeat (first | exact (Kd.C_below HR0_1.out HB.out) | (with_reducible refine Kd.C_alloc ?_ _) | (with_reducible refine Kd.C_drewN ?_ _) | (with_reducible refine Kd.C_drew ?_))); (case side4 => exact HC0_1.out); rintro e w38 ⟨rfl, hb⟩; refine ⟨_, rfl, ?_⟩; have n0_ := qM (Kd.R_below (by (with_reducible repeat first | apply RA | apply RN | apply RD); exact HO_6.out) hb); have n1_ := qM (qB (g := g503) (by (with_reducible repeat first | refine qN ?_ _ | refine qD ?_ | refine qA ?_ _); exact B503.out) hb); have n2_ := qM (qB (g := g504) (by (with_reducible repeat first | refine qN ?_ _ | refine qD ?_ | refine qA ?_ _); exact B504.out) hb); have n3_ := qM (eT (by repeat (first | (with_reducible first | exact HB.out | apply eA | apply eN | apply eD | refine eU ?_ (by assumption)) | exact HB.out)) hb); clear HO_6 B503 B504 HB; have HO_6 := n0_; have B503 := n1_; have B504 := n2_; have HB := n3_; clear n0_ n1_ n2_ n3_; (try clear hb); (try clear hb2); (try clear hk); (try clear hi)))
     go_ret
     exact ⟨by first | rfl | (simp [errW_none, errW_some] <;> rfl) | (simp [*, errW_none, errW_some] <;> rfl), by repeat (first | (with_reducible first | exact HB.out | apply eA | apply eN | apply eD | refine eS ?_ GE503.out | refine eS ?_ GE504.out) | exact HB.out)⟩

end Go.Proofs.Ytffjbbedjddpmaa.PAll
