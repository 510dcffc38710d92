/- Functions of the program as plain Lean functions, and that each call comes to what they say. Laid by a program of this session (hprint.py); Lean checks it. -/
import Derived.Test.YtlfonfceaiiinaaPAllx0
namespace Go.Proofs.Ytlfonfceaiiinaa.PAll
open Go.RowKit Go.Proofs.YtlfonfceaiiinaaW.PrintWords Go.Proofs.YtlfonfceaiiinaaW.PrintLast Go.Proofs.YtlfonfceaiiinaaW.PrintMore
attribute [local go_sem] max2_int min2_int max_two min_two max_three min_three max_four min_four   -- for this text's walks alone
set_option linter.unusedVariables false
set_option linter.unusedSimpArgs false
attribute [local irreducible] World.setCell

/-! ### hogsheadref19_Sum: function 17 -/
def hogsheadref19_Sum.l0 : Nat → List (S29) → Int → Int → Int → Int → Int → Option (Int × Int × Int × Int)
 | 0, _, _, _, _, _, _ => none
 | k + 1, x0, x4, x253000, x253001, x253002, x253003 => if x4 < (x0.length : Int) then (if 0 ≤ x4 then (hogsheadref19_Sum.l0 k x0 (wrap64 (x4 + 1)) (wrap64 (x253000 + ((rd_T29 x0 x4).f0))) (wrap64 (x253001 + ((rd_T29 x0 x4).f1))) (wrap64 (x253002 + ((rd_T29 x0 x4).f2))) (wrap64 (x253003 + ((rd_T29 x0 x4).f3)))) else (none)) else (some (x253000, x253001, x253002, x253003))
def hogsheadref19_Sum.f (k : Nat) (l0 : List (S29)) : Option (Int × Int × Int × Int) := hogsheadref19_Sum.l0 k l0 0 0 0 0 0
theorem hogsheadref19_Sum.mono_l : ∀ k, (∀ y0 y1 y2 y3 y4 y5, LeO (hogsheadref19_Sum.l0 k y0 y1 y2 y3 y4 y5) (hogsheadref19_Sum.l0 (k + 1) y0 y1 y2 y3 y4 y5))
 | 0 => fun _ _ _ _ _ _ r h => by simp [hogsheadref19_Sum.l0] at h
 | k + 1 => by
  have ih0 := hogsheadref19_Sum.mono_l k
  ·intro y0 y1 y2 y3 y4 y5
   unfold hogsheadref19_Sum.l0
   repeat' first
   | (with_reducible exact ih0 _ _ _ _ _ _)
   | (with_reducible exact LeO.refl _)
   | (with_reducible exact LeO.none _)
   | (with_reducible refine LeO.ite ?_ ?_)
   | (with_reducible refine LeO.bind ?_ (fun _ => ?_))
   | exact ih0 _ _ _ _ _ _
   | exact LeO.none _
   | refine LeO.ite ?_ ?_
   | refine LeO.bind ?_ (fun _ => ?_)
theorem hogsheadref19_Sum.mono : ∀ a0 k, LeO (hogsheadref19_Sum.f k a0) (hogsheadref19_Sum.f (k + 1) a0) := by
 intro a0 k
 have ih0 := hogsheadref19_Sum.mono_l k
 unfold hogsheadref19_Sum.f
 repeat' first
   | (with_reducible exact ih0 _ _ _ _ _ _)
   | (with_reducible exact LeO.refl _)
   | (with_reducible exact LeO.none _)
   | (with_reducible refine LeO.ite ?_ ?_)
   | (with_reducible refine LeO.bind ?_ (fun _ => ?_))
   | exact ih0 _ _ _ _ _ _
   | exact LeO.none _
   | refine LeO.ite ?_ ?_
   | refine LeO.bind ?_ (fun _ => ?_)
def hogsheadref19_Sum.T5 : Bool × List (List Nat × List Nat) := (true, [([], []), ([0], [0]), ([], []), ([], []), ([2, 3], [2, 3]), ([4], [4]), ([5], [5]), ([1, 6], [1, 6]), ([0, 1, 2, 3, 4, 5, 6, 7], []), ([8, 7, 0, 1, 2, 3, 4, 5, 6, 7], [7, 8])])
def hogsheadref19_Sum.B5 : List Nat := [0, 1, 0, 0, 12, 28, 60, 127, 255, 511]
theorem hogsheadref19_Sum.tab5 : rtab .any (opsOf Try.f17 5) = hogsheadref19_Sum.T5 := by kernel_rfl
theorem hogsheadref19_Sum.bits5 : waitsOk hogsheadref19_Sum.T5.2 hogsheadref19_Sum.B5 = true := by kernel_rfl
def hogsheadref19_Sum.T6 : Bool × List (List Nat × List Nat) := (true, [([], []), ([0], [0]), ([], []), ([], []), ([2, 3], [2, 3]), ([4], [4]), ([5], [5]), ([1, 6], [1, 6]), ([0, 1, 2, 3, 4, 5, 6, 7], []), ([8, 7, 0, 1, 2, 3, 4, 5, 6, 7], [7, 8])])
def hogsheadref19_Sum.B6 : List Nat := [0, 1, 0, 0, 12, 28, 60, 127, 255, 511]
theorem hogsheadref19_Sum.tab6 : rtab .any (opsOf Try.f17 6) = hogsheadref19_Sum.T6 := by kernel_rfl
theorem hogsheadref19_Sum.bits6 : waitsOk hogsheadref19_Sum.T6.2 hogsheadref19_Sum.B6 = true := by kernel_rfl
def hogsheadref19_Sum.T7 : Bool × List (List Nat × List Nat) := (true, [([], []), ([0], [0]), ([], []), ([], []), ([2, 3], [2, 3]), ([4], [4]), ([5], [5]), ([1, 6], [1, 6]), ([0, 1, 2, 3, 4, 5, 6, 7], []), ([8, 7, 0, 1, 2, 3, 4, 5, 6, 7], [7, 8])])
def hogsheadref19_Sum.B7 : List Nat := [0, 1, 0, 0, 12, 28, 60, 127, 255, 511]
theorem hogsheadref19_Sum.tab7 : rtab .any (opsOf Try.f17 7) = hogsheadref19_Sum.T7 := by kernel_rfl
theorem hogsheadref19_Sum.bits7 : waitsOk hogsheadref19_Sum.T7.2 hogsheadref19_Sum.B7 = true := by kernel_rfl
def hogsheadref19_Sum.T8 : Bool × List (List Nat × List Nat) := (true, [([], []), ([0], [0]), ([], []), ([], []), ([2, 3], [2, 3]), ([4], [4]), ([5], [5]), ([1, 6], [1, 6]), ([0, 1, 2, 3, 4, 5, 6, 7], []), ([8, 7, 0, 1, 2, 3, 4, 5, 6, 7], [7, 8])])
def hogsheadref19_Sum.B8 : List Nat := [0, 1, 0, 0, 12, 28, 60, 127, 255, 511]
theorem hogsheadref19_Sum.tab8 : rtab .any (opsOf Try.f17 8) = hogsheadref19_Sum.T8 := by kernel_rfl
theorem hogsheadref19_Sum.bits8 : waitsOk hogsheadref19_Sum.T8.2 hogsheadref19_Sum.B8 = true := by kernel_rfl
set_option maxHeartbeats 40000000 in
set_option maxRecDepth 100000 in
theorem hogsheadref19_Sum.calls (k : Nat) (A0 : Option Addr) (c0 : Nat) (l0 : List (S29)) (r1 : Int) (r2 : Int) (r3 : Int) (r4 : Int) (w : World) (hr0 : Kd.C k29 w A0 l0.length l0) (hc0 : l0.length ≤ c0) (h : hogsheadref19_Sum.f k l0 = some (r1, r2, r3, r4)) :
  Calls Try.prog 17 #[.slice A0 l0.length c0] w fun e w' => e = .returned (.agg #[.int .i64 r1, .int .i64 r2, .int .i64 r3, .int .i64 r4]) ∧ Below w.heap.size w w' := by
 have hu29 := Try.underlying29
 have HR0 := qM hr0
 have HC0 := qM hc0
 clear hr0 hc0
 have HB := qM (Below.refl w.heap.size w)
 have H : (hogsheadref19_Sum.l0 k l0 0 0 0 0 0) = some (r1, r2, r3, r4) := h
 clear h
 have H' := qM H
 clear H
 go_enter Try.func17, Try.ntmps17
 go_wp2_with (first | ((with_reducible refine gate_dst (N := 2) rfl ?_); refine box_event ?hg (N := 2) ?hd (cs := #[.int .i64 0, .int .i64 0, .int .i64 0, .int .i64 0]) (t := 29) ?hr ?_; (case hd => rfl); (case hg => rfl); (case hr => first | (go_simp; done) | (go_simp; rfl)); intro g251 hg w2 hbox hb; have n0_ := qM (eT (by repeat (first | (with_reducible first | exact HB.out | apply eA | apply eN | apply eD) | exact HB.out)) hb); have n1_ := qM (hbox); have n2_ := qM ((by rw [hg]; exact (eZ (by repeat (first | (with_reducible first | exact HB.out | apply eA | apply eN | apply eD) | exact HB.out))) : w.heap.size ≤ g251)); have n3_ := n2_; clear HB; have HB := n0_; have B251 := n1_; have GW251 := n2_; have GE251 := n3_; clear n0_ n1_ n2_ n3_; clear hb hbox hg) | ((with_reducible refine gate_dst (N := 3) rfl ?_); refine box_event ?hg (N := 3) ?hd (cs := #[.int .i64 0, .int .i64 0, .int .i64 0, .int .i64 0]) (t := 29) ?hr ?_; (case hd => rfl); (case hg => rfl); (case hr => first | (go_simp; done) | (go_simp; rfl)); intro g252 hg w3 hbox hb; have n0_ := qM (qB (g := g251) (by (with_reducible repeat first | refine qN ?_ _ | refine qD ?_ | refine qA ?_ _); exact B251.out) hb); have n1_ := qM (eT (by repeat (first | (with_reducible first | exact HB.out | apply eA | apply eN | apply eD | refine eU ?_ (by assumption)) | exact HB.out)) hb); have n2_ := qM (hbox); have n3_ := qM ((by rw [hg]; exact (eZ (by repeat (first | (with_reducible first | exact HB.out | apply eA | apply eN | apply eD | refine eU ?_ (by assumption)) | exact HB.out))) : w.heap.size ≤ g252)); have n4_ := n3_; have n5_ := qM ((by rw [hg]; exact Nat.ne_of_lt (qL (g := g251) (by (with_reducible repeat first | refine qN ?_ _ | refine qD ?_ | refine qA ?_ _); exact B251.out)) : g251 ≠ g252)); have n6_ := qM (Ne.symm n5_.out); clear B251 HB; have B251 := n0_; have HB := n1_; have B252 := n2_; have GW252 := n3_; have GE252 := n4_; have NB251_252 := n5_; have NB252_251 := n6_; clear n0_ n1_ n2_ n3_ n4_ n5_ n6_; clear hb hbox hg; have hnb4 := NB252_251.out; have hnc4 := NB251_252.out; obtain ⟨z5_0, z5_1, z5_2, z5_3, f5_0, f5_1, f5_2, f5_3⟩ := cells4 B252.out))
 go_loopg [4] k (fun kq v4 w' => ∃ (x4_1 : Int) (x253000_1 : Int) (x253001_1 : Int) (x253002_1 : Int) (x253003_1 : Int), v4 = .int .i64 x4_1 ∧ Aside0 (hogsheadref19_Sum.l0 kq l0 x4_1 x253000_1 x253001_1 x253002_1 x253003_1 = some (r1, r2, r3, r4)) ∧ Aside0 (kq ≤ k) ∧ Aside0 (w'.heap[g251]? = some (.cells #[.int .i64 0, .int .i64 0, .int .i64 0, .int .i64 0] 29 (0, 0))) ∧ Aside0 (w'.heap[g252]? = some (.cells #[.int .i64 x253000_1, .int .i64 x253001_1, .int .i64 x253002_1, .int .i64 x253003_1] 29 (0, 0))) ∧ Aside0 (Below w.heap.size w w'))
 case atStart => exact ⟨(0), (0), (0), (0), (0), (by first | rfl | (simp; done) | (simp [*]; done)), H', ⟨Nat.le_refl _⟩, ⟨by (with_reducible repeat first | refine qN ?_ _ | refine qD ?_ | refine qA ?_ _); (iterate 4 (refine qR ?_ NB251_252.out _; (with_reducible repeat first | refine qN ?_ _ | refine qD ?_ | refine qA ?_ _))); exact B251.out⟩, ⟨by (with_reducible repeat first | refine qN ?_ _ | refine qD ?_ | refine qA ?_ _); apply puts4; (with_reducible repeat first | refine qN ?_ _ | refine qD ?_ | refine qA ?_ _); exact B252.out⟩, ⟨by repeat (first | (with_reducible first | exact HB.out | apply eA | apply eN | apply eD | refine eS ?_ GE251.out | refine eS ?_ GE252.out) | exact HB.out)⟩⟩
 case round =>
  clear H'
  try clear c1
  try clear p2
  try clear c4
  try clear z5_0
  try clear z5_1
  try clear z5_2
  try clear z5_3
  try clear f5_0
  try clear f5_1
  try clear f5_2
  try clear f5_3
  obtain ⟨x4_1, x253000_1, x253001_1, x253002_1, x253003_1, rfl, HA, HK1, B251, B252, HB⟩ := hrel
  cases gk with
  | zero => exact absurd HA.out (by simp [hogsheadref19_Sum.l0])
  | succ k1 =>
   have H := HA.out
   clear HA
   simp only [hogsheadref19_Sum.l0] at H
   by_cases c6 : x4_1 < (l0.length : Int)
   ·rw [if_pos c6] at H
    have c6b0 : decide (x4_1 < (l0.length : Int)) = true := decide_eq_true c6
    clear c6
    by_cases c7 : 0 ≤ x4_1
    ·rw [if_pos c7] at H
     have c7b0 : decide (0 ≤ x4_1) = true := decide_eq_true c7
     clear c7
     have H' := qM H
     clear H
     try go_wp2
     have n0_ := qM (blk_drew B251.out)
     have n1_ := qM (blk_drew B252.out)
     have n2_ := qM (below_drew1 HB.out)
     clear B251
     clear B252
     clear HB
     have B251 := n0_
     have B252 := n1_
     have HB := n2_
     clear n0_ n1_ n2_
     have p253 : 0 ≤ (x4_1 : Int) := of_decide_eq_true (by first | (with_reducible assumption) | assumption)
     have q253 : x4_1 < (l0.length : Int) := of_decide_eq_true (by first | (with_reducible assumption) | assumption)
     obtain ⟨ad253, e253, hx253_0, hx253_1, hx253_2, hx253_3⟩ := at_T29 HR0.out x4_1 p253 q253
     have hw253_3 := hx253_3
     have hw253_2 := hx253_2
     have hw253_1 := hx253_1
     have hw253_0 := hx253_0
     cases e253
     replace hx253_0 := (HB.out.cell (World.block_lt_of_cell? w _ hx253_0)).trans hx253_0
     replace hx253_1 := (HB.out.cell (World.block_lt_of_cell? w _ hx253_1)).trans hx253_1
     replace hx253_2 := (HB.out.cell (World.block_lt_of_cell? w _ hx253_2)).trans hx253_2
     replace hx253_3 := (HB.out.cell (World.block_lt_of_cell? w _ hx253_3)).trans hx253_3
     replace p253 := eq_true p253
     replace q253 := eq_true q253
     refine start_ (n := 10) (S := fun w' => w'.cell? ⟨g252, 0, none⟩ = some (.int .i64 x253000_1) ∧ w'.cell? ⟨g252, 1, none⟩ = some (.int .i64 x253001_1) ∧ w'.cell? ⟨g252, 2, none⟩ = some (.int .i64 x253002_1) ∧ w'.cell? ⟨g252, 3, none⟩ = some (.int .i64 x253003_1) ∧ w'.cell? (ad253.add ((x4_1).toNat * 4)) = some (.int .i64 ((rd_T29 l0 x4_1).f0)) ∧ w'.cell? ⟨(ad253.add ((x4_1).toNat * 4)).block, (ad253.add ((x4_1).toNat * 4)).off + 1, none⟩ = some (.int .i64 ((rd_T29 l0 x4_1).f1)) ∧ w'.cell? ⟨(ad253.add ((x4_1).toNat * 4)).block, (ad253.add ((x4_1).toNat * 4)).off + 2, none⟩ = some (.int .i64 ((rd_T29 l0 x4_1).f2)) ∧ w'.cell? ⟨(ad253.add ((x4_1).toNat * 4)).block, (ad253.add ((x4_1).toNat * 4)).off + 3, none⟩ = some (.int .i64 ((rd_T29 l0 x4_1).f3))) (ds := [9]) #[false, false, false, false, false, false, false, false, false, false] (by kernel_rfl) rfl rfl ⟨(qC B252.out 0).trans rfl, (qC B252.out 1).trans rfl, (qC B252.out 2).trans rfl, (qC B252.out 3).trans rfl, ((HB.out.cell (World.block_lt_of_cell? w _ hw253_0)).trans hw253_0), ((HB.out.cell (World.block_lt_of_cell? w _ hw253_1)).trans hw253_1), ((HB.out.cell (World.block_lt_of_cell? w _ hw253_2)).trans hw253_2), ((HB.out.cell (World.block_lt_of_cell? w _ hw253_3)).trans hw253_3)⟩ (fun hHeld => ?_); refine with_tabW hogsheadref19_Sum.tab5 hogsheadref19_Sum.bits5 (fun HT_ HW_ => ?_)
     generalize wr.drew = w8 at B251 B252 HB hx253_0 hx253_1 hx253_2 hx253_3 hHeld ⊢
     refine pure_ (i := 0) (N := some 12) (v := ?_) (a' := ?_) #[true, false, false, false, false, false, false, false, false, false] rfl rfl (any_of HT_.out (by kernel_rfl)) (fun _ _ _ h => h) (Or.inl ⟨by rfl, ?_⟩) ?_ ?_
     rotate_left
     ·intro w'; go_simp; with_reducible rfl
     rotate_left
     ·simp only [Act.put, xA, xZ, xS, i64_w, i32_w]; rfl
     refine pure_ (i := 2) (N := some 14) (v := ?_) (a' := ?_) #[true, false, true, false, false, false, false, false, false, false] rfl rfl (any_of HT_.out (by kernel_rfl)) (fun _ _ _ h => h) (Or.inl ⟨by rfl, ?_⟩) ?_ ?_
     rotate_left
     ·intro w'; go_simp; with_reducible rfl
     rotate_left
     ·simp only [Act.put, xA, xZ, xS, i64_w, i32_w]; rfl
     refine pure_ (i := 3) (N := some 15) (v := ?_) (a' := ?_) #[true, false, true, true, false, false, false, false, false, false] rfl rfl (any_of HT_.out (by kernel_rfl)) (fun _ _ _ h => h) (Or.inl ⟨by rfl, ?_⟩) ?_ ?_
     rotate_left
     ·intro w'; go_simp; with_reducible rfl
     rotate_left
     ·simp only [Act.put, xA, xZ, xS, i64_w, i32_w]; rfl
     refine pure_ (i := 4) (N := some 16) (v := ?_) (a' := ?_) #[true, false, true, true, true, false, false, false, false, false] rfl rfl (any_of HT_.out (by kernel_rfl)) (fun _ _ _ h => h) (Or.inl ⟨by rfl, ?_⟩) ?_ ?_
     rotate_left
     ·intro w'; go_simp; with_reducible rfl
     rotate_left
     ·simp only [Act.put, xA, xZ, xS, i64_w, i32_w]; rfl
     refine pure_ (i := 5) (N := some 17) (v := ?_) (a' := ?_) #[true, false, true, true, true, true, false, false, false, false] rfl rfl (any_of HT_.out (by kernel_rfl)) (fun _ _ _ h => h) (Or.inl ⟨by rfl, ?_⟩) ?_ ?_
     rotate_left
     ·intro w'; go_simp; with_reducible rfl
     rotate_left
     ·simp only [Act.put, xA, xZ, xS, i64_w, i32_w]; rfl
     refine take_ (i := 1) (N := some 13) (v := ?_) (a' := ?_) #[true, true, true, true, true, true, false, false, false, false] rfl rfl (take_ofW HT_.out HW_.out (by kernel_rfl)) (fun _ _ _ h => h) (Or.inl ⟨by rfl, ?_⟩) hHeld ?_ ?_
     rotate_left
     ·rintro w' ⟨s0, s1, s2, s3, s4, s5, s6, s7⟩; go_simp; with_reducible rfl
     rotate_left
     ·simp only [Act.put, xA, xZ, xS, i64_w, i32_w]; rfl
     refine take_ (i := 6) (N := some 18) (v := ?_) (a' := ?_) #[true, true, true, true, true, true, true, false, false, false] rfl rfl (take_ofW HT_.out HW_.out (by kernel_rfl)) (fun _ _ _ h => h) (Or.inl ⟨by rfl, ?_⟩) hHeld ?_ ?_
     rotate_left
     ·rintro w' ⟨s0, s1, s2, s3, s4, s5, s6, s7⟩; go_simp; with_reducible rfl
     rotate_left
     ·simp only [Act.put, xA, xZ, xS, i64_w, i32_w]; rfl
     refine pure_ (i := 7) (N := some 19) (v := ?_) (a' := ?_) #[true, true, true, true, true, true, true, true, false, false] rfl rfl (any_of HT_.out (by kernel_rfl)) (fun _ _ _ h => h) (Or.inl ⟨by rfl, ?_⟩) ?_ ?_
     rotate_left
     ·intro w'; go_simp; with_reducible rfl
     rotate_left
     ·simp only [Act.put, xA, xZ, xS, i64_w, i32_w]; rfl
     refine pure_ (i := 8) (N := some 20) (v := ?_) (a' := ?_) #[true, true, true, true, true, true, true, true, true, false] rfl rfl (any_of HT_.out (by kernel_rfl)) (fun _ _ _ h => h) (Or.inl ⟨by rfl, ?_⟩) ?_ ?_
     rotate_left
     ·intro w'; go_simp; with_reducible rfl
     rotate_left
     ·simp only [Act.put, xA, xZ, xS, i64_w, i32_w]; rfl
     refine last_ (i := 9) (N := none) #[true, true, true, true, true, true, true, true, true, true] rfl rfl (one_of HT_.out (by kernel_rfl)) (by decide) (fun K hK => ?_)
     have hs9 : w8.cell? ⟨g252, 0, none⟩ = some (.int .i64 x253000_1) := (qC B252.out 0).trans rfl
     have hfs9 := qF B252.out 0
     have hns9_0 := NB251_252.out
     have hms9_0 := NB252_251.out
     refine skip_ (w1 := ?_) (by rfl) rfl ?_ ?_
     rotate_left
     ·go_simp; rfl
     refine hK.out _ _ ?_
     clear hK K
     refine done_ (done_of HT_.out (by kernel_rfl)) ?_
     try go_wp2
     have n0_ : Aside0 ((w8.setCell ⟨g252, 0, none⟩ (.int .i64 (wrap64 (x253000_1 + ((rd_T29 l0 x4_1).f0))))).heap[g251]? = some (.cells #[.int .i64 0, .int .i64 0, .int .i64 0, .int .i64 0] 29 (0, 0))) := ⟨by (with_reducible repeat first | refine qN ?_ _ | refine qD ?_ | refine qA ?_ _); refine qR ?_ NB251_252.out _; (with_reducible repeat first | refine qN ?_ _ | refine qD ?_ | refine qA ?_ _); exact B251.out⟩
     have n1_ : Aside0 ((w8.setCell ⟨g252, 0, none⟩ (.int .i64 (wrap64 (x253000_1 + ((rd_T29 l0 x4_1).f0))))).heap[g252]? = some (.cells #[.int .i64 (wrap64 (x253000_1 + ((rd_T29 l0 x4_1).f0))), .int .i64 x253001_1, .int .i64 x253002_1, .int .i64 x253003_1] 29 (0, 0))) := ⟨by (with_reducible repeat first | refine qN ?_ _ | refine qD ?_ | refine qA ?_ _); refine qP (cs := #[.int .i64 x253000_1, .int .i64 x253001_1, .int .i64 x253002_1, .int .i64 x253003_1]) ?_ 0 _ rfl; (with_reducible repeat first | refine qN ?_ _ | refine qD ?_ | refine qA ?_ _); exact B252.out⟩
     have n2_ : Aside0 (Below w.heap.size w (w8.setCell ⟨g252, 0, none⟩ (.int .i64 (wrap64 (x253000_1 + ((rd_T29 l0 x4_1).f0)))))) := ⟨by repeat (first | (with_reducible first | exact HB.out | apply eA | apply eN | apply eD | refine eS ?_ GE251.out | refine eS ?_ GE252.out) | exact HB.out)⟩
     (try clear B251)
     (try clear B252)
     (try clear HB)
     generalize (w8.setCell ⟨g252, 0, none⟩ (.int .i64 (wrap64 (x253000_1 + ((rd_T29 l0 x4_1).f0))))) = w10 at n0_ n1_ n2_ ⊢
     have B251 := n0_
     have B252 := n1_
     have HB := n2_
     clear n0_ n1_ n2_
     have n0_ := qM (blk_drew B251.out)
     have n1_ := qM (blk_drew B252.out)
     have n2_ := qM (below_drew1 HB.out)
     clear B251
     clear B252
     clear HB
     have B251 := n0_
     have B252 := n1_
     have HB := n2_
     clear n0_ n1_ n2_
     have p254 : 0 ≤ (x4_1 : Int) := of_decide_eq_true (by first | (with_reducible assumption) | assumption)
     have q254 : x4_1 < (l0.length : Int) := of_decide_eq_true (by first | (with_reducible assumption) | assumption)
     obtain ⟨ad254, e254, hx254_0, hx254_1, hx254_2, hx254_3⟩ := at_T29 HR0.out x4_1 p254 q254
     have hw254_3 := hx254_3
     have hw254_2 := hx254_2
     have hw254_1 := hx254_1
     have hw254_0 := hx254_0
     obtain rfl : ad253 = ad254 := (by injection e254)
     replace hx254_0 := (HB.out.cell (World.block_lt_of_cell? w _ hx254_0)).trans hx254_0
     replace hx254_1 := (HB.out.cell (World.block_lt_of_cell? w _ hx254_1)).trans hx254_1
     replace hx254_2 := (HB.out.cell (World.block_lt_of_cell? w _ hx254_2)).trans hx254_2
     replace hx254_3 := (HB.out.cell (World.block_lt_of_cell? w _ hx254_3)).trans hx254_3
     replace p254 := eq_true p254
     replace q254 := eq_true q254
     refine start_ (n := 10) (S := fun w' => w'.cell? ⟨g252, 0, none⟩ = some (.int .i64 (wrap64 (x253000_1 + ((rd_T29 l0 x4_1).f0)))) ∧ w'.cell? ⟨g252, 1, none⟩ = some (.int .i64 x253001_1) ∧ w'.cell? ⟨g252, 2, none⟩ = some (.int .i64 x253002_1) ∧ w'.cell? ⟨g252, 3, none⟩ = some (.int .i64 x253003_1) ∧ w'.cell? (ad253.add ((x4_1).toNat * 4)) = some (.int .i64 ((rd_T29 l0 x4_1).f0)) ∧ w'.cell? ⟨(ad253.add ((x4_1).toNat * 4)).block, (ad253.add ((x4_1).toNat * 4)).off + 1, none⟩ = some (.int .i64 ((rd_T29 l0 x4_1).f1)) ∧ w'.cell? ⟨(ad253.add ((x4_1).toNat * 4)).block, (ad253.add ((x4_1).toNat * 4)).off + 2, none⟩ = some (.int .i64 ((rd_T29 l0 x4_1).f2)) ∧ w'.cell? ⟨(ad253.add ((x4_1).toNat * 4)).block, (ad253.add ((x4_1).toNat * 4)).off + 3, none⟩ = some (.int .i64 ((rd_T29 l0 x4_1).f3))) (ds := [9]) #[false, false, false, false, false, false, false, false, false, false] (by kernel_rfl) rfl rfl ⟨(qC B252.out 0).trans rfl, (qC B252.out 1).trans rfl, (qC B252.out 2).trans rfl, (qC B252.out 3).trans rfl, ((HB.out.cell (World.block_lt_of_cell? w _ hw254_0)).trans hw254_0), ((HB.out.cell (World.block_lt_of_cell? w _ hw254_1)).trans hw254_1), ((HB.out.cell (World.block_lt_of_cell? w _ hw254_2)).trans hw254_2), ((HB.out.cell (World.block_lt_of_cell? w _ hw254_3)).trans hw254_3)⟩ (fun hHeld => ?_); refine with_tabW hogsheadref19_Sum.tab6 hogsheadref19_Sum.bits6 (fun HT_ HW_ => ?_)
     generalize w10.drew = w11 at B251 B252 HB hx254_0 hx254_1 hx254_2 hx254_3 hHeld ⊢
     refine pure_ (i := 0) (N := some 21) (v := ?_) (a' := ?_) #[true, false, false, false, false, false, false, false, false, false] rfl rfl (any_of HT_.out (by kernel_rfl)) (fun _ _ _ h => h) (Or.inl ⟨by rfl, ?_⟩) ?_ ?_
     rotate_left
     ·intro w'; go_simp; with_reducible rfl
     rotate_left
     ·simp only [Act.put, xA, xZ, xS, i64_w, i32_w]; rfl
     refine pure_ (i := 2) (N := some 23) (v := ?_) (a' := ?_) #[true, false, true, false, false, false, false, false, false, false] rfl rfl (any_of HT_.out (by kernel_rfl)) (fun _ _ _ h => h) (Or.inl ⟨by rfl, ?_⟩) ?_ ?_
     rotate_left
     ·intro w'; go_simp; with_reducible rfl
     rotate_left
     ·simp only [Act.put, xA, xZ, xS, i64_w, i32_w]; rfl
     refine pure_ (i := 3) (N := some 24) (v := ?_) (a' := ?_) #[true, false, true, true, false, false, false, false, false, false] rfl rfl (any_of HT_.out (by kernel_rfl)) (fun _ _ _ h => h) (Or.inl ⟨by rfl, ?_⟩) ?_ ?_
     rotate_left
     ·intro w'; go_simp; with_reducible rfl
     rotate_left
     ·simp only [Act.put, xA, xZ, xS, i64_w, i32_w]; rfl
     refine pure_ (i := 4) (N := some 25) (v := ?_) (a' := ?_) #[true, false, true, true, true, false, false, false, false, false] rfl rfl (any_of HT_.out (by kernel_rfl)) (fun _ _ _ h => h) (Or.inl ⟨by rfl, ?_⟩) ?_ ?_
     rotate_left
     ·intro w'; go_simp; with_reducible rfl
     rotate_left
     ·simp only [Act.put, xA, xZ, xS, i64_w, i32_w]; rfl
     refine pure_ (i := 5) (N := some 26) (v := ?_) (a' := ?_) #[true, false, true, true, true, true, false, false, false, false] rfl rfl (any_of HT_.out (by kernel_rfl)) (fun _ _ _ h => h) (Or.inl ⟨by rfl, ?_⟩) ?_ ?_
     rotate_left
     ·intro w'; go_simp; with_reducible rfl
     rotate_left
     ·simp only [Act.put, xA, xZ, xS, i64_w, i32_w]; rfl
     refine take_ (i := 1) (N := some 22) (v := ?_) (a' := ?_) #[true, true, true, true, true, true, false, false, false, false] rfl rfl (take_ofW HT_.out HW_.out (by kernel_rfl)) (fun _ _ _ h => h) (Or.inl ⟨by rfl, ?_⟩) hHeld ?_ ?_
     rotate_left
     ·rintro w' ⟨s0, s1, s2, s3, s4, s5, s6, s7⟩; go_simp; with_reducible rfl
     rotate_left
     ·simp only [Act.put, xA, xZ, xS, i64_w, i32_w]; rfl
     refine take_ (i := 6) (N := some 27) (v := ?_) (a' := ?_) #[true, true, true, true, true, true, true, false, false, false] rfl rfl (take_ofW HT_.out HW_.out (by kernel_rfl)) (fun _ _ _ h => h) (Or.inl ⟨by rfl, ?_⟩) hHeld ?_ ?_
     rotate_left
     ·rintro w' ⟨s0, s1, s2, s3, s4, s5, s6, s7⟩; go_simp; with_reducible rfl
     rotate_left
     ·simp only [Act.put, xA, xZ, xS, i64_w, i32_w]; rfl
     refine pure_ (i := 7) (N := some 28) (v := ?_) (a' := ?_) #[true, true, true, true, true, true, true, true, false, false] rfl rfl (any_of HT_.out (by kernel_rfl)) (fun _ _ _ h => h) (Or.inl ⟨by rfl, ?_⟩) ?_ ?_
     rotate_left
     ·intro w'; go_simp; with_reducible rfl
     rotate_left
     ·simp only [Act.put, xA, xZ, xS, i64_w, i32_w]; rfl
     refine pure_ (i := 8) (N := some 29) (v := ?_) (a' := ?_) #[true, true, true, true, true, true, true, true, true, false] rfl rfl (any_of HT_.out (by kernel_rfl)) (fun _ _ _ h => h) (Or.inl ⟨by rfl, ?_⟩) ?_ ?_
     rotate_left
     ·intro w'; go_simp; with_reducible rfl
     rotate_left
     ·simp only [Act.put, xA, xZ, xS, i64_w, i32_w]; rfl
     refine last_ (i := 9) (N := none) #[true, true, true, true, true, true, true, true, true, true] rfl rfl (one_of HT_.out (by kernel_rfl)) (by decide) (fun K hK => ?_)
     have hs12 : w11.cell? ⟨g252, 1, none⟩ = some (.int .i64 x253001_1) := (qC B252.out 1).trans rfl
     have hfs12 := qF B252.out 1
     have hns12_0 := NB251_252.out
     have hms12_0 := NB252_251.out
     refine skip_ (w1 := ?_) (by rfl) rfl ?_ ?_
     rotate_left
     ·go_simp; rfl
     refine hK.out _ _ ?_
     clear hK K
     refine done_ (done_of HT_.out (by kernel_rfl)) ?_
     try go_wp2
     have n0_ : Aside0 ((w11.setCell ⟨g252, 1, none⟩ (.int .i64 (wrap64 (x253001_1 + ((rd_T29 l0 x4_1).f1))))).heap[g251]? = some (.cells #[.int .i64 0, .int .i64 0, .int .i64 0, .int .i64 0] 29 (0, 0))) := ⟨by (with_reducible repeat first | refine qN ?_ _ | refine qD ?_ | refine qA ?_ _); refine qR ?_ NB251_252.out _; (with_reducible repeat first | refine qN ?_ _ | refine qD ?_ | refine qA ?_ _); exact B251.out⟩
     have n1_ : Aside0 ((w11.setCell ⟨g252, 1, none⟩ (.int .i64 (wrap64 (x253001_1 + ((rd_T29 l0 x4_1).f1))))).heap[g252]? = some (.cells #[.int .i64 (wrap64 (x253000_1 + ((rd_T29 l0 x4_1).f0))), .int .i64 (wrap64 (x253001_1 + ((rd_T29 l0 x4_1).f1))), .int .i64 x253002_1, .int .i64 x253003_1] 29 (0, 0))) := ⟨by (with_reducible repeat first | refine qN ?_ _ | refine qD ?_ | refine qA ?_ _); refine qP (cs := #[.int .i64 (wrap64 (x253000_1 + ((rd_T29 l0 x4_1).f0))), .int .i64 x253001_1, .int .i64 x253002_1, .int .i64 x253003_1]) ?_ 1 _ rfl; (with_reducible repeat first | refine qN ?_ _ | refine qD ?_ | refine qA ?_ _); exact B252.out⟩
     have n2_ : Aside0 (Below w.heap.size w (w11.setCell ⟨g252, 1, none⟩ (.int .i64 (wrap64 (x253001_1 + ((rd_T29 l0 x4_1).f1)))))) := ⟨by repeat (first | (with_reducible first | exact HB.out | apply eA | apply eN | apply eD | refine eS ?_ GE251.out | refine eS ?_ GE252.out) | exact HB.out)⟩
     (try clear B251)
     (try clear B252)
     (try clear HB)
     generalize (w11.setCell ⟨g252, 1, none⟩ (.int .i64 (wrap64 (x253001_1 + ((rd_T29 l0 x4_1).f1))))) = w13 at n0_ n1_ n2_ ⊢
     have B251 := n0_
     have B252 := n1_
     have HB := n2_
     clear n0_ n1_ n2_
     have n0_ := qM (blk_drew B251.out)
     have n1_ := qM (blk_drew B252.out)
     have n2_ := qM (below_drew1 HB.out)
     clear B251
     clear B252
     clear HB
     have B251 := n0_
     have B252 := n1_
     have HB := n2_
     clear n0_ n1_ n2_
     have p255 : 0 ≤ (x4_1 : Int) := of_decide_eq_true (by first | (with_reducible assumption) | assumption)
     have q255 : x4_1 < (l0.length : Int) := of_decide_eq_true (by first | (with_reducible assumption) | assumption)
     obtain ⟨ad255, e255, hx255_0, hx255_1, hx255_2, hx255_3⟩ := at_T29 HR0.out x4_1 p255 q255
     have hw255_3 := hx255_3
     have hw255_2 := hx255_2
     have hw255_1 := hx255_1
     have hw255_0 := hx255_0
     obtain rfl : ad253 = ad255 := (by injection e255)
     replace hx255_0 := (HB.out.cell (World.block_lt_of_cell? w _ hx255_0)).trans hx255_0
     replace hx255_1 := (HB.out.cell (World.block_lt_of_cell? w _ hx255_1)).trans hx255_1
     replace hx255_2 := (HB.out.cell (World.block_lt_of_cell? w _ hx255_2)).trans hx255_2
     replace hx255_3 := (HB.out.cell (World.block_lt_of_cell? w _ hx255_3)).trans hx255_3
     replace p255 := eq_true p255
     replace q255 := eq_true q255
     refine start_ (n := 10) (S := fun w' => w'.cell? ⟨g252, 0, none⟩ = some (.int .i64 (wrap64 (x253000_1 + ((rd_T29 l0 x4_1).f0)))) ∧ w'.cell? ⟨g252, 1, none⟩ = some (.int .i64 (wrap64 (x253001_1 + ((rd_T29 l0 x4_1).f1)))) ∧ w'.cell? ⟨g252, 2, none⟩ = some (.int .i64 x253002_1) ∧ w'.cell? ⟨g252, 3, none⟩ = some (.int .i64 x253003_1) ∧ w'.cell? (ad253.add ((x4_1).toNat * 4)) = some (.int .i64 ((rd_T29 l0 x4_1).f0)) ∧ w'.cell? ⟨(ad253.add ((x4_1).toNat * 4)).block, (ad253.add ((x4_1).toNat * 4)).off + 1, none⟩ = some (.int .i64 ((rd_T29 l0 x4_1).f1)) ∧ w'.cell? ⟨(ad253.add ((x4_1).toNat * 4)).block, (ad253.add ((x4_1).toNat * 4)).off + 2, none⟩ = some (.int .i64 ((rd_T29 l0 x4_1).f2)) ∧ w'.cell? ⟨(ad253.add ((x4_1).toNat * 4)).block, (ad253.add ((x4_1).toNat * 4)).off + 3, none⟩ = some (.int .i64 ((rd_T29 l0 x4_1).f3))) (ds := [9]) #[false, false, false, false, false, false, false, false, false, false] (by kernel_rfl) rfl rfl ⟨(qC B252.out 0).trans rfl, (qC B252.out 1).trans rfl, (qC B252.out 2).trans rfl, (qC B252.out 3).trans rfl, ((HB.out.cell (World.block_lt_of_cell? w _ hw255_0)).trans hw255_0), ((HB.out.cell (World.block_lt_of_cell? w _ hw255_1)).trans hw255_1), ((HB.out.cell (World.block_lt_of_cell? w _ hw255_2)).trans hw255_2), ((HB.out.cell (World.block_lt_of_cell? w _ hw255_3)).trans hw255_3)⟩ (fun hHeld => ?_); refine with_tabW hogsheadref19_Sum.tab7 hogsheadref19_Sum.bits7 (fun HT_ HW_ => ?_)
     generalize w13.drew = w14 at B251 B252 HB hx255_0 hx255_1 hx255_2 hx255_3 hHeld ⊢
     refine pure_ (i := 0) (N := some 30) (v := ?_) (a' := ?_) #[true, false, false, false, false, false, false, false, false, false] rfl rfl (any_of HT_.out (by kernel_rfl)) (fun _ _ _ h => h) (Or.inl ⟨by rfl, ?_⟩) ?_ ?_
     rotate_left
     ·intro w'; go_simp; with_reducible rfl
     rotate_left
     ·simp only [Act.put, xA, xZ, xS, i64_w, i32_w]; rfl
     refine pure_ (i := 2) (N := some 32) (v := ?_) (a' := ?_) #[true, false, true, false, false, false, false, false, false, false] rfl rfl (any_of HT_.out (by kernel_rfl)) (fun _ _ _ h => h) (Or.inl ⟨by rfl, ?_⟩) ?_ ?_
     rotate_left
     ·intro w'; go_simp; with_reducible rfl
     rotate_left
     ·simp only [Act.put, xA, xZ, xS, i64_w, i32_w]; rfl
     refine pure_ (i := 3) (N := some 33) (v := ?_) (a' := ?_) #[true, false, true, true, false, false, false, false, false, false] rfl rfl (any_of HT_.out (by kernel_rfl)) (fun _ _ _ h => h) (Or.inl ⟨by rfl, ?_⟩) ?_ ?_
     rotate_left
     ·intro w'; go_simp; with_reducible rfl
     rotate_left
     ·simp only [Act.put, xA, xZ, xS, i64_w, i32_w]; rfl
     refine pure_ (i := 4) (N := some 34) (v := ?_) (a' := ?_) #[true, false, true, true, true, false, false, false, false, false] rfl rfl (any_of HT_.out (by kernel_rfl)) (fun _ _ _ h => h) (Or.inl ⟨by rfl, ?_⟩) ?_ ?_
     rotate_left
     ·intro w'; go_simp; with_reducible rfl
     rotate_left
     ·simp only [Act.put, xA, xZ, xS, i64_w, i32_w]; rfl
     refine pure_ (i := 5) (N := some 35) (v := ?_) (a' := ?_) #[true, false, true, true, true, true, false, false, false, false] rfl rfl (any_of HT_.out (by kernel_rfl)) (fun _ _ _ h => h) (Or.inl ⟨by rfl, ?_⟩) ?_ ?_
     rotate_left
     ·intro w'; go_simp; with_reducible rfl
     rotate_left
     ·simp only [Act.put, xA, xZ, xS, i64_w, i32_w]; rfl
     refine take_ (i := 1) (N := some 31) (v := ?_) (a' := ?_) #[true, true, true, true, true, true, false, false, false, false] rfl rfl (take_ofW HT_.out HW_.out (by kernel_rfl)) (fun _ _ _ h => h) (Or.inl ⟨by rfl, ?_⟩) hHeld ?_ ?_
     rotate_left
     ·rintro w' ⟨s0, s1, s2, s3, s4, s5, s6, s7⟩; go_simp; with_reducible rfl
     rotate_left
     ·simp only [Act.put, xA, xZ, xS, i64_w, i32_w]; rfl
     refine take_ (i := 6) (N := some 36) (v := ?_) (a' := ?_) #[true, true, true, true, true, true, true, false, false, false] rfl rfl (take_ofW HT_.out HW_.out (by kernel_rfl)) (fun _ _ _ h => h) (Or.inl ⟨by rfl, ?_⟩) hHeld ?_ ?_
     rotate_left
     ·rintro w' ⟨s0, s1, s2, s3, s4, s5, s6, s7⟩; go_simp; with_reducible rfl
     rotate_left
     ·simp only [Act.put, xA, xZ, xS, i64_w, i32_w]; rfl
     refine pure_ (i := 7) (N := some 37) (v := ?_) (a' := ?_) #[true, true, true, true, true, true, true, true, false, false] rfl rfl (any_of HT_.out (by kernel_rfl)) (fun _ _ _ h => h) (Or.inl ⟨by rfl, ?_⟩) ?_ ?_
     rotate_left
     ·intro w'; go_simp; with_reducible rfl
     rotate_left
     ·simp only [Act.put, xA, xZ, xS, i64_w, i32_w]; rfl
     refine pure_ (i := 8) (N := some 38) (v := ?_) (a' := ?_) #[true, true, true, true, true, true, true, true, true, false] rfl rfl (any_of HT_.out (by kernel_rfl)) (fun _ _ _ h => h) (Or.inl ⟨by rfl, ?_⟩) ?_ ?_
     rotate_left
     ·intro w'; go_simp; with_reducible rfl
     rotate_left
     ·simp only [Act.put, xA, xZ, xS, i64_w, i32_w]; rfl
     refine last_ (i := 9) (N := none) #[true, true, true, true, true, true, true, true, true, true] rfl rfl (one_of HT_.out (by kernel_rfl)) (by decide) (fun K hK => ?_)
     have hs15 : w14.cell? ⟨g252, 2, none⟩ = some (.int .i64 x253002_1) := (qC B252.out 2).trans rfl
     have hfs15 := qF B252.out 2
     have hns15_0 := NB251_252.out
     have hms15_0 := NB252_251.out
     refine skip_ (w1 := ?_) (by rfl) rfl ?_ ?_
     rotate_left
     ·go_simp; rfl
     refine hK.out _ _ ?_
     clear hK K
     refine done_ (done_of HT_.out (by kernel_rfl)) ?_
     try go_wp2
     have n0_ : Aside0 ((w14.setCell ⟨g252, 2, none⟩ (.int .i64 (wrap64 (x253002_1 + ((rd_T29 l0 x4_1).f2))))).heap[g251]? = some (.cells #[.int .i64 0, .int .i64 0, .int .i64 0, .int .i64 0] 29 (0, 0))) := ⟨by (with_reducible repeat first | refine qN ?_ _ | refine qD ?_ | refine qA ?_ _); refine qR ?_ NB251_252.out _; (with_reducible repeat first | refine qN ?_ _ | refine qD ?_ | refine qA ?_ _); exact B251.out⟩
     have n1_ : Aside0 ((w14.setCell ⟨g252, 2, none⟩ (.int .i64 (wrap64 (x253002_1 + ((rd_T29 l0 x4_1).f2))))).heap[g252]? = some (.cells #[.int .i64 (wrap64 (x253000_1 + ((rd_T29 l0 x4_1).f0))), .int .i64 (wrap64 (x253001_1 + ((rd_T29 l0 x4_1).f1))), .int .i64 (wrap64 (x253002_1 + ((rd_T29 l0 x4_1).f2))), .int .i64 x253003_1] 29 (0, 0))) := ⟨by (with_reducible repeat first | refine qN ?_ _ | refine qD ?_ | refine qA ?_ _); refine qP (cs := #[.int .i64 (wrap64 (x253000_1 + ((rd_T29 l0 x4_1).f0))), .int .i64 (wrap64 (x253001_1 + ((rd_T29 l0 x4_1).f1))), .int .i64 x253002_1, .int .i64 x253003_1]) ?_ 2 _ rfl; (with_reducible repeat first | refine qN ?_ _ | refine qD ?_ | refine qA ?_ _); exact B252.out⟩
     have n2_ : Aside0 (Below w.heap.size w (w14.setCell ⟨g252, 2, none⟩ (.int .i64 (wrap64 (x253002_1 + ((rd_T29 l0 x4_1).f2)))))) := ⟨by repeat (first | (with_reducible first | exact HB.out | apply eA | apply eN | apply eD | refine eS ?_ GE251.out | refine eS ?_ GE252.out) | exact HB.out)⟩
     (try clear B251)
     (try clear B252)
     (try clear HB)
     generalize (w14.setCell ⟨g252, 2, none⟩ (.int .i64 (wrap64 (x253002_1 + ((rd_T29 l0 x4_1).f2))))) = w16 at n0_ n1_ n2_ ⊢
     have B251 := n0_
     have B252 := n1_
     have HB := n2_
     clear n0_ n1_ n2_
     have n0_ := qM (blk_drew B251.out)
     have n1_ := qM (blk_drew B252.out)
     have n2_ := qM (below_drew1 HB.out)
     clear B251
     clear B252
     clear HB
     have B251 := n0_
     have B252 := n1_
     have HB := n2_
     clear n0_ n1_ n2_
     have p256 : 0 ≤ (x4_1 : Int) := of_decide_eq_true (by first | (with_reducible assumption) | assumption)
     have q256 : x4_1 < (l0.length : Int) := of_decide_eq_true (by first | (with_reducible assumption) | assumption)
     obtain ⟨ad256, e256, hx256_0, hx256_1, hx256_2, hx256_3⟩ := at_T29 HR0.out x4_1 p256 q256
     have hw256_3 := hx256_3
     have hw256_2 := hx256_2
     have hw256_1 := hx256_1
     have hw256_0 := hx256_0
     obtain rfl : ad253 = ad256 := (by injection e256)
     replace hx256_0 := (HB.out.cell (World.block_lt_of_cell? w _ hx256_0)).trans hx256_0
     replace hx256_1 := (HB.out.cell (World.block_lt_of_cell? w _ hx256_1)).trans hx256_1
     replace hx256_2 := (HB.out.cell (World.block_lt_of_cell? w _ hx256_2)).trans hx256_2
     replace hx256_3 := (HB.out.cell (World.block_lt_of_cell? w _ hx256_3)).trans hx256_3
     replace p256 := eq_true p256
     replace q256 := eq_true q256
     refine start_ (n := 10) (S := fun w' => w'.cell? ⟨g252, 0, none⟩ = some (.int .i64 (wrap64 (x253000_1 + ((rd_T29 l0 x4_1).f0)))) ∧ w'.cell? ⟨g252, 1, none⟩ = some (.int .i64 (wrap64 (x253001_1 + ((rd_T29 l0 x4_1).f1)))) ∧ w'.cell? ⟨g252, 2, none⟩ = some (.int .i64 (wrap64 (x253002_1 + ((rd_T29 l0 x4_1).f2)))) ∧ w'.cell? ⟨g252, 3, none⟩ = some (.int .i64 x253003_1) ∧ w'.cell? (ad253.add ((x4_1).toNat * 4)) = some (.int .i64 ((rd_T29 l0 x4_1).f0)) ∧ w'.cell? ⟨(ad253.add ((x4_1).toNat * 4)).block, (ad253.add ((x4_1).toNat * 4)).off + 1, none⟩ = some (.int .i64 ((rd_T29 l0 x4_1).f1)) ∧ w'.cell? ⟨(ad253.add ((x4_1).toNat * 4)).block, (ad253.add ((x4_1).toNat * 4)).off + 2, none⟩ = some (.int .i64 ((rd_T29 l0 x4_1).f2)) ∧ w'.cell? ⟨(ad253.add ((x4_1).toNat * 4)).block, (ad253.add ((x4_1).toNat * 4)).off + 3, none⟩ = some (.int .i64 ((rd_T29 l0 x4_1).f3))) (ds := [9]) #[false, false, false, false, false, false, false, false, false, false] (by kernel_rfl) rfl rfl ⟨(qC B252.out 0).trans rfl, (qC B252.out 1).trans rfl, (qC B252.out 2).trans rfl, (qC B252.out 3).trans rfl, ((HB.out.cell (World.block_lt_of_cell? w _ hw256_0)).trans hw256_0), ((HB.out.cell (World.block_lt_of_cell? w _ hw256_1)).trans hw256_1), ((HB.out.cell (World.block_lt_of_cell? w _ hw256_2)).trans hw256_2), ((HB.out.cell (World.block_lt_of_cell? w _ hw256_3)).trans hw256_3)⟩ (fun hHeld => ?_); refine with_tabW hogsheadref19_Sum.tab8 hogsheadref19_Sum.bits8 (fun HT_ HW_ => ?_)
     generalize w16.drew = w17 at B251 B252 HB hx256_0 hx256_1 hx256_2 hx256_3 hHeld ⊢
     refine pure_ (i := 0) (N := some 39) (v := ?_) (a' := ?_) #[true, false, false, false, false, false, false, false, false, false] rfl rfl (any_of HT_.out (by kernel_rfl)) (fun _ _ _ h => h) (Or.inl ⟨by rfl, ?_⟩) ?_ ?_
     rotate_left
     ·intro w'; go_simp; with_reducible rfl
     rotate_left
     ·simp only [Act.put, xA, xZ, xS, i64_w, i32_w]; rfl
     refine pure_ (i := 2) (N := some 41) (v := ?_) (a' := ?_) #[true, false, true, false, false, false, false, false, false, false] rfl rfl (any_of HT_.out (by kernel_rfl)) (fun _ _ _ h => h) (Or.inl ⟨by rfl, ?_⟩) ?_ ?_
     rotate_left
     ·intro w'; go_simp; with_reducible rfl
     rotate_left
     ·simp only [Act.put, xA, xZ, xS, i64_w, i32_w]; rfl
     refine pure_ (i := 3) (N := some 42) (v := ?_) (a' := ?_) #[true, false, true, true, false, false, false, false, false, false] rfl rfl (any_of HT_.out (by kernel_rfl)) (fun _ _ _ h => h) (Or.inl ⟨by rfl, ?_⟩) ?_ ?_
     rotate_left
     ·intro w'; go_simp; with_reducible rfl
     rotate_left
     ·simp only [Act.put, xA, xZ, xS, i64_w, i32_w]; rfl
     refine pure_ (i := 4) (N := some 43) (v := ?_) (a' := ?_) #[true, false, true, true, true, false, false, false, false, false] rfl rfl (any_of HT_.out (by kernel_rfl)) (fun _ _ _ h => h) (Or.inl ⟨by rfl, ?_⟩) ?_ ?_
     rotate_left
     ·intro w'; go_simp; with_reducible rfl
     rotate_left
     ·simp only [Act.put, xA, xZ, xS, i64_w, i32_w]; rfl
     refine pure_ (i := 5) (N := some 44) (v := ?_) (a' := ?_) #[true, false, true, true, true, true, false, false, false, false] rfl rfl (any_of HT_.out (by kernel_rfl)) (fun _ _ _ h => h) (Or.inl ⟨by rfl, ?_⟩) ?_ ?_
     rotate_left
     ·intro w'; go_simp; with_reducible rfl
     rotate_left
     ·simp only [Act.put, xA, xZ, xS, i64_w, i32_w]; rfl
     refine take_ (i := 1) (N := some 40) (v := ?_) (a' := ?_) #[true, true, true, true, true, true, false, false, false, false] rfl rfl (take_ofW HT_.out HW_.out (by kernel_rfl)) (fun _ _ _ h => h) (Or.inl ⟨by rfl, ?_⟩) hHeld ?_ ?_
     rotate_left
     ·rintro w' ⟨s0, s1, s2, s3, s4, s5, s6, s7⟩; go_simp; with_reducible rfl
     rotate_left
     ·simp only [Act.put, xA, xZ, xS, i64_w, i32_w]; rfl
     refine take_ (i := 6) (N := some 45) (v := ?_) (a' := ?_) #[true, true, true, true, true, true, true, false, false, false] rfl rfl (take_ofW HT_.out HW_.out (by kernel_rfl)) (fun _ _ _ h => h) (Or.inl ⟨by rfl, ?_⟩) hHeld ?_ ?_
     rotate_left
     ·rintro w' ⟨s0, s1, s2, s3, s4, s5, s6, s7⟩; go_simp; with_reducible rfl
     rotate_left
     ·simp only [Act.put, xA, xZ, xS, i64_w, i32_w]; rfl
     refine pure_ (i := 7) (N := some 46) (v := ?_) (a' := ?_) #[true, true, true, true, true, true, true, true, false, false] rfl rfl (any_of HT_.out (by kernel_rfl)) (fun _ _ _ h => h) (Or.inl ⟨by rfl, ?_⟩) ?_ ?_
     rotate_left
     ·intro w'; go_simp; with_reducible rfl
     rotate_left
     ·simp only [Act.put, xA, xZ, xS, i64_w, i32_w]; rfl
     refine pure_ (i := 8) (N := some 47) (v := ?_) (a' := ?_) #[true, true, true, true, true, true, true, true, true, false] rfl rfl (any_of HT_.out (by kernel_rfl)) (fun _ _ _ h => h) (Or.inl ⟨by rfl, ?_⟩) ?_ ?_
     rotate_left
     ·intro w'; go_simp; with_reducible rfl
     rotate_left
     ·simp only [Act.put, xA, xZ, xS, i64_w, i32_w]; rfl
     refine last_ (i := 9) (N := none) #[true, true, true, true, true, true, true, true, true, true] rfl rfl (one_of HT_.out (by kernel_rfl)) (by decide) (fun K hK => ?_)
     have hs18 : w17.cell? ⟨g252, 3, none⟩ = some (.int .i64 x253003_1) := (qC B252.out 3).trans rfl
     have hfs18 := qF B252.out 3
     have hns18_0 := NB251_252.out
     have hms18_0 := NB252_251.out
     refine skip_ (w1 := ?_) (by rfl) rfl ?_ ?_
     rotate_left
     ·go_simp; rfl
     refine hK.out _ _ ?_
     clear hK K
     refine done_ (done_of HT_.out (by kernel_rfl)) ?_
     try go_wp2
     go_roundg k1
     case measure => have := HK1.out; omega
     case rel => exact ⟨(wrap64 (x4_1 + 1)), (wrap64 (x253000_1 + ((rd_T29 l0 x4_1).f0))), (wrap64 (x253001_1 + ((rd_T29 l0 x4_1).f1))), (wrap64 (x253002_1 + ((rd_T29 l0 x4_1).f2))), (wrap64 (x253003_1 + ((rd_T29 l0 x4_1).f3))), (by first | rfl | (simp; done) | (simp [*]; done)), H', ⟨by have := HK1.out; omega⟩, ⟨by (with_reducible repeat first | refine qN ?_ _ | refine qD ?_ | refine qA ?_ _); refine qR ?_ NB251_252.out _; (with_reducible repeat first | refine qN ?_ _ | refine qD ?_ | refine qA ?_ _); exact B251.out⟩, ⟨by (with_reducible repeat first | refine qN ?_ _ | refine qD ?_ | refine qA ?_ _); refine qP (cs := #[.int .i64 (wrap64 (x253000_1 + ((rd_T29 l0 x4_1).f0))), .int .i64 (wrap64 (x253001_1 + ((rd_T29 l0 x4_1).f1))), .int .i64 (wrap64 (x253002_1 + ((rd_T29 l0 x4_1).f2))), .int .i64 x253003_1]) ?_ 3 _ rfl; (with_reducible repeat first | refine qN ?_ _ | refine qD ?_ | refine qA ?_ _); exact B252.out⟩, ⟨by repeat (first | (with_reducible first | exact HB.out | apply eA | apply eN | apply eD | refine eS ?_ GE251.out | refine eS ?_ GE252.out) | exact HB.out)⟩⟩
    ·rw [if_neg c7] at H
     exact absurd H (by simp)
   ·rw [if_neg c6] at H
    have c6b0 : decide (x4_1 < (l0.length : Int)) = false := decide_eq_false c6
    clear c6
    simp only [Option.some.injEq, Prod.mk.injEq] at H
    obtain ⟨rfl, rfl, rfl, rfl⟩ := H
    have hnb19 := NB252_251.out
    have hnc19 := NB251_252.out
    obtain ⟨z20_0, z20_1, z20_2, z20_3, f20_0, f20_1, f20_2, f20_3⟩ := cells4 B252.out
    obtain ⟨z21_0, z21_1, z21_2, z21_3, f21_0, f21_1, f21_2, f21_3⟩ := cells4 B251.out
    go_wp2
    refine bodyPost_ret (results_cell_row rfl _ _ g251 29 #[.int .i64 x253000_1, .int .i64 x253001_1, .int .i64 x253002_1, .int .i64 x253003_1] (0, 0) _ rfl (by (with_reducible repeat first | refine qN ?_ _ | refine qD ?_ | refine qA ?_ _); apply puts4; (with_reducible repeat first | refine qN ?_ _ | refine qD ?_ | refine qA ?_ _); exact B251.out) Try.underlying29 rfl (by kernel_rfl)) rfl ?_
    exact ⟨by first | rfl | (simp [errW_none, errW_some] <;> rfl) | (simp [*, errW_none, errW_some] <;> rfl), by repeat (first | (with_reducible first | exact HB.out | apply eA | apply eN | apply eD | refine eS ?_ GE251.out | refine eS ?_ GE252.out) | exact HB.out)⟩

end Go.Proofs.Ytlfonfceaiiinaa.PAll
