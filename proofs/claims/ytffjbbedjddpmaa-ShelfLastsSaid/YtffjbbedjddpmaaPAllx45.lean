/- Functions of the program as plain Lean functions, and that each call comes to what they say. Laid by a program of this session (hprint.py); Lean checks it. -/
import Derived.Test.YtffjbbedjddpmaaPAllx0
import Derived.Test.YtffjbbedjddpmaaPAllx44
namespace Go.Proofs.Ytffjbbedjddpmaa.PAll
open Go.RowKit Go.Proofs.YtffjbbedjddpmaaW.PrintWords Go.Proofs.YtffjbbedjddpmaaW.PrintLast Go.Proofs.YtffjbbedjddpmaaW.PrintMore
attribute [local go_sem] max2_int min2_int max_two min_two max_three min_three max_four min_four   -- for this text's walks alone
set_option linter.unusedVariables false
set_option linter.unusedSimpArgs false
attribute [local irreducible] World.setCell

/-! ### hogsheadref08_Flush: function 29 -/
def hogsheadref08_Flush.f (k : Nat) (l0_0 : List ByteArray) (l0_1 : List (S94)) (a0_2 : Int) (a0_3 : Bool) : Option (List ByteArray × (List (S94)) × Int × Bool × Int) := if a0_3 = true then (some (l0_0, l0_1, a0_2, a0_3, 6)) else ((hogsheadref08_done.f k l0_0 l0_1 a0_2 a0_3 (l0_1.length : Int)).bind fun t426 => (some (t426, ([] : List (S94)), a0_2, false, 0)))
theorem hogsheadref08_Flush.mono : ∀ a0 a1 a2 a3 k, LeO (hogsheadref08_Flush.f k a0 a1 a2 a3) (hogsheadref08_Flush.f (k + 1) a0 a1 a2 a3) := by
 intro a0 a1 a2 a3 k
 unfold hogsheadref08_Flush.f
 repeat' first
   | (with_reducible exact hogsheadref08_done.mono _ _ _ _ _ _)
   | (with_reducible exact LeO.refl _)
   | (with_reducible exact LeO.none _)
   | (with_reducible refine LeO.ite ?_ ?_)
   | (with_reducible refine LeO.bind ?_ (fun _ => ?_))
   | exact hogsheadref08_done.mono _ _ _ _ _ _
   | exact LeO.none _
   | refine LeO.ite ?_ ?_
   | refine LeO.bind ?_ (fun _ => ?_)
def hogsheadref08_Flush.T3 : Bool × List (List Nat × List Nat) := (true, [([], []), ([], []), ([1], [1]), ([2], [2]), ([0, 3], [0, 3]), ([], []), ([5], [5]), ([4, 6], [4, 6]), ([7, 4, 0, 1, 2, 3, 4, 5, 6, 7], [7]), ([8, 0, 1, 2, 3, 4, 5, 6, 7, 8], [])])
def hogsheadref08_Flush.B3 : List Nat := [0, 0, 2, 6, 15, 0, 32, 127, 255, 511]
theorem hogsheadref08_Flush.tab3 : rtab .any (opsOf Try.f29 3) = hogsheadref08_Flush.T3 := by kernel_rfl
theorem hogsheadref08_Flush.bits3 : waitsOk hogsheadref08_Flush.T3.2 hogsheadref08_Flush.B3 = true := by kernel_rfl
set_option maxHeartbeats 40000000 in
set_option maxRecDepth 100000 in
theorem hogsheadref08_Flush.calls (k : Nat) (P0_0_ : Nat → Prop) (A0_0 : Option Addr) (c0_0 : Nat) (l0_0 : List ByteArray) (P0_1_ : Nat → Prop) (A0_1 : Option Addr) (c0_1 : Nat) (l0_1 : List (S94)) (a0_2 : Int) (a0_3 : Bool) (r1 : List ByteArray) (r2 : List (S94)) (r3 : Int) (r4 : Bool) (r5 : Int) (w : World) (hs0_0 : Kd.V Kd.string 9 w w.heap.size (fun k_ => P0_0_ k_) (.slice A0_0 l0_0.length c0_0) l0_0) (hs0_1 : Kd.V k94 94 w w.heap.size (fun k_ => P0_1_ k_) (.slice A0_1 l0_1.length c0_1) l0_1) (h : hogsheadref08_Flush.f k l0_0 l0_1 a0_2 a0_3 = some (r1, r2, r3, r4, r5)) :
  Calls Try.prog 29 #[.agg #[.slice A0_0 l0_0.length c0_0, .slice A0_1 l0_1.length c0_1, .int .i64 a0_2, .bool a0_3]] w fun e w' => ∃ v0_ v1_ : Value, e = .returned (.tuple #[.agg #[v0_, v1_, .int .i64 r3, .bool r4], .int .i64 r5]) ∧ Kd.V Kd.string 9 w' w.heap.size (fun k_ => ((P0_0_ k_ ∨ P0_1_ k_) ∨ w.heap.size ≤ k_)) v0_ r1 ∧ Kd.V k94 94 w' w.heap.size (fun k_ => ((P0_0_ k_ ∨ P0_1_ k_) ∨ w.heap.size ≤ k_)) v1_ r2 ∧ Below w.heap.size w w' := by
 have hu25 := Try.underlying25
 have HO0_0 := qM (show Kd.V Kd.string 9 w w.heap.size (fun k_ => ((P0_0_ k_ ∨ P0_1_ k_) ∨ w.heap.size ≤ k_)) (.slice A0_0 l0_0.length c0_0) l0_0 from Vm hs0_0 (fun k_ hk => .inl (.inl hk)))
 have HO0_1 := qM (show Kd.V k94 94 w w.heap.size (fun k_ => ((P0_0_ k_ ∨ P0_1_ k_) ∨ w.heap.size ≤ k_)) (.slice A0_1 l0_1.length c0_1) l0_1 from Vm hs0_1 (fun k_ hk => .inl (.inr hk)))
 have HB := qM (Below.refl w.heap.size w)
 have H : (if a0_3 = true then (some (l0_0, l0_1, a0_2, a0_3, 6)) else ((hogsheadref08_done.f k l0_0 l0_1 a0_2 a0_3 (l0_1.length : Int)).bind fun t426 => (some (t426, ([] : List (S94)), a0_2, false, 0)))) = some (r1, r2, r3, r4, r5) := h
 clear h
 by_cases c2 : a0_3 = true
 ·subst c2
  have H1 : (some (l0_0, l0_1, a0_2, true, 6)) = some (r1, r2, r3, r4, r5) := by rw [if_pos rfl] at H; exact H
  clear H
  have H := H1
  clear H1
  simp only [Option.some.injEq, Prod.mk.injEq] at H
  obtain ⟨rfl, rfl, rfl, rfl, rfl⟩ := H
  go_enter Try.func29, Try.ntmps29
  go_wp2_with (first | ((with_reducible refine gate_dst (N := 1) rfl ?_); refine box_event ?hg (N := 1) ?hd (cs := #[.slice A0_0 l0_0.length c0_0, .slice A0_1 l0_1.length c0_1, .int .i64 a0_2, .bool true]) (t := 25) ?hr ?_; (case hd => rfl); (case hg => rfl); (case hr => first | (go_simp; done) | (go_simp; rfl)); intro g424 hg w3 hbox hb; have n0_ := qM (Vb (Kd.V_elderB (by (with_reducible repeat first | apply VA | apply VN | apply VD); exact HO0_0.out) g424 (Nat.le_of_eq hg.symm)) hb); have n1_ := qM (Vb (Kd.V_elderB (by (with_reducible repeat first | apply VA | apply VN | apply VD); exact HO0_1.out) g424 (Nat.le_of_eq hg.symm)) hb); have n2_ := qM (eT (by repeat (first | (with_reducible first | exact HB.out | apply eA | apply eN | apply eD) | exact HB.out)) hb); have n3_ := qM (hbox); have n4_ := qM ((by rw [hg]; exact (eZ (by repeat (first | (with_reducible first | exact HB.out | apply eA | apply eN | apply eD) | exact HB.out))) : w.heap.size ≤ g424)); have n5_ := n4_; clear HO0_0 HO0_1 HB; have HO0_0 := n0_; have HO0_1 := n1_; have HB := n2_; have B424 := n3_; have GW424 := n4_; have GE424 := n5_; clear n0_ n1_ n2_ n3_ n4_ n5_; clear hb hbox hg) | ((with_reducible refine gate_dst (N := 2) rfl ?_); refine box_event ?hg (N := 2) ?hd (cs := #[.slice none 0 0, .slice none 0 0, .int .i64 0, .bool false]) (t := 25) ?hr ?_; (case hd => rfl); (case hg => rfl); (case hr => first | (go_simp; done) | (go_simp; rfl)); intro g425 hg w4 hbox hb; have n0_ := qM (Vb (Kd.V_elderB (by (with_reducible repeat first | apply VA | apply VN | apply VD); exact HO0_0.out) g425 (Nat.le_of_eq hg.symm)) hb); have n1_ := qM (Vb (Kd.V_elderB (by (with_reducible repeat first | apply VA | apply VN | apply VD); exact HO0_1.out) g425 (Nat.le_of_eq hg.symm)) hb); have n2_ := qM (qB (g := g424) (by (with_reducible repeat first | refine qN ?_ _ | refine qD ?_ | refine qA ?_ _); exact B424.out) hb); have n3_ := qM (eT (by repeat (first | (with_reducible first | exact HB.out | apply eA | apply eN | apply eD | refine eU ?_ (by assumption)) | exact HB.out)) hb); have n4_ := qM (hbox); have n5_ := qM ((by rw [hg]; exact (eZ (by repeat (first | (with_reducible first | exact HB.out | apply eA | apply eN | apply eD | refine eU ?_ (by assumption)) | exact HB.out))) : w.heap.size ≤ g425)); have n6_ := n5_; have n7_ := qM ((by rw [hg]; exact Nat.ne_of_lt (qL (g := g424) (by (with_reducible repeat first | refine qN ?_ _ | refine qD ?_ | refine qA ?_ _); exact B424.out)) : g424 ≠ g425)); have n8_ := qM (Ne.symm n7_.out); clear HO0_0 HO0_1 B424 HB; have HO0_0 := n0_; have HO0_1 := n1_; have B424 := n2_; have HB := n3_; have B425 := n4_; have GW425 := n5_; have GE425 := n6_; have NB424_425 := n7_; have NB425_424 := n8_; clear n0_ n1_ n2_ n3_ n4_ n5_ n6_ n7_ n8_; clear hb hbox hg; have hnb5 := NB424_425.out; have hnc5 := NB425_424.out; obtain ⟨z6_0, z6_1, z6_2, z6_3, f6_0, f6_1, f6_2, f6_3⟩ := cells4 B424.out; obtain ⟨z7_0, z7_1, z7_2, z7_3, f7_0, f7_1, f7_2, f7_3⟩ := cells4 B425.out))
  refine bodyPost_ret (results_ct rfl _ _ g425 25 #[.slice A0_0 l0_0.length c0_0, .slice A0_1 l0_1.length c0_1, .int .i64 a0_2, .bool true] (0, 0) _ rfl (by (with_reducible repeat first | refine qN ?_ _ | refine qD ?_ | refine qA ?_ _); apply puts4; (with_reducible repeat first | refine qN ?_ _ | refine qD ?_ | refine qA ?_ _); exact B425.out) Try.underlying25 rfl (by kernel_rfl)) rfl ?_
  exact ⟨_, _, by first | rfl | (simp [errW_none, errW_some] <;> rfl) | (simp [*, errW_none, errW_some] <;> rfl), by (with_reducible repeat first | apply VA | apply VN | apply VD); exact Vm (Vf (p := ⟨g425, 3, none⟩) (Vf (p := ⟨g425, 2, none⟩) (Vf (p := ⟨g425, 1, none⟩) (Vf (p := ⟨g425, 0, none⟩) (Vm HO0_0.out (fun k_ hk => (⟨hk, hk.2⟩ : _ ∧ k_ ≠ g425))) (fun _ hk => hk.2) (.slice A0_0 l0_0.length c0_0)) (fun _ hk => hk.2) (.slice A0_1 l0_1.length c0_1)) (fun _ hk => hk.2) (.int .i64 a0_2)) (fun _ hk => hk.2) (.bool true)) (fun _ hk => hk.1.1.1), by (with_reducible repeat first | apply VA | apply VN | apply VD); exact Vm (Vf (p := ⟨g425, 3, none⟩) (Vf (p := ⟨g425, 2, none⟩) (Vf (p := ⟨g425, 1, none⟩) (Vf (p := ⟨g425, 0, none⟩) (Vm HO0_1.out (fun k_ hk => (⟨hk, hk.2⟩ : _ ∧ k_ ≠ g425))) (fun _ hk => hk.2) (.slice A0_0 l0_0.length c0_0)) (fun _ hk => hk.2) (.slice A0_1 l0_1.length c0_1)) (fun _ hk => hk.2) (.int .i64 a0_2)) (fun _ hk => hk.2) (.bool true)) (fun _ hk => hk.1.1.1), by repeat (first | (with_reducible first | exact HB.out | apply eA | apply eN | apply eD | refine eS ?_ GE424.out | refine eS ?_ GE425.out) | exact HB.out)⟩
 ·replace c2 := Bool.eq_false_iff.mpr c2
  subst c2
  have H1 : ((hogsheadref08_done.f k l0_0 l0_1 a0_2 false (l0_1.length : Int)).bind fun t426 => (some (t426, ([] : List (S94)), a0_2, false, 0))) = some (r1, r2, r3, r4, r5) := by rw [if_neg (show ¬ (false = true) by decide)] at H; exact H
  clear H
  have H := H1
  clear H1
  replace H := Option.bind_eq_some_iff.mp H
  obtain ⟨t426, A80, H⟩ := H
  replace H : (some (t426, ([] : List (S94)), a0_2, false, 0)) = some (r1, r2, r3, r4, r5) := H
  have A8 := qM A80
  clear A80
  simp only [Option.some.injEq, Prod.mk.injEq] at H
  obtain ⟨rfl, rfl, rfl, rfl, rfl⟩ := H
  go_enter Try.func29, Try.ntmps29
  try go_wp2_with (first | ((with_reducible refine gate_dst (N := 1) rfl ?_); refine box_event ?hg (N := 1) ?hd (cs := #[.slice A0_0 l0_0.length c0_0, .slice A0_1 l0_1.length c0_1, .int .i64 a0_2, .bool false]) (t := 25) ?hr ?_; (case hd => rfl); (case hg => rfl); (case hr => first | (go_simp; done) | (go_simp; rfl)); intro g424 hg w9 hbox hb; have n0_ := qM (Vb (Kd.V_elderB (by (with_reducible repeat first | apply VA | apply VN | apply VD); exact HO0_0.out) g424 (Nat.le_of_eq hg.symm)) hb); have n1_ := qM (Vb (Kd.V_elderB (by (with_reducible repeat first | apply VA | apply VN | apply VD); exact HO0_1.out) g424 (Nat.le_of_eq hg.symm)) hb); have n2_ := qM (eT (by repeat (first | (with_reducible first | exact HB.out | apply eA | apply eN | apply eD) | exact HB.out)) hb); have n3_ := qM (hbox); have n4_ := qM ((by rw [hg]; exact (eZ (by repeat (first | (with_reducible first | exact HB.out | apply eA | apply eN | apply eD) | exact HB.out))) : w.heap.size ≤ g424)); have n5_ := n4_; clear HO0_0 HO0_1 HB; have HO0_0 := n0_; have HO0_1 := n1_; have HB := n2_; have B424 := n3_; have GW424 := n4_; have GE424 := n5_; clear n0_ n1_ n2_ n3_ n4_ n5_; clear hb hbox hg) | ((with_reducible refine gate_dst (N := 2) rfl ?_); refine box_event ?hg (N := 2) ?hd (cs := #[.slice none 0 0, .slice none 0 0, .int .i64 0, .bool false]) (t := 25) ?hr ?_; (case hd => rfl); (case hg => rfl); (case hr => first | (go_simp; done) | (go_simp; rfl)); intro g425 hg w10 hbox hb; have n0_ := qM (Vb (Kd.V_elderB (by (with_reducible repeat first | apply VA | apply VN | apply VD); exact HO0_0.out) g425 (Nat.le_of_eq hg.symm)) hb); have n1_ := qM (Vb (Kd.V_elderB (by (with_reducible repeat first | apply VA | apply VN | apply VD); exact HO0_1.out) g425 (Nat.le_of_eq hg.symm)) hb); have n2_ := qM (qB (g := g424) (by (with_reducible repeat first | refine qN ?_ _ | refine qD ?_ | refine qA ?_ _); exact B424.out) hb); have n3_ := qM (eT (by repeat (first | (with_reducible first | exact HB.out | apply eA | apply eN | apply eD | refine eU ?_ (by assumption)) | exact HB.out)) hb); have n4_ := qM (hbox); have n5_ := qM ((by rw [hg]; exact (eZ (by repeat (first | (with_reducible first | exact HB.out | apply eA | apply eN | apply eD | refine eU ?_ (by assumption)) | exact HB.out))) : w.heap.size ≤ g425)); have n6_ := n5_; have n7_ := qM ((by rw [hg]; exact Nat.ne_of_lt (qL (g := g424) (by (with_reducible repeat first | refine qN ?_ _ | refine qD ?_ | refine qA ?_ _); exact B424.out)) : g424 ≠ g425)); have n8_ := qM (Ne.symm n7_.out); clear HO0_0 HO0_1 B424 HB; have HO0_0 := n0_; have HO0_1 := n1_; have B424 := n2_; have HB := n3_; have B425 := n4_; have GW425 := n5_; have GE425 := n6_; have NB424_425 := n7_; have NB425_424 := n8_; clear n0_ n1_ n2_ n3_ n4_ n5_ n6_ n7_ n8_; clear hb hbox hg; have hnb11 := NB424_425.out; have hnc11 := NB425_424.out; obtain ⟨z12_0, z12_1, z12_2, z12_3, f12_0, f12_1, f12_2, f12_3⟩ := cells4 B424.out))
  have n0_ := qM (Kd.V_drew HO0_0.out)
  have n1_ := qM (Kd.V_drew HO0_1.out)
  have n2_ := qM (blk_drew B424.out)
  have n3_ := qM (blk_drew B425.out)
  have n4_ := qM (below_drew1 HB.out)
  clear HO0_0
  clear HO0_1
  clear B424
  clear B425
  clear HB
  have HO0_0 := n0_
  have HO0_1 := n1_
  have B424 := n2_
  have B425 := n3_
  have HB := n4_
  clear n0_ n1_ n2_ n3_ n4_
  refine start_ (n := 10) (S := fun w' => w'.cell? ⟨g424, 0, none⟩ = some (.slice A0_0 l0_0.length c0_0) ∧ w'.cell? ⟨g424, 1, none⟩ = some (.slice A0_1 l0_1.length c0_1) ∧ w'.cell? ⟨g424, 2, none⟩ = some (.int .i64 a0_2) ∧ w'.cell? ⟨g424, 3, none⟩ = some (.bool false)) (ds := []) #[false, false, false, false, false, false, false, false, false, false] (by kernel_rfl) rfl rfl ⟨(qC B424.out 0).trans rfl, (qC B424.out 1).trans rfl, (qC B424.out 2).trans rfl, (qC B424.out 3).trans rfl⟩ (fun hHeld => ?_); refine with_tabW hogsheadref08_Flush.tab3 hogsheadref08_Flush.bits3 (fun HT_ HW_ => ?_)
  generalize w10.drew = w13 at HO0_0 HO0_1 B424 B425 HB hHeld ⊢
  refine pure_ (i := 1) (N := some 8) (v := ?_) (a' := ?_) #[false, true, false, false, false, false, false, false, false, false] rfl rfl (any_of HT_.out (by kernel_rfl)) (fun _ _ _ h => h) (Or.inl ⟨by rfl, ?_⟩) ?_ ?_
  rotate_left
  ·intro w'; go_simp; with_reducible rfl
  rotate_left
  ·simp only [Act.put, xA, xZ, xS, i64_w, i32_w]; rfl
  refine pure_ (i := 5) (N := some 12) (v := ?_) (a' := ?_) #[false, true, false, false, false, true, false, false, false, false] rfl rfl (any_of HT_.out (by kernel_rfl)) (fun _ _ _ h => h) (Or.inl ⟨by rfl, ?_⟩) ?_ ?_
  rotate_left
  ·intro w'; go_simp; with_reducible rfl
  rotate_left
  ·simp only [Act.put, xA, xZ, xS, i64_w, i32_w]; rfl
  refine take_ (i := 0) (N := some 7) (v := ?_) (a' := ?_) #[true, true, false, false, false, true, false, false, false, false] rfl rfl (take_ofW HT_.out HW_.out (by kernel_rfl)) (fun _ _ _ h => h) (Or.inl ⟨by rfl, ?_⟩) hHeld ?_ ?_
  rotate_left
  ·rintro w' ⟨s0, s1, s2, s3⟩; go_simp; with_reducible rfl
  rotate_left
  ·simp only [Act.put, xA, xZ, xS, i64_w, i32_w]; rfl
  refine take_ (i := 2) (N := some 9) (v := ?_) (a' := ?_) #[true, true, true, false, false, true, false, false, false, false] rfl rfl (take_ofW HT_.out HW_.out (by kernel_rfl)) (fun _ _ _ h => h) (Or.inl ⟨by rfl, ?_⟩) hHeld ?_ ?_
  rotate_left
  ·rintro w' ⟨s0, s1, s2, s3⟩; go_simp; with_reducible rfl
  rotate_left
  ·simp only [Act.put, xA, xZ, xS, i64_w, i32_w]; rfl
  refine pure_ (i := 3) (N := some 10) (v := ?_) (a' := ?_) #[true, true, true, true, false, true, false, false, false, false] rfl rfl (any_of HT_.out (by kernel_rfl)) (fun _ _ _ h => h) (Or.inl ⟨by rfl, ?_⟩) ?_ ?_
  rotate_left
  ·intro w'; go_simp; with_reducible rfl
  rotate_left
  ·simp only [Act.put, xA, xZ, xS, i64_w, i32_w]; rfl
  refine take_ (i := 6) (N := some 13) (v := ?_) (a' := ?_) #[true, true, true, true, false, true, true, false, false, false] rfl rfl (take_ofW HT_.out HW_.out (by kernel_rfl)) (fun _ _ _ h => h) (Or.inl ⟨by rfl, ?_⟩) hHeld ?_ ?_
  rotate_left
  ·rintro w' ⟨s0, s1, s2, s3⟩; go_simp; with_reducible rfl
  rotate_left
  ·simp only [Act.put, xA, xZ, xS, i64_w, i32_w]; rfl
  refine one_ (i := 4) (N := some 11) #[true, true, true, true, true, true, true, false, false, false] rfl rfl (one_of HT_.out (by kernel_rfl)) (by decide) (fun K hK => ?_)
  refine goes_ Try.func52 (by kernel_rfl) rfl #[.agg #[.slice A0_0 l0_0.length c0_0, .slice A0_1 l0_1.length c0_1, .int .i64 a0_2, .bool false], .int .i64 (l0_1.length : Int)] (by rfl) rfl rfl (by (try simp only [List.map_toArray, List.map_cons, List.map_nil]); first | done | rfl | (simp only [List.length_drop, List.length_take]; rfl)) ?_
  with_reducible refine (hogsheadref08_done.calls k _ _ l0_0 _ _ l0_1 a0_2 false (l0_1.length : Int) t426 _ ?side1 ?side2 ?side3 ?side4 A8.out).mono ?_
  (case side1 => repeat (first | exact (Kd.V_reads' HO0_0.out).2.2 | (with_reducible refine Kd.C_alloc ?_ _) | (with_reducible refine Kd.C_drewN ?_ _) | (with_reducible refine Kd.C_drew ?_)))
  (case side2 => exact (Kd.V_reads' HO0_0.out).2.1)
  (case side3 => repeat (first | exact (Kd.V_reads' HO0_1.out).2.2 | (with_reducible refine Kd.C_alloc ?_ _) | (with_reducible refine Kd.C_drewN ?_ _) | (with_reducible refine Kd.C_drew ?_)))
  (case side4 => exact (Kd.V_reads' HO0_1.out).2.1)
  rintro e w14 ⟨v427, rfl, ho0, hb⟩
  refine ⟨_, rfl, ?_⟩
  have n0_ := qM (Kd.V_elder' (by (with_reducible repeat first | apply VA | apply VN | apply VD); exact HO0_0.out) (Kd.R_base ho0) hb)
  have n1_ := qM (Kd.V_elder' (by (with_reducible repeat first | apply VA | apply VN | apply VD); exact HO0_1.out) (Kd.R_base ho0) hb)
  have n2_ := qM (Kd.R_lower (Kd.R_newM (M := fun k_ => (w.heap.size ≤ k_)) ho0 (eZ (by repeat (first | (with_reducible first | exact HB.out | apply eA | apply eN | apply eD | refine eU ?_ (by assumption)) | exact HB.out))) (fun k_ h_ => h_)) (eZ (by repeat (first | (with_reducible first | exact HB.out | apply eA | apply eN | apply eD | refine eU ?_ (by assumption)) | exact HB.out))))
  have n3_ := qM (qB (g := g424) (by (with_reducible repeat first | refine qN ?_ _ | refine qD ?_ | refine qA ?_ _); exact B424.out) hb)
  have n4_ := qM (qB (g := g425) (by (with_reducible repeat first | refine qN ?_ _ | refine qD ?_ | refine qA ?_ _); exact B425.out) hb)
  have n5_ := qM (eT (by repeat (first | (with_reducible first | exact HB.out | apply eA | apply eN | apply eD | refine eU ?_ (by assumption)) | exact HB.out)) hb)
  clear HO0_0
  clear HO0_1
  clear B424
  clear B425
  clear HB
  have HO0_0 := n0_
  have HO0_1 := n1_
  have HO428 := n2_
  have B424 := n3_
  have B425 := n4_
  have HB := n5_
  clear n0_ n1_ n2_ n3_ n4_ n5_
  (try clear hb)
  (try clear hb2)
  (try clear hk)
  (try clear hi)
  (try clear ho0)
  obtain ⟨Ao15, co15, eo15⟩ := Kd.R_slice HO428.out
  (first | subst eo15 | (injection eo15 with f1_ f2_ f3_; have f4_ := f1_.symm; have f5_ := f3_.symm; clear f1_ f2_ f3_; subst f4_; subst f5_))
  refine hK.out _ _ ⟨(qC B424.out 0).trans rfl, (qC B424.out 1).trans rfl, (qC B424.out 2).trans rfl, (qC B424.out 3).trans rfl⟩ (fun hHeld => ?_)
  clear hK K
  refine norm_ (a' := ?_) ?_ ?_
  rotate_left
  ·show Act.put _ (some 11) _ = _
   simp only [Act.put, xA, xZ, xS, i64_w, i32_w]
   rfl
  refine pure_ (i := 7) (N := some 14) (v := ?_) (a' := ?_) #[true, true, true, true, true, true, true, true, false, false] rfl rfl (any_of HT_.out (by kernel_rfl)) (fun _ _ _ h => h) (Or.inl ⟨by rfl, ?_⟩) ?_ ?_
  rotate_left
  ·intro w'; go_simp; with_reducible rfl
  rotate_left
  ·simp only [Act.put, xA, xZ, xS, i64_w, i32_w]; rfl
  refine one_ (i := 8) (N := none) #[true, true, true, true, true, true, true, true, true, false] rfl rfl (one_of HT_.out (by kernel_rfl)) (by decide) (fun K hK => ?_)
  have hs16 : w14.cell? ⟨g425, 0, none⟩ = some (.slice none 0 0) := (qC B425.out 0).trans rfl
  have hfs16 := qF B425.out 0
  have hns16_0 := NB424_425.out
  have hms16_0 := NB425_424.out
  have hs17 : w14.cell? ⟨g425, 1, none⟩ = some (.slice none 0 0) := (qC B425.out 1).trans rfl
  have hfs17 := qF B425.out 1
  have hns17_0 := NB424_425.out
  have hms17_0 := NB425_424.out
  have hs18 : w14.cell? ⟨g425, 2, none⟩ = some (.int .i64 0) := (qC B425.out 2).trans rfl
  have hfs18 := qF B425.out 2
  have hns18_0 := NB424_425.out
  have hms18_0 := NB425_424.out
  have hs19 : w14.cell? ⟨g425, 3, none⟩ = some (.bool false) := (qC B425.out 3).trans rfl
  have hfs19 := qF B425.out 3
  have hns19_0 := NB424_425.out
  have hms19_0 := NB425_424.out
  refine skip_ (w1 := ?_) (by rfl) rfl ?_ ?_
  rotate_left
  ·go_simp; rfl
  refine hK.out _ _ ⟨((far4 (g := g425) NB424_425.out).trans (hHeld.1)), ((far4 (g := g425) NB424_425.out).trans (hHeld.2.1)), ((far4 (g := g425) NB424_425.out).trans (hHeld.2.2.1)), ((far4 (g := g425) NB424_425.out).trans (hHeld.2.2.2))⟩ (fun hHeld => ?_)
  clear hK K
  refine pure_ (i := 9) (N := some 3) (v := ?_) (a' := ?_) #[true, true, true, true, true, true, true, true, true, true] rfl rfl (any_of HT_.out (by kernel_rfl)) (fun _ _ _ h => h) (Or.inl ⟨by rfl, ?_⟩) ?_ ?_
  rotate_left
  ·intro w'; go_simp; with_reducible rfl
  rotate_left
  ·simp only [Act.put, xA, xZ, xS, i64_w, i32_w]; rfl
  refine done_ (done_of HT_.out (by kernel_rfl)) ?_
  try go_wp2
  refine bodyPost_ret (results_ct rfl _ _ g425 25 #[.slice Ao15 t426.length co15, .slice none 0 0, .int .i64 a0_2, .bool false] (0, 0) _ rfl (by (with_reducible repeat first | refine qN ?_ _ | refine qD ?_ | refine qA ?_ _); apply puts4; (with_reducible repeat first | refine qN ?_ _ | refine qD ?_ | refine qA ?_ _); exact B425.out) Try.underlying25 rfl (by kernel_rfl)) rfl ?_
  exact ⟨_, _, by first | rfl | (simp [errW_none, errW_some] <;> rfl) | (simp [*, errW_none, errW_some] <;> rfl), Vm (Kd.R_V (by (with_reducible repeat first | apply RA | apply RN | apply RD); exact Kd.R_mono (Kd.R_far (p := ⟨g425, 3, none⟩) (Kd.R_far (p := ⟨g425, 2, none⟩) (Kd.R_far (p := ⟨g425, 1, none⟩) (Kd.R_far (p := ⟨g425, 0, none⟩) (Kd.R_types HO428.out B425.out (by decide)) (fun _ hk => hk.2) (.slice Ao15 t426.length co15)) (fun _ hk => hk.2) (.slice none 0 0)) (fun _ hk => hk.2) (.int .i64 a0_2)) (fun _ hk => hk.2) (.bool false)) (fun _ hk => hk.1.1))) (fun k_ hk => by first | exact ⟨(.inr (hk.1)), hk.2⟩ | exact (.inr (hk))), Kd.V_nil _ _ _ _ _, by repeat (first | (with_reducible first | exact HB.out | apply eA | apply eN | apply eD | refine eS ?_ GE424.out | refine eS ?_ GE425.out) | exact HB.out)⟩

end Go.Proofs.Ytffjbbedjddpmaa.PAll
