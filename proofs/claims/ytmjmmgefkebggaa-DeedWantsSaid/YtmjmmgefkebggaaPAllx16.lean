/- Functions of the program as plain Lean functions, and that each call comes to what they say. Laid by a program of this session (hprint.py); Lean checks it. -/
import Derived.Test.YtmjmmgefkebggaaPAllx0
import Derived.Test.YtmjmmgefkebggaaPAllx15
namespace Go.Proofs.Ytmjmmgefkebggaa.PAll
open Go.RowKit Go.Proofs.YtmjmmgefkebggaaW.PrintWords Go.Proofs.YtmjmmgefkebggaaW.PrintLast Go.Proofs.YtmjmmgefkebggaaW.PrintMore
attribute [local go_sem] max2_int min2_int max_two min_two max_three min_three max_four min_four   -- for this text's walks alone
set_option linter.unusedVariables false
set_option linter.unusedSimpArgs false

/-! ### hogsheadref17_Want: function 13 -/
def hogsheadref17_Want.f (k : Nat) (a0_0 : Int) (a0_1 : Int) (a0_2 : ByteArray) (a0_3 : ByteArray) (a0_4 : Int) (a0_5 : Int) (a0_6 : Int) (a0_7 : Int) (a0_8 : Int) (a0_9 : Int) (a0_10 : Int) (a0_11 : Int) (a0_12 : ByteArray) (a0_13 : Bool) : Option (Int × Int × Int × ByteArray × Int × Int × Int × Int × Int × Int × Int × (List (S69)) × Bool) := if a0_5 = 2 then (some (2, a0_0, a0_4, (⟨#[]⟩ : ByteArray), a0_6, 0, a0_8, 0, 0, 0, 0, ([] : List (S69)), true)) else (if a0_5 = 4 then ((hogsheadref02_Sum.f k a0_3).bind fun t254 => (some (3, a0_0, a0_4, a0_2, a0_6, a0_7, a0_8, t254, 0, 0, 0, ([] : List (S69)), true))) else (if a0_5 = 5 then (some (5, a0_0, a0_4, a0_2, 0, 0, 0, 0, 0, 0, 0, ([] : List (S69)), true)) else (if a0_5 = 7 then (some (4, a0_0, a0_4, a0_2, 0, 0, 0, 0, 0, 0, 0, ([] : List (S69)), true)) else (some (0, 0, 0, (⟨#[]⟩ : ByteArray), 0, 0, 0, 0, 0, 0, 0, ([] : List (S69)), false)))))
theorem hogsheadref17_Want.mono : ∀ a0 a1 a2 a3 a4 a5 a6 a7 a8 a9 a10 a11 a12 a13 k, LeO (hogsheadref17_Want.f k a0 a1 a2 a3 a4 a5 a6 a7 a8 a9 a10 a11 a12 a13) (hogsheadref17_Want.f (k + 1) a0 a1 a2 a3 a4 a5 a6 a7 a8 a9 a10 a11 a12 a13) := by
 intro a0 a1 a2 a3 a4 a5 a6 a7 a8 a9 a10 a11 a12 a13 k
 unfold hogsheadref17_Want.f
 repeat' first
   | (with_reducible exact hogsheadref02_Sum.mono _ _)
   | (with_reducible exact LeO.refl _)
   | (with_reducible exact LeO.none _)
   | (with_reducible refine LeO.ite ?_ ?_)
   | (with_reducible refine LeO.bind ?_ (fun _ => ?_))
   | exact hogsheadref02_Sum.mono _ _
   | exact LeO.none _
   | refine LeO.ite ?_ ?_
   | refine LeO.bind ?_ (fun _ => ?_)
def hogsheadref17_Want.T5 : Bool × List (List Nat × List Nat) := (true, [([], []), ([0], [0]), ([], []), ([2], [2]), ([], []), ([4], [4]), ([], []), ([6], [6]), ([], []), ([8], [8]), ([], []), ([10], [10]), ([], []), ([12], [12]), ([13], [13]), ([1, 3, 5, 7, 9, 11, 14], [1, 3, 5, 7, 9, 11, 14]), ([15, 14, 0, 1, 2, 3, 4, 5, 6, 7, 8, 9, 10, 11, 12, 13, 14, 15], [15]), ([16, 0, 1, 2, 3, 4, 5, 6, 7, 8, 9, 10, 11, 12, 13, 14, 15, 16], [])])
def hogsheadref17_Want.B5 : List Nat := [0, 1, 0, 4, 0, 16, 0, 64, 0, 256, 0, 1024, 0, 4096, 12288, 32767, 65535, 131071]
theorem hogsheadref17_Want.tab5 : rtab .any (opsOf Try.f13 5) = hogsheadref17_Want.T5 := by kernel_rfl
theorem hogsheadref17_Want.bits5 : waitsOk hogsheadref17_Want.T5.2 hogsheadref17_Want.B5 = true := by kernel_rfl
set_option maxHeartbeats 40000000 in
set_option maxRecDepth 100000 in
theorem hogsheadref17_Want.calls (k : Nat) (a0_0 : Int) (a0_1 : Int) (a0_2 : ByteArray) (a0_3 : ByteArray) (a0_4 : Int) (a0_5 : Int) (a0_6 : Int) (a0_7 : Int) (a0_8 : Int) (a0_9 : Int) (a0_10 : Int) (a0_11 : Int) (a0_12 : ByteArray) (a0_13 : Bool) (r1 : Int) (r2 : Int) (r3 : Int) (r4 : ByteArray) (r5 : Int) (r6 : Int) (r7 : Int) (r8 : Int) (r9 : Int) (r10 : Int) (r11 : Int) (r12 : List (S69)) (r13 : Bool) (w : World) (h : hogsheadref17_Want.f k a0_0 a0_1 a0_2 a0_3 a0_4 a0_5 a0_6 a0_7 a0_8 a0_9 a0_10 a0_11 a0_12 a0_13 = some (r1, r2, r3, r4, r5, r6, r7, r8, r9, r10, r11, r12, r13)) :
  Calls Try.prog 13 #[.agg #[.int .i64 a0_0, .int .i64 a0_1, .string a0_2, .string a0_3, .int .i64 a0_4, .int .i64 a0_5, .int .i64 a0_6, .int .i64 a0_7, .int .i64 a0_8, .int .u32 a0_9, .int .i64 a0_10, .int .i64 a0_11, .string a0_12, .bool a0_13]] w fun e w' => ∃ v11_ : Value, e = .returned (.tuple #[.agg #[.int .i64 r1, .int .i64 r2, .int .i64 r3, .string r4, .int .i64 r5, .int .i64 r6, .int .i64 r7, .int .u32 r8, .int .i64 r9, .int .i64 r10, .int .i64 r11, v11_], .bool r13]) ∧ Kd.R k69 69 w' w.heap.size (fun _ => True) v11_ r12 ∧ Below w.heap.size w w' := by
 have hu28 := Try.underlying28
 have hu36 := Try.underlying36
 have HB := qM (Below.refl w.heap.size w)
 have H : (if a0_5 = 2 then (some (2, a0_0, a0_4, (⟨#[]⟩ : ByteArray), a0_6, 0, a0_8, 0, 0, 0, 0, ([] : List (S69)), true)) else (if a0_5 = 4 then ((hogsheadref02_Sum.f k a0_3).bind fun t254 => (some (3, a0_0, a0_4, a0_2, a0_6, a0_7, a0_8, t254, 0, 0, 0, ([] : List (S69)), true))) else (if a0_5 = 5 then (some (5, a0_0, a0_4, a0_2, 0, 0, 0, 0, 0, 0, 0, ([] : List (S69)), true)) else (if a0_5 = 7 then (some (4, a0_0, a0_4, a0_2, 0, 0, 0, 0, 0, 0, 0, ([] : List (S69)), true)) else (some (0, 0, 0, (⟨#[]⟩ : ByteArray), 0, 0, 0, 0, 0, 0, 0, ([] : List (S69)), false)))))) = some (r1, r2, r3, r4, r5, r6, r7, r8, r9, r10, r11, r12, r13) := h
 clear h
 by_cases c2 : a0_5 = 2
 ·rw [if_pos c2] at H
  have c2b0 : (a0_5 == 2) = true := beq_iff_eq.mpr c2
  have c2b1 : (a0_5 != 2) = false := bne_eq_false_iff_eq.mpr c2
  clear c2
  simp only [Option.some.injEq, Prod.mk.injEq] at H
  obtain ⟨rfl, rfl, rfl, rfl, rfl, rfl, rfl, rfl, rfl, rfl, rfl, rfl, rfl⟩ := H
  go_enter Try.func13, Try.ntmps13
  go_wp2_with (first | ((with_reducible refine gate_dst (N := 1) rfl ?_); refine box_event ?hg (N := 1) ?hd (cs := #[.int .i64 a0_0, .int .i64 a0_1, .string a0_2, .string a0_3, .int .i64 a0_4, .int .i64 a0_5, .int .i64 a0_6, .int .i64 a0_7, .int .i64 a0_8, .int .u32 a0_9, .int .i64 a0_10, .int .i64 a0_11, .string a0_12, .bool a0_13]) (t := 28) ?hr ?_; (case hd => rfl); (case hg => rfl); (case hr => first | (go_simp; done) | (go_simp; rfl)); intro g252 hg w3 hbox hb; have n0_ := qM (eT (by repeat (first | (with_reducible first | exact HB.out | apply eA | apply eN | apply eD) | exact HB.out)) hb); have n1_ := qM (hbox); have n2_ := qM ((by rw [hg]; exact (eZ (by repeat (first | (with_reducible first | exact HB.out | apply eA | apply eN | apply eD) | exact HB.out))) : w.heap.size ≤ g252)); have n3_ := n2_; clear HB; have HB := n0_; have B252 := n1_; have GW252 := n2_; have GE252 := n3_; clear n0_ n1_ n2_ n3_; clear hb hbox hg) | ((with_reducible refine gate_dst (N := 2) rfl ?_); refine box_event ?hg (N := 2) ?hd (cs := #[.int .i64 0, .int .i64 0, .int .i64 0, .string (⟨#[]⟩ : ByteArray), .int .i64 0, .int .i64 0, .int .i64 0, .int .u32 0, .int .i64 0, .int .i64 0, .int .i64 0, .slice none 0 0]) (t := 36) ?hr ?_; (case hd => rfl); (case hg => rfl); (case hr => first | (go_simp; done) | (go_simp; rfl)); intro g253 hg w4 hbox hb; have n0_ := qM (qB (g := g252) (by (with_reducible repeat first | refine qN ?_ _ | refine qD ?_ | refine qA ?_ _); exact B252.out) hb); have n1_ := qM (eT (by repeat (first | (with_reducible first | exact HB.out | apply eA | apply eN | apply eD | refine eS ?_ GE252.out) | exact HB.out)) hb); have n2_ := qM (hbox); have n3_ := qM ((by rw [hg]; exact (eZ (by repeat (first | (with_reducible first | exact HB.out | apply eA | apply eN | apply eD | refine eS ?_ GE252.out) | exact HB.out))) : w.heap.size ≤ g253)); have n4_ := n3_; have n5_ := qM ((by rw [hg]; exact Nat.ne_of_lt (qL (g := g252) (by (with_reducible repeat first | refine qN ?_ _ | refine qD ?_ | refine qA ?_ _); exact B252.out)) : g252 ≠ g253)); have n6_ := qM (Ne.symm n5_.out); clear B252; clear HB; have B252 := n0_; have HB := n1_; have B253 := n2_; have GW253 := n3_; have GE253 := n4_; have NB252_253 := n5_; have NB253_252 := n6_; clear n0_ n1_ n2_ n3_ n4_ n5_ n6_; clear hb hbox hg; have hnb5 := NB252_253.out; have hnc5 := NB253_252.out; obtain ⟨z6_0, z6_1, z6_2, z6_3, z6_4, z6_5, z6_6, z6_7, z6_8, z6_9, z6_10, z6_11, z6_12, z6_13, f6_0, f6_1, f6_2, f6_3, f6_4, f6_5, f6_6, f6_7, f6_8, f6_9, f6_10, f6_11, f6_12, f6_13⟩ := cells14 B252.out; obtain ⟨z7_0, z7_1, z7_2, z7_3, z7_4, z7_5, z7_6, z7_7, z7_8, z7_9, z7_10, z7_11, f7_0, f7_1, f7_2, f7_3, f7_4, f7_5, f7_6, f7_7, f7_8, f7_9, f7_10, f7_11⟩ := cells12 B253.out))
  refine bodyPost_ret (results_ct rfl _ _ g253 36 #[.int .i64 2, .int .i64 a0_0, .int .i64 a0_4, .string (⟨#[]⟩ : ByteArray), .int .i64 a0_6, .int .i64 0, .int .i64 a0_8, .int .u32 0, .int .i64 0, .int .i64 0, .int .i64 0, .slice none 0 0] (0, 0) _ rfl (by (with_reducible repeat first | refine qN ?_ _ | refine qD ?_ | refine qA ?_ _); apply puts12; (with_reducible repeat first | refine qN ?_ _ | refine qD ?_ | refine qA ?_ _); exact B253.out) Try.underlying36 rfl (by kernel_rfl)) rfl ?_
  exact ⟨_, by first | rfl | (simp [errW_none, errW_some] <;> rfl) | (simp [*, errW_none, errW_some] <;> rfl), by first | exact Kd.R_nil _ _ _ _ _ | exact Kd.N_nil _ _ _ _ _ | exact Kd.V_nil _ _ _ _ _ | exact Kd.Q_nil _ _ _ _ _ | exact Kd.S_nil _ _ _ _ _, by repeat (first | (with_reducible first | exact HB.out | apply eA | apply eN | apply eD | refine eS ?_ GE252.out | refine eS ?_ GE253.out) | exact HB.out)⟩
 ·rw [if_neg c2] at H
  have c2b0 : (a0_5 == 2) = false := beq_eq_false_iff_ne.mpr c2
  have c2b1 : (a0_5 != 2) = true := bne_iff_ne.mpr c2
  by_cases c8 : a0_5 = 4
  ·rw [if_pos c8] at H
   have c8b0 : (a0_5 == 4) = true := beq_iff_eq.mpr c8
   have c8b1 : (a0_5 != 4) = false := bne_eq_false_iff_eq.mpr c8
   clear c8
   replace H := Option.bind_eq_some_iff.mp H
   obtain ⟨t254, A90, H⟩ := H
   replace H : (some (3, a0_0, a0_4, a0_2, a0_6, a0_7, a0_8, t254, 0, 0, 0, ([] : List (S69)), true)) = some (r1, r2, r3, r4, r5, r6, r7, r8, r9, r10, r11, r12, r13) := H
   have A9 := qM A90
   clear A90
   simp only [Option.some.injEq, Prod.mk.injEq] at H
   obtain ⟨rfl, rfl, rfl, rfl, rfl, rfl, rfl, rfl, rfl, rfl, rfl, rfl, rfl⟩ := H
   go_enter Try.func13, Try.ntmps13
   try go_wp2_with (first | ((with_reducible refine gate_dst (N := 1) rfl ?_); refine box_event ?hg (N := 1) ?hd (cs := #[.int .i64 a0_0, .int .i64 a0_1, .string a0_2, .string a0_3, .int .i64 a0_4, .int .i64 a0_5, .int .i64 a0_6, .int .i64 a0_7, .int .i64 a0_8, .int .u32 a0_9, .int .i64 a0_10, .int .i64 a0_11, .string a0_12, .bool a0_13]) (t := 28) ?hr ?_; (case hd => rfl); (case hg => rfl); (case hr => first | (go_simp; done) | (go_simp; rfl)); intro g252 hg w10 hbox hb; have n0_ := qM (eT (by repeat (first | (with_reducible first | exact HB.out | apply eA | apply eN | apply eD) | exact HB.out)) hb); have n1_ := qM (hbox); have n2_ := qM ((by rw [hg]; exact (eZ (by repeat (first | (with_reducible first | exact HB.out | apply eA | apply eN | apply eD) | exact HB.out))) : w.heap.size ≤ g252)); have n3_ := n2_; clear HB; have HB := n0_; have B252 := n1_; have GW252 := n2_; have GE252 := n3_; clear n0_ n1_ n2_ n3_; clear hb hbox hg) | ((with_reducible refine gate_dst (N := 2) rfl ?_); refine box_event ?hg (N := 2) ?hd (cs := #[.int .i64 0, .int .i64 0, .int .i64 0, .string (⟨#[]⟩ : ByteArray), .int .i64 0, .int .i64 0, .int .i64 0, .int .u32 0, .int .i64 0, .int .i64 0, .int .i64 0, .slice none 0 0]) (t := 36) ?hr ?_; (case hd => rfl); (case hg => rfl); (case hr => first | (go_simp; done) | (go_simp; rfl)); intro g253 hg w11 hbox hb; have n0_ := qM (qB (g := g252) (by (with_reducible repeat first | refine qN ?_ _ | refine qD ?_ | refine qA ?_ _); exact B252.out) hb); have n1_ := qM (eT (by repeat (first | (with_reducible first | exact HB.out | apply eA | apply eN | apply eD | refine eS ?_ GE252.out) | exact HB.out)) hb); have n2_ := qM (hbox); have n3_ := qM ((by rw [hg]; exact (eZ (by repeat (first | (with_reducible first | exact HB.out | apply eA | apply eN | apply eD | refine eS ?_ GE252.out) | exact HB.out))) : w.heap.size ≤ g253)); have n4_ := n3_; have n5_ := qM ((by rw [hg]; exact Nat.ne_of_lt (qL (g := g252) (by (with_reducible repeat first | refine qN ?_ _ | refine qD ?_ | refine qA ?_ _); exact B252.out)) : g252 ≠ g253)); have n6_ := qM (Ne.symm n5_.out); clear B252; clear HB; have B252 := n0_; have HB := n1_; have B253 := n2_; have GW253 := n3_; have GE253 := n4_; have NB252_253 := n5_; have NB253_252 := n6_; clear n0_ n1_ n2_ n3_ n4_ n5_ n6_; clear hb hbox hg; have hnb12 := NB252_253.out; have hnc12 := NB253_252.out; obtain ⟨z13_0, z13_1, z13_2, z13_3, z13_4, z13_5, z13_6, z13_7, z13_8, z13_9, z13_10, z13_11, z13_12, z13_13, f13_0, f13_1, f13_2, f13_3, f13_4, f13_5, f13_6, f13_7, f13_8, f13_9, f13_10, f13_11, f13_12, f13_13⟩ := cells14 B252.out))
   have n0_ := qM (blk_drew B252.out)
   have n1_ := qM (blk_drew B253.out)
   have n2_ := qM (below_drew1 HB.out)
   clear B252
   clear B253
   clear HB
   have B252 := n0_
   have B253 := n1_
   have HB := n2_
   clear n0_ n1_ n2_
   refine start_ (n := 18) (S := fun w' => w'.cell? ⟨g252, 0, none⟩ = some (.int .i64 a0_0) ∧ w'.cell? ⟨g252, 1, none⟩ = some (.int .i64 a0_1) ∧ w'.cell? ⟨g252, 2, none⟩ = some (.string a0_2) ∧ w'.cell? ⟨g252, 3, none⟩ = some (.string a0_3) ∧ w'.cell? ⟨g252, 4, none⟩ = some (.int .i64 a0_4) ∧ w'.cell? ⟨g252, 5, none⟩ = some (.int .i64 a0_5) ∧ w'.cell? ⟨g252, 6, none⟩ = some (.int .i64 a0_6) ∧ w'.cell? ⟨g252, 7, none⟩ = some (.int .i64 a0_7) ∧ w'.cell? ⟨g252, 8, none⟩ = some (.int .i64 a0_8) ∧ w'.cell? ⟨g252, 9, none⟩ = some (.int .u32 a0_9) ∧ w'.cell? ⟨g252, 10, none⟩ = some (.int .i64 a0_10) ∧ w'.cell? ⟨g252, 11, none⟩ = some (.int .i64 a0_11) ∧ w'.cell? ⟨g252, 12, none⟩ = some (.string a0_12) ∧ w'.cell? ⟨g252, 13, none⟩ = some (.bool a0_13)) (ds := []) #[false, false, false, false, false, false, false, false, false, false, false, false, false, false, false, false, false, false] (by kernel_rfl) rfl rfl ⟨(qC B252.out 0).trans rfl, (qC B252.out 1).trans rfl, (qC B252.out 2).trans rfl, (qC B252.out 3).trans rfl, (qC B252.out 4).trans rfl, (qC B252.out 5).trans rfl, (qC B252.out 6).trans rfl, (qC B252.out 7).trans rfl, (qC B252.out 8).trans rfl, (qC B252.out 9).trans rfl, (qC B252.out 10).trans rfl, (qC B252.out 11).trans rfl, (qC B252.out 12).trans rfl, (qC B252.out 13).trans rfl⟩ (fun hHeld => ?_); refine with_tabW hogsheadref17_Want.tab5 hogsheadref17_Want.bits5 (fun HT_ HW_ => ?_)
   generalize w11.drew = w14 at B252 B253 HB hHeld ⊢
   refine pure_ (i := 0) (N := some 19) (v := ?_) (a' := ?_) #[true, false, false, false, false, false, false, false, false, false, false, false, false, false, false, false, false, false] rfl rfl (any_of HT_.out (by kernel_rfl)) (fun _ _ _ h => h) (Or.inl ⟨by rfl, ?_⟩) ?_ ?_
   rotate_left
   ·intro w'; go_simp; with_reducible rfl
   rotate_left
   ·simp only [Act.put, xA, xZ, xS, i64_w, i32_w]; rfl
   refine pure_ (i := 2) (N := some 21) (v := ?_) (a' := ?_) #[true, false, true, false, false, false, false, false, false, false, false, false, false, false, false, false, false, false] rfl rfl (any_of HT_.out (by kernel_rfl)) (fun _ _ _ h => h) (Or.inl ⟨by rfl, ?_⟩) ?_ ?_
   rotate_left
   ·intro w'; go_simp; with_reducible rfl
   rotate_left
   ·simp only [Act.put, xA, xZ, xS, i64_w, i32_w]; rfl
   refine pure_ (i := 4) (N := some 23) (v := ?_) (a' := ?_) #[true, false, true, false, true, false, false, false, false, false, false, false, false, false, false, false, false, false] rfl rfl (any_of HT_.out (by kernel_rfl)) (fun _ _ _ h => h) (Or.inl ⟨by rfl, ?_⟩) ?_ ?_
   rotate_left
   ·intro w'; go_simp; with_reducible rfl
   rotate_left
   ·simp only [Act.put, xA, xZ, xS, i64_w, i32_w]; rfl
   refine pure_ (i := 6) (N := some 25) (v := ?_) (a' := ?_) #[true, false, true, false, true, false, true, false, false, false, false, false, false, false, false, false, false, false] rfl rfl (any_of HT_.out (by kernel_rfl)) (fun _ _ _ h => h) (Or.inl ⟨by rfl, ?_⟩) ?_ ?_
   rotate_left
   ·intro w'; go_simp; with_reducible rfl
   rotate_left
   ·simp only [Act.put, xA, xZ, xS, i64_w, i32_w]; rfl
   refine pure_ (i := 8) (N := some 27) (v := ?_) (a' := ?_) #[true, false, true, false, true, false, true, false, true, false, false, false, false, false, false, false, false, false] rfl rfl (any_of HT_.out (by kernel_rfl)) (fun _ _ _ h => h) (Or.inl ⟨by rfl, ?_⟩) ?_ ?_
   rotate_left
   ·intro w'; go_simp; with_reducible rfl
   rotate_left
   ·simp only [Act.put, xA, xZ, xS, i64_w, i32_w]; rfl
   refine pure_ (i := 10) (N := some 29) (v := ?_) (a' := ?_) #[true, false, true, false, true, false, true, false, true, false, true, false, false, false, false, false, false, false] rfl rfl (any_of HT_.out (by kernel_rfl)) (fun _ _ _ h => h) (Or.inl ⟨by rfl, ?_⟩) ?_ ?_
   rotate_left
   ·intro w'; go_simp; with_reducible rfl
   rotate_left
   ·simp only [Act.put, xA, xZ, xS, i64_w, i32_w]; rfl
   refine pure_ (i := 12) (N := some 31) (v := ?_) (a' := ?_) #[true, false, true, false, true, false, true, false, true, false, true, false, true, false, false, false, false, false] rfl rfl (any_of HT_.out (by kernel_rfl)) (fun _ _ _ h => h) (Or.inl ⟨by rfl, ?_⟩) ?_ ?_
   rotate_left
   ·intro w'; go_simp; with_reducible rfl
   rotate_left
   ·simp only [Act.put, xA, xZ, xS, i64_w, i32_w]; rfl
   refine take_ (i := 1) (N := some 20) (v := ?_) (a' := ?_) #[true, true, true, false, true, false, true, false, true, false, true, false, true, false, false, false, false, false] rfl rfl (take_ofW HT_.out HW_.out (by kernel_rfl)) (fun _ _ _ h => h) (Or.inl ⟨by rfl, ?_⟩) hHeld ?_ ?_
   rotate_left
   ·rintro w' ⟨s0, s1, s2, s3, s4, s5, s6, s7, s8, s9, s10, s11, s12, s13⟩; go_simp; with_reducible rfl
   rotate_left
   ·simp only [Act.put, xA, xZ, xS, i64_w, i32_w]; rfl
   refine take_ (i := 3) (N := some 22) (v := ?_) (a' := ?_) #[true, true, true, true, true, false, true, false, true, false, true, false, true, false, false, false, false, false] rfl rfl (take_ofW HT_.out HW_.out (by kernel_rfl)) (fun _ _ _ h => h) (Or.inl ⟨by rfl, ?_⟩) hHeld ?_ ?_
   rotate_left
   ·rintro w' ⟨s0, s1, s2, s3, s4, s5, s6, s7, s8, s9, s10, s11, s12, s13⟩; go_simp; with_reducible rfl
   rotate_left
   ·simp only [Act.put, xA, xZ, xS, i64_w, i32_w]; rfl
   refine take_ (i := 5) (N := some 24) (v := ?_) (a' := ?_) #[true, true, true, true, true, true, true, false, true, false, true, false, true, false, false, false, false, false] rfl rfl (take_ofW HT_.out HW_.out (by kernel_rfl)) (fun _ _ _ h => h) (Or.inl ⟨by rfl, ?_⟩) hHeld ?_ ?_
   rotate_left
   ·rintro w' ⟨s0, s1, s2, s3, s4, s5, s6, s7, s8, s9, s10, s11, s12, s13⟩; go_simp; with_reducible rfl
   rotate_left
   ·simp only [Act.put, xA, xZ, xS, i64_w, i32_w]; rfl
   refine take_ (i := 7) (N := some 26) (v := ?_) (a' := ?_) #[true, true, true, true, true, true, true, true, true, false, true, false, true, false, false, false, false, false] rfl rfl (take_ofW HT_.out HW_.out (by kernel_rfl)) (fun _ _ _ h => h) (Or.inl ⟨by rfl, ?_⟩) hHeld ?_ ?_
   rotate_left
   ·rintro w' ⟨s0, s1, s2, s3, s4, s5, s6, s7, s8, s9, s10, s11, s12, s13⟩; go_simp; with_reducible rfl
   rotate_left
   ·simp only [Act.put, xA, xZ, xS, i64_w, i32_w]; rfl
   refine take_ (i := 9) (N := some 28) (v := ?_) (a' := ?_) #[true, true, true, true, true, true, true, true, true, true, true, false, true, false, false, false, false, false] rfl rfl (take_ofW HT_.out HW_.out (by kernel_rfl)) (fun _ _ _ h => h) (Or.inl ⟨by rfl, ?_⟩) hHeld ?_ ?_
   rotate_left
   ·rintro w' ⟨s0, s1, s2, s3, s4, s5, s6, s7, s8, s9, s10, s11, s12, s13⟩; go_simp; with_reducible rfl
   rotate_left
   ·simp only [Act.put, xA, xZ, xS, i64_w, i32_w]; rfl
   refine take_ (i := 11) (N := some 30) (v := ?_) (a' := ?_) #[true, true, true, true, true, true, true, true, true, true, true, true, true, false, false, false, false, false] rfl rfl (take_ofW HT_.out HW_.out (by kernel_rfl)) (fun _ _ _ h => h) (Or.inl ⟨by rfl, ?_⟩) hHeld ?_ ?_
   rotate_left
   ·rintro w' ⟨s0, s1, s2, s3, s4, s5, s6, s7, s8, s9, s10, s11, s12, s13⟩; go_simp; with_reducible rfl
   rotate_left
   ·simp only [Act.put, xA, xZ, xS, i64_w, i32_w]; rfl
   refine take_ (i := 13) (N := some 32) (v := ?_) (a' := ?_) #[true, true, true, true, true, true, true, true, true, true, true, true, true, true, false, false, false, false] rfl rfl (take_ofW HT_.out HW_.out (by kernel_rfl)) (fun _ _ _ h => h) (Or.inl ⟨by rfl, ?_⟩) hHeld ?_ ?_
   rotate_left
   ·rintro w' ⟨s0, s1, s2, s3, s4, s5, s6, s7, s8, s9, s10, s11, s12, s13⟩; go_simp; with_reducible rfl
   rotate_left
   ·simp only [Act.put, xA, xZ, xS, i64_w, i32_w]; rfl
   refine one_ (i := 14) (N := some 33) #[true, true, true, true, true, true, true, true, true, true, true, true, true, true, true, false, false, false] rfl rfl (one_of HT_.out (by kernel_rfl)) (by decide) (fun K hK => ?_)
   refine goes_ Try.func26 (by kernel_rfl) rfl #[.string a0_3] (by rfl) rfl rfl (by (try simp only [List.map_toArray, List.map_cons, List.map_nil]); first | done | rfl | (simp only [List.length_drop, List.length_take]; rfl)) ?_
   with_reducible refine (hogsheadref02_Sum.calls k a0_3 t254 _ A9.out).mono ?_
   rintro e w' ⟨rfl, ⟨nd, rfl⟩⟩
   refine ⟨_, rfl, ?_⟩
   refine hK.out _ _ ⟨(qC B252.out 0).trans rfl, (qC B252.out 1).trans rfl, (qC B252.out 2).trans rfl, (qC B252.out 3).trans rfl, (qC B252.out 4).trans rfl, (qC B252.out 5).trans rfl, (qC B252.out 6).trans rfl, (qC B252.out 7).trans rfl, (qC B252.out 8).trans rfl, (qC B252.out 9).trans rfl, (qC B252.out 10).trans rfl, (qC B252.out 11).trans rfl, (qC B252.out 12).trans rfl, (qC B252.out 13).trans rfl⟩ (fun hHeld => ?_)
   clear hK K
   refine norm_ (a' := ?_) ?_ ?_
   rotate_left
   ·show Act.put _ (some 33) _ = _
    simp only [Act.put, xA, xZ, xS, i64_w, i32_w]
    rfl
   refine pure_ (i := 15) (N := some 34) (v := ?_) (a' := ?_) #[true, true, true, true, true, true, true, true, true, true, true, true, true, true, true, true, false, false] rfl rfl (any_of HT_.out (by kernel_rfl)) (fun _ _ _ h => h) (Or.inl ⟨by rfl, ?_⟩) ?_ ?_
   rotate_left
   ·intro w'; go_simp; with_reducible rfl
   rotate_left
   ·simp only [Act.put, xA, xZ, xS, i64_w, i32_w]; rfl
   refine one_ (i := 16) (N := none) #[true, true, true, true, true, true, true, true, true, true, true, true, true, true, true, true, true, false] rfl rfl (one_of HT_.out (by kernel_rfl)) (by decide) (fun K hK => ?_)
   have hs15 : w14.cell? ⟨g253, 0, none⟩ = some (.int .i64 0) := (qC B253.out 0).trans rfl
   have hfs15 := qF B253.out 0
   have hns15_0 := NB252_253.out
   have hms15_0 := NB253_252.out
   have hs16 : w14.cell? ⟨g253, 1, none⟩ = some (.int .i64 0) := (qC B253.out 1).trans rfl
   have hfs16 := qF B253.out 1
   have hns16_0 := NB252_253.out
   have hms16_0 := NB253_252.out
   have hs17 : w14.cell? ⟨g253, 2, none⟩ = some (.int .i64 0) := (qC B253.out 2).trans rfl
   have hfs17 := qF B253.out 2
   have hns17_0 := NB252_253.out
   have hms17_0 := NB253_252.out
   have hs18 : w14.cell? ⟨g253, 3, none⟩ = some (.string (⟨#[]⟩ : ByteArray)) := (qC B253.out 3).trans rfl
   have hfs18 := qF B253.out 3
   have hns18_0 := NB252_253.out
   have hms18_0 := NB253_252.out
   have hs19 : w14.cell? ⟨g253, 4, none⟩ = some (.int .i64 0) := (qC B253.out 4).trans rfl
   have hfs19 := qF B253.out 4
   have hns19_0 := NB252_253.out
   have hms19_0 := NB253_252.out
   have hs20 : w14.cell? ⟨g253, 5, none⟩ = some (.int .i64 0) := (qC B253.out 5).trans rfl
   have hfs20 := qF B253.out 5
   have hns20_0 := NB252_253.out
   have hms20_0 := NB253_252.out
   have hs21 : w14.cell? ⟨g253, 6, none⟩ = some (.int .i64 0) := (qC B253.out 6).trans rfl
   have hfs21 := qF B253.out 6
   have hns21_0 := NB252_253.out
   have hms21_0 := NB253_252.out
   have hs22 : w14.cell? ⟨g253, 7, none⟩ = some (.int .u32 0) := (qC B253.out 7).trans rfl
   have hfs22 := qF B253.out 7
   have hns22_0 := NB252_253.out
   have hms22_0 := NB253_252.out
   have hs23 : w14.cell? ⟨g253, 8, none⟩ = some (.int .i64 0) := (qC B253.out 8).trans rfl
   have hfs23 := qF B253.out 8
   have hns23_0 := NB252_253.out
   have hms23_0 := NB253_252.out
   have hs24 : w14.cell? ⟨g253, 9, none⟩ = some (.int .i64 0) := (qC B253.out 9).trans rfl
   have hfs24 := qF B253.out 9
   have hns24_0 := NB252_253.out
   have hms24_0 := NB253_252.out
   have hs25 : w14.cell? ⟨g253, 10, none⟩ = some (.int .i64 0) := (qC B253.out 10).trans rfl
   have hfs25 := qF B253.out 10
   have hns25_0 := NB252_253.out
   have hms25_0 := NB253_252.out
   have hs26 : w14.cell? ⟨g253, 11, none⟩ = some (.slice none 0 0) := (qC B253.out 11).trans rfl
   have hfs26 := qF B253.out 11
   have hns26_0 := NB252_253.out
   have hms26_0 := NB253_252.out
   refine skip_ (w1 := ?_) (by rfl) rfl ?_ ?_
   rotate_left
   ·go_simp; rfl
   refine hK.out _ _ ⟨((far12 (g := g253) NB252_253.out).trans (hHeld.1)), ((far12 (g := g253) NB252_253.out).trans (hHeld.2.1)), ((far12 (g := g253) NB252_253.out).trans (hHeld.2.2.1)), ((far12 (g := g253) NB252_253.out).trans (hHeld.2.2.2.1)), ((far12 (g := g253) NB252_253.out).trans (hHeld.2.2.2.2.1)), ((far12 (g := g253) NB252_253.out).trans (hHeld.2.2.2.2.2.1)), ((far12 (g := g253) NB252_253.out).trans (hHeld.2.2.2.2.2.2.1)), ((far12 (g := g253) NB252_253.out).trans (hHeld.2.2.2.2.2.2.2.1)), ((far12 (g := g253) NB252_253.out).trans (hHeld.2.2.2.2.2.2.2.2.1)), ((far12 (g := g253) NB252_253.out).trans (hHeld.2.2.2.2.2.2.2.2.2.1)), ((far12 (g := g253) NB252_253.out).trans (hHeld.2.2.2.2.2.2.2.2.2.2.1)), ((far12 (g := g253) NB252_253.out).trans (hHeld.2.2.2.2.2.2.2.2.2.2.2.1)), ((far12 (g := g253) NB252_253.out).trans (hHeld.2.2.2.2.2.2.2.2.2.2.2.2.1)), ((far12 (g := g253) NB252_253.out).trans (hHeld.2.2.2.2.2.2.2.2.2.2.2.2.2))⟩ (fun hHeld => ?_)
   clear hK K
   refine pure_ (i := 17) (N := some 3) (v := ?_) (a' := ?_) #[true, true, true, true, true, true, true, true, true, true, true, true, true, true, true, true, true, true] rfl rfl (any_of HT_.out (by kernel_rfl)) (fun _ _ _ h => h) (Or.inl ⟨by rfl, ?_⟩) ?_ ?_
   rotate_left
   ·intro w'; go_simp; with_reducible rfl
   rotate_left
   ·simp only [Act.put, xA, xZ, xS, i64_w, i32_w]; rfl
   refine done_ (done_of HT_.out (by kernel_rfl)) ?_
   try go_wp2
   refine bodyPost_ret (results_ct rfl _ _ g253 36 #[.int .i64 3, .int .i64 a0_0, .int .i64 a0_4, .string a0_2, .int .i64 a0_6, .int .i64 a0_7, .int .i64 a0_8, .int .u32 t254, .int .i64 0, .int .i64 0, .int .i64 0, .slice none 0 0] (0, 0) _ rfl (by (with_reducible repeat first | refine qN ?_ _ | refine qD ?_ | refine qA ?_ _); apply puts12; (with_reducible repeat first | refine qN ?_ _ | refine qD ?_ | refine qA ?_ _); exact B253.out) Try.underlying36 rfl (by kernel_rfl)) rfl ?_
   exact ⟨_, by first | rfl | (simp [errW_none, errW_some] <;> rfl) | (simp [*, errW_none, errW_some] <;> rfl), by first | exact Kd.R_nil _ _ _ _ _ | exact Kd.N_nil _ _ _ _ _ | exact Kd.V_nil _ _ _ _ _ | exact Kd.Q_nil _ _ _ _ _ | exact Kd.S_nil _ _ _ _ _, by repeat (first | (with_reducible first | exact HB.out | apply eA | apply eN | apply eD | refine eS ?_ GE252.out | refine eS ?_ GE253.out) | exact HB.out)⟩
  ·rw [if_neg c8] at H
   have c8b0 : (a0_5 == 4) = false := beq_eq_false_iff_ne.mpr c8
   have c8b1 : (a0_5 != 4) = true := bne_iff_ne.mpr c8
   by_cases c27 : a0_5 = 5
   ·rw [if_pos c27] at H
    have c27b0 : (a0_5 == 5) = true := beq_iff_eq.mpr c27
    have c27b1 : (a0_5 != 5) = false := bne_eq_false_iff_eq.mpr c27
    clear c27
    simp only [Option.some.injEq, Prod.mk.injEq] at H
    obtain ⟨rfl, rfl, rfl, rfl, rfl, rfl, rfl, rfl, rfl, rfl, rfl, rfl, rfl⟩ := H
    go_enter Try.func13, Try.ntmps13
    go_wp2_with (first | ((with_reducible refine gate_dst (N := 1) rfl ?_); refine box_event ?hg (N := 1) ?hd (cs := #[.int .i64 a0_0, .int .i64 a0_1, .string a0_2, .string a0_3, .int .i64 a0_4, .int .i64 a0_5, .int .i64 a0_6, .int .i64 a0_7, .int .i64 a0_8, .int .u32 a0_9, .int .i64 a0_10, .int .i64 a0_11, .string a0_12, .bool a0_13]) (t := 28) ?hr ?_; (case hd => rfl); (case hg => rfl); (case hr => first | (go_simp; done) | (go_simp; rfl)); intro g252 hg w28 hbox hb; have n0_ := qM (eT (by repeat (first | (with_reducible first | exact HB.out | apply eA | apply eN | apply eD) | exact HB.out)) hb); have n1_ := qM (hbox); have n2_ := qM ((by rw [hg]; exact (eZ (by repeat (first | (with_reducible first | exact HB.out | apply eA | apply eN | apply eD) | exact HB.out))) : w.heap.size ≤ g252)); have n3_ := n2_; clear HB; have HB := n0_; have B252 := n1_; have GW252 := n2_; have GE252 := n3_; clear n0_ n1_ n2_ n3_; clear hb hbox hg) | ((with_reducible refine gate_dst (N := 2) rfl ?_); refine box_event ?hg (N := 2) ?hd (cs := #[.int .i64 0, .int .i64 0, .int .i64 0, .string (⟨#[]⟩ : ByteArray), .int .i64 0, .int .i64 0, .int .i64 0, .int .u32 0, .int .i64 0, .int .i64 0, .int .i64 0, .slice none 0 0]) (t := 36) ?hr ?_; (case hd => rfl); (case hg => rfl); (case hr => first | (go_simp; done) | (go_simp; rfl)); intro g253 hg w29 hbox hb; have n0_ := qM (qB (g := g252) (by (with_reducible repeat first | refine qN ?_ _ | refine qD ?_ | refine qA ?_ _); exact B252.out) hb); have n1_ := qM (eT (by repeat (first | (with_reducible first | exact HB.out | apply eA | apply eN | apply eD | refine eS ?_ GE252.out) | exact HB.out)) hb); have n2_ := qM (hbox); have n3_ := qM ((by rw [hg]; exact (eZ (by repeat (first | (with_reducible first | exact HB.out | apply eA | apply eN | apply eD | refine eS ?_ GE252.out) | exact HB.out))) : w.heap.size ≤ g253)); have n4_ := n3_; have n5_ := qM ((by rw [hg]; exact Nat.ne_of_lt (qL (g := g252) (by (with_reducible repeat first | refine qN ?_ _ | refine qD ?_ | refine qA ?_ _); exact B252.out)) : g252 ≠ g253)); have n6_ := qM (Ne.symm n5_.out); clear B252; clear HB; have B252 := n0_; have HB := n1_; have B253 := n2_; have GW253 := n3_; have GE253 := n4_; have NB252_253 := n5_; have NB253_252 := n6_; clear n0_ n1_ n2_ n3_ n4_ n5_ n6_; clear hb hbox hg; have hnb30 := NB252_253.out; have hnc30 := NB253_252.out; obtain ⟨z31_0, z31_1, z31_2, z31_3, z31_4, z31_5, z31_6, z31_7, z31_8, z31_9, z31_10, z31_11, z31_12, z31_13, f31_0, f31_1, f31_2, f31_3, f31_4, f31_5, f31_6, f31_7, f31_8, f31_9, f31_10, f31_11, f31_12, f31_13⟩ := cells14 B252.out; obtain ⟨z32_0, z32_1, z32_2, z32_3, z32_4, z32_5, z32_6, z32_7, z32_8, z32_9, z32_10, z32_11, f32_0, f32_1, f32_2, f32_3, f32_4, f32_5, f32_6, f32_7, f32_8, f32_9, f32_10, f32_11⟩ := cells12 B253.out))
    refine bodyPost_ret (results_ct rfl _ _ g253 36 #[.int .i64 5, .int .i64 a0_0, .int .i64 a0_4, .string a0_2, .int .i64 0, .int .i64 0, .int .i64 0, .int .u32 0, .int .i64 0, .int .i64 0, .int .i64 0, .slice none 0 0] (0, 0) _ rfl (by (with_reducible repeat first | refine qN ?_ _ | refine qD ?_ | refine qA ?_ _); apply puts12; (with_reducible repeat first | refine qN ?_ _ | refine qD ?_ | refine qA ?_ _); exact B253.out) Try.underlying36 rfl (by kernel_rfl)) rfl ?_
    exact ⟨_, by first | rfl | (simp [errW_none, errW_some] <;> rfl) | (simp [*, errW_none, errW_some] <;> rfl), by first | exact Kd.R_nil _ _ _ _ _ | exact Kd.N_nil _ _ _ _ _ | exact Kd.V_nil _ _ _ _ _ | exact Kd.Q_nil _ _ _ _ _ | exact Kd.S_nil _ _ _ _ _, by repeat (first | (with_reducible first | exact HB.out | apply eA | apply eN | apply eD | refine eS ?_ GE252.out | refine eS ?_ GE253.out) | exact HB.out)⟩
   ·rw [if_neg c27] at H
    have c27b0 : (a0_5 == 5) = false := beq_eq_false_iff_ne.mpr c27
    have c27b1 : (a0_5 != 5) = true := bne_iff_ne.mpr c27
    by_cases c33 : a0_5 = 7
    ·rw [if_pos c33] at H
     have c33b0 : (a0_5 == 7) = true := beq_iff_eq.mpr c33
     have c33b1 : (a0_5 != 7) = false := bne_eq_false_iff_eq.mpr c33
     clear c33
     simp only [Option.some.injEq, Prod.mk.injEq] at H
     obtain ⟨rfl, rfl, rfl, rfl, rfl, rfl, rfl, rfl, rfl, rfl, rfl, rfl, rfl⟩ := H
     go_enter Try.func13, Try.ntmps13
     go_wp2_with (first | ((with_reducible refine gate_dst (N := 1) rfl ?_); refine box_event ?hg (N := 1) ?hd (cs := #[.int .i64 a0_0, .int .i64 a0_1, .string a0_2, .string a0_3, .int .i64 a0_4, .int .i64 a0_5, .int .i64 a0_6, .int .i64 a0_7, .int .i64 a0_8, .int .u32 a0_9, .int .i64 a0_10, .int .i64 a0_11, .string a0_12, .bool a0_13]) (t := 28) ?hr ?_; (case hd => rfl); (case hg => rfl); (case hr => first | (go_simp; done) | (go_simp; rfl)); intro g252 hg w34 hbox hb; have n0_ := qM (eT (by repeat (first | (with_reducible first | exact HB.out | apply eA | apply eN | apply eD) | exact HB.out)) hb); have n1_ := qM (hbox); have n2_ := qM ((by rw [hg]; exact (eZ (by repeat (first | (with_reducible first | exact HB.out | apply eA | apply eN | apply eD) | exact HB.out))) : w.heap.size ≤ g252)); have n3_ := n2_; clear HB; have HB := n0_; have B252 := n1_; have GW252 := n2_; have GE252 := n3_; clear n0_ n1_ n2_ n3_; clear hb hbox hg) | ((with_reducible refine gate_dst (N := 2) rfl ?_); refine box_event ?hg (N := 2) ?hd (cs := #[.int .i64 0, .int .i64 0, .int .i64 0, .string (⟨#[]⟩ : ByteArray), .int .i64 0, .int .i64 0, .int .i64 0, .int .u32 0, .int .i64 0, .int .i64 0, .int .i64 0, .slice none 0 0]) (t := 36) ?hr ?_; (case hd => rfl); (case hg => rfl); (case hr => first | (go_simp; done) | (go_simp; rfl)); intro g253 hg w35 hbox hb; have n0_ := qM (qB (g := g252) (by (with_reducible repeat first | refine qN ?_ _ | refine qD ?_ | refine qA ?_ _); exact B252.out) hb); have n1_ := qM (eT (by repeat (first | (with_reducible first | exact HB.out | apply eA | apply eN | apply eD | refine eS ?_ GE252.out) | exact HB.out)) hb); have n2_ := qM (hbox); have n3_ := qM ((by rw [hg]; exact (eZ (by repeat (first | (with_reducible first | exact HB.out | apply eA | apply eN | apply eD | refine eS ?_ GE252.out) | exact HB.out))) : w.heap.size ≤ g253)); have n4_ := n3_; have n5_ := qM ((by rw [hg]; exact Nat.ne_of_lt (qL (g := g252) (by (with_reducible repeat first | refine qN ?_ _ | refine qD ?_ | refine qA ?_ _); exact B252.out)) : g252 ≠ g253)); have n6_ := qM (Ne.symm n5_.out); clear B252; clear HB; have B252 := n0_; have HB := n1_; have B253 := n2_; have GW253 := n3_; have GE253 := n4_; have NB252_253 := n5_; have NB253_252 := n6_; clear n0_ n1_ n2_ n3_ n4_ n5_ n6_; clear hb hbox hg; have hnb36 := NB252_253.out; have hnc36 := NB253_252.out; obtain ⟨z37_0, z37_1, z37_2, z37_3, z37_4, z37_5, z37_6, z37_7, z37_8, z37_9, z37_10, z37_11, z37_12, z37_13, f37_0, f37_1, f37_2, f37_3, f37_4, f37_5, f37_6, f37_7, f37_8, f37_9, f37_10, f37_11, f37_12, f37_13⟩ := cells14 B252.out; obtain ⟨z38_0, z38_1, z38_2, z38_3, z38_4, z38_5, z38_6, z38_7, z38_8, z38_9, z38_10, z38_11, f38_0, f38_1, f38_2, f38_3, f38_4, f38_5, f38_6, f38_7, f38_8, f38_9, f38_10, f38_11⟩ := cells12 B253.out))
     refine bodyPost_ret (results_ct rfl _ _ g253 36 #[.int .i64 4, .int .i64 a0_0, .int .i64 a0_4, .string a0_2, .int .i64 0, .int .i64 0, .int .i64 0, .int .u32 0, .int .i64 0, .int .i64 0, .int .i64 0, .slice none 0 0] (0, 0) _ rfl (by (with_reducible repeat first | refine qN ?_ _ | refine qD ?_ | refine qA ?_ _); apply puts12; (with_reducible repeat first | refine qN ?_ _ | refine qD ?_ | refine qA ?_ _); exact B253.out) Try.underlying36 rfl (by kernel_rfl)) rfl ?_
     exact ⟨_, by first | rfl | (simp [errW_none, errW_some] <;> rfl) | (simp [*, errW_none, errW_some] <;> rfl), by first | exact Kd.R_nil _ _ _ _ _ | exact Kd.N_nil _ _ _ _ _ | exact Kd.V_nil _ _ _ _ _ | exact Kd.Q_nil _ _ _ _ _ | exact Kd.S_nil _ _ _ _ _, by repeat (first | (with_reducible first | exact HB.out | apply eA | apply eN | apply eD | refine eS ?_ GE252.out | refine eS ?_ GE253.out) | exact HB.out)⟩
    ·rw [if_neg c33] at H
     have c33b0 : (a0_5 == 7) = false := beq_eq_false_iff_ne.mpr c33
     have c33b1 : (a0_5 != 7) = true := bne_iff_ne.mpr c33
     simp only [Option.some.injEq, Prod.mk.injEq] at H
     obtain ⟨rfl, rfl, rfl, rfl, rfl, rfl, rfl, rfl, rfl, rfl, rfl, rfl, rfl⟩ := H
     go_enter Try.func13, Try.ntmps13
     go_wp2_with (first | ((with_reducible refine gate_dst (N := 1) rfl ?_); refine box_event ?hg (N := 1) ?hd (cs := #[.int .i64 a0_0, .int .i64 a0_1, .string a0_2, .string a0_3, .int .i64 a0_4, .int .i64 a0_5, .int .i64 a0_6, .int .i64 a0_7, .int .i64 a0_8, .int .u32 a0_9, .int .i64 a0_10, .int .i64 a0_11, .string a0_12, .bool a0_13]) (t := 28) ?hr ?_; (case hd => rfl); (case hg => rfl); (case hr => first | (go_simp; done) | (go_simp; rfl)); intro g252 hg w39 hbox hb; have n0_ := qM (eT (by repeat (first | (with_reducible first | exact HB.out | apply eA | apply eN | apply eD) | exact HB.out)) hb); have n1_ := qM (hbox); have n2_ := qM ((by rw [hg]; exact (eZ (by repeat (first | (with_reducible first | exact HB.out | apply eA | apply eN | apply eD) | exact HB.out))) : w.heap.size ≤ g252)); have n3_ := n2_; clear HB; have HB := n0_; have B252 := n1_; have GW252 := n2_; have GE252 := n3_; clear n0_ n1_ n2_ n3_; clear hb hbox hg) | ((with_reducible refine gate_dst (N := 2) rfl ?_); refine box_event ?hg (N := 2) ?hd (cs := #[.int .i64 0, .int .i64 0, .int .i64 0, .string (⟨#[]⟩ : ByteArray), .int .i64 0, .int .i64 0, .int .i64 0, .int .u32 0, .int .i64 0, .int .i64 0, .int .i64 0, .slice none 0 0]) (t := 36) ?hr ?_; (case hd => rfl); (case hg => rfl); (case hr => first | (go_simp; done) | (go_simp; rfl)); intro g253 hg w40 hbox hb; have n0_ := qM (qB (g := g252) (by (with_reducible repeat first | refine qN ?_ _ | refine qD ?_ | refine qA ?_ _); exact B252.out) hb); have n1_ := qM (eT (by repeat (first | (with_reducible first | exact HB.out | apply eA | apply eN | apply eD | refine eS ?_ GE252.out) | exact HB.out)) hb); have n2_ := qM (hbox); have n3_ := qM ((by rw [hg]; exact (eZ (by repeat (first | (with_reducible first | exact HB.out | apply eA | apply eN | apply eD | refine eS ?_ GE252.out) | exact HB.out))) : w.heap.size ≤ g253)); have n4_ := n3_; have n5_ := qM ((by rw [hg]; exact Nat.ne_of_lt (qL (g := g252) (by (with_reducible repeat first | refine qN ?_ _ | refine qD ?_ | refine qA ?_ _); exact B252.out)) : g252 ≠ g253)); have n6_ := qM (Ne.symm n5_.out); clear B252; clear HB; have B252 := n0_; have HB := n1_; have B253 := n2_; have GW253 := n3_; have GE253 := n4_; have NB252_253 := n5_; have NB253_252 := n6_; clear n0_ n1_ n2_ n3_ n4_ n5_ n6_; clear hb hbox hg; have hnb41 := NB252_253.out; have hnc41 := NB253_252.out; obtain ⟨z42_0, z42_1, z42_2, z42_3, z42_4, z42_5, z42_6, z42_7, z42_8, z42_9, z42_10, z42_11, z42_12, z42_13, f42_0, f42_1, f42_2, f42_3, f42_4, f42_5, f42_6, f42_7, f42_8, f42_9, f42_10, f42_11, f42_12, f42_13⟩ := cells14 B252.out; obtain ⟨z43_0, z43_1, z43_2, z43_3, z43_4, z43_5, z43_6, z43_7, z43_8, z43_9, z43_10, z43_11, f43_0, f43_1, f43_2, f43_3, f43_4, f43_5, f43_6, f43_7, f43_8, f43_9, f43_10, f43_11⟩ := cells12 B253.out))
     refine bodyPost_ret (results_ct rfl _ _ g253 36 #[.int .i64 0, .int .i64 0, .int .i64 0, .string (⟨#[]⟩ : ByteArray), .int .i64 0, .int .i64 0, .int .i64 0, .int .u32 0, .int .i64 0, .int .i64 0, .int .i64 0, .slice none 0 0] (0, 0) _ rfl (by (with_reducible repeat first | refine qN ?_ _ | refine qD ?_ | refine qA ?_ _); apply puts12; (with_reducible repeat first | refine qN ?_ _ | refine qD ?_ | refine qA ?_ _); exact B253.out) Try.underlying36 rfl (by kernel_rfl)) rfl ?_
     exact ⟨_, by first | rfl | (simp [errW_none, errW_some] <;> rfl) | (simp [*, errW_none, errW_some] <;> rfl), by first | exact Kd.R_nil _ _ _ _ _ | exact Kd.N_nil _ _ _ _ _ | exact Kd.V_nil _ _ _ _ _ | exact Kd.Q_nil _ _ _ _ _ | exact Kd.S_nil _ _ _ _ _, by repeat (first | (with_reducible first | exact HB.out | apply eA | apply eN | apply eD | refine eS ?_ GE252.out | refine eS ?_ GE253.out) | exact HB.out)⟩

end Go.Proofs.Ytmjmmgefkebggaa.PAll
