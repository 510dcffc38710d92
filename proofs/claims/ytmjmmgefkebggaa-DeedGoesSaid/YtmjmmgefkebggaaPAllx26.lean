/- Functions of the program as plain Lean functions, and that each call comes to what they say. Laid by a program of this session (hprint.py); Lean checks it. -/
import Derived.Test.YtmjmmgefkebggaaPAllx0
import Derived.Test.YtmjmmgefkebggaaPAllx7
import Derived.Test.YtmjmmgefkebggaaPAllx9
namespace Go.Proofs.Ytmjmmgefkebggaa.PAll
open Go.RowKit Go.Proofs.YtmjmmgefkebggaaW.PrintWords Go.Proofs.YtmjmmgefkebggaaW.PrintLast Go.Proofs.YtmjmmgefkebggaaW.PrintMore
attribute [local go_sem] max2_int min2_int max_two min_two max_three min_three max_four min_four   -- for this text's walks alone
set_option linter.unusedVariables false
set_option linter.unusedSimpArgs false

/-! ### deed_Got: function 21 -/
def deed_Got.j0 : Nat → ByteArray → Bool → Int → Int → ByteArray → ByteArray → Int → Int → Int → Int → Int → Int → Int → Int → ByteArray → Bool → Option (Int × Int × ByteArray × ByteArray × Int × Int × Int × Int × Int × Int × Int × Int × ByteArray × Bool)
 | 0, _, _, _, _, _, _, _, _, _, _, _, _, _, _, _, _ => none
 | k + 1, x1, x19, x391000, x391001, x391002, x391003, x391004, x391005, x391006, x391007, x391008, x391009, x391010, x391011, x391012, x391013 => if x19 = true then ((deed_call_ends.f x391000 x391001 x391002 x391003 x391004 x391005 x391006 x391007 x391008 x391009 x391010 x391011 x391012 x391013 13).bind fun bt393 => (some (bt393.1, bt393.2.1, bt393.2.2.1, bt393.2.2.2.1, bt393.2.2.2.2.1, bt393.2.2.2.2.2.1, bt393.2.2.2.2.2.2.1, bt393.2.2.2.2.2.2.2.1, bt393.2.2.2.2.2.2.2.2.1, bt393.2.2.2.2.2.2.2.2.2.1, bt393.2.2.2.2.2.2.2.2.2.2.1, bt393.2.2.2.2.2.2.2.2.2.2.2.1, bt393.2.2.2.2.2.2.2.2.2.2.2.2.1, bt393.2.2.2.2.2.2.2.2.2.2.2.2.2))) else ((deed_call_ends.f x391000 x391001 x391002 x391003 x391004 x391005 x391006 x391007 x391008 x391009 x391010 x391011 x1 x391013 0).bind fun bt407 => (some (bt407.1, bt407.2.1, bt407.2.2.1, bt407.2.2.2.1, bt407.2.2.2.2.1, bt407.2.2.2.2.2.1, bt407.2.2.2.2.2.2.1, bt407.2.2.2.2.2.2.2.1, bt407.2.2.2.2.2.2.2.2.1, bt407.2.2.2.2.2.2.2.2.2.1, bt407.2.2.2.2.2.2.2.2.2.2.1, bt407.2.2.2.2.2.2.2.2.2.2.2.1, bt407.2.2.2.2.2.2.2.2.2.2.2.2.1, bt407.2.2.2.2.2.2.2.2.2.2.2.2.2)))
def deed_Got.f (k : Nat) (a0_0 : Int) (a0_1 : Int) (a0_2 : ByteArray) (a0_3 : ByteArray) (a0_4 : Int) (a0_5 : Int) (a0_6 : Int) (a0_7 : Int) (a0_8 : Int) (a0_9 : Int) (a0_10 : Int) (a0_11 : Int) (a0_12 : ByteArray) (a0_13 : Bool) (a1 : ByteArray) (a2 : Int) : Option (Int × Int × ByteArray × ByteArray × Int × Int × Int × Int × Int × Int × Int × Int × ByteArray × Bool) := if a0_5 = 6 then (if a2 = 0 then (if (a1.size : Int) = a0_8 then ((crc_Sum.f a1).bind fun t392 => (deed_Got.j0 k a1 (t392 != a0_9) a0_0 a0_1 a0_2 a0_3 a0_4 a0_5 a0_6 a0_7 a0_8 a0_9 a0_10 a0_11 a0_12 a0_13)) else (deed_Got.j0 k a1 true a0_0 a0_1 a0_2 a0_3 a0_4 a0_5 a0_6 a0_7 a0_8 a0_9 a0_10 a0_11 a0_12 a0_13)) else ((deed_call_ends.f a0_0 a0_1 a0_2 a0_3 a0_4 a0_5 a0_6 a0_7 a0_8 a0_9 a0_10 a0_11 a0_12 a0_13 a2).bind fun bt421 => (some (bt421.1, bt421.2.1, bt421.2.2.1, bt421.2.2.2.1, bt421.2.2.2.2.1, bt421.2.2.2.2.2.1, bt421.2.2.2.2.2.2.1, bt421.2.2.2.2.2.2.2.1, bt421.2.2.2.2.2.2.2.2.1, bt421.2.2.2.2.2.2.2.2.2.1, bt421.2.2.2.2.2.2.2.2.2.2.1, bt421.2.2.2.2.2.2.2.2.2.2.2.1, bt421.2.2.2.2.2.2.2.2.2.2.2.2.1, bt421.2.2.2.2.2.2.2.2.2.2.2.2.2)))) else (some (a0_0, a0_1, a0_2, a0_3, a0_4, a0_5, a0_6, a0_7, a0_8, a0_9, a0_10, a0_11, a0_12, a0_13))
theorem deed_Got.mono_l : ∀ k, (∀ y0 y1 y2 y3 y4 y5 y6 y7 y8 y9 y10 y11 y12 y13 y14 y15, LeO (deed_Got.j0 k y0 y1 y2 y3 y4 y5 y6 y7 y8 y9 y10 y11 y12 y13 y14 y15) (deed_Got.j0 (k + 1) y0 y1 y2 y3 y4 y5 y6 y7 y8 y9 y10 y11 y12 y13 y14 y15))
 | 0 => fun _ _ _ _ _ _ _ _ _ _ _ _ _ _ _ _ r h => by simp [deed_Got.j0] at h
 | k + 1 => by
  have ih0 := deed_Got.mono_l k
  ·intro y0 y1 y2 y3 y4 y5 y6 y7 y8 y9 y10 y11 y12 y13 y14 y15
   unfold deed_Got.j0
   repeat' first
   | (with_reducible exact ih0 _ _ _ _ _ _ _ _ _ _ _ _ _ _ _ _)
   | (with_reducible exact LeO.refl _)
   | (with_reducible exact LeO.none _)
   | (with_reducible refine LeO.ite ?_ ?_)
   | (with_reducible refine LeO.bind ?_ (fun _ => ?_))
   | exact ih0 _ _ _ _ _ _ _ _ _ _ _ _ _ _ _ _
   | exact LeO.none _
   | refine LeO.ite ?_ ?_
   | refine LeO.bind ?_ (fun _ => ?_)
theorem deed_Got.mono : ∀ a0 a1 a2 a3 a4 a5 a6 a7 a8 a9 a10 a11 a12 a13 a14 a15 k, LeO (deed_Got.f k a0 a1 a2 a3 a4 a5 a6 a7 a8 a9 a10 a11 a12 a13 a14 a15) (deed_Got.f (k + 1) a0 a1 a2 a3 a4 a5 a6 a7 a8 a9 a10 a11 a12 a13 a14 a15) := by
 intro a0 a1 a2 a3 a4 a5 a6 a7 a8 a9 a10 a11 a12 a13 a14 a15 k
 have ih0 := deed_Got.mono_l k
 unfold deed_Got.f
 repeat' first
   | (with_reducible exact ih0 _ _ _ _ _ _ _ _ _ _ _ _ _ _ _ _)
   | (with_reducible exact LeO.refl _)
   | (with_reducible exact LeO.none _)
   | (with_reducible refine LeO.ite ?_ ?_)
   | (with_reducible refine LeO.bind ?_ (fun _ => ?_))
   | exact ih0 _ _ _ _ _ _ _ _ _ _ _ _ _ _ _ _
   | exact LeO.none _
   | refine LeO.ite ?_ ?_
   | refine LeO.bind ?_ (fun _ => ?_)
def deed_Got.T5 : Bool × List (List Nat × List Nat) := (true, [([], []), ([0], [0]), ([], []), ([2], [2]), ([1, 3], [1, 3]), ([4], [4]), ([5], [5]), ([6, 5, 5], [5, 6]), ([5], [5]), ([8, 5], [5, 8]), ([7, 9, 5], [5, 7, 9]), ([5, 10], [5, 10]), ([11, 7], [11])])
def deed_Got.B5 : List Nat := [0, 1, 0, 4, 15, 31, 63, 127, 63, 319, 1023, 2047, 4095]
theorem deed_Got.tab5 : rtab .any (opsOf Try.f21 5) = deed_Got.T5 := by kernel_rfl
theorem deed_Got.bits5 : waitsOk deed_Got.T5.2 deed_Got.B5 = true := by kernel_rfl
set_option maxHeartbeats 40000000 in
set_option maxRecDepth 100000 in
theorem deed_Got.calls (k : Nat) (a0_0 : Int) (a0_1 : Int) (a0_2 : ByteArray) (a0_3 : ByteArray) (a0_4 : Int) (a0_5 : Int) (a0_6 : Int) (a0_7 : Int) (a0_8 : Int) (a0_9 : Int) (a0_10 : Int) (a0_11 : Int) (a0_12 : ByteArray) (a0_13 : Bool) (a1 : ByteArray) (a2 : Int) (r1 : Int) (r2 : Int) (r3 : ByteArray) (r4 : ByteArray) (r5 : Int) (r6 : Int) (r7 : Int) (r8 : Int) (r9 : Int) (r10 : Int) (r11 : Int) (r12 : Int) (r13 : ByteArray) (r14 : Bool) (w : World) (h : deed_Got.f k a0_0 a0_1 a0_2 a0_3 a0_4 a0_5 a0_6 a0_7 a0_8 a0_9 a0_10 a0_11 a0_12 a0_13 a1 a2 = some (r1, r2, r3, r4, r5, r6, r7, r8, r9, r10, r11, r12, r13, r14)) :
  Calls Try.prog 21 #[.agg #[.int .i64 a0_0, .int .i64 a0_1, .string a0_2, .string a0_3, .int .i64 a0_4, .int .i64 a0_5, .int .i64 a0_6, .int .i64 a0_7, .int .i64 a0_8, .int .u32 a0_9, .int .i64 a0_10, .int .i64 a0_11, .string a0_12, .bool a0_13], .string a1, .int .i64 a2] w fun e w' => e = .returned (.agg #[.int .i64 r1, .int .i64 r2, .string r3, .string r4, .int .i64 r5, .int .i64 r6, .int .i64 r7, .int .i64 r8, .int .i64 r9, .int .u32 r10, .int .i64 r11, .int .i64 r12, .string r13, .bool r14]) ∧ Below w.heap.size w w' := by
 have hu28 := Try.underlying28
 have hu62 := Try.underlying62
 have HB := qM (Below.refl w.heap.size w)
 have H : (if a0_5 = 6 then (if a2 = 0 then (if (a1.size : Int) = a0_8 then ((crc_Sum.f a1).bind fun t392 => (deed_Got.j0 k a1 (t392 != a0_9) a0_0 a0_1 a0_2 a0_3 a0_4 a0_5 a0_6 a0_7 a0_8 a0_9 a0_10 a0_11 a0_12 a0_13)) else (deed_Got.j0 k a1 true a0_0 a0_1 a0_2 a0_3 a0_4 a0_5 a0_6 a0_7 a0_8 a0_9 a0_10 a0_11 a0_12 a0_13)) else ((deed_call_ends.f a0_0 a0_1 a0_2 a0_3 a0_4 a0_5 a0_6 a0_7 a0_8 a0_9 a0_10 a0_11 a0_12 a0_13 a2).bind fun bt421 => (some (bt421.1, bt421.2.1, bt421.2.2.1, bt421.2.2.2.1, bt421.2.2.2.2.1, bt421.2.2.2.2.2.1, bt421.2.2.2.2.2.2.1, bt421.2.2.2.2.2.2.2.1, bt421.2.2.2.2.2.2.2.2.1, bt421.2.2.2.2.2.2.2.2.2.1, bt421.2.2.2.2.2.2.2.2.2.2.1, bt421.2.2.2.2.2.2.2.2.2.2.2.1, bt421.2.2.2.2.2.2.2.2.2.2.2.2.1, bt421.2.2.2.2.2.2.2.2.2.2.2.2.2)))) else (some (a0_0, a0_1, a0_2, a0_3, a0_4, a0_5, a0_6, a0_7, a0_8, a0_9, a0_10, a0_11, a0_12, a0_13))) = some (r1, r2, r3, r4, r5, r6, r7, r8, r9, r10, r11, r12, r13, r14) := h
 clear h
 by_cases c4 : a0_5 = 6
 ·rw [if_pos c4] at H
  have c4b0 : (a0_5 == 6) = true := beq_iff_eq.mpr c4
  have c4b1 : (a0_5 != 6) = false := bne_eq_false_iff_eq.mpr c4
  clear c4
  by_cases c5 : a2 = 0
  ·rw [if_pos c5] at H
   have c5b0 : (a2 == 0) = true := beq_iff_eq.mpr c5
   have c5b1 : (a2 != 0) = false := bne_eq_false_iff_eq.mpr c5
   clear c5
   have HC6 := qM H
   clear H
   go_enter Try.func21, Try.ntmps21
   go_upto_region 5 with (first | ((with_reducible refine gate_dst (N := 3) rfl ?_); refine box_event ?hg (N := 3) ?hd (cs := #[.int .i64 a0_0, .int .i64 a0_1, .string a0_2, .string a0_3, .int .i64 a0_4, .int .i64 a0_5, .int .i64 a0_6, .int .i64 a0_7, .int .i64 a0_8, .int .u32 a0_9, .int .i64 a0_10, .int .i64 a0_11, .string a0_12, .bool a0_13]) (t := 28) ?hr ?_; (case hd => rfl); (case hg => rfl); (case hr => first | (go_simp; done) | (go_simp; rfl)); intro g390 hg w7 hbox hb; have n0_ := qM (eT (by repeat (first | (with_reducible first | exact HB.out | apply eA | apply eN | apply eD) | exact HB.out)) hb); have n1_ := qM (hbox); have n2_ := qM ((by rw [hg]; exact (eZ (by repeat (first | (with_reducible first | exact HB.out | apply eA | apply eN | apply eD) | exact HB.out))) : w.heap.size ≤ g390)); have n3_ := n2_; clear HB; have HB := n0_; have B390 := n1_; have GW390 := n2_; have GE390 := n3_; clear n0_ n1_ n2_ n3_; clear hb hbox hg) | ((with_reducible refine gate_dst (N := 6) rfl ?_); refine box_event ?hg (N := 6) ?hd (cs := #[.int .i64 0, .int .i64 0, .string (⟨#[]⟩ : ByteArray), .string (⟨#[]⟩ : ByteArray), .int .i64 0, .int .i64 0, .int .i64 0, .int .i64 0, .int .i64 0, .int .u32 0, .int .i64 0, .int .i64 0, .string (⟨#[]⟩ : ByteArray), .bool false]) (t := 28) ?hr ?_; (case hd => rfl); (case hg => rfl); (case hr => first | (go_simp; done) | (go_simp; rfl)); intro g391 hg w8 hbox hb; have n0_ := qM (qB (g := g390) (by (with_reducible repeat first | refine qN ?_ _ | refine qD ?_ | refine qA ?_ _); exact B390.out) hb); have n1_ := qM (eT (by repeat (first | (with_reducible first | exact HB.out | apply eA | apply eN | apply eD | refine eS ?_ GE390.out) | exact HB.out)) hb); have n2_ := qM (hbox); have n3_ := qM ((by rw [hg]; exact (eZ (by repeat (first | (with_reducible first | exact HB.out | apply eA | apply eN | apply eD | refine eS ?_ GE390.out) | exact HB.out))) : w.heap.size ≤ g391)); have n4_ := n3_; have n5_ := qM ((by rw [hg]; exact Nat.ne_of_lt (qL (g := g390) (by (with_reducible repeat first | refine qN ?_ _ | refine qD ?_ | refine qA ?_ _); exact B390.out)) : g390 ≠ g391)); have n6_ := qM (Ne.symm n5_.out); clear B390; clear HB; have B390 := n0_; have HB := n1_; have B391 := n2_; have GW391 := n3_; have GE391 := n4_; have NB390_391 := n5_; have NB391_390 := n6_; clear n0_ n1_ n2_ n3_ n4_ n5_ n6_; clear hb hbox hg; have hnb9 := NB390_391.out; have hnc9 := NB391_390.out; obtain ⟨z10_0, z10_1, z10_2, z10_3, z10_4, z10_5, z10_6, z10_7, z10_8, z10_9, z10_10, z10_11, z10_12, z10_13, f10_0, f10_1, f10_2, f10_3, f10_4, f10_5, f10_6, f10_7, f10_8, f10_9, f10_10, f10_11, f10_12, f10_13⟩ := cells14 B390.out))
   (try simp only [Act.put, List.setIfInBounds_toArray, List.set_cons_zero, List.set_cons_succ])
   go_cut [19] (fun v19 wc => ∃ (kq : Nat) (x19_5 : Bool), v19 = .bool x19_5 ∧ Aside0 (deed_Got.j0 kq a1 x19_5 a0_0 a0_1 a0_2 a0_3 a0_4 a0_5 a0_6 a0_7 a0_8 a0_9 a0_10 a0_11 a0_12 a0_13 = some (r1, r2, r3, r4, r5, r6, r7, r8, r9, r10, r11, r12, r13, r14)) ∧ Aside0 (kq ≤ k) ∧ Aside0 (wc.heap[g390]? = some (.cells #[.int .i64 a0_0, .int .i64 a0_1, .string a0_2, .string a0_3, .int .i64 a0_4, .int .i64 a0_5, .int .i64 a0_6, .int .i64 a0_7, .int .i64 a0_8, .int .u32 a0_9, .int .i64 a0_10, .int .i64 a0_11, .string a0_12, .bool a0_13] 28 (0, 0))) ∧ Aside0 (wc.heap[g391]? = some (.cells #[.int .i64 0, .int .i64 0, .string (⟨#[]⟩ : ByteArray), .string (⟨#[]⟩ : ByteArray), .int .i64 0, .int .i64 0, .int .i64 0, .int .i64 0, .int .i64 0, .int .u32 0, .int .i64 0, .int .i64 0, .string (⟨#[]⟩ : ByteArray), .bool false] 28 (0, 0))) ∧ Aside0 (Below w.heap.size w wc))
   case first =>
    have H := HC6.out
    clear HC6
    by_cases c11 : (a1.size : Int) = a0_8
    ·rw [if_pos c11] at H
     have c11b0 : ((a1.size : Int) == a0_8) = true := beq_iff_eq.mpr c11
     have c11b1 : ((a1.size : Int) != a0_8) = false := bne_eq_false_iff_eq.mpr c11
     clear c11
     (first | rw [c11b0] | (simp only [i64_w, i32_w]; rw [c11b0]) | skip)
     replace H := Option.bind_eq_some_iff.mp H
     obtain ⟨t392, A120, H⟩ := H
     replace H : (deed_Got.j0 k a1 (t392 != a0_9) a0_0 a0_1 a0_2 a0_3 a0_4 a0_5 a0_6 a0_7 a0_8 a0_9 a0_10 a0_11 a0_12 a0_13) = some (r1, r2, r3, r4, r5, r6, r7, r8, r9, r10, r11, r12, r13, r14) := H
     have A12 := qM A120
     clear A120
     have H' := qM H
     clear H
     try go_wp2
     have n0_ := qM (blk_drew B390.out)
     have n1_ := qM (blk_drew B391.out)
     have n2_ := qM (below_drew1 HB.out)
     clear B390
     clear B391
     clear HB
     have B390 := n0_
     have B391 := n1_
     have HB := n2_
     clear n0_ n1_ n2_
     refine start_ (n := 13) (S := fun w' => w'.cell? ⟨g390, 0, none⟩ = some (.int .i64 a0_0) ∧ w'.cell? ⟨g390, 1, none⟩ = some (.int .i64 a0_1) ∧ w'.cell? ⟨g390, 2, none⟩ = some (.string a0_2) ∧ w'.cell? ⟨g390, 3, none⟩ = some (.string a0_3) ∧ w'.cell? ⟨g390, 4, none⟩ = some (.int .i64 a0_4) ∧ w'.cell? ⟨g390, 5, none⟩ = some (.int .i64 a0_5) ∧ w'.cell? ⟨g390, 6, none⟩ = some (.int .i64 a0_6) ∧ w'.cell? ⟨g390, 7, none⟩ = some (.int .i64 a0_7) ∧ w'.cell? ⟨g390, 8, none⟩ = some (.int .i64 a0_8) ∧ w'.cell? ⟨g390, 9, none⟩ = some (.int .u32 a0_9) ∧ w'.cell? ⟨g390, 10, none⟩ = some (.int .i64 a0_10) ∧ w'.cell? ⟨g390, 11, none⟩ = some (.int .i64 a0_11) ∧ w'.cell? ⟨g390, 12, none⟩ = some (.string a0_12) ∧ w'.cell? ⟨g390, 13, none⟩ = some (.bool a0_13)) (ds := []) #[false, false, false, false, false, false, false, false, false, false, false, false, false] (by kernel_rfl) rfl rfl ⟨(qC B390.out 0).trans rfl, (qC B390.out 1).trans rfl, (qC B390.out 2).trans rfl, (qC B390.out 3).trans rfl, (qC B390.out 4).trans rfl, (qC B390.out 5).trans rfl, (qC B390.out 6).trans rfl, (qC B390.out 7).trans rfl, (qC B390.out 8).trans rfl, (qC B390.out 9).trans rfl, (qC B390.out 10).trans rfl, (qC B390.out 11).trans rfl, (qC B390.out 12).trans rfl, (qC B390.out 13).trans rfl⟩ (fun hHeld => ?_); refine with_tabW deed_Got.tab5 deed_Got.bits5 (fun HT_ HW_ => ?_)
     generalize w8.drew = w13 at B390 B391 HB hHeld ⊢
     refine pure_ (i := 0) (N := some 20) (v := ?_) (a' := ?_) #[true, false, false, false, false, false, false, false, false, false, false, false, false] rfl rfl (any_of HT_.out (by kernel_rfl)) (fun _ _ _ h => h) (Or.inl ⟨by rfl, ?_⟩) ?_ ?_
     rotate_left
     ·intro w'; go_simp; with_reducible rfl
     rotate_left
     ·simp only [Act.put, xA, xZ, xS, i64_w, i32_w]; rfl
     refine pure_ (i := 1) (N := some 21) (v := ?_) (a' := ?_) #[true, true, false, false, false, false, false, false, false, false, false, false, false] rfl rfl (any_of HT_.out (by kernel_rfl)) (fun _ _ _ h => h) (Or.inl ⟨by rfl, ?_⟩) ?_ ?_
     rotate_left
     ·intro w'; go_simp; with_reducible rfl
     rotate_left
     ·simp only [Act.put, xA, xZ, xS, i64_w, i32_w]; rfl
     refine pure_ (i := 2) (N := some 22) (v := ?_) (a' := ?_) #[true, true, true, false, false, false, false, false, false, false, false, false, false] rfl rfl (any_of HT_.out (by kernel_rfl)) (fun _ _ _ h => h) (Or.inl ⟨by rfl, ?_⟩) ?_ ?_
     rotate_left
     ·intro w'; go_simp; with_reducible rfl
     rotate_left
     ·simp only [Act.put, xA, xZ, xS, i64_w, i32_w]; rfl
     refine take_ (i := 3) (N := some 23) (v := ?_) (a' := ?_) #[true, true, true, true, false, false, false, false, false, false, false, false, false] rfl rfl (take_ofW HT_.out HW_.out (by kernel_rfl)) (fun _ _ _ h => h) (Or.inl ⟨by rfl, ?_⟩) hHeld ?_ ?_
     rotate_left
     ·rintro w' ⟨s0, s1, s2, s3, s4, s5, s6, s7, s8, s9, s10, s11, s12, s13⟩; go_simp; with_reducible rfl
     rotate_left
     ·simp only [Act.put, xA, xZ, xS, i64_w, i32_w]; rfl
     refine pure_ (i := 4) (N := some 24) (v := ?_) (a' := ?_) #[true, true, true, true, true, false, false, false, false, false, false, false, false] rfl rfl (any_of HT_.out (by kernel_rfl)) (fun _ _ _ h => h) (Or.inl ⟨by rfl, ?_⟩) ?_ ?_
     rotate_left
     ·intro w'; go_simp; with_reducible rfl
     rotate_left
     ·simp only [Act.put, xA, xZ, xS, i64_w, i32_w]; rfl
     refine pure_ (i := 5) (N := some 25) (v := ?_) (a' := ?_) #[true, true, true, true, true, true, false, false, false, false, false, false, false] rfl rfl (any_of HT_.out (by kernel_rfl)) (fun _ _ _ h => h) (Or.inl ⟨by rfl, ?_⟩) ?_ ?_
     rotate_left
     ·intro w'; go_simp; with_reducible rfl
     rotate_left
     ·simp only [Act.put, xA, xZ, xS, i64_w, i32_w]; rfl
     refine pure_ (i := 6) (N := some 26) (v := ?_) (a' := ?_) #[true, true, true, true, true, true, true, false, false, false, false, false, false] rfl rfl (any_of HT_.out (by kernel_rfl)) (fun _ _ _ h => h) (Or.inl ⟨by rfl, ?_⟩) ?_ ?_
     rotate_left
     ·intro w'; go_simp; with_reducible rfl
     rotate_left
     ·simp only [Act.put, xA, xZ, xS, i64_w, i32_w]; rfl
     refine pure_ (i := 8) (N := some 28) (v := ?_) (a' := ?_) #[true, true, true, true, true, true, true, false, true, false, false, false, false] rfl rfl (any_of HT_.out (by kernel_rfl)) (fun _ _ _ h => h) (Or.inl ⟨by rfl, ?_⟩) ?_ ?_
     rotate_left
     ·intro w'; go_simp; with_reducible rfl
     rotate_left
     ·simp only [Act.put, xA, xZ, xS, i64_w, i32_w]; rfl
     refine take_ (i := 9) (N := some 29) (v := ?_) (a' := ?_) #[true, true, true, true, true, true, true, false, true, true, false, false, false] rfl rfl (take_ofW HT_.out HW_.out (by kernel_rfl)) (fun _ _ _ h => h) (Or.inl ⟨by rfl, ?_⟩) hHeld ?_ ?_
     rotate_left
     ·rintro w' ⟨s0, s1, s2, s3, s4, s5, s6, s7, s8, s9, s10, s11, s12, s13⟩; go_simp; with_reducible rfl
     rotate_left
     ·simp only [Act.put, xA, xZ, xS, i64_w, i32_w]; rfl
     refine one_ (i := 7) (N := some 27) #[true, true, true, true, true, true, true, true, true, true, false, false, false] rfl rfl (one_of HT_.out (by kernel_rfl)) (by decide) (fun K hK => ?_)
     refine goes_ Try.func27 (by kernel_rfl) rfl #[.string a1] (by rfl) rfl rfl (by (try simp only [List.map_toArray, List.map_cons, List.map_nil]); first | done | rfl | (simp only [List.length_drop, List.length_take]; rfl)) ?_
     with_reducible refine (crc_Sum.calls a1 t392 _ A12.out).mono ?_
     rintro e w14 ⟨rfl, hb⟩
     refine ⟨_, rfl, ?_⟩
     have n0_ := qM (qB (g := g390) (by (with_reducible repeat first | refine qN ?_ _ | refine qD ?_ | refine qA ?_ _); exact B390.out) hb)
     have n1_ := qM (qB (g := g391) (by (with_reducible repeat first | refine qN ?_ _ | refine qD ?_ | refine qA ?_ _); exact B391.out) hb)
     have n2_ := qM (eT (by repeat (first | (with_reducible first | exact HB.out | apply eA | apply eN | apply eD | refine eS ?_ GE390.out | refine eS ?_ GE391.out) | exact HB.out)) hb)
     clear B390
     clear B391
     clear HB
     have B390 := n0_
     have B391 := n1_
     have HB := n2_
     clear n0_ n1_ n2_
     (try clear hb)
     (try clear hb2)
     (try clear hk)
     (try clear hi)
     refine hK.out _ _ ⟨(qC B390.out 0).trans rfl, (qC B390.out 1).trans rfl, (qC B390.out 2).trans rfl, (qC B390.out 3).trans rfl, (qC B390.out 4).trans rfl, (qC B390.out 5).trans rfl, (qC B390.out 6).trans rfl, (qC B390.out 7).trans rfl, (qC B390.out 8).trans rfl, (qC B390.out 9).trans rfl, (qC B390.out 10).trans rfl, (qC B390.out 11).trans rfl, (qC B390.out 12).trans rfl, (qC B390.out 13).trans rfl⟩ (fun hHeld => ?_)
     clear hK K
     refine norm_ (a' := ?_) ?_ ?_
     rotate_left
     ·show Act.put _ (some 27) _ = _
      simp only [Act.put, xA, xZ, xS, i64_w, i32_w]
      rfl
     refine pure_ (i := 10) (N := some 30) (v := ?_) (a' := ?_) #[true, true, true, true, true, true, true, true, true, true, true, false, false] rfl rfl (any_of HT_.out (by kernel_rfl)) (fun _ _ _ h => h) (Or.inl ⟨by rfl, ?_⟩) ?_ ?_
     rotate_left
     ·intro w'; go_simp; with_reducible rfl
     rotate_left
     ·simp only [Act.put, xA, xZ, xS, i64_w, i32_w]; rfl
     refine pure_ (i := 11) (N := some 31) (v := ?_) (a' := ?_) #[true, true, true, true, true, true, true, true, true, true, true, true, false] rfl rfl (any_of HT_.out (by kernel_rfl)) (fun _ _ _ h => h) (Or.inl ⟨by rfl, ?_⟩) ?_ ?_
     rotate_left
     ·intro w'; go_simp; with_reducible rfl
     rotate_left
     ·simp only [Act.put, xA, xZ, xS, i64_w, i32_w]; rfl
     refine pure_ (i := 12) (N := some 19) (v := ?_) (a' := ?_) #[true, true, true, true, true, true, true, true, true, true, true, true, true] rfl rfl (any_of HT_.out (by kernel_rfl)) (fun _ _ _ h => h) (Or.inl ⟨by rfl, ?_⟩) ?_ ?_
     rotate_left
     ·intro w'; go_simp; with_reducible rfl
     rotate_left
     ·simp only [Act.put, xA, xZ, xS, i64_w, i32_w]; rfl
     refine done_ (done_of HT_.out (by kernel_rfl)) ?_
     try go_wp2
     go_meet
     case rel => exact ⟨_, ((t392 != a0_9)), (by first | rfl | (simp; done) | (simp [*]; done)), H', ⟨by first | omega | exact Nat.le_refl _⟩, ⟨by (with_reducible repeat first | refine qN ?_ _ | refine qD ?_ | refine qA ?_ _); exact B390.out⟩, ⟨by (with_reducible repeat first | refine qN ?_ _ | refine qD ?_ | refine qA ?_ _); exact B391.out⟩, ⟨by repeat (first | (with_reducible first | exact HB.out | apply eA | apply eN | apply eD | refine eS ?_ GE390.out | refine eS ?_ GE391.out) | exact HB.out)⟩⟩
    ·rw [if_neg c11] at H
     have c11b0 : ((a1.size : Int) == a0_8) = false := beq_eq_false_iff_ne.mpr c11
     have c11b1 : ((a1.size : Int) != a0_8) = true := bne_iff_ne.mpr c11
     (first | rw [c11b0] | (simp only [i64_w, i32_w]; rw [c11b0]) | skip)
     have H' := qM H
     clear H
     try go_wp2
     have n0_ := qM (blk_drew B390.out)
     have n1_ := qM (blk_drew B391.out)
     have n2_ := qM (below_drew1 HB.out)
     clear B390
     clear B391
     clear HB
     have B390 := n0_
     have B391 := n1_
     have HB := n2_
     clear n0_ n1_ n2_
     refine start_ (n := 13) (S := fun w' => w'.cell? ⟨g390, 0, none⟩ = some (.int .i64 a0_0) ∧ w'.cell? ⟨g390, 1, none⟩ = some (.int .i64 a0_1) ∧ w'.cell? ⟨g390, 2, none⟩ = some (.string a0_2) ∧ w'.cell? ⟨g390, 3, none⟩ = some (.string a0_3) ∧ w'.cell? ⟨g390, 4, none⟩ = some (.int .i64 a0_4) ∧ w'.cell? ⟨g390, 5, none⟩ = some (.int .i64 a0_5) ∧ w'.cell? ⟨g390, 6, none⟩ = some (.int .i64 a0_6) ∧ w'.cell? ⟨g390, 7, none⟩ = some (.int .i64 a0_7) ∧ w'.cell? ⟨g390, 8, none⟩ = some (.int .i64 a0_8) ∧ w'.cell? ⟨g390, 9, none⟩ = some (.int .u32 a0_9) ∧ w'.cell? ⟨g390, 10, none⟩ = some (.int .i64 a0_10) ∧ w'.cell? ⟨g390, 11, none⟩ = some (.int .i64 a0_11) ∧ w'.cell? ⟨g390, 12, none⟩ = some (.string a0_12) ∧ w'.cell? ⟨g390, 13, none⟩ = some (.bool a0_13)) (ds := []) #[false, false, false, false, false, false, false, false, false, false, false, false, false] (by kernel_rfl) rfl rfl ⟨(qC B390.out 0).trans rfl, (qC B390.out 1).trans rfl, (qC B390.out 2).trans rfl, (qC B390.out 3).trans rfl, (qC B390.out 4).trans rfl, (qC B390.out 5).trans rfl, (qC B390.out 6).trans rfl, (qC B390.out 7).trans rfl, (qC B390.out 8).trans rfl, (qC B390.out 9).trans rfl, (qC B390.out 10).trans rfl, (qC B390.out 11).trans rfl, (qC B390.out 12).trans rfl, (qC B390.out 13).trans rfl⟩ (fun hHeld => ?_); refine with_tabW deed_Got.tab5 deed_Got.bits5 (fun HT_ HW_ => ?_)
     generalize w8.drew = w15 at B390 B391 HB hHeld ⊢
     refine pure_ (i := 0) (N := some 20) (v := ?_) (a' := ?_) #[true, false, false, false, false, false, false, false, false, false, false, false, false] rfl rfl (any_of HT_.out (by kernel_rfl)) (fun _ _ _ h => h) (Or.inl ⟨by rfl, ?_⟩) ?_ ?_
     rotate_left
     ·intro w'; go_simp; with_reducible rfl
     rotate_left
     ·simp only [Act.put, xA, xZ, xS, i64_w, i32_w]; rfl
     refine pure_ (i := 1) (N := some 21) (v := ?_) (a' := ?_) #[true, true, false, false, false, false, false, false, false, false, false, false, false] rfl rfl (any_of HT_.out (by kernel_rfl)) (fun _ _ _ h => h) (Or.inl ⟨by rfl, ?_⟩) ?_ ?_
     rotate_left
     ·intro w'; go_simp; with_reducible rfl
     rotate_left
     ·simp only [Act.put, xA, xZ, xS, i64_w, i32_w]; rfl
     refine pure_ (i := 2) (N := some 22) (v := ?_) (a' := ?_) #[true, true, true, false, false, false, false, false, false, false, false, false, false] rfl rfl (any_of HT_.out (by kernel_rfl)) (fun _ _ _ h => h) (Or.inl ⟨by rfl, ?_⟩) ?_ ?_
     rotate_left
     ·intro w'; go_simp; with_reducible rfl
     rotate_left
     ·simp only [Act.put, xA, xZ, xS, i64_w, i32_w]; rfl
     refine take_ (i := 3) (N := some 23) (v := ?_) (a' := ?_) #[true, true, true, true, false, false, false, false, false, false, false, false, false] rfl rfl (take_ofW HT_.out HW_.out (by kernel_rfl)) (fun _ _ _ h => h) (Or.inl ⟨by rfl, ?_⟩) hHeld ?_ ?_
     rotate_left
     ·rintro w' ⟨s0, s1, s2, s3, s4, s5, s6, s7, s8, s9, s10, s11, s12, s13⟩; go_simp; with_reducible rfl
     rotate_left
     ·simp only [Act.put, xA, xZ, xS, i64_w, i32_w]; rfl
     refine pure_ (i := 4) (N := some 24) (v := ?_) (a' := ?_) #[true, true, true, true, true, false, false, false, false, false, false, false, false] rfl rfl (any_of HT_.out (by kernel_rfl)) (fun _ _ _ h => h) (Or.inl ⟨by rfl, ?_⟩) ?_ ?_
     rotate_left
     ·intro w'; go_simp; with_reducible rfl
     rotate_left
     ·simp only [Act.put, xA, xZ, xS, i64_w, i32_w]; rfl
     refine pure_ (i := 5) (N := some 25) (v := ?_) (a' := ?_) #[true, true, true, true, true, true, false, false, false, false, false, false, false] rfl rfl (any_of HT_.out (by kernel_rfl)) (fun _ _ _ h => h) (Or.inl ⟨by rfl, ?_⟩) ?_ ?_
     rotate_left
     ·intro w'; go_simp; with_reducible rfl
     rotate_left
     ·simp only [Act.put, xA, xZ, xS, i64_w, i32_w]; rfl
     refine pure_ (i := 6) (N := some 26) (v := undef) (a' := ?_) #[true, true, true, true, true, true, true, false, false, false, false, false, false] rfl rfl (any_of HT_.out (by kernel_rfl)) (fun _ _ _ h => h) (Or.inr ⟨by rfl, rfl⟩) ?_ ?_
     rotate_left
     ·simp only [Act.put, xA, xZ, xS, i64_w, i32_w]; rfl
     refine pure_ (i := 7) (N := some 27) (v := undef) (a' := ?_) #[true, true, true, true, true, true, true, true, false, false, false, false, false] rfl rfl (any_of HT_.out (by kernel_rfl)) (fun _ _ _ h => h) (Or.inr ⟨by rfl, rfl⟩) ?_ ?_
     rotate_left
     ·simp only [Act.put, xA, xZ, xS, i64_w, i32_w]; rfl
     refine pure_ (i := 8) (N := some 28) (v := undef) (a' := ?_) #[true, true, true, true, true, true, true, true, true, false, false, false, false] rfl rfl (any_of HT_.out (by kernel_rfl)) (fun _ _ _ h => h) (Or.inr ⟨by rfl, rfl⟩) ?_ ?_
     rotate_left
     ·simp only [Act.put, xA, xZ, xS, i64_w, i32_w]; rfl
     refine pure_ (i := 9) (N := some 29) (v := undef) (a' := ?_) #[true, true, true, true, true, true, true, true, true, true, false, false, false] rfl rfl (any_of HT_.out (by kernel_rfl)) (fun _ _ _ h => h) (Or.inr ⟨by rfl, rfl⟩) ?_ ?_
     rotate_left
     ·simp only [Act.put, xA, xZ, xS, i64_w, i32_w]; rfl
     refine pure_ (i := 10) (N := some 30) (v := undef) (a' := ?_) #[true, true, true, true, true, true, true, true, true, true, true, false, false] rfl rfl (any_of HT_.out (by kernel_rfl)) (fun _ _ _ h => h) (Or.inr ⟨by rfl, rfl⟩) ?_ ?_
     rotate_left
     ·simp only [Act.put, xA, xZ, xS, i64_w, i32_w]; rfl
     refine pure_ (i := 11) (N := some 31) (v := ?_) (a' := ?_) #[true, true, true, true, true, true, true, true, true, true, true, true, false] rfl rfl (any_of HT_.out (by kernel_rfl)) (fun _ _ _ h => h) (Or.inl ⟨by rfl, ?_⟩) ?_ ?_
     rotate_left
     ·intro w'; go_simp; with_reducible rfl
     rotate_left
     ·simp only [Act.put, xA, xZ, xS, i64_w, i32_w]; rfl
     refine pure_ (i := 12) (N := some 19) (v := ?_) (a' := ?_) #[true, true, true, true, true, true, true, true, true, true, true, true, true] rfl rfl (any_of HT_.out (by kernel_rfl)) (fun _ _ _ h => h) (Or.inl ⟨by rfl, ?_⟩) ?_ ?_
     rotate_left
     ·intro w'; go_simp; with_reducible rfl
     rotate_left
     ·simp only [Act.put, xA, xZ, xS, i64_w, i32_w]; rfl
     refine done_ (done_of HT_.out (by kernel_rfl)) ?_
     try go_wp2
     go_meet
     case rel => exact ⟨_, (true), (by first | rfl | (simp; done) | (simp [*]; done)), H', ⟨by first | omega | exact Nat.le_refl _⟩, ⟨by (with_reducible repeat first | refine qN ?_ _ | refine qD ?_ | refine qA ?_ _); exact B390.out⟩, ⟨by (with_reducible repeat first | refine qN ?_ _ | refine qD ?_ | refine qA ?_ _); exact B391.out⟩, ⟨by repeat (first | (with_reducible first | exact HB.out | apply eA | apply eN | apply eD | refine eS ?_ GE390.out | refine eS ?_ GE391.out) | exact HB.out)⟩⟩
   case rest =>
    clear HC6
    try clear c1
    try clear c2
    try clear p2
    try clear c4
    try clear c4b0
    try clear c4b1
    try clear c5
    try clear c5b0
    try clear c5b1
    try clear c9
    try clear c11
    try clear c11b0
    try clear c11b1
    try clear z10_0
    try clear z10_1
    try clear z10_10
    try clear z10_11
    try clear z10_12
    try clear z10_13
    try clear z10_2
    try clear z10_3
    try clear z10_4
    try clear z10_5
    try clear z10_6
    try clear z10_7
    try clear z10_8
    try clear z10_9
    try clear f10_0
    try clear f10_1
    try clear f10_10
    try clear f10_11
    try clear f10_12
    try clear f10_13
    try clear f10_2
    try clear f10_3
    try clear f10_4
    try clear f10_5
    try clear f10_6
    try clear f10_7
    try clear f10_8
    try clear f10_9
    obtain ⟨kq, x19_5, rfl, HA, HJ5, B390, B391, HB⟩ := hcut
    cases kq with
    | zero => exact absurd HA.out (by simp [deed_Got.j0])
    | succ kj5 =>
     have H := HA.out
     clear HA
     simp only [deed_Got.j0] at H
     by_cases c16 : x19_5 = true
     ·subst c16
      have H1 : ((deed_call_ends.f a0_0 a0_1 a0_2 a0_3 a0_4 a0_5 a0_6 a0_7 a0_8 a0_9 a0_10 a0_11 a0_12 a0_13 13).bind fun bt393 => (some (bt393.1, bt393.2.1, bt393.2.2.1, bt393.2.2.2.1, bt393.2.2.2.2.1, bt393.2.2.2.2.2.1, bt393.2.2.2.2.2.2.1, bt393.2.2.2.2.2.2.2.1, bt393.2.2.2.2.2.2.2.2.1, bt393.2.2.2.2.2.2.2.2.2.1, bt393.2.2.2.2.2.2.2.2.2.2.1, bt393.2.2.2.2.2.2.2.2.2.2.2.1, bt393.2.2.2.2.2.2.2.2.2.2.2.2.1, bt393.2.2.2.2.2.2.2.2.2.2.2.2.2))) = some (r1, r2, r3, r4, r5, r6, r7, r8, r9, r10, r11, r12, r13, r14) := by rw [if_pos rfl] at H; exact H
      clear H
      have H := H1
      clear H1
      replace H := Option.bind_eq_some_iff.mp H
      obtain ⟨⟨t393, t394, t395, t396, t397, t398, t399, t400, t401, t402, t403, t404, t405, t406⟩, A170, H⟩ := H
      replace H : (some (t393, t394, t395, t396, t397, t398, t399, t400, t401, t402, t403, t404, t405, t406)) = some (r1, r2, r3, r4, r5, r6, r7, r8, r9, r10, r11, r12, r13, r14) := H
      have A17 := qM A170
      clear A170
      simp only [Option.some.injEq, Prod.mk.injEq] at H
      obtain ⟨rfl, rfl, rfl, rfl, rfl, rfl, rfl, rfl, rfl, rfl, rfl, rfl, rfl, rfl⟩ := H
      have hnb18 := NB390_391.out
      have hnc18 := NB391_390.out
      obtain ⟨z19_0, z19_1, z19_2, z19_3, z19_4, z19_5, z19_6, z19_7, z19_8, z19_9, z19_10, z19_11, z19_12, z19_13, f19_0, f19_1, f19_2, f19_3, f19_4, f19_5, f19_6, f19_7, f19_8, f19_9, f19_10, f19_11, f19_12, f19_13⟩ := cells14 B390.out
      go_wp2_with (first | ((with_reducible refine gate_callee (f := 29) rfl ?_); refine goesL_ (some 34) rfl rfl Try.func29 (by kernel_rfl) rfl #[.agg #[.int .i64 a0_0, .int .i64 a0_1, .string a0_2, .string a0_3, .int .i64 a0_4, .int .i64 a0_5, .int .i64 a0_6, .int .i64 a0_7, .int .i64 a0_8, .int .u32 a0_9, .int .i64 a0_10, .int .i64 a0_11, .string a0_12, .bool a0_13], .int .i64 13] rfl (by (try simp only [List.map_toArray, List.map_cons, List.map_nil]); first | done | rfl | (simp only [List.length_drop, List.length_take]; rfl)) ?_; (with_reducible refine (deed_call_ends.calls a0_0 a0_1 a0_2 a0_3 a0_4 a0_5 a0_6 a0_7 a0_8 a0_9 a0_10 a0_11 a0_12 a0_13 13 t393 t394 t395 t396 t397 t398 t399 t400 t401 t402 t403 t404 t405 t406 _ A17.out).mono ?_); rintro e w20 ⟨rfl, hb⟩; refine ⟨_, rfl, ?_⟩; have n0_ := qM (qB (g := g390) (by (with_reducible repeat first | refine qN ?_ _ | refine qD ?_ | refine qA ?_ _); exact B390.out) hb); have n1_ := qM (qB (g := g391) (by (with_reducible repeat first | refine qN ?_ _ | refine qD ?_ | refine qA ?_ _); exact B391.out) hb); have n2_ := qM (eT (by repeat (first | (with_reducible first | exact HB.out | apply eA | apply eN | apply eD | refine eS ?_ GE390.out | refine eS ?_ GE391.out) | exact HB.out)) hb); clear B390; clear B391; clear HB; have B390 := n0_; have B391 := n1_; have HB := n2_; clear n0_ n1_ n2_; (try clear hb); (try clear hb2); (try clear hk); (try clear hi); obtain ⟨z21_0, z21_1, z21_2, z21_3, z21_4, z21_5, z21_6, z21_7, z21_8, z21_9, z21_10, z21_11, z21_12, z21_13, f21_0, f21_1, f21_2, f21_3, f21_4, f21_5, f21_6, f21_7, f21_8, f21_9, f21_10, f21_11, f21_12, f21_13⟩ := cells14 B391.out))
      refine bodyPost_ret (results_cell_row rfl _ _ g391 28 #[.int .i64 t393, .int .i64 t394, .string t395, .string t396, .int .i64 t397, .int .i64 t398, .int .i64 t399, .int .i64 t400, .int .i64 t401, .int .u32 t402, .int .i64 t403, .int .i64 t404, .string t405, .bool t406] (0, 0) _ rfl (by (with_reducible repeat first | refine qN ?_ _ | refine qD ?_ | refine qA ?_ _); apply puts14; (with_reducible repeat first | refine qN ?_ _ | refine qD ?_ | refine qA ?_ _); exact B391.out) Try.underlying28 rfl (by kernel_rfl)) rfl ?_
      exact ⟨by first | rfl | (simp [errW_none, errW_some] <;> rfl) | (simp [*, errW_none, errW_some] <;> rfl), by repeat (first | (with_reducible first | exact HB.out | apply eA | apply eN | apply eD | refine eS ?_ GE390.out | refine eS ?_ GE391.out) | exact HB.out)⟩
     ·replace c16 := Bool.eq_false_iff.mpr c16
      subst c16
      have H1 : ((deed_call_ends.f a0_0 a0_1 a0_2 a0_3 a0_4 a0_5 a0_6 a0_7 a0_8 a0_9 a0_10 a0_11 a1 a0_13 0).bind fun bt407 => (some (bt407.1, bt407.2.1, bt407.2.2.1, bt407.2.2.2.1, bt407.2.2.2.2.1, bt407.2.2.2.2.2.1, bt407.2.2.2.2.2.2.1, bt407.2.2.2.2.2.2.2.1, bt407.2.2.2.2.2.2.2.2.1, bt407.2.2.2.2.2.2.2.2.2.1, bt407.2.2.2.2.2.2.2.2.2.2.1, bt407.2.2.2.2.2.2.2.2.2.2.2.1, bt407.2.2.2.2.2.2.2.2.2.2.2.2.1, bt407.2.2.2.2.2.2.2.2.2.2.2.2.2))) = some (r1, r2, r3, r4, r5, r6, r7, r8, r9, r10, r11, r12, r13, r14) := by rw [if_neg (show ¬ (false = true) by decide)] at H; exact H
      clear H
      have H := H1
      clear H1
      replace H := Option.bind_eq_some_iff.mp H
      obtain ⟨⟨t407, t408, t409, t410, t411, t412, t413, t414, t415, t416, t417, t418, t419, t420⟩, A220, H⟩ := H
      replace H : (some (t407, t408, t409, t410, t411, t412, t413, t414, t415, t416, t417, t418, t419, t420)) = some (r1, r2, r3, r4, r5, r6, r7, r8, r9, r10, r11, r12, r13, r14) := H
      have A22 := qM A220
      clear A220
      simp only [Option.some.injEq, Prod.mk.injEq] at H
      obtain ⟨rfl, rfl, rfl, rfl, rfl, rfl, rfl, rfl, rfl, rfl, rfl, rfl, rfl, rfl⟩ := H
      have hnb23 := NB390_391.out
      have hnc23 := NB391_390.out
      obtain ⟨z24_0, z24_1, z24_2, z24_3, z24_4, z24_5, z24_6, z24_7, z24_8, z24_9, z24_10, z24_11, z24_12, z24_13, f24_0, f24_1, f24_2, f24_3, f24_4, f24_5, f24_6, f24_7, f24_8, f24_9, f24_10, f24_11, f24_12, f24_13⟩ := cells14 B390.out
      go_wp2_with (first | ((with_reducible refine gate_callee (f := 29) rfl ?_); refine goesL_ (some 39) rfl rfl Try.func29 (by kernel_rfl) rfl #[.agg #[.int .i64 a0_0, .int .i64 a0_1, .string a0_2, .string a0_3, .int .i64 a0_4, .int .i64 a0_5, .int .i64 a0_6, .int .i64 a0_7, .int .i64 a0_8, .int .u32 a0_9, .int .i64 a0_10, .int .i64 a0_11, .string a1, .bool a0_13], .int .i64 0] rfl (by (try simp only [List.map_toArray, List.map_cons, List.map_nil]); first | done | rfl | (simp only [List.length_drop, List.length_take]; rfl)) ?_; (with_reducible refine (deed_call_ends.calls a0_0 a0_1 a0_2 a0_3 a0_4 a0_5 a0_6 a0_7 a0_8 a0_9 a0_10 a0_11 a1 a0_13 0 t407 t408 t409 t410 t411 t412 t413 t414 t415 t416 t417 t418 t419 t420 _ A22.out).mono ?_); rintro e w25 ⟨rfl, hb⟩; refine ⟨_, rfl, ?_⟩; have n0_ := qM (qB (g := g390) (o := .cells #[.int .i64 a0_0, .int .i64 a0_1, .string a0_2, .string a0_3, .int .i64 a0_4, .int .i64 a0_5, .int .i64 a0_6, .int .i64 a0_7, .int .i64 a0_8, .int .u32 a0_9, .int .i64 a0_10, .int .i64 a0_11, .string a1, .bool a0_13] 28 (0, 0)) (by (with_reducible repeat first | refine qN ?_ _ | refine qD ?_ | refine qA ?_ _); refine qP (cs := #[.int .i64 a0_0, .int .i64 a0_1, .string a0_2, .string a0_3, .int .i64 a0_4, .int .i64 a0_5, .int .i64 a0_6, .int .i64 a0_7, .int .i64 a0_8, .int .u32 a0_9, .int .i64 a0_10, .int .i64 a0_11, .string a0_12, .bool a0_13]) ?_ 12 _ rfl; (with_reducible repeat first | refine qN ?_ _ | refine qD ?_ | refine qA ?_ _); exact B390.out) hb); have n1_ := qM (qB (g := g391) (o := .cells #[.int .i64 0, .int .i64 0, .string (⟨#[]⟩ : ByteArray), .string (⟨#[]⟩ : ByteArray), .int .i64 0, .int .i64 0, .int .i64 0, .int .i64 0, .int .i64 0, .int .u32 0, .int .i64 0, .int .i64 0, .string (⟨#[]⟩ : ByteArray), .bool false] 28 (0, 0)) (by (with_reducible repeat first | refine qN ?_ _ | refine qD ?_ | refine qA ?_ _); refine qR ?_ NB391_390.out _; (with_reducible repeat first | refine qN ?_ _ | refine qD ?_ | refine qA ?_ _); exact B391.out) hb); have n2_ := qM (eT (by repeat (first | (with_reducible first | exact HB.out | apply eA | apply eN | apply eD | refine eS ?_ GE390.out | refine eS ?_ GE391.out) | exact HB.out)) hb); clear B390; clear B391; clear HB; have B390 := n0_; have B391 := n1_; have HB := n2_; clear n0_ n1_ n2_; (try clear hb); (try clear hb2); (try clear hk); (try clear hi); obtain ⟨z26_0, z26_1, z26_2, z26_3, z26_4, z26_5, z26_6, z26_7, z26_8, z26_9, z26_10, z26_11, z26_12, z26_13, f26_0, f26_1, f26_2, f26_3, f26_4, f26_5, f26_6, f26_7, f26_8, f26_9, f26_10, f26_11, f26_12, f26_13⟩ := cells14 B391.out))
      refine bodyPost_ret (results_cell_row rfl _ _ g391 28 #[.int .i64 t407, .int .i64 t408, .string t409, .string t410, .int .i64 t411, .int .i64 t412, .int .i64 t413, .int .i64 t414, .int .i64 t415, .int .u32 t416, .int .i64 t417, .int .i64 t418, .string t419, .bool t420] (0, 0) _ rfl (by (with_reducible repeat first | refine qN ?_ _ | refine qD ?_ | refine qA ?_ _); apply puts14; (with_reducible repeat first | refine qN ?_ _ | refine qD ?_ | refine qA ?_ _); exact B391.out) Try.underlying28 rfl (by kernel_rfl)) rfl ?_
      exact ⟨by first | rfl | (simp [errW_none, errW_some] <;> rfl) | (simp [*, errW_none, errW_some] <;> rfl), by repeat (first | (with_reducible first | exact HB.out | apply eA | apply eN | apply eD | refine eS ?_ GE390.out | refine eS ?_ GE391.out) | exact HB.out)⟩
  ·rw [if_neg c5] at H
   have c5b0 : (a2 == 0) = false := beq_eq_false_iff_ne.mpr c5
   have c5b1 : (a2 != 0) = true := bne_iff_ne.mpr c5
   replace H := Option.bind_eq_some_iff.mp H
   obtain ⟨⟨t421, t422, t423, t424, t425, t426, t427, t428, t429, t430, t431, t432, t433, t434⟩, A270, H⟩ := H
   replace H : (some (t421, t422, t423, t424, t425, t426, t427, t428, t429, t430, t431, t432, t433, t434)) = some (r1, r2, r3, r4, r5, r6, r7, r8, r9, r10, r11, r12, r13, r14) := H
   have A27 := qM A270
   clear A270
   simp only [Option.some.injEq, Prod.mk.injEq] at H
   obtain ⟨rfl, rfl, rfl, rfl, rfl, rfl, rfl, rfl, rfl, rfl, rfl, rfl, rfl, rfl⟩ := H
   go_enter Try.func21, Try.ntmps21
   go_wp2_with (first | ((with_reducible refine gate_dst (N := 3) rfl ?_); refine box_event ?hg (N := 3) ?hd (cs := #[.int .i64 a0_0, .int .i64 a0_1, .string a0_2, .string a0_3, .int .i64 a0_4, .int .i64 a0_5, .int .i64 a0_6, .int .i64 a0_7, .int .i64 a0_8, .int .u32 a0_9, .int .i64 a0_10, .int .i64 a0_11, .string a0_12, .bool a0_13]) (t := 28) ?hr ?_; (case hd => rfl); (case hg => rfl); (case hr => first | (go_simp; done) | (go_simp; rfl)); intro g390 hg w28 hbox hb; have n0_ := qM (eT (by repeat (first | (with_reducible first | exact HB.out | apply eA | apply eN | apply eD) | exact HB.out)) hb); have n1_ := qM (hbox); have n2_ := qM ((by rw [hg]; exact (eZ (by repeat (first | (with_reducible first | exact HB.out | apply eA | apply eN | apply eD) | exact HB.out))) : w.heap.size ≤ g390)); have n3_ := n2_; clear HB; have HB := n0_; have B390 := n1_; have GW390 := n2_; have GE390 := n3_; clear n0_ n1_ n2_ n3_; clear hb hbox hg) | ((with_reducible refine gate_dst (N := 6) rfl ?_); refine box_event ?hg (N := 6) ?hd (cs := #[.int .i64 0, .int .i64 0, .string (⟨#[]⟩ : ByteArray), .string (⟨#[]⟩ : ByteArray), .int .i64 0, .int .i64 0, .int .i64 0, .int .i64 0, .int .i64 0, .int .u32 0, .int .i64 0, .int .i64 0, .string (⟨#[]⟩ : ByteArray), .bool false]) (t := 28) ?hr ?_; (case hd => rfl); (case hg => rfl); (case hr => first | (go_simp; done) | (go_simp; rfl)); intro g391 hg w29 hbox hb; have n0_ := qM (qB (g := g390) (by (with_reducible repeat first | refine qN ?_ _ | refine qD ?_ | refine qA ?_ _); exact B390.out) hb); have n1_ := qM (eT (by repeat (first | (with_reducible first | exact HB.out | apply eA | apply eN | apply eD | refine eS ?_ GE390.out) | exact HB.out)) hb); have n2_ := qM (hbox); have n3_ := qM ((by rw [hg]; exact (eZ (by repeat (first | (with_reducible first | exact HB.out | apply eA | apply eN | apply eD | refine eS ?_ GE390.out) | exact HB.out))) : w.heap.size ≤ g391)); have n4_ := n3_; have n5_ := qM ((by rw [hg]; exact Nat.ne_of_lt (qL (g := g390) (by (with_reducible repeat first | refine qN ?_ _ | refine qD ?_ | refine qA ?_ _); exact B390.out)) : g390 ≠ g391)); have n6_ := qM (Ne.symm n5_.out); clear B390; clear HB; have B390 := n0_; have HB := n1_; have B391 := n2_; have GW391 := n3_; have GE391 := n4_; have NB390_391 := n5_; have NB391_390 := n6_; clear n0_ n1_ n2_ n3_ n4_ n5_ n6_; clear hb hbox hg; have hnb30 := NB390_391.out; have hnc30 := NB391_390.out; obtain ⟨z31_0, z31_1, z31_2, z31_3, z31_4, z31_5, z31_6, z31_7, z31_8, z31_9, z31_10, z31_11, z31_12, z31_13, f31_0, f31_1, f31_2, f31_3, f31_4, f31_5, f31_6, f31_7, f31_8, f31_9, f31_10, f31_11, f31_12, f31_13⟩ := cells14 B390.out) | ((with_reducible refine gate_callee (f := 29) rfl ?_); refine goesL_ (some 18) rfl rfl Try.func29 (by kernel_rfl) rfl #[.agg #[.int .i64 a0_0, .int .i64 a0_1, .string a0_2, .string a0_3, .int .i64 a0_4, .int .i64 a0_5, .int .i64 a0_6, .int .i64 a0_7, .int .i64 a0_8, .int .u32 a0_9, .int .i64 a0_10, .int .i64 a0_11, .string a0_12, .bool a0_13], .int .i64 a2] rfl (by (try simp only [List.map_toArray, List.map_cons, List.map_nil]); first | done | rfl | (simp only [List.length_drop, List.length_take]; rfl)) ?_; (with_reducible refine (deed_call_ends.calls a0_0 a0_1 a0_2 a0_3 a0_4 a0_5 a0_6 a0_7 a0_8 a0_9 a0_10 a0_11 a0_12 a0_13 a2 t421 t422 t423 t424 t425 t426 t427 t428 t429 t430 t431 t432 t433 t434 _ A27.out).mono ?_); rintro e w32 ⟨rfl, hb⟩; refine ⟨_, rfl, ?_⟩; have n0_ := qM (qB (g := g390) (by (with_reducible repeat first | refine qN ?_ _ | refine qD ?_ | refine qA ?_ _); exact B390.out) hb); have n1_ := qM (qB (g := g391) (by (with_reducible repeat first | refine qN ?_ _ | refine qD ?_ | refine qA ?_ _); exact B391.out) hb); have n2_ := qM (eT (by repeat (first | (with_reducible first | exact HB.out | apply eA | apply eN | apply eD | refine eS ?_ GE390.out | refine eS ?_ GE391.out) | exact HB.out)) hb); clear B390; clear B391; clear HB; have B390 := n0_; have B391 := n1_; have HB := n2_; clear n0_ n1_ n2_; (try clear hb); (try clear hb2); (try clear hk); (try clear hi); obtain ⟨z33_0, z33_1, z33_2, z33_3, z33_4, z33_5, z33_6, z33_7, z33_8, z33_9, z33_10, z33_11, z33_12, z33_13, f33_0, f33_1, f33_2, f33_3, f33_4, f33_5, f33_6, f33_7, f33_8, f33_9, f33_10, f33_11, f33_12, f33_13⟩ := cells14 B391.out))
   refine bodyPost_ret (results_cell_row rfl _ _ g391 28 #[.int .i64 t421, .int .i64 t422, .string t423, .string t424, .int .i64 t425, .int .i64 t426, .int .i64 t427, .int .i64 t428, .int .i64 t429, .int .u32 t430, .int .i64 t431, .int .i64 t432, .string t433, .bool t434] (0, 0) _ rfl (by (with_reducible repeat first | refine qN ?_ _ | refine qD ?_ | refine qA ?_ _); apply puts14; (with_reducible repeat first | refine qN ?_ _ | refine qD ?_ | refine qA ?_ _); exact B391.out) Try.underlying28 rfl (by kernel_rfl)) rfl ?_
   exact ⟨by first | rfl | (simp [errW_none, errW_some] <;> rfl) | (simp [*, errW_none, errW_some] <;> rfl), by repeat (first | (with_reducible first | exact HB.out | apply eA | apply eN | apply eD | refine eS ?_ GE390.out | refine eS ?_ GE391.out) | exact HB.out)⟩
 ·rw [if_neg c4] at H
  have c4b0 : (a0_5 == 6) = false := beq_eq_false_iff_ne.mpr c4
  have c4b1 : (a0_5 != 6) = true := bne_iff_ne.mpr c4
  simp only [Option.some.injEq, Prod.mk.injEq] at H
  obtain ⟨rfl, rfl, rfl, rfl, rfl, rfl, rfl, rfl, rfl, rfl, rfl, rfl, rfl, rfl⟩ := H
  go_enter Try.func21, Try.ntmps21
  go_wp2_with (first | ((with_reducible refine gate_dst (N := 3) rfl ?_); refine box_event ?hg (N := 3) ?hd (cs := #[.int .i64 a0_0, .int .i64 a0_1, .string a0_2, .string a0_3, .int .i64 a0_4, .int .i64 a0_5, .int .i64 a0_6, .int .i64 a0_7, .int .i64 a0_8, .int .u32 a0_9, .int .i64 a0_10, .int .i64 a0_11, .string a0_12, .bool a0_13]) (t := 28) ?hr ?_; (case hd => rfl); (case hg => rfl); (case hr => first | (go_simp; done) | (go_simp; rfl)); intro g390 hg w34 hbox hb; have n0_ := qM (eT (by repeat (first | (with_reducible first | exact HB.out | apply eA | apply eN | apply eD) | exact HB.out)) hb); have n1_ := qM (hbox); have n2_ := qM ((by rw [hg]; exact (eZ (by repeat (first | (with_reducible first | exact HB.out | apply eA | apply eN | apply eD) | exact HB.out))) : w.heap.size ≤ g390)); have n3_ := n2_; clear HB; have HB := n0_; have B390 := n1_; have GW390 := n2_; have GE390 := n3_; clear n0_ n1_ n2_ n3_; clear hb hbox hg) | ((with_reducible refine gate_dst (N := 6) rfl ?_); refine box_event ?hg (N := 6) ?hd (cs := #[.int .i64 0, .int .i64 0, .string (⟨#[]⟩ : ByteArray), .string (⟨#[]⟩ : ByteArray), .int .i64 0, .int .i64 0, .int .i64 0, .int .i64 0, .int .i64 0, .int .u32 0, .int .i64 0, .int .i64 0, .string (⟨#[]⟩ : ByteArray), .bool false]) (t := 28) ?hr ?_; (case hd => rfl); (case hg => rfl); (case hr => first | (go_simp; done) | (go_simp; rfl)); intro g391 hg w35 hbox hb; have n0_ := qM (qB (g := g390) (by (with_reducible repeat first | refine qN ?_ _ | refine qD ?_ | refine qA ?_ _); exact B390.out) hb); have n1_ := qM (eT (by repeat (first | (with_reducible first | exact HB.out | apply eA | apply eN | apply eD | refine eS ?_ GE390.out) | exact HB.out)) hb); have n2_ := qM (hbox); have n3_ := qM ((by rw [hg]; exact (eZ (by repeat (first | (with_reducible first | exact HB.out | apply eA | apply eN | apply eD | refine eS ?_ GE390.out) | exact HB.out))) : w.heap.size ≤ g391)); have n4_ := n3_; have n5_ := qM ((by rw [hg]; exact Nat.ne_of_lt (qL (g := g390) (by (with_reducible repeat first | refine qN ?_ _ | refine qD ?_ | refine qA ?_ _); exact B390.out)) : g390 ≠ g391)); have n6_ := qM (Ne.symm n5_.out); clear B390; clear HB; have B390 := n0_; have HB := n1_; have B391 := n2_; have GW391 := n3_; have GE391 := n4_; have NB390_391 := n5_; have NB391_390 := n6_; clear n0_ n1_ n2_ n3_ n4_ n5_ n6_; clear hb hbox hg; have hnb36 := NB390_391.out; have hnc36 := NB391_390.out; obtain ⟨z37_0, z37_1, z37_2, z37_3, z37_4, z37_5, z37_6, z37_7, z37_8, z37_9, z37_10, z37_11, z37_12, z37_13, f37_0, f37_1, f37_2, f37_3, f37_4, f37_5, f37_6, f37_7, f37_8, f37_9, f37_10, f37_11, f37_12, f37_13⟩ := cells14 B390.out; obtain ⟨z38_0, z38_1, z38_2, z38_3, z38_4, z38_5, z38_6, z38_7, z38_8, z38_9, z38_10, z38_11, z38_12, z38_13, f38_0, f38_1, f38_2, f38_3, f38_4, f38_5, f38_6, f38_7, f38_8, f38_9, f38_10, f38_11, f38_12, f38_13⟩ := cells14 B391.out))
  refine bodyPost_ret (results_cell_row rfl _ _ g391 28 #[.int .i64 a0_0, .int .i64 a0_1, .string a0_2, .string a0_3, .int .i64 a0_4, .int .i64 a0_5, .int .i64 a0_6, .int .i64 a0_7, .int .i64 a0_8, .int .u32 a0_9, .int .i64 a0_10, .int .i64 a0_11, .string a0_12, .bool a0_13] (0, 0) _ rfl (by (with_reducible repeat first | refine qN ?_ _ | refine qD ?_ | refine qA ?_ _); apply puts14; (with_reducible repeat first | refine qN ?_ _ | refine qD ?_ | refine qA ?_ _); exact B391.out) Try.underlying28 rfl (by kernel_rfl)) rfl ?_
  exact ⟨by first | rfl | (simp [errW_none, errW_some] <;> rfl) | (simp [*, errW_none, errW_some] <;> rfl), by repeat (first | (with_reducible first | exact HB.out | apply eA | apply eN | apply eD | refine eS ?_ GE390.out | refine eS ?_ GE391.out) | exact HB.out)⟩

end Go.Proofs.Ytmjmmgefkebggaa.PAll
