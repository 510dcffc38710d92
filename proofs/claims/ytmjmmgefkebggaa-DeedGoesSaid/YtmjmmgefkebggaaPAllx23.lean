/- Functions of the program as plain Lean functions, and that each call comes to what they say. Laid by a program of this session (hprint.py); Lean checks it. -/
import Derived.Test.YtmjmmgefkebggaaPAllx0
import Derived.Test.YtmjmmgefkebggaaPAllx21
namespace Go.Proofs.Ytmjmmgefkebggaa.PAll
open Go.RowKit Go.Proofs.YtmjmmgefkebggaaW.PrintWords Go.Proofs.YtmjmmgefkebggaaW.PrintLast Go.Proofs.YtmjmmgefkebggaaW.PrintMore
attribute [local go_sem] max2_int min2_int max_two min_two max_three min_three max_four min_four   -- for this text's walks alone
set_option linter.unusedVariables false
set_option linter.unusedSimpArgs false
attribute [local irreducible] World.setCell

/-! ### hogsheadref17_Heard: function 18 -/
def hogsheadref17_Heard.j0 : Nat → Bool → Int → Int → ByteArray → ByteArray → Int → Int → Int → Int → Int → Int → Int → Int → ByteArray → Bool → Int → Int → Int → Int → Int → Bool → Option (Int × Int × ByteArray × ByteArray × Int × Int × Int × Int × Int × Int × Int × Int × ByteArray × Bool)
 | 0, _, _, _, _, _, _, _, _, _, _, _, _, _, _, _, _, _, _, _, _, _ => none
 | k + 1, x22, x314000, x314001, x314002, x314003, x314004, x314005, x314006, x314007, x314008, x314009, x314010, x314011, x314012, x314013, x315000, x315001, x315002, x315003, x315004, x315005 => if x22 = true then (some (x314000, x314001, x314002, x314003, x314004, x314005, x314006, x314007, x314008, x314009, x314010, x314011, x314012, x314013)) else (if x315000 = 0 then (if x314005 = 2 then (some (x314000, x314001, x314002, x314003, wrap64 (x314004 + 1), 3, x314006, x315002, x314008, x314009, 0, x314011, x314012, x314013)) else (if x314005 = 5 then (if x315005 = true then (some (x314000, x314001, x314002, x314003, x314004, 6, x315001, x315002, x315003, x315004, x314010, x314011, x314012, true)) else ((hogsheadref17_ends.f x314000 x314001 x314002 x314003 x314004 x314005 x314006 x314007 x314008 x314009 x314010 x314011 x314012 x314013 7).bind fun bt330 => (some (bt330.1, bt330.2.1, bt330.2.2.1, bt330.2.2.2.1, bt330.2.2.2.2.1, bt330.2.2.2.2.2.1, bt330.2.2.2.2.2.2.1, bt330.2.2.2.2.2.2.2.1, bt330.2.2.2.2.2.2.2.2.1, bt330.2.2.2.2.2.2.2.2.2.1, bt330.2.2.2.2.2.2.2.2.2.2.1, bt330.2.2.2.2.2.2.2.2.2.2.2.1, bt330.2.2.2.2.2.2.2.2.2.2.2.2.1, bt330.2.2.2.2.2.2.2.2.2.2.2.2.2)))) else ((hogsheadref17_ends.f x314000 x314001 x314002 x314003 x314004 x314005 x314006 x314007 x314008 x314009 x314010 x314011 x314012 x315005 0).bind fun bt344 => (some (bt344.1, bt344.2.1, bt344.2.2.1, bt344.2.2.2.1, bt344.2.2.2.2.1, bt344.2.2.2.2.2.1, bt344.2.2.2.2.2.2.1, bt344.2.2.2.2.2.2.2.1, bt344.2.2.2.2.2.2.2.2.1, bt344.2.2.2.2.2.2.2.2.2.1, bt344.2.2.2.2.2.2.2.2.2.2.1, bt344.2.2.2.2.2.2.2.2.2.2.2.1, bt344.2.2.2.2.2.2.2.2.2.2.2.2.1, bt344.2.2.2.2.2.2.2.2.2.2.2.2.2))))) else ((hogsheadref17_ends.f x314000 x314001 x314002 x314003 x314004 x314005 x314006 x314007 x314008 x314009 x314010 x314011 x314012 x314013 x315000).bind fun bt316 => (some (bt316.1, bt316.2.1, bt316.2.2.1, bt316.2.2.2.1, bt316.2.2.2.2.1, bt316.2.2.2.2.2.1, bt316.2.2.2.2.2.2.1, bt316.2.2.2.2.2.2.2.1, bt316.2.2.2.2.2.2.2.2.1, bt316.2.2.2.2.2.2.2.2.2.1, bt316.2.2.2.2.2.2.2.2.2.2.1, bt316.2.2.2.2.2.2.2.2.2.2.2.1, bt316.2.2.2.2.2.2.2.2.2.2.2.2.1, bt316.2.2.2.2.2.2.2.2.2.2.2.2.2))))
def hogsheadref17_Heard.f (k : Nat) (a0_0 : Int) (a0_1 : Int) (a0_2 : ByteArray) (a0_3 : ByteArray) (a0_4 : Int) (a0_5 : Int) (a0_6 : Int) (a0_7 : Int) (a0_8 : Int) (a0_9 : Int) (a0_10 : Int) (a0_11 : Int) (a0_12 : ByteArray) (a0_13 : Bool) (a1_0 : Int) (a1_1 : Int) (a1_2 : Int) (a1_3 : Int) (a1_4 : Int) (a1_5 : Bool) : Option (Int × Int × ByteArray × ByteArray × Int × Int × Int × Int × Int × Int × Int × Int × ByteArray × Bool) := if a0_5 = 2 then (hogsheadref17_Heard.j0 k false a0_0 a0_1 a0_2 a0_3 a0_4 a0_5 a0_6 a0_7 a0_8 a0_9 a0_10 a0_11 a0_12 a0_13 a1_0 a1_1 a1_2 a1_3 a1_4 a1_5) else (if a0_5 = 4 then (hogsheadref17_Heard.j0 k false a0_0 a0_1 a0_2 a0_3 a0_4 a0_5 a0_6 a0_7 a0_8 a0_9 a0_10 a0_11 a0_12 a0_13 a1_0 a1_1 a1_2 a1_3 a1_4 a1_5) else (if a0_5 = 5 then (hogsheadref17_Heard.j0 k false a0_0 a0_1 a0_2 a0_3 a0_4 a0_5 a0_6 a0_7 a0_8 a0_9 a0_10 a0_11 a0_12 a0_13 a1_0 a1_1 a1_2 a1_3 a1_4 a1_5) else (hogsheadref17_Heard.j0 k (a0_5 != 7) a0_0 a0_1 a0_2 a0_3 a0_4 a0_5 a0_6 a0_7 a0_8 a0_9 a0_10 a0_11 a0_12 a0_13 a1_0 a1_1 a1_2 a1_3 a1_4 a1_5)))
theorem hogsheadref17_Heard.mono_l : ∀ k, (∀ y0 y1 y2 y3 y4 y5 y6 y7 y8 y9 y10 y11 y12 y13 y14 y15 y16 y17 y18 y19 y20, LeO (hogsheadref17_Heard.j0 k y0 y1 y2 y3 y4 y5 y6 y7 y8 y9 y10 y11 y12 y13 y14 y15 y16 y17 y18 y19 y20) (hogsheadref17_Heard.j0 (k + 1) y0 y1 y2 y3 y4 y5 y6 y7 y8 y9 y10 y11 y12 y13 y14 y15 y16 y17 y18 y19 y20))
 | 0 => fun _ _ _ _ _ _ _ _ _ _ _ _ _ _ _ _ _ _ _ _ _ r h => by simp [hogsheadref17_Heard.j0] at h
 | k + 1 => by
  have ih0 := hogsheadref17_Heard.mono_l k
  ·intro y0 y1 y2 y3 y4 y5 y6 y7 y8 y9 y10 y11 y12 y13 y14 y15 y16 y17 y18 y19 y20
   unfold hogsheadref17_Heard.j0
   repeat' first
   | (with_reducible exact ih0 _ _ _ _ _ _ _ _ _ _ _ _ _ _ _ _ _ _ _ _ _)
   | (with_reducible exact LeO.refl _)
   | (with_reducible exact LeO.none _)
   | (with_reducible refine LeO.ite ?_ ?_)
   | (with_reducible refine LeO.bind ?_ (fun _ => ?_))
   | exact ih0 _ _ _ _ _ _ _ _ _ _ _ _ _ _ _ _ _ _ _ _ _
   | exact LeO.none _
   | refine LeO.ite ?_ ?_
   | refine LeO.bind ?_ (fun _ => ?_)
theorem hogsheadref17_Heard.mono : ∀ a0 a1 a2 a3 a4 a5 a6 a7 a8 a9 a10 a11 a12 a13 a14 a15 a16 a17 a18 a19 k, LeO (hogsheadref17_Heard.f k a0 a1 a2 a3 a4 a5 a6 a7 a8 a9 a10 a11 a12 a13 a14 a15 a16 a17 a18 a19) (hogsheadref17_Heard.f (k + 1) a0 a1 a2 a3 a4 a5 a6 a7 a8 a9 a10 a11 a12 a13 a14 a15 a16 a17 a18 a19) := by
 intro a0 a1 a2 a3 a4 a5 a6 a7 a8 a9 a10 a11 a12 a13 a14 a15 a16 a17 a18 a19 k
 have ih0 := hogsheadref17_Heard.mono_l k
 unfold hogsheadref17_Heard.f
 repeat' first
   | (with_reducible exact ih0 _ _ _ _ _ _ _ _ _ _ _ _ _ _ _ _ _ _ _ _ _)
   | (with_reducible exact LeO.refl _)
   | (with_reducible exact LeO.none _)
   | (with_reducible refine LeO.ite ?_ ?_)
   | (with_reducible refine LeO.bind ?_ (fun _ => ?_))
   | exact ih0 _ _ _ _ _ _ _ _ _ _ _ _ _ _ _ _ _ _ _ _ _
   | exact LeO.none _
   | refine LeO.ite ?_ ?_
   | refine LeO.bind ?_ (fun _ => ?_)
set_option maxHeartbeats 40000000 in
set_option maxRecDepth 100000 in
theorem hogsheadref17_Heard.calls (k : Nat) (a0_0 : Int) (a0_1 : Int) (a0_2 : ByteArray) (a0_3 : ByteArray) (a0_4 : Int) (a0_5 : Int) (a0_6 : Int) (a0_7 : Int) (a0_8 : Int) (a0_9 : Int) (a0_10 : Int) (a0_11 : Int) (a0_12 : ByteArray) (a0_13 : Bool) (a1_0 : Int) (a1_1 : Int) (a1_2 : Int) (a1_3 : Int) (a1_4 : Int) (a1_5 : Bool) (r1 : Int) (r2 : Int) (r3 : ByteArray) (r4 : ByteArray) (r5 : Int) (r6 : Int) (r7 : Int) (r8 : Int) (r9 : Int) (r10 : Int) (r11 : Int) (r12 : Int) (r13 : ByteArray) (r14 : Bool) (w : World) (h : hogsheadref17_Heard.f k a0_0 a0_1 a0_2 a0_3 a0_4 a0_5 a0_6 a0_7 a0_8 a0_9 a0_10 a0_11 a0_12 a0_13 a1_0 a1_1 a1_2 a1_3 a1_4 a1_5 = some (r1, r2, r3, r4, r5, r6, r7, r8, r9, r10, r11, r12, r13, r14)) :
  Calls Try.prog 18 #[.agg #[.int .i64 a0_0, .int .i64 a0_1, .string a0_2, .string a0_3, .int .i64 a0_4, .int .i64 a0_5, .int .i64 a0_6, .int .i64 a0_7, .int .i64 a0_8, .int .u32 a0_9, .int .i64 a0_10, .int .i64 a0_11, .string a0_12, .bool a0_13], .agg #[.int .i64 a1_0, .int .i64 a1_1, .int .i64 a1_2, .int .i64 a1_3, .int .u32 a1_4, .bool a1_5]] w fun e w' => e = .returned (.agg #[.int .i64 r1, .int .i64 r2, .string r3, .string r4, .int .i64 r5, .int .i64 r6, .int .i64 r7, .int .i64 r8, .int .i64 r9, .int .u32 r10, .int .i64 r11, .int .i64 r12, .string r13, .bool r14]) ∧ Below w.heap.size w w' := by
 have hu28 := Try.underlying28
 have hu42 := Try.underlying42
 have HB := qM (Below.refl w.heap.size w)
 have H : (if a0_5 = 2 then (hogsheadref17_Heard.j0 k false a0_0 a0_1 a0_2 a0_3 a0_4 a0_5 a0_6 a0_7 a0_8 a0_9 a0_10 a0_11 a0_12 a0_13 a1_0 a1_1 a1_2 a1_3 a1_4 a1_5) else (if a0_5 = 4 then (hogsheadref17_Heard.j0 k false a0_0 a0_1 a0_2 a0_3 a0_4 a0_5 a0_6 a0_7 a0_8 a0_9 a0_10 a0_11 a0_12 a0_13 a1_0 a1_1 a1_2 a1_3 a1_4 a1_5) else (if a0_5 = 5 then (hogsheadref17_Heard.j0 k false a0_0 a0_1 a0_2 a0_3 a0_4 a0_5 a0_6 a0_7 a0_8 a0_9 a0_10 a0_11 a0_12 a0_13 a1_0 a1_1 a1_2 a1_3 a1_4 a1_5) else (hogsheadref17_Heard.j0 k (a0_5 != 7) a0_0 a0_1 a0_2 a0_3 a0_4 a0_5 a0_6 a0_7 a0_8 a0_9 a0_10 a0_11 a0_12 a0_13 a1_0 a1_1 a1_2 a1_3 a1_4 a1_5)))) = some (r1, r2, r3, r4, r5, r6, r7, r8, r9, r10, r11, r12, r13, r14) := h
 clear h
 have HC3 := qM H
 clear H
 go_enter Try.func18, Try.ntmps18
 go_upto_region 1 with (first | ((with_reducible refine gate_dst (N := 2) rfl ?_); refine box_event ?hg (N := 2) ?hd (cs := #[.int .i64 a0_0, .int .i64 a0_1, .string a0_2, .string a0_3, .int .i64 a0_4, .int .i64 a0_5, .int .i64 a0_6, .int .i64 a0_7, .int .i64 a0_8, .int .u32 a0_9, .int .i64 a0_10, .int .i64 a0_11, .string a0_12, .bool a0_13]) (t := 28) ?hr ?_; (case hd => rfl); (case hg => rfl); (case hr => first | (go_simp; done) | (go_simp; rfl)); intro g313 hg w4 hbox hb; have n0_ := qM (eT (by repeat (first | (with_reducible first | exact HB.out | apply eA | apply eN | apply eD) | exact HB.out)) hb); have n1_ := qM (hbox); have n2_ := qM ((by rw [hg]; exact (eZ (by repeat (first | (with_reducible first | exact HB.out | apply eA | apply eN | apply eD) | exact HB.out))) : w.heap.size ≤ g313)); have n3_ := n2_; clear HB; have HB := n0_; have B313 := n1_; have GW313 := n2_; have GE313 := n3_; clear n0_ n1_ n2_ n3_; clear hb hbox hg) | ((with_reducible refine gate_dst (N := 3) rfl ?_); refine box_event ?hg (N := 3) ?hd (cs := #[.int .i64 a1_0, .int .i64 a1_1, .int .i64 a1_2, .int .i64 a1_3, .int .u32 a1_4, .bool a1_5]) (t := 42) ?hr ?_; (case hd => rfl); (case hg => rfl); (case hr => first | (go_simp; done) | (go_simp; rfl)); intro g314 hg w5 hbox hb; have n0_ := qM (qB (g := g313) (by (with_reducible repeat first | refine qN ?_ _ | refine qD ?_ | refine qA ?_ _); exact B313.out) hb); have n1_ := qM (eT (by repeat (first | (with_reducible first | exact HB.out | apply eA | apply eN | apply eD | refine eS ?_ GE313.out) | exact HB.out)) hb); have n2_ := qM (hbox); have n3_ := qM ((by rw [hg]; exact (eZ (by repeat (first | (with_reducible first | exact HB.out | apply eA | apply eN | apply eD | refine eS ?_ GE313.out) | exact HB.out))) : w.heap.size ≤ g314)); have n4_ := n3_; have n5_ := qM ((by rw [hg]; exact Nat.ne_of_lt (qL (g := g313) (by (with_reducible repeat first | refine qN ?_ _ | refine qD ?_ | refine qA ?_ _); exact B313.out)) : g313 ≠ g314)); have n6_ := qM (Ne.symm n5_.out); clear B313; clear HB; have B313 := n0_; have HB := n1_; have B314 := n2_; have GW314 := n3_; have GE314 := n4_; have NB313_314 := n5_; have NB314_313 := n6_; clear n0_ n1_ n2_ n3_ n4_ n5_ n6_; clear hb hbox hg) | ((with_reducible refine gate_dst (N := 4) rfl ?_); refine box_event ?hg (N := 4) ?hd (cs := #[.int .i64 0, .int .i64 0, .string (⟨#[]⟩ : ByteArray), .string (⟨#[]⟩ : ByteArray), .int .i64 0, .int .i64 0, .int .i64 0, .int .i64 0, .int .i64 0, .int .u32 0, .int .i64 0, .int .i64 0, .string (⟨#[]⟩ : ByteArray), .bool false]) (t := 28) ?hr ?_; (case hd => rfl); (case hg => rfl); (case hr => first | (go_simp; done) | (go_simp; rfl)); intro g315 hg w6 hbox hb; have n0_ := qM (qB (g := g313) (by (with_reducible repeat first | refine qN ?_ _ | refine qD ?_ | refine qA ?_ _); exact B313.out) hb); have n1_ := qM (qB (g := g314) (by (with_reducible repeat first | refine qN ?_ _ | refine qD ?_ | refine qA ?_ _); exact B314.out) hb); have n2_ := qM (eT (by repeat (first | (with_reducible first | exact HB.out | apply eA | apply eN | apply eD | refine eS ?_ GE313.out | refine eS ?_ GE314.out) | exact HB.out)) hb); have n3_ := qM (hbox); have n4_ := qM ((by rw [hg]; exact (eZ (by repeat (first | (with_reducible first | exact HB.out | apply eA | apply eN | apply eD | refine eS ?_ GE313.out | refine eS ?_ GE314.out) | exact HB.out))) : w.heap.size ≤ g315)); have n5_ := n4_; have n6_ := qM ((by rw [hg]; exact Nat.ne_of_lt (qL (g := g313) (by (with_reducible repeat first | refine qN ?_ _ | refine qD ?_ | refine qA ?_ _); exact B313.out)) : g313 ≠ g315)); have n7_ := qM (Ne.symm n6_.out); have n8_ := qM ((by rw [hg]; exact Nat.ne_of_lt (qL (g := g314) (by (with_reducible repeat first | refine qN ?_ _ | refine qD ?_ | refine qA ?_ _); exact B314.out)) : g314 ≠ g315)); have n9_ := qM (Ne.symm n8_.out); clear B313; clear B314; clear HB; have B313 := n0_; have B314 := n1_; have HB := n2_; have B315 := n3_; have GW315 := n4_; have GE315 := n5_; have NB313_315 := n6_; have NB315_313 := n7_; have NB314_315 := n8_; have NB315_314 := n9_; clear n0_ n1_ n2_ n3_ n4_ n5_ n6_ n7_ n8_ n9_; clear hb hbox hg))
 (try simp only [Act.put, List.setIfInBounds_toArray, List.set_cons_zero, List.set_cons_succ])
 go_cut [22] (fun v22 wc => ∃ (kq : Nat) (x22_2 : Bool), v22 = .bool x22_2 ∧ Aside0 (hogsheadref17_Heard.j0 kq x22_2 a0_0 a0_1 a0_2 a0_3 a0_4 a0_5 a0_6 a0_7 a0_8 a0_9 a0_10 a0_11 a0_12 a0_13 a1_0 a1_1 a1_2 a1_3 a1_4 a1_5 = some (r1, r2, r3, r4, r5, r6, r7, r8, r9, r10, r11, r12, r13, r14)) ∧ Aside0 (kq ≤ k) ∧ Aside0 (wc.heap[g313]? = some (.cells #[.int .i64 a0_0, .int .i64 a0_1, .string a0_2, .string a0_3, .int .i64 a0_4, .int .i64 a0_5, .int .i64 a0_6, .int .i64 a0_7, .int .i64 a0_8, .int .u32 a0_9, .int .i64 a0_10, .int .i64 a0_11, .string a0_12, .bool a0_13] 28 (0, 0))) ∧ Aside0 (wc.heap[g314]? = some (.cells #[.int .i64 a1_0, .int .i64 a1_1, .int .i64 a1_2, .int .i64 a1_3, .int .u32 a1_4, .bool a1_5] 42 (0, 0))) ∧ Aside0 (wc.heap[g315]? = some (.cells #[.int .i64 0, .int .i64 0, .string (⟨#[]⟩ : ByteArray), .string (⟨#[]⟩ : ByteArray), .int .i64 0, .int .i64 0, .int .i64 0, .int .i64 0, .int .i64 0, .int .u32 0, .int .i64 0, .int .i64 0, .string (⟨#[]⟩ : ByteArray), .bool false] 28 (0, 0))) ∧ Aside0 (Below w.heap.size w wc))
 case first =>
  have H := HC3.out
  clear HC3
  by_cases c7 : a0_5 = 2
  ·rw [if_pos c7] at H
   have c7b0 : (a0_5 == 2) = true := beq_iff_eq.mpr c7
   have c7b1 : (a0_5 != 2) = false := bne_eq_false_iff_eq.mpr c7
   clear c7
   (first | rw [c7b0] | (simp only [i64_w, i32_w]; rw [c7b0]) | skip)
   have H' := qM H
   clear H
   have hnb8 := NB313_314.out
   have hnc8 := NB314_313.out
   have hnb9 := NB313_315.out
   have hnc9 := NB315_313.out
   obtain ⟨z10_0, z10_1, z10_2, z10_3, z10_4, z10_5, z10_6, z10_7, z10_8, z10_9, z10_10, z10_11, z10_12, z10_13, f10_0, f10_1, f10_2, f10_3, f10_4, f10_5, f10_6, f10_7, f10_8, f10_9, f10_10, f10_11, f10_12, f10_13⟩ := cells14 B313.out
   go_wp2
   go_meet
   case rel => exact ⟨_, (false), (by first | rfl | (simp; done) | (simp [*]; done)), H', ⟨by first | omega | exact Nat.le_refl _⟩, ⟨by (with_reducible repeat first | refine qN ?_ _ | refine qD ?_ | refine qA ?_ _); exact B313.out⟩, ⟨by (with_reducible repeat first | refine qN ?_ _ | refine qD ?_ | refine qA ?_ _); exact B314.out⟩, ⟨by (with_reducible repeat first | refine qN ?_ _ | refine qD ?_ | refine qA ?_ _); exact B315.out⟩, ⟨by repeat (first | (with_reducible first | exact HB.out | apply eA | apply eN | apply eD | refine eS ?_ GE313.out | refine eS ?_ GE314.out | refine eS ?_ GE315.out) | exact HB.out)⟩⟩
  ·rw [if_neg c7] at H
   have c7b0 : (a0_5 == 2) = false := beq_eq_false_iff_ne.mpr c7
   have c7b1 : (a0_5 != 2) = true := bne_iff_ne.mpr c7
   (first | rw [c7b0] | (simp only [i64_w, i32_w]; rw [c7b0]) | skip)
   by_cases c11 : a0_5 = 4
   ·rw [if_pos c11] at H
    have c11b0 : (a0_5 == 4) = true := beq_iff_eq.mpr c11
    have c11b1 : (a0_5 != 4) = false := bne_eq_false_iff_eq.mpr c11
    clear c11
    have H' := qM H
    clear H
    have hnb12 := NB313_314.out
    have hnc12 := NB314_313.out
    have hnb13 := NB313_315.out
    have hnc13 := NB315_313.out
    obtain ⟨z14_0, z14_1, z14_2, z14_3, z14_4, z14_5, z14_6, z14_7, z14_8, z14_9, z14_10, z14_11, z14_12, z14_13, f14_0, f14_1, f14_2, f14_3, f14_4, f14_5, f14_6, f14_7, f14_8, f14_9, f14_10, f14_11, f14_12, f14_13⟩ := cells14 B313.out
    go_wp2
    go_meet
    case rel => exact ⟨_, (false), (by first | rfl | (simp; done) | (simp [*]; done)), H', ⟨by first | omega | exact Nat.le_refl _⟩, ⟨by (with_reducible repeat first | refine qN ?_ _ | refine qD ?_ | refine qA ?_ _); exact B313.out⟩, ⟨by (with_reducible repeat first | refine qN ?_ _ | refine qD ?_ | refine qA ?_ _); exact B314.out⟩, ⟨by (with_reducible repeat first | refine qN ?_ _ | refine qD ?_ | refine qA ?_ _); exact B315.out⟩, ⟨by repeat (first | (with_reducible first | exact HB.out | apply eA | apply eN | apply eD | refine eS ?_ GE313.out | refine eS ?_ GE314.out | refine eS ?_ GE315.out) | exact HB.out)⟩⟩
   ·rw [if_neg c11] at H
    have c11b0 : (a0_5 == 4) = false := beq_eq_false_iff_ne.mpr c11
    have c11b1 : (a0_5 != 4) = true := bne_iff_ne.mpr c11
    by_cases c15 : a0_5 = 5
    ·rw [if_pos c15] at H
     have c15b0 : (a0_5 == 5) = true := beq_iff_eq.mpr c15
     have c15b1 : (a0_5 != 5) = false := bne_eq_false_iff_eq.mpr c15
     clear c15
     have H' := qM H
     clear H
     have hnb16 := NB313_314.out
     have hnc16 := NB314_313.out
     have hnb17 := NB313_315.out
     have hnc17 := NB315_313.out
     obtain ⟨z18_0, z18_1, z18_2, z18_3, z18_4, z18_5, z18_6, z18_7, z18_8, z18_9, z18_10, z18_11, z18_12, z18_13, f18_0, f18_1, f18_2, f18_3, f18_4, f18_5, f18_6, f18_7, f18_8, f18_9, f18_10, f18_11, f18_12, f18_13⟩ := cells14 B313.out
     go_wp2
     go_meet
     case rel => exact ⟨_, (false), (by first | rfl | (simp; done) | (simp [*]; done)), H', ⟨by first | omega | exact Nat.le_refl _⟩, ⟨by (with_reducible repeat first | refine qN ?_ _ | refine qD ?_ | refine qA ?_ _); exact B313.out⟩, ⟨by (with_reducible repeat first | refine qN ?_ _ | refine qD ?_ | refine qA ?_ _); exact B314.out⟩, ⟨by (with_reducible repeat first | refine qN ?_ _ | refine qD ?_ | refine qA ?_ _); exact B315.out⟩, ⟨by repeat (first | (with_reducible first | exact HB.out | apply eA | apply eN | apply eD | refine eS ?_ GE313.out | refine eS ?_ GE314.out | refine eS ?_ GE315.out) | exact HB.out)⟩⟩
    ·rw [if_neg c15] at H
     have c15b0 : (a0_5 == 5) = false := beq_eq_false_iff_ne.mpr c15
     have c15b1 : (a0_5 != 5) = true := bne_iff_ne.mpr c15
     have H' := qM H
     clear H
     have hnb19 := NB313_314.out
     have hnc19 := NB314_313.out
     have hnb20 := NB313_315.out
     have hnc20 := NB315_313.out
     obtain ⟨z21_0, z21_1, z21_2, z21_3, z21_4, z21_5, z21_6, z21_7, z21_8, z21_9, z21_10, z21_11, z21_12, z21_13, f21_0, f21_1, f21_2, f21_3, f21_4, f21_5, f21_6, f21_7, f21_8, f21_9, f21_10, f21_11, f21_12, f21_13⟩ := cells14 B313.out
     go_wp2
     go_meet
     case rel => exact ⟨_, ((a0_5 != 7)), (by first | rfl | (simp; done) | (simp [*]; done)), H', ⟨by first | omega | exact Nat.le_refl _⟩, ⟨by (with_reducible repeat first | refine qN ?_ _ | refine qD ?_ | refine qA ?_ _); exact B313.out⟩, ⟨by (with_reducible repeat first | refine qN ?_ _ | refine qD ?_ | refine qA ?_ _); exact B314.out⟩, ⟨by (with_reducible repeat first | refine qN ?_ _ | refine qD ?_ | refine qA ?_ _); exact B315.out⟩, ⟨by repeat (first | (with_reducible first | exact HB.out | apply eA | apply eN | apply eD | refine eS ?_ GE313.out | refine eS ?_ GE314.out | refine eS ?_ GE315.out) | exact HB.out)⟩⟩
 case rest =>
  clear HC3
  try clear c1
  try clear c2
  try clear p2
  try clear c7
  try clear c7b0
  try clear c7b1
  try clear c8
  try clear c9
  try clear c11
  try clear c11b0
  try clear c11b1
  try clear c12
  try clear c13
  try clear c15
  try clear c15b0
  try clear c15b1
  try clear c16
  try clear c17
  try clear c18
  try clear c19
  try clear c20
  try clear z10_0
  try clear z10_1
  try clear z10_10
  try clear z10_11
  try clear z10_12
  try clear z10_13
  try clear z10_2
  try clear z10_3
  try clear z10_4
  try clear z10_5
  try clear z10_6
  try clear z10_7
  try clear z10_8
  try clear z10_9
  try clear z14_0
  try clear z14_1
  try clear z14_10
  try clear z14_11
  try clear z14_12
  try clear z14_13
  try clear z14_2
  try clear z14_3
  try clear z14_4
  try clear z14_5
  try clear z14_6
  try clear z14_7
  try clear z14_8
  try clear z14_9
  try clear z18_0
  try clear z18_1
  try clear z18_10
  try clear z18_11
  try clear z18_12
  try clear z18_13
  try clear z18_2
  try clear z18_3
  try clear z18_4
  try clear z18_5
  try clear z18_6
  try clear z18_7
  try clear z18_8
  try clear z18_9
  try clear z21_0
  try clear z21_1
  try clear z21_10
  try clear z21_11
  try clear z21_12
  try clear z21_13
  try clear z21_2
  try clear z21_3
  try clear z21_4
  try clear z21_5
  try clear z21_6
  try clear z21_7
  try clear z21_8
  try clear z21_9
  try clear f10_0
  try clear f10_1
  try clear f10_10
  try clear f10_11
  try clear f10_12
  try clear f10_13
  try clear f10_2
  try clear f10_3
  try clear f10_4
  try clear f10_5
  try clear f10_6
  try clear f10_7
  try clear f10_8
  try clear f10_9
  try clear f14_0
  try clear f14_1
  try clear f14_10
  try clear f14_11
  try clear f14_12
  try clear f14_13
  try clear f14_2
  try clear f14_3
  try clear f14_4
  try clear f14_5
  try clear f14_6
  try clear f14_7
  try clear f14_8
  try clear f14_9
  try clear f18_0
  try clear f18_1
  try clear f18_10
  try clear f18_11
  try clear f18_12
  try clear f18_13
  try clear f18_2
  try clear f18_3
  try clear f18_4
  try clear f18_5
  try clear f18_6
  try clear f18_7
  try clear f18_8
  try clear f18_9
  try clear f21_0
  try clear f21_1
  try clear f21_10
  try clear f21_11
  try clear f21_12
  try clear f21_13
  try clear f21_2
  try clear f21_3
  try clear f21_4
  try clear f21_5
  try clear f21_6
  try clear f21_7
  try clear f21_8
  try clear f21_9
  obtain ⟨kq, x22_2, rfl, HA, HJ2, B313, B314, B315, HB⟩ := hcut
  cases kq with
  | zero => exact absurd HA.out (by simp [hogsheadref17_Heard.j0])
  | succ kj2 =>
   have H := HA.out
   clear HA
   simp only [hogsheadref17_Heard.j0] at H
   by_cases c22 : x22_2 = true
   ·subst c22
    have H1 : (some (a0_0, a0_1, a0_2, a0_3, a0_4, a0_5, a0_6, a0_7, a0_8, a0_9, a0_10, a0_11, a0_12, a0_13)) = some (r1, r2, r3, r4, r5, r6, r7, r8, r9, r10, r11, r12, r13, r14) := by rw [if_pos rfl] at H; exact H
    clear H
    have H := H1
    clear H1
    simp only [Option.some.injEq, Prod.mk.injEq] at H
    obtain ⟨rfl, rfl, rfl, rfl, rfl, rfl, rfl, rfl, rfl, rfl, rfl, rfl, rfl, rfl⟩ := H
    have hnb23 := NB313_314.out
    have hnc23 := NB314_313.out
    have hnb24 := NB313_315.out
    have hnc24 := NB315_313.out
    obtain ⟨z25_0, z25_1, z25_2, z25_3, z25_4, z25_5, z25_6, z25_7, z25_8, z25_9, z25_10, z25_11, z25_12, z25_13, f25_0, f25_1, f25_2, f25_3, f25_4, f25_5, f25_6, f25_7, f25_8, f25_9, f25_10, f25_11, f25_12, f25_13⟩ := cells14 B313.out
    have hnb26 := NB315_314.out
    have hnc26 := NB314_315.out
    obtain ⟨z27_0, z27_1, z27_2, z27_3, z27_4, z27_5, z27_6, z27_7, z27_8, z27_9, z27_10, z27_11, z27_12, z27_13, f27_0, f27_1, f27_2, f27_3, f27_4, f27_5, f27_6, f27_7, f27_8, f27_9, f27_10, f27_11, f27_12, f27_13⟩ := cells14 B315.out
    go_wp2
    refine bodyPost_ret (results_cell_row rfl _ _ g315 28 #[.int .i64 a0_0, .int .i64 a0_1, .string a0_2, .string a0_3, .int .i64 a0_4, .int .i64 a0_5, .int .i64 a0_6, .int .i64 a0_7, .int .i64 a0_8, .int .u32 a0_9, .int .i64 a0_10, .int .i64 a0_11, .string a0_12, .bool a0_13] (0, 0) _ rfl (by (with_reducible repeat first | refine qN ?_ _ | refine qD ?_ | refine qA ?_ _); apply puts14; (with_reducible repeat first | refine qN ?_ _ | refine qD ?_ | refine qA ?_ _); exact B315.out) Try.underlying28 rfl (by kernel_rfl)) rfl ?_
    exact ⟨by first | rfl | (simp [errW_none, errW_some] <;> rfl) | (simp [*, errW_none, errW_some] <;> rfl), by repeat (first | (with_reducible first | exact HB.out | apply eA | apply eN | apply eD | refine eS ?_ GE313.out | refine eS ?_ GE314.out | refine eS ?_ GE315.out) | exact HB.out)⟩
   ·replace c22 := Bool.eq_false_iff.mpr c22
    subst c22
    have H1 : (if a1_0 = 0 then (if a0_5 = 2 then (some (a0_0, a0_1, a0_2, a0_3, wrap64 (a0_4 + 1), 3, a0_6, a1_2, a0_8, a0_9, 0, a0_11, a0_12, a0_13)) else (if a0_5 = 5 then (if a1_5 = true then (some (a0_0, a0_1, a0_2, a0_3, a0_4, 6, a1_1, a1_2, a1_3, a1_4, a0_10, a0_11, a0_12, true)) else ((hogsheadref17_ends.f a0_0 a0_1 a0_2 a0_3 a0_4 a0_5 a0_6 a0_7 a0_8 a0_9 a0_10 a0_11 a0_12 a0_13 7).bind fun bt330 => (some (bt330.1, bt330.2.1, bt330.2.2.1, bt330.2.2.2.1, bt330.2.2.2.2.1, bt330.2.2.2.2.2.1, bt330.2.2.2.2.2.2.1, bt330.2.2.2.2.2.2.2.1, bt330.2.2.2.2.2.2.2.2.1, bt330.2.2.2.2.2.2.2.2.2.1, bt330.2.2.2.2.2.2.2.2.2.2.1, bt330.2.2.2.2.2.2.2.2.2.2.2.1, bt330.2.2.2.2.2.2.2.2.2.2.2.2.1, bt330.2.2.2.2.2.2.2.2.2.2.2.2.2)))) else ((hogsheadref17_ends.f a0_0 a0_1 a0_2 a0_3 a0_4 a0_5 a0_6 a0_7 a0_8 a0_9 a0_10 a0_11 a0_12 a1_5 0).bind fun bt344 => (some (bt344.1, bt344.2.1, bt344.2.2.1, bt344.2.2.2.1, bt344.2.2.2.2.1, bt344.2.2.2.2.2.1, bt344.2.2.2.2.2.2.1, bt344.2.2.2.2.2.2.2.1, bt344.2.2.2.2.2.2.2.2.1, bt344.2.2.2.2.2.2.2.2.2.1, bt344.2.2.2.2.2.2.2.2.2.2.1, bt344.2.2.2.2.2.2.2.2.2.2.2.1, bt344.2.2.2.2.2.2.2.2.2.2.2.2.1, bt344.2.2.2.2.2.2.2.2.2.2.2.2.2))))) else ((hogsheadref17_ends.f a0_0 a0_1 a0_2 a0_3 a0_4 a0_5 a0_6 a0_7 a0_8 a0_9 a0_10 a0_11 a0_12 a0_13 a1_0).bind fun bt316 => (some (bt316.1, bt316.2.1, bt316.2.2.1, bt316.2.2.2.1, bt316.2.2.2.2.1, bt316.2.2.2.2.2.1, bt316.2.2.2.2.2.2.1, bt316.2.2.2.2.2.2.2.1, bt316.2.2.2.2.2.2.2.2.1, bt316.2.2.2.2.2.2.2.2.2.1, bt316.2.2.2.2.2.2.2.2.2.2.1, bt316.2.2.2.2.2.2.2.2.2.2.2.1, bt316.2.2.2.2.2.2.2.2.2.2.2.2.1, bt316.2.2.2.2.2.2.2.2.2.2.2.2.2)))) = some (r1, r2, r3, r4, r5, r6, r7, r8, r9, r10, r11, r12, r13, r14) := by rw [if_neg (show ¬ (false = true) by decide)] at H; exact H
    clear H
    have H := H1
    clear H1
    by_cases c28 : a1_0 = 0
    ·rw [if_pos c28] at H
     have c28b0 : (a1_0 == 0) = true := beq_iff_eq.mpr c28
     have c28b1 : (a1_0 != 0) = false := bne_eq_false_iff_eq.mpr c28
     clear c28
     by_cases c29 : a0_5 = 2
     ·rw [if_pos c29] at H
      have c29b0 : (a0_5 == 2) = true := beq_iff_eq.mpr c29
      have c29b1 : (a0_5 != 2) = false := bne_eq_false_iff_eq.mpr c29
      clear c29
      simp only [Option.some.injEq, Prod.mk.injEq] at H
      obtain ⟨rfl, rfl, rfl, rfl, rfl, rfl, rfl, rfl, rfl, rfl, rfl, rfl, rfl, rfl⟩ := H
      have hnb30 := NB314_313.out
      have hnc30 := NB313_314.out
      have hnb31 := NB314_315.out
      have hnc31 := NB315_314.out
      obtain ⟨z32_0, z32_1, z32_2, z32_3, z32_4, z32_5, f32_0, f32_1, f32_2, f32_3, f32_4, f32_5⟩ := cells6 B314.out
      have hnb33 := NB313_315.out
      have hnc33 := NB315_313.out
      obtain ⟨z34_0, z34_1, z34_2, z34_3, z34_4, z34_5, z34_6, z34_7, z34_8, z34_9, z34_10, z34_11, z34_12, z34_13, f34_0, f34_1, f34_2, f34_3, f34_4, f34_5, f34_6, f34_7, f34_8, f34_9, f34_10, f34_11, f34_12, f34_13⟩ := cells14 B313.out
      obtain ⟨z35_0, z35_1, z35_2, z35_3, z35_4, z35_5, z35_6, z35_7, z35_8, z35_9, z35_10, z35_11, z35_12, z35_13, f35_0, f35_1, f35_2, f35_3, f35_4, f35_5, f35_6, f35_7, f35_8, f35_9, f35_10, f35_11, f35_12, f35_13⟩ := cells14 B315.out
      go_wp2
      refine bodyPost_ret (results_cell_row rfl _ _ g315 28 #[.int .i64 a0_0, .int .i64 a0_1, .string a0_2, .string a0_3, .int .i64 (wrap64 (a0_4 + 1)), .int .i64 3, .int .i64 a0_6, .int .i64 a1_2, .int .i64 a0_8, .int .u32 a0_9, .int .i64 0, .int .i64 a0_11, .string a0_12, .bool a0_13] (0, 0) _ rfl (by (with_reducible repeat first | refine qN ?_ _ | refine qD ?_ | refine qA ?_ _); apply puts14; (with_reducible repeat first | refine qN ?_ _ | refine qD ?_ | refine qA ?_ _); (iterate 4 (refine qR ?_ NB315_313.out _; (with_reducible repeat first | refine qN ?_ _ | refine qD ?_ | refine qA ?_ _))); exact B315.out) Try.underlying28 rfl (by kernel_rfl)) rfl ?_
      exact ⟨by first | rfl | (simp [errW_none, errW_some] <;> rfl) | (simp [*, errW_none, errW_some] <;> rfl), by repeat (first | (with_reducible first | exact HB.out | apply eA | apply eN | apply eD | refine eS ?_ GE313.out | refine eS ?_ GE314.out | refine eS ?_ GE315.out) | exact HB.out)⟩
     ·rw [if_neg c29] at H
      have c29b0 : (a0_5 == 2) = false := beq_eq_false_iff_ne.mpr c29
      have c29b1 : (a0_5 != 2) = true := bne_iff_ne.mpr c29
      by_cases c36 : a0_5 = 5
      ·rw [if_pos c36] at H
       have c36b0 : (a0_5 == 5) = true := beq_iff_eq.mpr c36
       have c36b1 : (a0_5 != 5) = false := bne_eq_false_iff_eq.mpr c36
       clear c36
       by_cases c37 : a1_5 = true
       ·subst c37
        have H1 : (some (a0_0, a0_1, a0_2, a0_3, a0_4, 6, a1_1, a1_2, a1_3, a1_4, a0_10, a0_11, a0_12, true)) = some (r1, r2, r3, r4, r5, r6, r7, r8, r9, r10, r11, r12, r13, r14) := by rw [if_pos rfl] at H; exact H
        clear H
        have H := H1
        clear H1
        simp only [Option.some.injEq, Prod.mk.injEq] at H
        obtain ⟨rfl, rfl, rfl, rfl, rfl, rfl, rfl, rfl, rfl, rfl, rfl, rfl, rfl, rfl⟩ := H
        have hnb38 := NB314_313.out
        have hnc38 := NB313_314.out
        have hnb39 := NB314_315.out
        have hnc39 := NB315_314.out
        obtain ⟨z40_0, z40_1, z40_2, z40_3, z40_4, z40_5, f40_0, f40_1, f40_2, f40_3, f40_4, f40_5⟩ := cells6 B314.out
        have hnb41 := NB313_315.out
        have hnc41 := NB315_313.out
        obtain ⟨z42_0, z42_1, z42_2, z42_3, z42_4, z42_5, z42_6, z42_7, z42_8, z42_9, z42_10, z42_11, z42_12, z42_13, f42_0, f42_1, f42_2, f42_3, f42_4, f42_5, f42_6, f42_7, f42_8, f42_9, f42_10, f42_11, f42_12, f42_13⟩ := cells14 B313.out
        obtain ⟨z43_0, z43_1, z43_2, z43_3, z43_4, z43_5, z43_6, z43_7, z43_8, z43_9, z43_10, z43_11, z43_12, z43_13, f43_0, f43_1, f43_2, f43_3, f43_4, f43_5, f43_6, f43_7, f43_8, f43_9, f43_10, f43_11, f43_12, f43_13⟩ := cells14 B315.out
        go_wp2
        refine bodyPost_ret (results_cell_row rfl _ _ g315 28 #[.int .i64 a0_0, .int .i64 a0_1, .string a0_2, .string a0_3, .int .i64 a0_4, .int .i64 6, .int .i64 a1_1, .int .i64 a1_2, .int .i64 a1_3, .int .u32 a1_4, .int .i64 a0_10, .int .i64 a0_11, .string a0_12, .bool true] (0, 0) _ rfl (by (with_reducible repeat first | refine qN ?_ _ | refine qD ?_ | refine qA ?_ _); apply puts14; (with_reducible repeat first | refine qN ?_ _ | refine qD ?_ | refine qA ?_ _); (iterate 6 (refine qR ?_ NB315_313.out _; (with_reducible repeat first | refine qN ?_ _ | refine qD ?_ | refine qA ?_ _))); exact B315.out) Try.underlying28 rfl (by kernel_rfl)) rfl ?_
        exact ⟨by first | rfl | (simp [errW_none, errW_some] <;> rfl) | (simp [*, errW_none, errW_some] <;> rfl), by repeat (first | (with_reducible first | exact HB.out | apply eA | apply eN | apply eD | refine eS ?_ GE313.out | refine eS ?_ GE314.out | refine eS ?_ GE315.out) | exact HB.out)⟩
       ·replace c37 := Bool.eq_false_iff.mpr c37
        subst c37
        have H1 : ((hogsheadref17_ends.f a0_0 a0_1 a0_2 a0_3 a0_4 a0_5 a0_6 a0_7 a0_8 a0_9 a0_10 a0_11 a0_12 a0_13 7).bind fun bt330 => (some (bt330.1, bt330.2.1, bt330.2.2.1, bt330.2.2.2.1, bt330.2.2.2.2.1, bt330.2.2.2.2.2.1, bt330.2.2.2.2.2.2.1, bt330.2.2.2.2.2.2.2.1, bt330.2.2.2.2.2.2.2.2.1, bt330.2.2.2.2.2.2.2.2.2.1, bt330.2.2.2.2.2.2.2.2.2.2.1, bt330.2.2.2.2.2.2.2.2.2.2.2.1, bt330.2.2.2.2.2.2.2.2.2.2.2.2.1, bt330.2.2.2.2.2.2.2.2.2.2.2.2.2))) = some (r1, r2, r3, r4, r5, r6, r7, r8, r9, r10, r11, r12, r13, r14) := by rw [if_neg (show ¬ (false = true) by decide)] at H; exact H
        clear H
        have H := H1
        clear H1
        replace H := Option.bind_eq_some_iff.mp H
        obtain ⟨⟨t330, t331, t332, t333, t334, t335, t336, t337, t338, t339, t340, t341, t342, t343⟩, A440, H⟩ := H
        replace H : (some (t330, t331, t332, t333, t334, t335, t336, t337, t338, t339, t340, t341, t342, t343)) = some (r1, r2, r3, r4, r5, r6, r7, r8, r9, r10, r11, r12, r13, r14) := H
        have A44 := qM A440
        clear A440
        simp only [Option.some.injEq, Prod.mk.injEq] at H
        obtain ⟨rfl, rfl, rfl, rfl, rfl, rfl, rfl, rfl, rfl, rfl, rfl, rfl, rfl, rfl⟩ := H
        have hnb45 := NB314_313.out
        have hnc45 := NB313_314.out
        have hnb46 := NB314_315.out
        have hnc46 := NB315_314.out
        obtain ⟨z47_0, z47_1, z47_2, z47_3, z47_4, z47_5, f47_0, f47_1, f47_2, f47_3, f47_4, f47_5⟩ := cells6 B314.out
        have hnb48 := NB313_315.out
        have hnc48 := NB315_313.out
        obtain ⟨z49_0, z49_1, z49_2, z49_3, z49_4, z49_5, z49_6, z49_7, z49_8, z49_9, z49_10, z49_11, z49_12, z49_13, f49_0, f49_1, f49_2, f49_3, f49_4, f49_5, f49_6, f49_7, f49_8, f49_9, f49_10, f49_11, f49_12, f49_13⟩ := cells14 B313.out
        go_wp2_with (first | ((with_reducible refine gate_callee (f := 30) rfl ?_); refine goesL_ (some 51) rfl rfl Try.func30 (by kernel_rfl) rfl #[.agg #[.int .i64 a0_0, .int .i64 a0_1, .string a0_2, .string a0_3, .int .i64 a0_4, .int .i64 a0_5, .int .i64 a0_6, .int .i64 a0_7, .int .i64 a0_8, .int .u32 a0_9, .int .i64 a0_10, .int .i64 a0_11, .string a0_12, .bool a0_13], .int .i64 7] rfl (by (try simp only [List.map_toArray, List.map_cons, List.map_nil]); first | done | rfl | (simp only [List.length_drop, List.length_take]; rfl)) ?_; (with_reducible refine (hogsheadref17_ends.calls a0_0 a0_1 a0_2 a0_3 a0_4 a0_5 a0_6 a0_7 a0_8 a0_9 a0_10 a0_11 a0_12 a0_13 7 t330 t331 t332 t333 t334 t335 t336 t337 t338 t339 t340 t341 t342 t343 _ A44.out).mono ?_); rintro e w50 ⟨rfl, hb⟩; refine ⟨_, rfl, ?_⟩; have n0_ := qM (qB (g := g313) (by (with_reducible repeat first | refine qN ?_ _ | refine qD ?_ | refine qA ?_ _); exact B313.out) hb); have n1_ := qM (qB (g := g314) (by (with_reducible repeat first | refine qN ?_ _ | refine qD ?_ | refine qA ?_ _); exact B314.out) hb); have n2_ := qM (qB (g := g315) (by (with_reducible repeat first | refine qN ?_ _ | refine qD ?_ | refine qA ?_ _); exact B315.out) hb); have n3_ := qM (eT (by repeat (first | (with_reducible first | exact HB.out | apply eA | apply eN | apply eD | refine eS ?_ GE313.out | refine eS ?_ GE314.out | refine eS ?_ GE315.out) | exact HB.out)) hb); clear B313; clear B314; clear B315; clear HB; have B313 := n0_; have B314 := n1_; have B315 := n2_; have HB := n3_; clear n0_ n1_ n2_ n3_; (try clear hb); (try clear hb2); (try clear hk); (try clear hi); obtain ⟨z51_0, z51_1, z51_2, z51_3, z51_4, z51_5, z51_6, z51_7, z51_8, z51_9, z51_10, z51_11, z51_12, z51_13, f51_0, f51_1, f51_2, f51_3, f51_4, f51_5, f51_6, f51_7, f51_8, f51_9, f51_10, f51_11, f51_12, f51_13⟩ := cells14 B315.out))
        refine bodyPost_ret (results_cell_row rfl _ _ g315 28 #[.int .i64 t330, .int .i64 t331, .string t332, .string t333, .int .i64 t334, .int .i64 t335, .int .i64 t336, .int .i64 t337, .int .i64 t338, .int .u32 t339, .int .i64 t340, .int .i64 t341, .string t342, .bool t343] (0, 0) _ rfl (by (with_reducible repeat first | refine qN ?_ _ | refine qD ?_ | refine qA ?_ _); apply puts14; (with_reducible repeat first | refine qN ?_ _ | refine qD ?_ | refine qA ?_ _); exact B315.out) Try.underlying28 rfl (by kernel_rfl)) rfl ?_
        exact ⟨by first | rfl | (simp [errW_none, errW_some] <;> rfl) | (simp [*, errW_none, errW_some] <;> rfl), by repeat (first | (with_reducible first | exact HB.out | apply eA | apply eN | apply eD | refine eS ?_ GE313.out | refine eS ?_ GE314.out | refine eS ?_ GE315.out) | exact HB.out)⟩
      ·rw [if_neg c36] at H
       have c36b0 : (a0_5 == 5) = false := beq_eq_false_iff_ne.mpr c36
       have c36b1 : (a0_5 != 5) = true := bne_iff_ne.mpr c36
       replace H := Option.bind_eq_some_iff.mp H
       obtain ⟨⟨t344, t345, t346, t347, t348, t349, t350, t351, t352, t353, t354, t355, t356, t357⟩, A520, H⟩ := H
       replace H : (some (t344, t345, t346, t347, t348, t349, t350, t351, t352, t353, t354, t355, t356, t357)) = some (r1, r2, r3, r4, r5, r6, r7, r8, r9, r10, r11, r12, r13, r14) := H
       have A52 := qM A520
       clear A520
       simp only [Option.some.injEq, Prod.mk.injEq] at H
       obtain ⟨rfl, rfl, rfl, rfl, rfl, rfl, rfl, rfl, rfl, rfl, rfl, rfl, rfl, rfl⟩ := H
       have hnb53 := NB314_313.out
       have hnc53 := NB313_314.out
       have hnb54 := NB314_315.out
       have hnc54 := NB315_314.out
       obtain ⟨z55_0, z55_1, z55_2, z55_3, z55_4, z55_5, f55_0, f55_1, f55_2, f55_3, f55_4, f55_5⟩ := cells6 B314.out
       have hnb56 := NB313_315.out
       have hnc56 := NB315_313.out
       obtain ⟨z57_0, z57_1, z57_2, z57_3, z57_4, z57_5, z57_6, z57_7, z57_8, z57_9, z57_10, z57_11, z57_12, z57_13, f57_0, f57_1, f57_2, f57_3, f57_4, f57_5, f57_6, f57_7, f57_8, f57_9, f57_10, f57_11, f57_12, f57_13⟩ := cells14 B313.out
       go_wp2_with (first | ((with_reducible refine gate_callee (f := 30) rfl ?_); refine goesL_ (some 71) rfl rfl Try.func30 (by kernel_rfl) rfl #[.agg #[.int .i64 a0_0, .int .i64 a0_1, .string a0_2, .string a0_3, .int .i64 a0_4, .int .i64 a0_5, .int .i64 a0_6, .int .i64 a0_7, .int .i64 a0_8, .int .u32 a0_9, .int .i64 a0_10, .int .i64 a0_11, .string a0_12, .bool a1_5], .int .i64 0] rfl (by (try simp only [List.map_toArray, List.map_cons, List.map_nil]); first | done | rfl | (simp only [List.length_drop, List.length_take]; rfl)) ?_; (with_reducible refine (hogsheadref17_ends.calls a0_0 a0_1 a0_2 a0_3 a0_4 a0_5 a0_6 a0_7 a0_8 a0_9 a0_10 a0_11 a0_12 a1_5 0 t344 t345 t346 t347 t348 t349 t350 t351 t352 t353 t354 t355 t356 t357 _ A52.out).mono ?_); rintro e w58 ⟨rfl, hb⟩; refine ⟨_, rfl, ?_⟩; have n0_ := qM (qB (g := g313) (o := .cells #[.int .i64 a0_0, .int .i64 a0_1, .string a0_2, .string a0_3, .int .i64 a0_4, .int .i64 a0_5, .int .i64 a0_6, .int .i64 a0_7, .int .i64 a0_8, .int .u32 a0_9, .int .i64 a0_10, .int .i64 a0_11, .string a0_12, .bool a1_5] 28 (0, 0)) (by (with_reducible repeat first | refine qN ?_ _ | refine qD ?_ | refine qA ?_ _); refine qP (cs := #[.int .i64 a0_0, .int .i64 a0_1, .string a0_2, .string a0_3, .int .i64 a0_4, .int .i64 a0_5, .int .i64 a0_6, .int .i64 a0_7, .int .i64 a0_8, .int .u32 a0_9, .int .i64 a0_10, .int .i64 a0_11, .string a0_12, .bool a0_13]) ?_ 13 _ rfl; (with_reducible repeat first | refine qN ?_ _ | refine qD ?_ | refine qA ?_ _); exact B313.out) hb); have n1_ := qM (qB (g := g314) (o := .cells #[.int .i64 a1_0, .int .i64 a1_1, .int .i64 a1_2, .int .i64 a1_3, .int .u32 a1_4, .bool a1_5] 42 (0, 0)) (by (with_reducible repeat first | refine qN ?_ _ | refine qD ?_ | refine qA ?_ _); refine qR ?_ NB314_313.out _; (with_reducible repeat first | refine qN ?_ _ | refine qD ?_ | refine qA ?_ _); exact B314.out) hb); have n2_ := qM (qB (g := g315) (o := .cells #[.int .i64 0, .int .i64 0, .string (⟨#[]⟩ : ByteArray), .string (⟨#[]⟩ : ByteArray), .int .i64 0, .int .i64 0, .int .i64 0, .int .i64 0, .int .i64 0, .int .u32 0, .int .i64 0, .int .i64 0, .string (⟨#[]⟩ : ByteArray), .bool false] 28 (0, 0)) (by (with_reducible repeat first | refine qN ?_ _ | refine qD ?_ | refine qA ?_ _); refine qR ?_ NB315_313.out _; (with_reducible repeat first | refine qN ?_ _ | refine qD ?_ | refine qA ?_ _); exact B315.out) hb); have n3_ := qM (eT (by repeat (first | (with_reducible first | exact HB.out | apply eA | apply eN | apply eD | refine eS ?_ GE313.out | refine eS ?_ GE314.out | refine eS ?_ GE315.out) | exact HB.out)) hb); clear B313; clear B314; clear B315; clear HB; have B313 := n0_; have B314 := n1_; have B315 := n2_; have HB := n3_; clear n0_ n1_ n2_ n3_; (try clear hb); (try clear hb2); (try clear hk); (try clear hi); obtain ⟨z59_0, z59_1, z59_2, z59_3, z59_4, z59_5, z59_6, z59_7, z59_8, z59_9, z59_10, z59_11, z59_12, z59_13, f59_0, f59_1, f59_2, f59_3, f59_4, f59_5, f59_6, f59_7, f59_8, f59_9, f59_10, f59_11, f59_12, f59_13⟩ := cells14 B315.out))
       refine bodyPost_ret (results_cell_row rfl _ _ g315 28 #[.int .i64 t344, .int .i64 t345, .string t346, .string t347, .int .i64 t348, .int .i64 t349, .int .i64 t350, .int .i64 t351, .int .i64 t352, .int .u32 t353, .int .i64 t354, .int .i64 t355, .string t356, .bool t357] (0, 0) _ rfl (by (with_reducible repeat first | refine qN ?_ _ | refine qD ?_ | refine qA ?_ _); apply puts14; (with_reducible repeat first | refine qN ?_ _ | refine qD ?_ | refine qA ?_ _); exact B315.out) Try.underlying28 rfl (by kernel_rfl)) rfl ?_
       exact ⟨by first | rfl | (simp [errW_none, errW_some] <;> rfl) | (simp [*, errW_none, errW_some] <;> rfl), by repeat (first | (with_reducible first | exact HB.out | apply eA | apply eN | apply eD | refine eS ?_ GE313.out | refine eS ?_ GE314.out | refine eS ?_ GE315.out) | exact HB.out)⟩
    ·rw [if_neg c28] at H
     have c28b0 : (a1_0 == 0) = false := beq_eq_false_iff_ne.mpr c28
     have c28b1 : (a1_0 != 0) = true := bne_iff_ne.mpr c28
     replace H := Option.bind_eq_some_iff.mp H
     obtain ⟨⟨t316, t317, t318, t319, t320, t321, t322, t323, t324, t325, t326, t327, t328, t329⟩, A600, H⟩ := H
     replace H : (some (t316, t317, t318, t319, t320, t321, t322, t323, t324, t325, t326, t327, t328, t329)) = some (r1, r2, r3, r4, r5, r6, r7, r8, r9, r10, r11, r12, r13, r14) := H
     have A60 := qM A600
     clear A600
     simp only [Option.some.injEq, Prod.mk.injEq] at H
     obtain ⟨rfl, rfl, rfl, rfl, rfl, rfl, rfl, rfl, rfl, rfl, rfl, rfl, rfl, rfl⟩ := H
     have hnb61 := NB314_313.out
     have hnc61 := NB313_314.out
     have hnb62 := NB314_315.out
     have hnc62 := NB315_314.out
     obtain ⟨z63_0, z63_1, z63_2, z63_3, z63_4, z63_5, f63_0, f63_1, f63_2, f63_3, f63_4, f63_5⟩ := cells6 B314.out
     have hnb64 := NB313_315.out
     have hnc64 := NB315_313.out
     obtain ⟨z65_0, z65_1, z65_2, z65_3, z65_4, z65_5, z65_6, z65_7, z65_8, z65_9, z65_10, z65_11, z65_12, z65_13, f65_0, f65_1, f65_2, f65_3, f65_4, f65_5, f65_6, f65_7, f65_8, f65_9, f65_10, f65_11, f65_12, f65_13⟩ := cells14 B313.out
     go_wp2_with (first | ((with_reducible refine gate_callee (f := 30) rfl ?_); refine goesL_ (some 30) rfl rfl Try.func30 (by kernel_rfl) rfl #[.agg #[.int .i64 a0_0, .int .i64 a0_1, .string a0_2, .string a0_3, .int .i64 a0_4, .int .i64 a0_5, .int .i64 a0_6, .int .i64 a0_7, .int .i64 a0_8, .int .u32 a0_9, .int .i64 a0_10, .int .i64 a0_11, .string a0_12, .bool a0_13], .int .i64 a1_0] rfl (by (try simp only [List.map_toArray, List.map_cons, List.map_nil]); first | done | rfl | (simp only [List.length_drop, List.length_take]; rfl)) ?_; (with_reducible refine (hogsheadref17_ends.calls a0_0 a0_1 a0_2 a0_3 a0_4 a0_5 a0_6 a0_7 a0_8 a0_9 a0_10 a0_11 a0_12 a0_13 a1_0 t316 t317 t318 t319 t320 t321 t322 t323 t324 t325 t326 t327 t328 t329 _ A60.out).mono ?_); rintro e w66 ⟨rfl, hb⟩; refine ⟨_, rfl, ?_⟩; have n0_ := qM (qB (g := g313) (by (with_reducible repeat first | refine qN ?_ _ | refine qD ?_ | refine qA ?_ _); exact B313.out) hb); have n1_ := qM (qB (g := g314) (by (with_reducible repeat first | refine qN ?_ _ | refine qD ?_ | refine qA ?_ _); exact B314.out) hb); have n2_ := qM (qB (g := g315) (by (with_reducible repeat first | refine qN ?_ _ | refine qD ?_ | refine qA ?_ _); exact B315.out) hb); have n3_ := qM (eT (by repeat (first | (with_reducible first | exact HB.out | apply eA | apply eN | apply eD | refine eS ?_ GE313.out | refine eS ?_ GE314.out | refine eS ?_ GE315.out) | exact HB.out)) hb); clear B313; clear B314; clear B315; clear HB; have B313 := n0_; have B314 := n1_; have B315 := n2_; have HB := n3_; clear n0_ n1_ n2_ n3_; (try clear hb); (try clear hb2); (try clear hk); (try clear hi); obtain ⟨z67_0, z67_1, z67_2, z67_3, z67_4, z67_5, z67_6, z67_7, z67_8, z67_9, z67_10, z67_11, z67_12, z67_13, f67_0, f67_1, f67_2, f67_3, f67_4, f67_5, f67_6, f67_7, f67_8, f67_9, f67_10, f67_11, f67_12, f67_13⟩ := cells14 B315.out))
     refine bodyPost_ret (results_cell_row rfl _ _ g315 28 #[.int .i64 t316, .int .i64 t317, .string t318, .string t319, .int .i64 t320, .int .i64 t321, .int .i64 t322, .int .i64 t323, .int .i64 t324, .int .u32 t325, .int .i64 t326, .int .i64 t327, .string t328, .bool t329] (0, 0) _ rfl (by (with_reducible repeat first | refine qN ?_ _ | refine qD ?_ | refine qA ?_ _); apply puts14; (with_reducible repeat first | refine qN ?_ _ | refine qD ?_ | refine qA ?_ _); exact B315.out) Try.underlying28 rfl (by kernel_rfl)) rfl ?_
     exact ⟨by first | rfl | (simp [errW_none, errW_some] <;> rfl) | (simp [*, errW_none, errW_some] <;> rfl), by repeat (first | (with_reducible first | exact HB.out | apply eA | apply eN | apply eD | refine eS ?_ GE313.out | refine eS ?_ GE314.out | refine eS ?_ GE315.out) | exact HB.out)⟩

end Go.Proofs.Ytmjmmgefkebggaa.PAll
