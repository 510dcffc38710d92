/- Functions of the program as plain Lean functions, and that each call comes to what they say. Laid by a program of this session (hprint.py); Lean checks it. -/
import Derived.Test.YtmjmmgefkebggaaPAllx0
namespace Go.Proofs.Ytmjmmgefkebggaa.PAll
open Go.RowKit Go.Proofs.YtmjmmgefkebggaaW.PrintWords Go.Proofs.YtmjmmgefkebggaaW.PrintLast Go.Proofs.YtmjmmgefkebggaaW.PrintMore
attribute [local go_sem] max2_int min2_int max_two min_two max_three min_three max_four min_four   -- for this text's walks alone
set_option linter.unusedVariables false
set_option linter.unusedSimpArgs false

/-! ### deed_New: function 10 -/
mutual
def deed_New.j0 : Nat → Int → ByteArray → Bool → Int → Int → ByteArray → ByteArray → Int → Int → Int → Int → Int → Int → Int → Int → ByteArray → Bool → Option (Int × Int × ByteArray × ByteArray × Int × Int × Int × Int × Int × Int × Int × Int × ByteArray × Bool × Int)
 | 0, _, _, _, _, _, _, _, _, _, _, _, _, _, _, _, _, _ => none
 | k + 1, x1, x3, x44, x103000, x103001, x103002, x103003, x103004, x103005, x103006, x103007, x103008, x103009, x103010, x103011, x103012, x103013 => if x44 = true then (some (0, 0, (⟨#[]⟩ : ByteArray), (⟨#[]⟩ : ByteArray), 0, 0, 0, 0, 0, 0, 0, 0, (⟨#[]⟩ : ByteArray), false, 1)) else (if x1 = 1 then (if (x3.size : Int) < 1 then (deed_New.j1 k true x103000 x103001 x103002 x103003 x103004 x103005 x103006 x103007 x103008 x103009 x103010 x103011 x103012 x103013) else (deed_New.j1 k (decide ((x3.size : Int) > 32)) x103000 x103001 x103002 x103003 x103004 x103005 x103006 x103007 x103008 x103009 x103010 x103011 x103012 x103013)) else (if x1 = 2 then (if x3.toList = ([] : List UInt8) then (some (x103000, x103001, x103002, x103003, x103004, 5, x103006, x103007, x103008, x103009, x103010, x103011, x103012, x103013, 0)) else (some (0, 0, (⟨#[]⟩ : ByteArray), (⟨#[]⟩ : ByteArray), 0, 0, 0, 0, 0, 0, 0, 0, (⟨#[]⟩ : ByteArray), false, 1))) else (if x1 = 3 then (if x3.toList = ([] : List UInt8) then (some (x103000, x103001, x103002, x103003, x103004, 7, x103006, x103007, x103008, x103009, x103010, x103011, x103012, x103013, 0)) else (some (0, 0, (⟨#[]⟩ : ByteArray), (⟨#[]⟩ : ByteArray), 0, 0, 0, 0, 0, 0, 0, 0, (⟨#[]⟩ : ByteArray), false, 1))) else (some (0, 0, (⟨#[]⟩ : ByteArray), (⟨#[]⟩ : ByteArray), 0, 0, 0, 0, 0, 0, 0, 0, (⟨#[]⟩ : ByteArray), false, 1)))))
def deed_New.j1 : Nat → Bool → Int → Int → ByteArray → ByteArray → Int → Int → Int → Int → Int → Int → Int → Int → ByteArray → Bool → Option (Int × Int × ByteArray × ByteArray × Int × Int × Int × Int × Int × Int × Int × Int × ByteArray × Bool × Int)
 | 0, _, _, _, _, _, _, _, _, _, _, _, _, _, _, _ => none
 | k + 1, x57, x103000, x103001, x103002, x103003, x103004, x103005, x103006, x103007, x103008, x103009, x103010, x103011, x103012, x103013 => if x57 = true then (some (0, 0, (⟨#[]⟩ : ByteArray), (⟨#[]⟩ : ByteArray), 0, 0, 0, 0, 0, 0, 0, 0, (⟨#[]⟩ : ByteArray), false, 4)) else (some (x103000, x103001, x103002, x103003, x103004, 1, x103006, x103007, x103008, x103009, x103010, x103011, x103012, x103013, 0))
end
def deed_New.f (k : Nat) (a0 : Int) (a1 : Int) (a2 : ByteArray) (a3 : ByteArray) (a4 : Int) : Option (Int × Int × ByteArray × ByteArray × Int × Int × Int × Int × Int × Int × Int × Int × ByteArray × Bool × Int) := if a0 < 1 then (deed_New.j0 k a1 a3 true a0 a1 a2 a3 a4 0 0 0 (a3.size : Int) 0 0 0 (⟨#[]⟩ : ByteArray) false) else (if a0 > 16 then (deed_New.j0 k a1 a3 true a0 a1 a2 a3 a4 0 0 0 (a3.size : Int) 0 0 0 (⟨#[]⟩ : ByteArray) false) else (if (a2.size : Int) < 1 then (deed_New.j0 k a1 a3 true a0 a1 a2 a3 a4 0 0 0 (a3.size : Int) 0 0 0 (⟨#[]⟩ : ByteArray) false) else (if (a2.size : Int) > 16 then (deed_New.j0 k a1 a3 true a0 a1 a2 a3 a4 0 0 0 (a3.size : Int) 0 0 0 (⟨#[]⟩ : ByteArray) false) else (if a4 < 0 then (deed_New.j0 k a1 a3 true a0 a1 a2 a3 a4 0 0 0 (a3.size : Int) 0 0 0 (⟨#[]⟩ : ByteArray) false) else (deed_New.j0 k a1 a3 (decide (a4 > 1073741822)) a0 a1 a2 a3 a4 0 0 0 (a3.size : Int) 0 0 0 (⟨#[]⟩ : ByteArray) false)))))
theorem deed_New.mono_l : ∀ k, (∀ y0 y1 y2 y3 y4 y5 y6 y7 y8 y9 y10 y11 y12 y13 y14 y15 y16, LeO (deed_New.j0 k y0 y1 y2 y3 y4 y5 y6 y7 y8 y9 y10 y11 y12 y13 y14 y15 y16) (deed_New.j0 (k + 1) y0 y1 y2 y3 y4 y5 y6 y7 y8 y9 y10 y11 y12 y13 y14 y15 y16)) ∧ (∀ y0 y1 y2 y3 y4 y5 y6 y7 y8 y9 y10 y11 y12 y13 y14, LeO (deed_New.j1 k y0 y1 y2 y3 y4 y5 y6 y7 y8 y9 y10 y11 y12 y13 y14) (deed_New.j1 (k + 1) y0 y1 y2 y3 y4 y5 y6 y7 y8 y9 y10 y11 y12 y13 y14))
 | 0 => ⟨fun _ _ _ _ _ _ _ _ _ _ _ _ _ _ _ _ _ r h => by simp [deed_New.j0] at h, fun _ _ _ _ _ _ _ _ _ _ _ _ _ _ _ r h => by simp [deed_New.j1] at h⟩
 | k + 1 => by
  obtain ⟨ih0, ih1⟩ := deed_New.mono_l k
  refine ⟨?_, ?_⟩
  ·intro y0 y1 y2 y3 y4 y5 y6 y7 y8 y9 y10 y11 y12 y13 y14 y15 y16
   unfold deed_New.j0
   repeat' first
   | (with_reducible exact ih0 _ _ _ _ _ _ _ _ _ _ _ _ _ _ _ _ _)
   | (with_reducible exact ih1 _ _ _ _ _ _ _ _ _ _ _ _ _ _ _)
   | (with_reducible exact LeO.refl _)
   | (with_reducible exact LeO.none _)
   | (with_reducible refine LeO.ite ?_ ?_)
   | (with_reducible refine LeO.bind ?_ (fun _ => ?_))
   | exact ih0 _ _ _ _ _ _ _ _ _ _ _ _ _ _ _ _ _
   | exact ih1 _ _ _ _ _ _ _ _ _ _ _ _ _ _ _
   | exact LeO.none _
   | refine LeO.ite ?_ ?_
   | refine LeO.bind ?_ (fun _ => ?_)
  ·intro y0 y1 y2 y3 y4 y5 y6 y7 y8 y9 y10 y11 y12 y13 y14
   unfold deed_New.j1
   repeat' first
   | (with_reducible exact ih0 _ _ _ _ _ _ _ _ _ _ _ _ _ _ _ _ _)
   | (with_reducible exact ih1 _ _ _ _ _ _ _ _ _ _ _ _ _ _ _)
   | (with_reducible exact LeO.refl _)
   | (with_reducible exact LeO.none _)
   | (with_reducible refine LeO.ite ?_ ?_)
   | (with_reducible refine LeO.bind ?_ (fun _ => ?_))
   | exact ih0 _ _ _ _ _ _ _ _ _ _ _ _ _ _ _ _ _
   | exact ih1 _ _ _ _ _ _ _ _ _ _ _ _ _ _ _
   | exact LeO.none _
   | refine LeO.ite ?_ ?_
   | refine LeO.bind ?_ (fun _ => ?_)
theorem deed_New.mono : ∀ a0 a1 a2 a3 a4 k, LeO (deed_New.f k a0 a1 a2 a3 a4) (deed_New.f (k + 1) a0 a1 a2 a3 a4) := by
 intro a0 a1 a2 a3 a4 k
 obtain ⟨ih0, ih1⟩ := deed_New.mono_l k
 unfold deed_New.f
 repeat' first
   | (with_reducible exact ih0 _ _ _ _ _ _ _ _ _ _ _ _ _ _ _ _ _)
   | (with_reducible exact ih1 _ _ _ _ _ _ _ _ _ _ _ _ _ _ _)
   | (with_reducible exact LeO.refl _)
   | (with_reducible exact LeO.none _)
   | (with_reducible refine LeO.ite ?_ ?_)
   | (with_reducible refine LeO.bind ?_ (fun _ => ?_))
   | exact ih0 _ _ _ _ _ _ _ _ _ _ _ _ _ _ _ _ _
   | exact ih1 _ _ _ _ _ _ _ _ _ _ _ _ _ _ _
   | exact LeO.none _
   | refine LeO.ite ?_ ?_
   | refine LeO.bind ?_ (fun _ => ?_)
set_option maxHeartbeats 40000000 in
set_option maxRecDepth 100000 in
theorem deed_New.calls (k : Nat) (a0 : Int) (a1 : Int) (a2 : ByteArray) (a3 : ByteArray) (a4 : Int) (r1 : Int) (r2 : Int) (r3 : ByteArray) (r4 : ByteArray) (r5 : Int) (r6 : Int) (r7 : Int) (r8 : Int) (r9 : Int) (r10 : Int) (r11 : Int) (r12 : Int) (r13 : ByteArray) (r14 : Bool) (r15 : Int) (w : World) (h : deed_New.f k a0 a1 a2 a3 a4 = some (r1, r2, r3, r4, r5, r6, r7, r8, r9, r10, r11, r12, r13, r14, r15)) :
  Calls Try.prog 10 #[.int .i64 a0, .int .i64 a1, .string a2, .string a3, .int .i64 a4] w fun e w' => e = .returned (.tuple #[.agg #[.int .i64 r1, .int .i64 r2, .string r3, .string r4, .int .i64 r5, .int .i64 r6, .int .i64 r7, .int .i64 r8, .int .i64 r9, .int .u32 r10, .int .i64 r11, .int .i64 r12, .string r13, .bool r14], .int .i64 r15]) ∧ Below w.heap.size w w' := by
 have hu28 := Try.underlying28
 have HB := qM (Below.refl w.heap.size w)
 have H : (if a0 < 1 then (deed_New.j0 k a1 a3 true a0 a1 a2 a3 a4 0 0 0 (a3.size : Int) 0 0 0 (⟨#[]⟩ : ByteArray) false) else (if a0 > 16 then (deed_New.j0 k a1 a3 true a0 a1 a2 a3 a4 0 0 0 (a3.size : Int) 0 0 0 (⟨#[]⟩ : ByteArray) false) else (if (a2.size : Int) < 1 then (deed_New.j0 k a1 a3 true a0 a1 a2 a3 a4 0 0 0 (a3.size : Int) 0 0 0 (⟨#[]⟩ : ByteArray) false) else (if (a2.size : Int) > 16 then (deed_New.j0 k a1 a3 true a0 a1 a2 a3 a4 0 0 0 (a3.size : Int) 0 0 0 (⟨#[]⟩ : ByteArray) false) else (if a4 < 0 then (deed_New.j0 k a1 a3 true a0 a1 a2 a3 a4 0 0 0 (a3.size : Int) 0 0 0 (⟨#[]⟩ : ByteArray) false) else (deed_New.j0 k a1 a3 (decide (a4 > 1073741822)) a0 a1 a2 a3 a4 0 0 0 (a3.size : Int) 0 0 0 (⟨#[]⟩ : ByteArray) false)))))) = some (r1, r2, r3, r4, r5, r6, r7, r8, r9, r10, r11, r12, r13, r14, r15) := h
 clear h
 have HC6 := qM H
 clear H
 go_enter Try.func10, Try.ntmps10
 go_upto_region 2 with (first | ((with_reducible refine gate_dst (N := 10) rfl ?_); (try (refine gate_guard (by rfl) ?_; dsimp only)); refine box_event ?hg (N := 10) ?hd (cs := #[.int .i64 0, .int .i64 0, .string (⟨#[]⟩ : ByteArray), .string (⟨#[]⟩ : ByteArray), .int .i64 0, .int .i64 0, .int .i64 0, .int .i64 0, .int .i64 0, .int .u32 0, .int .i64 0, .int .i64 0, .string (⟨#[]⟩ : ByteArray), .bool false]) (t := 28) ?hr ?_; (case hd => rfl); (case hg => rfl); (case hr => first | (go_simp; done) | (go_simp; rfl)); intro g101 hg w7 hbox hb; have n0_ := qM (eT (by repeat (first | (with_reducible first | exact HB.out | apply eA | apply eN | apply eD) | exact HB.out)) hb); have n1_ := qM (hbox); have n2_ := qM ((by rw [hg]; exact (eZ (by repeat (first | (with_reducible first | exact HB.out | apply eA | apply eN | apply eD) | exact HB.out))) : w.heap.size ≤ g101)); have n3_ := n2_; clear HB; have HB := n0_; have B101 := n1_; have GW101 := n2_; have GE101 := n3_; clear n0_ n1_ n2_ n3_; clear hb hbox hg) | ((with_reducible refine gate_dst (N := 12) rfl ?_); (try (refine gate_guard (by rfl) ?_; dsimp only)); refine box_event ?hg (N := 12) ?hd (cs := #[.int .i64 0, .int .i64 0, .string (⟨#[]⟩ : ByteArray), .string (⟨#[]⟩ : ByteArray), .int .i64 0, .int .i64 0, .int .i64 0, .int .i64 0, .int .i64 0, .int .u32 0, .int .i64 0, .int .i64 0, .string (⟨#[]⟩ : ByteArray), .bool false]) (t := 28) ?hr ?_; (case hd => rfl); (case hg => rfl); (case hr => first | (go_simp; done) | (go_simp; rfl)); intro g102 hg w8 hbox hb; have n0_ := qM (qB (g := g101) (by (with_reducible repeat first | refine qN ?_ _ | refine qD ?_ | refine qA ?_ _); exact B101.out) hb); have n1_ := qM (eT (by repeat (first | (with_reducible first | exact HB.out | apply eA | apply eN | apply eD | refine eS ?_ GE101.out) | exact HB.out)) hb); have n2_ := qM (hbox); have n3_ := qM ((by rw [hg]; exact (eZ (by repeat (first | (with_reducible first | exact HB.out | apply eA | apply eN | apply eD | refine eS ?_ GE101.out) | exact HB.out))) : w.heap.size ≤ g102)); have n4_ := n3_; have n5_ := qM ((by rw [hg]; exact Nat.ne_of_lt (qL (g := g101) (by (with_reducible repeat first | refine qN ?_ _ | refine qD ?_ | refine qA ?_ _); exact B101.out)) : g101 ≠ g102)); have n6_ := qM (Ne.symm n5_.out); clear B101; clear HB; have B101 := n0_; have HB := n1_; have B102 := n2_; have GW102 := n3_; have GE102 := n4_; have NB101_102 := n5_; have NB102_101 := n6_; clear n0_ n1_ n2_ n3_ n4_ n5_ n6_; clear hb hbox hg; have hnb9 := NB102_101.out; have hnc9 := NB101_102.out; obtain ⟨z10_0, z10_1, z10_2, z10_3, z10_4, z10_5, z10_6, z10_7, z10_8, z10_9, z10_10, z10_11, z10_12, z10_13, f10_0, f10_1, f10_2, f10_3, f10_4, f10_5, f10_6, f10_7, f10_8, f10_9, f10_10, f10_11, f10_12, f10_13⟩ := cells14 B102.out))
 (try simp only [Act.put, List.setIfInBounds_toArray, List.set_cons_zero, List.set_cons_succ])
 go_cut [44] (fun v44 wc => ∃ (kq : Nat) (x44_5 : Bool), v44 = .bool x44_5 ∧ Aside0 (deed_New.j0 kq a1 a3 x44_5 a0 a1 a2 a3 a4 0 0 0 (a3.size : Int) 0 0 0 (⟨#[]⟩ : ByteArray) false = some (r1, r2, r3, r4, r5, r6, r7, r8, r9, r10, r11, r12, r13, r14, r15)) ∧ Aside0 (kq ≤ k) ∧ Aside0 (wc.heap[g101]? = some (.cells #[.int .i64 0, .int .i64 0, .string (⟨#[]⟩ : ByteArray), .string (⟨#[]⟩ : ByteArray), .int .i64 0, .int .i64 0, .int .i64 0, .int .i64 0, .int .i64 0, .int .u32 0, .int .i64 0, .int .i64 0, .string (⟨#[]⟩ : ByteArray), .bool false] 28 (0, 0))) ∧ Aside0 (wc.heap[g102]? = some (.cells #[.int .i64 a0, .int .i64 a1, .string a2, .string a3, .int .i64 a4, .int .i64 0, .int .i64 0, .int .i64 0, .int .i64 (a3.size : Int), .int .u32 0, .int .i64 0, .int .i64 0, .string (⟨#[]⟩ : ByteArray), .bool false] 28 (0, 0))) ∧ Aside0 (Below w.heap.size w wc))
 case first =>
  have H := HC6.out
  clear HC6
  by_cases c11 : a0 < 1
  ·rw [if_pos c11] at H
   have c11b0 : decide (a0 < 1) = true := decide_eq_true c11
   clear c11
   (first | rw [c11b0] | (simp only [i64_w, i32_w]; rw [c11b0]) | skip)
   have H' := qM H
   clear H
   go_wp2
   go_meet
   case rel => exact ⟨_, (true), (by first | rfl | (simp; done) | (simp [*]; done)), H', ⟨by first | omega | exact Nat.le_refl _⟩, ⟨by (with_reducible repeat first | refine qN ?_ _ | refine qD ?_ | refine qA ?_ _); (iterate 14 (refine qR ?_ NB101_102.out _; (with_reducible repeat first | refine qN ?_ _ | refine qD ?_ | refine qA ?_ _))); exact B101.out⟩, ⟨by (with_reducible repeat first | refine qN ?_ _ | refine qD ?_ | refine qA ?_ _); apply puts14; (with_reducible repeat first | refine qN ?_ _ | refine qD ?_ | refine qA ?_ _); exact B102.out⟩, ⟨by repeat (first | (with_reducible first | exact HB.out | apply eA | apply eN | apply eD | refine eS ?_ GE101.out | refine eS ?_ GE102.out) | exact HB.out)⟩⟩
  ·rw [if_neg c11] at H
   have c11b0 : decide (a0 < 1) = false := decide_eq_false c11
   clear c11
   (first | rw [c11b0] | (simp only [i64_w, i32_w]; rw [c11b0]) | skip)
   by_cases c12 : a0 > 16
   ·rw [if_pos c12] at H
    have c12b0 : decide (16 < a0) = true := decide_eq_true c12
    clear c12
    have H' := qM H
    clear H
    go_wp2
    go_meet
    case rel => exact ⟨_, (true), (by first | rfl | (simp; done) | (simp [*]; done)), H', ⟨by first | omega | exact Nat.le_refl _⟩, ⟨by (with_reducible repeat first | refine qN ?_ _ | refine qD ?_ | refine qA ?_ _); (iterate 14 (refine qR ?_ NB101_102.out _; (with_reducible repeat first | refine qN ?_ _ | refine qD ?_ | refine qA ?_ _))); exact B101.out⟩, ⟨by (with_reducible repeat first | refine qN ?_ _ | refine qD ?_ | refine qA ?_ _); apply puts14; (with_reducible repeat first | refine qN ?_ _ | refine qD ?_ | refine qA ?_ _); exact B102.out⟩, ⟨by repeat (first | (with_reducible first | exact HB.out | apply eA | apply eN | apply eD | refine eS ?_ GE101.out | refine eS ?_ GE102.out) | exact HB.out)⟩⟩
   ·rw [if_neg c12] at H
    have c12b0 : decide (16 < a0) = false := decide_eq_false c12
    clear c12
    by_cases c13 : (a2.size : Int) < 1
    ·rw [if_pos c13] at H
     have c13b0 : decide ((a2.size : Int) < 1) = true := decide_eq_true c13
     have c13b1 : decide (a2.size < 1) = true := decide_eq_true (by omega)
     clear c13
     have H' := qM H
     clear H
     go_wp2
     go_meet
     case rel => exact ⟨_, (true), (by first | rfl | (simp; done) | (simp [*]; done)), H', ⟨by first | omega | exact Nat.le_refl _⟩, ⟨by (with_reducible repeat first | refine qN ?_ _ | refine qD ?_ | refine qA ?_ _); (iterate 14 (refine qR ?_ NB101_102.out _; (with_reducible repeat first | refine qN ?_ _ | refine qD ?_ | refine qA ?_ _))); exact B101.out⟩, ⟨by (with_reducible repeat first | refine qN ?_ _ | refine qD ?_ | refine qA ?_ _); apply puts14; (with_reducible repeat first | refine qN ?_ _ | refine qD ?_ | refine qA ?_ _); exact B102.out⟩, ⟨by repeat (first | (with_reducible first | exact HB.out | apply eA | apply eN | apply eD | refine eS ?_ GE101.out | refine eS ?_ GE102.out) | exact HB.out)⟩⟩
    ·rw [if_neg c13] at H
     have c13b0 : decide ((a2.size : Int) < 1) = false := decide_eq_false c13
     have c13b1 : decide (a2.size < 1) = false := decide_eq_false (by omega)
     clear c13
     by_cases c14 : (a2.size : Int) > 16
     ·rw [if_pos c14] at H
      have c14b0 : decide (16 < (a2.size : Int)) = true := decide_eq_true c14
      have c14b1 : decide (16 < a2.size) = true := decide_eq_true (by omega)
      clear c14
      have H' := qM H
      clear H
      go_wp2
      go_meet
      case rel => exact ⟨_, (true), (by first | rfl | (simp; done) | (simp [*]; done)), H', ⟨by first | omega | exact Nat.le_refl _⟩, ⟨by (with_reducible repeat first | refine qN ?_ _ | refine qD ?_ | refine qA ?_ _); (iterate 14 (refine qR ?_ NB101_102.out _; (with_reducible repeat first | refine qN ?_ _ | refine qD ?_ | refine qA ?_ _))); exact B101.out⟩, ⟨by (with_reducible repeat first | refine qN ?_ _ | refine qD ?_ | refine qA ?_ _); apply puts14; (with_reducible repeat first | refine qN ?_ _ | refine qD ?_ | refine qA ?_ _); exact B102.out⟩, ⟨by repeat (first | (with_reducible first | exact HB.out | apply eA | apply eN | apply eD | refine eS ?_ GE101.out | refine eS ?_ GE102.out) | exact HB.out)⟩⟩
     ·rw [if_neg c14] at H
      have c14b0 : decide (16 < (a2.size : Int)) = false := decide_eq_false c14
      have c14b1 : decide (16 < a2.size) = false := decide_eq_false (by omega)
      clear c14
      by_cases c15 : a4 < 0
      ·rw [if_pos c15] at H
       have c15b0 : decide (a4 < 0) = true := decide_eq_true c15
       clear c15
       have H' := qM H
       clear H
       go_wp2
       go_meet
       case rel => exact ⟨_, (true), (by first | rfl | (simp; done) | (simp [*]; done)), H', ⟨by first | omega | exact Nat.le_refl _⟩, ⟨by (with_reducible repeat first | refine qN ?_ _ | refine qD ?_ | refine qA ?_ _); (iterate 14 (refine qR ?_ NB101_102.out _; (with_reducible repeat first | refine qN ?_ _ | refine qD ?_ | refine qA ?_ _))); exact B101.out⟩, ⟨by (with_reducible repeat first | refine qN ?_ _ | refine qD ?_ | refine qA ?_ _); apply puts14; (with_reducible repeat first | refine qN ?_ _ | refine qD ?_ | refine qA ?_ _); exact B102.out⟩, ⟨by repeat (first | (with_reducible first | exact HB.out | apply eA | apply eN | apply eD | refine eS ?_ GE101.out | refine eS ?_ GE102.out) | exact HB.out)⟩⟩
      ·rw [if_neg c15] at H
       have c15b0 : decide (a4 < 0) = false := decide_eq_false c15
       clear c15
       have H' := qM H
       clear H
       go_wp2
       go_meet
       case rel => exact ⟨_, (decide (a4 > 1073741822)), (by first | rfl | (simp; done) | (simp [*]; done)), H', ⟨by first | omega | exact Nat.le_refl _⟩, ⟨by (with_reducible repeat first | refine qN ?_ _ | refine qD ?_ | refine qA ?_ _); (iterate 14 (refine qR ?_ NB101_102.out _; (with_reducible repeat first | refine qN ?_ _ | refine qD ?_ | refine qA ?_ _))); exact B101.out⟩, ⟨by (with_reducible repeat first | refine qN ?_ _ | refine qD ?_ | refine qA ?_ _); apply puts14; (with_reducible repeat first | refine qN ?_ _ | refine qD ?_ | refine qA ?_ _); exact B102.out⟩, ⟨by repeat (first | (with_reducible first | exact HB.out | apply eA | apply eN | apply eD | refine eS ?_ GE101.out | refine eS ?_ GE102.out) | exact HB.out)⟩⟩
 case rest =>
  clear HC6
  try clear c1
  try clear p2
  try clear c9
  try clear c10
  try clear c11
  try clear c11b0
  try clear c12
  try clear c12b0
  try clear c13
  try clear c13b0
  try clear c13b1
  try clear c14
  try clear c14b0
  try clear c14b1
  try clear c15
  try clear c15b0
  try clear z10_0
  try clear z10_1
  try clear z10_10
  try clear z10_11
  try clear z10_12
  try clear z10_13
  try clear z10_2
  try clear z10_3
  try clear z10_4
  try clear z10_5
  try clear z10_6
  try clear z10_7
  try clear z10_8
  try clear z10_9
  try clear f10_0
  try clear f10_1
  try clear f10_10
  try clear f10_11
  try clear f10_12
  try clear f10_13
  try clear f10_2
  try clear f10_3
  try clear f10_4
  try clear f10_5
  try clear f10_6
  try clear f10_7
  try clear f10_8
  try clear f10_9
  obtain ⟨kq, x44_5, rfl, HA, HJ5, B101, B102, HB⟩ := hcut
  cases kq with
  | zero => exact absurd HA.out (by simp [deed_New.j0])
  | succ kj5 =>
   have H := HA.out
   clear HA
   simp only [deed_New.j0] at H
   by_cases c16 : x44_5 = true
   ·subst c16
    have H1 : (some (0, 0, (⟨#[]⟩ : ByteArray), (⟨#[]⟩ : ByteArray), 0, 0, 0, 0, 0, 0, 0, 0, (⟨#[]⟩ : ByteArray), false, 1)) = some (r1, r2, r3, r4, r5, r6, r7, r8, r9, r10, r11, r12, r13, r14, r15) := by rw [if_pos rfl] at H; exact H
    clear H
    have H := H1
    clear H1
    simp only [Option.some.injEq, Prod.mk.injEq] at H
    obtain ⟨rfl, rfl, rfl, rfl, rfl, rfl, rfl, rfl, rfl, rfl, rfl, rfl, rfl, rfl, rfl⟩ := H
    have hnb17 := NB101_102.out
    have hnc17 := NB102_101.out
    obtain ⟨z18_0, z18_1, z18_2, z18_3, z18_4, z18_5, z18_6, z18_7, z18_8, z18_9, z18_10, z18_11, z18_12, z18_13, f18_0, f18_1, f18_2, f18_3, f18_4, f18_5, f18_6, f18_7, f18_8, f18_9, f18_10, f18_11, f18_12, f18_13⟩ := cells14 B101.out
    go_wp2
    refine bodyPost_ret (results_ct rfl _ _ g101 28 #[.int .i64 0, .int .i64 0, .string (⟨#[]⟩ : ByteArray), .string (⟨#[]⟩ : ByteArray), .int .i64 0, .int .i64 0, .int .i64 0, .int .i64 0, .int .i64 0, .int .u32 0, .int .i64 0, .int .i64 0, .string (⟨#[]⟩ : ByteArray), .bool false] (0, 0) _ rfl (by (with_reducible repeat first | refine qN ?_ _ | refine qD ?_ | refine qA ?_ _); apply puts14; (with_reducible repeat first | refine qN ?_ _ | refine qD ?_ | refine qA ?_ _); exact B101.out) Try.underlying28 rfl (by kernel_rfl)) rfl ?_
    exact ⟨by first | rfl | (simp [errW_none, errW_some] <;> rfl) | (simp [*, errW_none, errW_some] <;> rfl), by repeat (first | (with_reducible first | exact HB.out | apply eA | apply eN | apply eD | refine eS ?_ GE101.out | refine eS ?_ GE102.out) | exact HB.out)⟩
   ·replace c16 := Bool.eq_false_iff.mpr c16
    subst c16
    have H1 : (if a1 = 1 then (if (a3.size : Int) < 1 then (deed_New.j1 kj5 true a0 a1 a2 a3 a4 0 0 0 (a3.size : Int) 0 0 0 (⟨#[]⟩ : ByteArray) false) else (deed_New.j1 kj5 (decide ((a3.size : Int) > 32)) a0 a1 a2 a3 a4 0 0 0 (a3.size : Int) 0 0 0 (⟨#[]⟩ : ByteArray) false)) else (if a1 = 2 then (if a3.toList = ([] : List UInt8) then (some (a0, a1, a2, a3, a4, 5, 0, 0, (a3.size : Int), 0, 0, 0, (⟨#[]⟩ : ByteArray), false, 0)) else (some (0, 0, (⟨#[]⟩ : ByteArray), (⟨#[]⟩ : ByteArray), 0, 0, 0, 0, 0, 0, 0, 0, (⟨#[]⟩ : ByteArray), false, 1))) else (if a1 = 3 then (if a3.toList = ([] : List UInt8) then (some (a0, a1, a2, a3, a4, 7, 0, 0, (a3.size : Int), 0, 0, 0, (⟨#[]⟩ : ByteArray), false, 0)) else (some (0, 0, (⟨#[]⟩ : ByteArray), (⟨#[]⟩ : ByteArray), 0, 0, 0, 0, 0, 0, 0, 0, (⟨#[]⟩ : ByteArray), false, 1))) else (some (0, 0, (⟨#[]⟩ : ByteArray), (⟨#[]⟩ : ByteArray), 0, 0, 0, 0, 0, 0, 0, 0, (⟨#[]⟩ : ByteArray), false, 1))))) = some (r1, r2, r3, r4, r5, r6, r7, r8, r9, r10, r11, r12, r13, r14, r15) := by rw [if_neg (show ¬ (false = true) by decide)] at H; exact H
    clear H
    have H := H1
    clear H1
    by_cases c19 : a1 = 1
    ·rw [if_pos c19] at H
     have c19b0 : (a1 == 1) = true := beq_iff_eq.mpr c19
     have c19b1 : (a1 != 1) = false := bne_eq_false_iff_eq.mpr c19
     clear c19
     have HC20 := qM H
     clear H
     go_upto_region 7 with (fail)
     go_cut [57] (fun v57 wc => ∃ (kq : Nat) (x57_19 : Bool), v57 = .bool x57_19 ∧ Aside0 (deed_New.j1 kq x57_19 a0 a1 a2 a3 a4 0 0 0 (a3.size : Int) 0 0 0 (⟨#[]⟩ : ByteArray) false = some (r1, r2, r3, r4, r5, r6, r7, r8, r9, r10, r11, r12, r13, r14, r15)) ∧ Aside0 (kq ≤ kj5) ∧ Aside0 (wc.heap[g101]? = some (.cells #[.int .i64 0, .int .i64 0, .string (⟨#[]⟩ : ByteArray), .string (⟨#[]⟩ : ByteArray), .int .i64 0, .int .i64 0, .int .i64 0, .int .i64 0, .int .i64 0, .int .u32 0, .int .i64 0, .int .i64 0, .string (⟨#[]⟩ : ByteArray), .bool false] 28 (0, 0))) ∧ Aside0 (wc.heap[g102]? = some (.cells #[.int .i64 a0, .int .i64 a1, .string a2, .string a3, .int .i64 a4, .int .i64 0, .int .i64 0, .int .i64 0, .int .i64 (a3.size : Int), .int .u32 0, .int .i64 0, .int .i64 0, .string (⟨#[]⟩ : ByteArray), .bool false] 28 (0, 0))) ∧ Aside0 (Below w.heap.size w wc))
     case first =>
      have H := HC20.out
      clear HC20
      by_cases c21 : (a3.size : Int) < 1
      ·rw [if_pos c21] at H
       have c21b0 : decide ((a3.size : Int) < 1) = true := decide_eq_true c21
       have c21b1 : decide (a3.size < 1) = true := decide_eq_true (by omega)
       clear c21
       (first | rw [c21b0] | (simp only [i64_w, i32_w]; rw [c21b0]) | skip)
       have H' := qM H
       clear H
       go_wp2
       go_meet
       case rel => exact ⟨_, (true), (by first | rfl | (simp; done) | (simp [*]; done)), H', ⟨by have := HJ5.out; first | omega | exact Nat.le_refl _⟩, ⟨by (with_reducible repeat first | refine qN ?_ _ | refine qD ?_ | refine qA ?_ _); exact B101.out⟩, ⟨by (with_reducible repeat first | refine qN ?_ _ | refine qD ?_ | refine qA ?_ _); exact B102.out⟩, ⟨by repeat (first | (with_reducible first | exact HB.out | apply eA | apply eN | apply eD | refine eS ?_ GE101.out | refine eS ?_ GE102.out) | exact HB.out)⟩⟩
      ·rw [if_neg c21] at H
       have c21b0 : decide ((a3.size : Int) < 1) = false := decide_eq_false c21
       have c21b1 : decide (a3.size < 1) = false := decide_eq_false (by omega)
       clear c21
       (first | rw [c21b0] | (simp only [i64_w, i32_w]; rw [c21b0]) | skip)
       have H' := qM H
       clear H
       go_wp2
       go_meet
       case rel => exact ⟨_, (decide ((a3.size : Int) > 32)), (by first | rfl | (simp; done) | (simp [*]; done)), H', ⟨by have := HJ5.out; first | omega | exact Nat.le_refl _⟩, ⟨by (with_reducible repeat first | refine qN ?_ _ | refine qD ?_ | refine qA ?_ _); exact B101.out⟩, ⟨by (with_reducible repeat first | refine qN ?_ _ | refine qD ?_ | refine qA ?_ _); exact B102.out⟩, ⟨by repeat (first | (with_reducible first | exact HB.out | apply eA | apply eN | apply eD | refine eS ?_ GE101.out | refine eS ?_ GE102.out) | exact HB.out)⟩⟩
     case rest =>
      clear HC20
      try clear c1
      try clear c2
      try clear p2
      try clear c9
      try clear c10
      try clear c11
      try clear c11b0
      try clear c12
      try clear c12b0
      try clear c13
      try clear c13b0
      try clear c13b1
      try clear c14
      try clear c14b0
      try clear c14b1
      try clear c15
      try clear c15b0
      try clear c16
      try clear c17
      try clear c19
      try clear c19b0
      try clear c19b1
      try clear c21
      try clear c21b0
      try clear c21b1
      try clear z10_0
      try clear z10_1
      try clear z10_10
      try clear z10_11
      try clear z10_12
      try clear z10_13
      try clear z10_2
      try clear z10_3
      try clear z10_4
      try clear z10_5
      try clear z10_6
      try clear z10_7
      try clear z10_8
      try clear z10_9
      try clear z18_0
      try clear z18_1
      try clear z18_10
      try clear z18_11
      try clear z18_12
      try clear z18_13
      try clear z18_2
      try clear z18_3
      try clear z18_4
      try clear z18_5
      try clear z18_6
      try clear z18_7
      try clear z18_8
      try clear z18_9
      try clear f10_0
      try clear f10_1
      try clear f10_10
      try clear f10_11
      try clear f10_12
      try clear f10_13
      try clear f10_2
      try clear f10_3
      try clear f10_4
      try clear f10_5
      try clear f10_6
      try clear f10_7
      try clear f10_8
      try clear f10_9
      try clear f18_0
      try clear f18_1
      try clear f18_10
      try clear f18_11
      try clear f18_12
      try clear f18_13
      try clear f18_2
      try clear f18_3
      try clear f18_4
      try clear f18_5
      try clear f18_6
      try clear f18_7
      try clear f18_8
      try clear f18_9
      try clear p2
      obtain ⟨kq, x57_19, rfl, HA, HJ19, B101, B102, HB⟩ := hcut
      cases kq with
      | zero => exact absurd HA.out (by simp [deed_New.j1])
      | succ kj19 =>
       have H := HA.out
       clear HA
       simp only [deed_New.j1] at H
       by_cases c22 : x57_19 = true
       ·subst c22
        have H1 : (some (0, 0, (⟨#[]⟩ : ByteArray), (⟨#[]⟩ : ByteArray), 0, 0, 0, 0, 0, 0, 0, 0, (⟨#[]⟩ : ByteArray), false, 4)) = some (r1, r2, r3, r4, r5, r6, r7, r8, r9, r10, r11, r12, r13, r14, r15) := by rw [if_pos rfl] at H; exact H
        clear H
        have H := H1
        clear H1
        simp only [Option.some.injEq, Prod.mk.injEq] at H
        obtain ⟨rfl, rfl, rfl, rfl, rfl, rfl, rfl, rfl, rfl, rfl, rfl, rfl, rfl, rfl, rfl⟩ := H
        have hnb23 := NB101_102.out
        have hnc23 := NB102_101.out
        obtain ⟨z24_0, z24_1, z24_2, z24_3, z24_4, z24_5, z24_6, z24_7, z24_8, z24_9, z24_10, z24_11, z24_12, z24_13, f24_0, f24_1, f24_2, f24_3, f24_4, f24_5, f24_6, f24_7, f24_8, f24_9, f24_10, f24_11, f24_12, f24_13⟩ := cells14 B101.out
        go_wp2
        refine bodyPost_ret (results_ct rfl _ _ g101 28 #[.int .i64 0, .int .i64 0, .string (⟨#[]⟩ : ByteArray), .string (⟨#[]⟩ : ByteArray), .int .i64 0, .int .i64 0, .int .i64 0, .int .i64 0, .int .i64 0, .int .u32 0, .int .i64 0, .int .i64 0, .string (⟨#[]⟩ : ByteArray), .bool false] (0, 0) _ rfl (by (with_reducible repeat first | refine qN ?_ _ | refine qD ?_ | refine qA ?_ _); apply puts14; (with_reducible repeat first | refine qN ?_ _ | refine qD ?_ | refine qA ?_ _); exact B101.out) Try.underlying28 rfl (by kernel_rfl)) rfl ?_
        exact ⟨by first | rfl | (simp [errW_none, errW_some] <;> rfl) | (simp [*, errW_none, errW_some] <;> rfl), by repeat (first | (with_reducible first | exact HB.out | apply eA | apply eN | apply eD | refine eS ?_ GE101.out | refine eS ?_ GE102.out) | exact HB.out)⟩
       ·replace c22 := Bool.eq_false_iff.mpr c22
        subst c22
        have H1 : (some (a0, a1, a2, a3, a4, 1, 0, 0, (a3.size : Int), 0, 0, 0, (⟨#[]⟩ : ByteArray), false, 0)) = some (r1, r2, r3, r4, r5, r6, r7, r8, r9, r10, r11, r12, r13, r14, r15) := by rw [if_neg (show ¬ (false = true) by decide)] at H; exact H
        clear H
        have H := H1
        clear H1
        simp only [Option.some.injEq, Prod.mk.injEq] at H
        obtain ⟨rfl, rfl, rfl, rfl, rfl, rfl, rfl, rfl, rfl, rfl, rfl, rfl, rfl, rfl, rfl⟩ := H
        have hnb25 := NB102_101.out
        have hnc25 := NB101_102.out
        obtain ⟨z26_0, z26_1, z26_2, z26_3, z26_4, z26_5, z26_6, z26_7, z26_8, z26_9, z26_10, z26_11, z26_12, z26_13, f26_0, f26_1, f26_2, f26_3, f26_4, f26_5, f26_6, f26_7, f26_8, f26_9, f26_10, f26_11, f26_12, f26_13⟩ := cells14 B102.out
        obtain ⟨z27_0, z27_1, z27_2, z27_3, z27_4, z27_5, z27_6, z27_7, z27_8, z27_9, z27_10, z27_11, z27_12, z27_13, f27_0, f27_1, f27_2, f27_3, f27_4, f27_5, f27_6, f27_7, f27_8, f27_9, f27_10, f27_11, f27_12, f27_13⟩ := cells14 B101.out
        go_wp2
        refine bodyPost_ret (results_ct rfl _ _ g101 28 #[.int .i64 a0, .int .i64 a1, .string a2, .string a3, .int .i64 a4, .int .i64 1, .int .i64 0, .int .i64 0, .int .i64 (a3.size : Int), .int .u32 0, .int .i64 0, .int .i64 0, .string (⟨#[]⟩ : ByteArray), .bool false] (0, 0) _ rfl (by (with_reducible repeat first | refine qN ?_ _ | refine qD ?_ | refine qA ?_ _); apply puts14; (with_reducible repeat first | refine qN ?_ _ | refine qD ?_ | refine qA ?_ _); refine qR ?_ NB101_102.out _; (with_reducible repeat first | refine qN ?_ _ | refine qD ?_ | refine qA ?_ _); exact B101.out) Try.underlying28 rfl (by kernel_rfl)) rfl ?_
        exact ⟨by first | rfl | (simp [errW_none, errW_some] <;> rfl) | (simp [*, errW_none, errW_some] <;> rfl), by repeat (first | (with_reducible first | exact HB.out | apply eA | apply eN | apply eD | refine eS ?_ GE101.out | refine eS ?_ GE102.out) | exact HB.out)⟩
    ·rw [if_neg c19] at H
     have c19b0 : (a1 == 1) = false := beq_eq_false_iff_ne.mpr c19
     have c19b1 : (a1 != 1) = true := bne_iff_ne.mpr c19
     by_cases c28 : a1 = 2
     ·rw [if_pos c28] at H
      have c28b0 : (a1 == 2) = true := beq_iff_eq.mpr c28
      have c28b1 : (a1 != 2) = false := bne_eq_false_iff_eq.mpr c28
      clear c28
      by_cases c29 : a3.toList = ([] : List UInt8)
      ·rw [if_pos c29] at H
       have c29b0 : (a3.toList == ([] : List UInt8)) = true := beq_iff_eq.mpr c29
       have c29b1 : (a3.toList != ([] : List UInt8)) = false := bne_eq_false_iff_eq.mpr c29
       clear c29
       simp only [Option.some.injEq, Prod.mk.injEq] at H
       obtain ⟨rfl, rfl, rfl, rfl, rfl, rfl, rfl, rfl, rfl, rfl, rfl, rfl, rfl, rfl, rfl⟩ := H
       have hnb30 := NB102_101.out
       have hnc30 := NB101_102.out
       obtain ⟨z31_0, z31_1, z31_2, z31_3, z31_4, z31_5, z31_6, z31_7, z31_8, z31_9, z31_10, z31_11, z31_12, z31_13, f31_0, f31_1, f31_2, f31_3, f31_4, f31_5, f31_6, f31_7, f31_8, f31_9, f31_10, f31_11, f31_12, f31_13⟩ := cells14 B102.out
       obtain ⟨z32_0, z32_1, z32_2, z32_3, z32_4, z32_5, z32_6, z32_7, z32_8, z32_9, z32_10, z32_11, z32_12, z32_13, f32_0, f32_1, f32_2, f32_3, f32_4, f32_5, f32_6, f32_7, f32_8, f32_9, f32_10, f32_11, f32_12, f32_13⟩ := cells14 B101.out
       go_wp2
       refine bodyPost_ret (results_ct rfl _ _ g101 28 #[.int .i64 a0, .int .i64 a1, .string a2, .string a3, .int .i64 a4, .int .i64 5, .int .i64 0, .int .i64 0, .int .i64 (a3.size : Int), .int .u32 0, .int .i64 0, .int .i64 0, .string (⟨#[]⟩ : ByteArray), .bool false] (0, 0) _ rfl (by (with_reducible repeat first | refine qN ?_ _ | refine qD ?_ | refine qA ?_ _); apply puts14; (with_reducible repeat first | refine qN ?_ _ | refine qD ?_ | refine qA ?_ _); refine qR ?_ NB101_102.out _; (with_reducible repeat first | refine qN ?_ _ | refine qD ?_ | refine qA ?_ _); exact B101.out) Try.underlying28 rfl (by kernel_rfl)) rfl ?_
       exact ⟨by first | rfl | (simp [errW_none, errW_some] <;> rfl) | (simp [*, errW_none, errW_some] <;> rfl), by repeat (first | (with_reducible first | exact HB.out | apply eA | apply eN | apply eD | refine eS ?_ GE101.out | refine eS ?_ GE102.out) | exact HB.out)⟩
      ·rw [if_neg c29] at H
       have c29b0 : (a3.toList == ([] : List UInt8)) = false := beq_eq_false_iff_ne.mpr c29
       have c29b1 : (a3.toList != ([] : List UInt8)) = true := bne_iff_ne.mpr c29
       simp only [Option.some.injEq, Prod.mk.injEq] at H
       obtain ⟨rfl, rfl, rfl, rfl, rfl, rfl, rfl, rfl, rfl, rfl, rfl, rfl, rfl, rfl, rfl⟩ := H
       have hnb33 := NB102_101.out
       have hnc33 := NB101_102.out
       obtain ⟨z34_0, z34_1, z34_2, z34_3, z34_4, z34_5, z34_6, z34_7, z34_8, z34_9, z34_10, z34_11, z34_12, z34_13, f34_0, f34_1, f34_2, f34_3, f34_4, f34_5, f34_6, f34_7, f34_8, f34_9, f34_10, f34_11, f34_12, f34_13⟩ := cells14 B102.out
       obtain ⟨z35_0, z35_1, z35_2, z35_3, z35_4, z35_5, z35_6, z35_7, z35_8, z35_9, z35_10, z35_11, z35_12, z35_13, f35_0, f35_1, f35_2, f35_3, f35_4, f35_5, f35_6, f35_7, f35_8, f35_9, f35_10, f35_11, f35_12, f35_13⟩ := cells14 B101.out
       go_wp2
       refine bodyPost_ret (results_ct rfl _ _ g101 28 #[.int .i64 0, .int .i64 0, .string (⟨#[]⟩ : ByteArray), .string (⟨#[]⟩ : ByteArray), .int .i64 0, .int .i64 0, .int .i64 0, .int .i64 0, .int .i64 0, .int .u32 0, .int .i64 0, .int .i64 0, .string (⟨#[]⟩ : ByteArray), .bool false] (0, 0) _ rfl (by (with_reducible repeat first | refine qN ?_ _ | refine qD ?_ | refine qA ?_ _); apply puts14; (with_reducible repeat first | refine qN ?_ _ | refine qD ?_ | refine qA ?_ _); refine qR ?_ NB101_102.out _; (with_reducible repeat first | refine qN ?_ _ | refine qD ?_ | refine qA ?_ _); exact B101.out) Try.underlying28 rfl (by kernel_rfl)) rfl ?_
       exact ⟨by first | rfl | (simp [errW_none, errW_some] <;> rfl) | (simp [*, errW_none, errW_some] <;> rfl), by repeat (first | (with_reducible first | exact HB.out | apply eA | apply eN | apply eD | refine eS ?_ GE101.out | refine eS ?_ GE102.out) | exact HB.out)⟩
     ·rw [if_neg c28] at H
      have c28b0 : (a1 == 2) = false := beq_eq_false_iff_ne.mpr c28
      have c28b1 : (a1 != 2) = true := bne_iff_ne.mpr c28
      by_cases c36 : a1 = 3
      ·rw [if_pos c36] at H
       have c36b0 : (a1 == 3) = true := beq_iff_eq.mpr c36
       have c36b1 : (a1 != 3) = false := bne_eq_false_iff_eq.mpr c36
       clear c36
       by_cases c37 : a3.toList = ([] : List UInt8)
       ·rw [if_pos c37] at H
        have c37b0 : (a3.toList == ([] : List UInt8)) = true := beq_iff_eq.mpr c37
        have c37b1 : (a3.toList != ([] : List UInt8)) = false := bne_eq_false_iff_eq.mpr c37
        clear c37
        simp only [Option.some.injEq, Prod.mk.injEq] at H
        obtain ⟨rfl, rfl, rfl, rfl, rfl, rfl, rfl, rfl, rfl, rfl, rfl, rfl, rfl, rfl, rfl⟩ := H
        have hnb38 := NB102_101.out
        have hnc38 := NB101_102.out
        obtain ⟨z39_0, z39_1, z39_2, z39_3, z39_4, z39_5, z39_6, z39_7, z39_8, z39_9, z39_10, z39_11, z39_12, z39_13, f39_0, f39_1, f39_2, f39_3, f39_4, f39_5, f39_6, f39_7, f39_8, f39_9, f39_10, f39_11, f39_12, f39_13⟩ := cells14 B102.out
        obtain ⟨z40_0, z40_1, z40_2, z40_3, z40_4, z40_5, z40_6, z40_7, z40_8, z40_9, z40_10, z40_11, z40_12, z40_13, f40_0, f40_1, f40_2, f40_3, f40_4, f40_5, f40_6, f40_7, f40_8, f40_9, f40_10, f40_11, f40_12, f40_13⟩ := cells14 B101.out
        go_wp2
        refine bodyPost_ret (results_ct rfl _ _ g101 28 #[.int .i64 a0, .int .i64 a1, .string a2, .string a3, .int .i64 a4, .int .i64 7, .int .i64 0, .int .i64 0, .int .i64 (a3.size : Int), .int .u32 0, .int .i64 0, .int .i64 0, .string (⟨#[]⟩ : ByteArray), .bool false] (0, 0) _ rfl (by (with_reducible repeat first | refine qN ?_ _ | refine qD ?_ | refine qA ?_ _); apply puts14; (with_reducible repeat first | refine qN ?_ _ | refine qD ?_ | refine qA ?_ _); refine qR ?_ NB101_102.out _; (with_reducible repeat first | refine qN ?_ _ | refine qD ?_ | refine qA ?_ _); exact B101.out) Try.underlying28 rfl (by kernel_rfl)) rfl ?_
        exact ⟨by first | rfl | (simp [errW_none, errW_some] <;> rfl) | (simp [*, errW_none, errW_some] <;> rfl), by repeat (first | (with_reducible first | exact HB.out | apply eA | apply eN | apply eD | refine eS ?_ GE101.out | refine eS ?_ GE102.out) | exact HB.out)⟩
       ·rw [if_neg c37] at H
        have c37b0 : (a3.toList == ([] : List UInt8)) = false := beq_eq_false_iff_ne.mpr c37
        have c37b1 : (a3.toList != ([] : List UInt8)) = true := bne_iff_ne.mpr c37
        simp only [Option.some.injEq, Prod.mk.injEq] at H
        obtain ⟨rfl, rfl, rfl, rfl, rfl, rfl, rfl, rfl, rfl, rfl, rfl, rfl, rfl, rfl, rfl⟩ := H
        have hnb41 := NB102_101.out
        have hnc41 := NB101_102.out
        obtain ⟨z42_0, z42_1, z42_2, z42_3, z42_4, z42_5, z42_6, z42_7, z42_8, z42_9, z42_10, z42_11, z42_12, z42_13, f42_0, f42_1, f42_2, f42_3, f42_4, f42_5, f42_6, f42_7, f42_8, f42_9, f42_10, f42_11, f42_12, f42_13⟩ := cells14 B102.out
        obtain ⟨z43_0, z43_1, z43_2, z43_3, z43_4, z43_5, z43_6, z43_7, z43_8, z43_9, z43_10, z43_11, z43_12, z43_13, f43_0, f43_1, f43_2, f43_3, f43_4, f43_5, f43_6, f43_7, f43_8, f43_9, f43_10, f43_11, f43_12, f43_13⟩ := cells14 B101.out
        go_wp2
        refine bodyPost_ret (results_ct rfl _ _ g101 28 #[.int .i64 0, .int .i64 0, .string (⟨#[]⟩ : ByteArray), .string (⟨#[]⟩ : ByteArray), .int .i64 0, .int .i64 0, .int .i64 0, .int .i64 0, .int .i64 0, .int .u32 0, .int .i64 0, .int .i64 0, .string (⟨#[]⟩ : ByteArray), .bool false] (0, 0) _ rfl (by (with_reducible repeat first | refine qN ?_ _ | refine qD ?_ | refine qA ?_ _); apply puts14; (with_reducible repeat first | refine qN ?_ _ | refine qD ?_ | refine qA ?_ _); refine qR ?_ NB101_102.out _; (with_reducible repeat first | refine qN ?_ _ | refine qD ?_ | refine qA ?_ _); exact B101.out) Try.underlying28 rfl (by kernel_rfl)) rfl ?_
        exact ⟨by first | rfl | (simp [errW_none, errW_some] <;> rfl) | (simp [*, errW_none, errW_some] <;> rfl), by repeat (first | (with_reducible first | exact HB.out | apply eA | apply eN | apply eD | refine eS ?_ GE101.out | refine eS ?_ GE102.out) | exact HB.out)⟩
      ·rw [if_neg c36] at H
       have c36b0 : (a1 == 3) = false := beq_eq_false_iff_ne.mpr c36
       have c36b1 : (a1 != 3) = true := bne_iff_ne.mpr c36
       simp only [Option.some.injEq, Prod.mk.injEq] at H
       obtain ⟨rfl, rfl, rfl, rfl, rfl, rfl, rfl, rfl, rfl, rfl, rfl, rfl, rfl, rfl, rfl⟩ := H
       have hnb44 := NB101_102.out
       have hnc44 := NB102_101.out
       obtain ⟨z45_0, z45_1, z45_2, z45_3, z45_4, z45_5, z45_6, z45_7, z45_8, z45_9, z45_10, z45_11, z45_12, z45_13, f45_0, f45_1, f45_2, f45_3, f45_4, f45_5, f45_6, f45_7, f45_8, f45_9, f45_10, f45_11, f45_12, f45_13⟩ := cells14 B101.out
       go_wp2
       refine bodyPost_ret (results_ct rfl _ _ g101 28 #[.int .i64 0, .int .i64 0, .string (⟨#[]⟩ : ByteArray), .string (⟨#[]⟩ : ByteArray), .int .i64 0, .int .i64 0, .int .i64 0, .int .i64 0, .int .i64 0, .int .u32 0, .int .i64 0, .int .i64 0, .string (⟨#[]⟩ : ByteArray), .bool false] (0, 0) _ rfl (by (with_reducible repeat first | refine qN ?_ _ | refine qD ?_ | refine qA ?_ _); apply puts14; (with_reducible repeat first | refine qN ?_ _ | refine qD ?_ | refine qA ?_ _); exact B101.out) Try.underlying28 rfl (by kernel_rfl)) rfl ?_
       exact ⟨by first | rfl | (simp [errW_none, errW_some] <;> rfl) | (simp [*, errW_none, errW_some] <;> rfl), by repeat (first | (with_reducible first | exact HB.out | apply eA | apply eN | apply eD | refine eS ?_ GE101.out | refine eS ?_ GE102.out) | exact HB.out)⟩

end Go.Proofs.Ytmjmmgefkebggaa.PAll
