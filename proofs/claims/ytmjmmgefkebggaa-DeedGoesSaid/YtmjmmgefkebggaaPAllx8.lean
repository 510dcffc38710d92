/- Functions of the program as plain Lean functions, and that each call comes to what they say. Laid by a program of this session (hprint.py); Lean checks it. -/
import Derived.Test.YtmjmmgefkebggaaPAllx0
import Derived.Test.YtmjmmgefkebggaaPAllx7
namespace Go.Proofs.Ytmjmmgefkebggaa.PAll
open Go.RowKit Go.Proofs.YtmjmmgefkebggaaW.PrintWords Go.Proofs.YtmjmmgefkebggaaW.PrintLast Go.Proofs.YtmjmmgefkebggaaW.PrintMore
attribute [local go_sem] max2_int min2_int max_two min_two max_three min_three max_four min_four   -- for this text's walks alone
set_option linter.unusedVariables false
set_option linter.unusedSimpArgs false
attribute [local irreducible] World.setCell

/-! ### deed_Want: function 12 -/
def deed_Want.f (a0_0 : Int) (a0_1 : Int) (a0_2 : ByteArray) (a0_3 : ByteArray) (a0_4 : Int) (a0_5 : Int) (a0_6 : Int) (a0_7 : Int) (a0_8 : Int) (a0_9 : Int) (a0_10 : Int) (a0_11 : Int) (a0_12 : ByteArray) (a0_13 : Bool) : Option (Int × Int × Int × ByteArray × Int × Int × Int × Int × Int × Int × Int × (List (S69)) × Bool) := if a0_5 = 4 then ((crc_Sum.f a0_3).bind fun t106 => (if 3 = 0 then (some (2, a0_0, a0_4, a0_2, a0_6, a0_7, a0_8, t106, 0, 0, 0, ([] : List (S69)), true)) else (some (3, a0_0, a0_4, a0_2, a0_6, a0_7, a0_8, t106, 0, 0, 0, ([] : List (S69)), true)))) else (if a0_5 = 2 then (if 0 = 0 then (some (2, a0_0, a0_4, (⟨#[]⟩ : ByteArray), a0_6, 0, a0_8, 0, 0, 0, 0, ([] : List (S69)), true)) else (some (0, a0_0, a0_4, (⟨#[]⟩ : ByteArray), a0_6, 0, a0_8, 0, 0, 0, 0, ([] : List (S69)), true))) else (if a0_5 = 5 then (some (5, a0_0, a0_4, a0_2, 0, 0, 0, 0, 0, 0, 0, ([] : List (S69)), true)) else (if a0_5 = 7 then (some (4, a0_0, a0_4, a0_2, 0, 0, 0, 0, 0, 0, 0, ([] : List (S69)), true)) else (some (0, 0, 0, (⟨#[]⟩ : ByteArray), 0, 0, 0, 0, 0, 0, 0, ([] : List (S69)), false)))))
def deed_Want.T7 : Bool × List (List Nat × List Nat) := (true, [([], []), ([0], [0]), ([], []), ([2], [2]), ([3], [3]), ([], []), ([5], [5]), ([0, 1], []), ([7, 1, 4, 0, 1], [1, 7]), ([0, 1, 2, 3, 4, 7, 8], []), ([9, 4, 8, 0, 1, 2, 3, 4, 7, 8], [4, 9]), ([0, 1, 2, 3, 4, 5, 6, 7, 8, 9, 10], []), ([11, 6, 10, 0, 1, 2, 3, 4, 5, 6, 7, 8, 9, 10], [6, 11])])
def deed_Want.B7 : List Nat := [0, 1, 0, 4, 12, 0, 32, 3, 159, 415, 927, 2047, 4095]
theorem deed_Want.tab7 : rtab .any (opsOf Try.f12 7) = deed_Want.T7 := by kernel_rfl
theorem deed_Want.bits7 : waitsOk deed_Want.T7.2 deed_Want.B7 = true := by kernel_rfl
def deed_Want.T9 : Bool × List (List Nat × List Nat) := (true, [([], []), ([0], [0]), ([], []), ([2], [2]), ([0, 1], []), ([4, 1, 0, 1], [1, 4]), ([0, 1, 2, 3, 4, 5], []), ([6, 3, 5, 0, 1, 2, 3, 4, 5], [3, 6])])
def deed_Want.B9 : List Nat := [0, 1, 0, 4, 3, 19, 63, 127]
theorem deed_Want.tab9 : rtab .any (opsOf Try.f12 9) = deed_Want.T9 := by kernel_rfl
theorem deed_Want.bits9 : waitsOk deed_Want.T9.2 deed_Want.B9 = true := by kernel_rfl
set_option maxHeartbeats 40000000 in
set_option maxRecDepth 100000 in
theorem deed_Want.calls (a0_0 : Int) (a0_1 : Int) (a0_2 : ByteArray) (a0_3 : ByteArray) (a0_4 : Int) (a0_5 : Int) (a0_6 : Int) (a0_7 : Int) (a0_8 : Int) (a0_9 : Int) (a0_10 : Int) (a0_11 : Int) (a0_12 : ByteArray) (a0_13 : Bool) (r1 : Int) (r2 : Int) (r3 : Int) (r4 : ByteArray) (r5 : Int) (r6 : Int) (r7 : Int) (r8 : Int) (r9 : Int) (r10 : Int) (r11 : Int) (r12 : List (S69)) (r13 : Bool) (w : World) (h : deed_Want.f a0_0 a0_1 a0_2 a0_3 a0_4 a0_5 a0_6 a0_7 a0_8 a0_9 a0_10 a0_11 a0_12 a0_13 = some (r1, r2, r3, r4, r5, r6, r7, r8, r9, r10, r11, r12, r13)) :
  Calls Try.prog 12 #[.agg #[.int .i64 a0_0, .int .i64 a0_1, .string a0_2, .string a0_3, .int .i64 a0_4, .int .i64 a0_5, .int .i64 a0_6, .int .i64 a0_7, .int .i64 a0_8, .int .u32 a0_9, .int .i64 a0_10, .int .i64 a0_11, .string a0_12, .bool a0_13]] w fun e w' => ∃ v11_ : Value, e = .returned (.tuple #[.agg #[.int .i64 r1, .int .i64 r2, .int .i64 r3, .string r4, .int .i64 r5, .int .i64 r6, .int .i64 r7, .int .u32 r8, .int .i64 r9, .int .i64 r10, .int .i64 r11, v11_], .bool r13]) ∧ Kd.R k69 69 w' w.heap.size (fun _ => True) v11_ r12 ∧ Below w.heap.size w w' := by
 have hu28 := Try.underlying28
 have hu36 := Try.underlying36
 have HB := qM (Below.refl w.heap.size w)
 have H : (if a0_5 = 4 then ((crc_Sum.f a0_3).bind fun t106 => (if 3 = 0 then (some (2, a0_0, a0_4, a0_2, a0_6, a0_7, a0_8, t106, 0, 0, 0, ([] : List (S69)), true)) else (some (3, a0_0, a0_4, a0_2, a0_6, a0_7, a0_8, t106, 0, 0, 0, ([] : List (S69)), true)))) else (if a0_5 = 2 then (if 0 = 0 then (some (2, a0_0, a0_4, (⟨#[]⟩ : ByteArray), a0_6, 0, a0_8, 0, 0, 0, 0, ([] : List (S69)), true)) else (some (0, a0_0, a0_4, (⟨#[]⟩ : ByteArray), a0_6, 0, a0_8, 0, 0, 0, 0, ([] : List (S69)), true))) else (if a0_5 = 5 then (some (5, a0_0, a0_4, a0_2, 0, 0, 0, 0, 0, 0, 0, ([] : List (S69)), true)) else (if a0_5 = 7 then (some (4, a0_0, a0_4, a0_2, 0, 0, 0, 0, 0, 0, 0, ([] : List (S69)), true)) else (some (0, 0, 0, (⟨#[]⟩ : ByteArray), 0, 0, 0, 0, 0, 0, 0, ([] : List (S69)), false)))))) = some (r1, r2, r3, r4, r5, r6, r7, r8, r9, r10, r11, r12, r13) := h
 clear h
 by_cases c2 : a0_5 = 4
 ·rw [if_pos c2] at H
  have c2b0 : (a0_5 == 4) = true := beq_iff_eq.mpr c2
  have c2b1 : (a0_5 != 4) = false := bne_eq_false_iff_eq.mpr c2
  clear c2
  replace H := Option.bind_eq_some_iff.mp H
  obtain ⟨t106, A30, H⟩ := H
  replace H : (if 3 = 0 then (some (2, a0_0, a0_4, a0_2, a0_6, a0_7, a0_8, t106, 0, 0, 0, ([] : List (S69)), true)) else (some (3, a0_0, a0_4, a0_2, a0_6, a0_7, a0_8, t106, 0, 0, 0, ([] : List (S69)), true))) = some (r1, r2, r3, r4, r5, r6, r7, r8, r9, r10, r11, r12, r13) := H
  have A3 := qM A30
  clear A30
  by_cases c4 : 3 = 0
  ·exact absurd c4 (by decide)
  ·rw [if_neg c4] at H
   have c4b0 : (3 == 0) = false := beq_eq_false_iff_ne.mpr c4
   have c4b1 : (3 != 0) = true := bne_iff_ne.mpr c4
   simp only [Option.some.injEq, Prod.mk.injEq] at H
   obtain ⟨rfl, rfl, rfl, rfl, rfl, rfl, rfl, rfl, rfl, rfl, rfl, rfl, rfl⟩ := H
   go_enter Try.func12, Try.ntmps12
   try go_wp2_with (first | ((with_reducible refine gate_dst (N := 1) rfl ?_); refine box_event ?hg (N := 1) ?hd (cs := #[.int .i64 a0_0, .int .i64 a0_1, .string a0_2, .string a0_3, .int .i64 a0_4, .int .i64 a0_5, .int .i64 a0_6, .int .i64 a0_7, .int .i64 a0_8, .int .u32 a0_9, .int .i64 a0_10, .int .i64 a0_11, .string a0_12, .bool a0_13]) (t := 28) ?hr ?_; (case hd => rfl); (case hg => rfl); (case hr => first | (go_simp; done) | (go_simp; rfl)); intro g103 hg w27 hbox hb; have n0_ := qM (eT (by repeat (first | (with_reducible first | exact HB.out | apply eA | apply eN | apply eD) | exact HB.out)) hb); have n1_ := qM (hbox); have n2_ := qM ((by rw [hg]; exact (eZ (by repeat (first | (with_reducible first | exact HB.out | apply eA | apply eN | apply eD) | exact HB.out))) : w.heap.size ≤ g103)); have n3_ := n2_; clear HB; have HB := n0_; have B103 := n1_; have GW103 := n2_; have GE103 := n3_; clear n0_ n1_ n2_ n3_; clear hb hbox hg) | ((with_reducible refine gate_dst (N := 2) rfl ?_); refine box_event ?hg (N := 2) ?hd (cs := #[.int .i64 0, .int .i64 0, .int .i64 0, .string (⟨#[]⟩ : ByteArray), .int .i64 0, .int .i64 0, .int .i64 0, .int .u32 0, .int .i64 0, .int .i64 0, .int .i64 0, .slice none 0 0]) (t := 36) ?hr ?_; (case hd => rfl); (case hg => rfl); (case hr => first | (go_simp; done) | (go_simp; rfl)); intro g104 hg w28 hbox hb; have n0_ := qM (qB (g := g103) (by (with_reducible repeat first | refine qN ?_ _ | refine qD ?_ | refine qA ?_ _); exact B103.out) hb); have n1_ := qM (eT (by repeat (first | (with_reducible first | exact HB.out | apply eA | apply eN | apply eD | refine eS ?_ GE103.out) | exact HB.out)) hb); have n2_ := qM (hbox); have n3_ := qM ((by rw [hg]; exact (eZ (by repeat (first | (with_reducible first | exact HB.out | apply eA | apply eN | apply eD | refine eS ?_ GE103.out) | exact HB.out))) : w.heap.size ≤ g104)); have n4_ := n3_; have n5_ := qM ((by rw [hg]; exact Nat.ne_of_lt (qL (g := g103) (by (with_reducible repeat first | refine qN ?_ _ | refine qD ?_ | refine qA ?_ _); exact B103.out)) : g103 ≠ g104)); have n6_ := qM (Ne.symm n5_.out); clear B103; clear HB; have B103 := n0_; have HB := n1_; have B104 := n2_; have GW104 := n3_; have GE104 := n4_; have NB103_104 := n5_; have NB104_103 := n6_; clear n0_ n1_ n2_ n3_ n4_ n5_ n6_; clear hb hbox hg; have hnb29 := NB103_104.out; have hnc29 := NB104_103.out; obtain ⟨z30_0, z30_1, z30_2, z30_3, z30_4, z30_5, z30_6, z30_7, z30_8, z30_9, z30_10, z30_11, z30_12, z30_13, f30_0, f30_1, f30_2, f30_3, f30_4, f30_5, f30_6, f30_7, f30_8, f30_9, f30_10, f30_11, f30_12, f30_13⟩ := cells14 B103.out) | ((with_reducible refine gate_dst (N := 4) rfl ?_); refine box_event ?hg (N := 4) ?hd (cs := #[.int .i64 0, .int .i64 0, .int .i64 0, .string (⟨#[]⟩ : ByteArray), .int .i64 0, .int .i64 0, .int .i64 0, .int .u32 0, .int .i64 0, .int .i64 0, .int .i64 0, .slice none 0 0]) (t := 36) ?hr ?_; (case hd => rfl); (case hg => rfl); (case hr => first | (go_simp; done) | (go_simp; rfl)); intro g105 hg w31 hbox hb; have n0_ := qM (qB (g := g103) (by (with_reducible repeat first | refine qN ?_ _ | refine qD ?_ | refine qA ?_ _); exact B103.out) hb); have n1_ := qM (qB (g := g104) (by (with_reducible repeat first | refine qN ?_ _ | refine qD ?_ | refine qA ?_ _); exact B104.out) hb); have n2_ := qM (eT (by repeat (first | (with_reducible first | exact HB.out | apply eA | apply eN | apply eD | refine eS ?_ GE103.out | refine eS ?_ GE104.out) | exact HB.out)) hb); have n3_ := qM (hbox); have n4_ := qM ((by rw [hg]; exact (eZ (by repeat (first | (with_reducible first | exact HB.out | apply eA | apply eN | apply eD | refine eS ?_ GE103.out | refine eS ?_ GE104.out) | exact HB.out))) : w.heap.size ≤ g105)); have n5_ := n4_; have n6_ := qM ((by rw [hg]; exact Nat.ne_of_lt (qL (g := g103) (by (with_reducible repeat first | refine qN ?_ _ | refine qD ?_ | refine qA ?_ _); exact B103.out)) : g103 ≠ g105)); have n7_ := qM (Ne.symm n6_.out); have n8_ := qM ((by rw [hg]; exact Nat.ne_of_lt (qL (g := g104) (by (with_reducible repeat first | refine qN ?_ _ | refine qD ?_ | refine qA ?_ _); exact B104.out)) : g104 ≠ g105)); have n9_ := qM (Ne.symm n8_.out); clear B103; clear B104; clear HB; have B103 := n0_; have B104 := n1_; have HB := n2_; have B105 := n3_; have GW105 := n4_; have GE105 := n5_; have NB103_105 := n6_; have NB105_103 := n7_; have NB104_105 := n8_; have NB105_104 := n9_; clear n0_ n1_ n2_ n3_ n4_ n5_ n6_ n7_ n8_ n9_; clear hb hbox hg; have hnb32 := NB105_103.out; have hnc32 := NB103_105.out; have hnb33 := NB105_104.out; have hnc33 := NB104_105.out; obtain ⟨z34_0, z34_1, z34_2, z34_3, z34_4, z34_5, z34_6, z34_7, z34_8, z34_9, z34_10, z34_11, f34_0, f34_1, f34_2, f34_3, f34_4, f34_5, f34_6, f34_7, f34_8, f34_9, f34_10, f34_11⟩ := cells12 B105.out; obtain ⟨z35_0, z35_1, z35_2, z35_3, z35_4, z35_5, z35_6, z35_7, z35_8, z35_9, z35_10, z35_11, z35_12, z35_13, f35_0, f35_1, f35_2, f35_3, f35_4, f35_5, f35_6, f35_7, f35_8, f35_9, f35_10, f35_11, f35_12, f35_13⟩ := cells14 B103.out))
   have n0_ : Aside0 (((((((((((((w31.setCell ⟨g105, 0, none⟩ (.int .i64 0)).setCell ⟨g105, 1, none⟩ (.int .i64 a0_0)).setCell ⟨g105, 2, none⟩ (.int .i64 a0_4)).setCell ⟨g105, 3, none⟩ (.string (⟨#[]⟩ : ByteArray))).setCell ⟨g105, 4, none⟩ (.int .i64 0)).setCell ⟨g105, 5, none⟩ (.int .i64 0)).setCell ⟨g105, 6, none⟩ (.int .i64 0)).setCell ⟨g105, 7, none⟩ (.int .u32 0)).setCell ⟨g105, 8, none⟩ (.int .i64 0)).setCell ⟨g105, 9, none⟩ (.int .i64 0)).setCell ⟨g105, 10, none⟩ (.int .i64 0)).setCell ⟨g105, 11, none⟩ (.slice none 0 0)).heap[g103]? = some (.cells #[.int .i64 a0_0, .int .i64 a0_1, .string a0_2, .string a0_3, .int .i64 a0_4, .int .i64 a0_5, .int .i64 a0_6, .int .i64 a0_7, .int .i64 a0_8, .int .u32 a0_9, .int .i64 a0_10, .int .i64 a0_11, .string a0_12, .bool a0_13] 28 (0, 0))) := ⟨by (with_reducible repeat first | refine qN ?_ _ | refine qD ?_ | refine qA ?_ _); (iterate 12 (refine qR ?_ NB103_105.out _; (with_reducible repeat first | refine qN ?_ _ | refine qD ?_ | refine qA ?_ _))); exact B103.out⟩
   have n1_ : Aside0 (((((((((((((w31.setCell ⟨g105, 0, none⟩ (.int .i64 0)).setCell ⟨g105, 1, none⟩ (.int .i64 a0_0)).setCell ⟨g105, 2, none⟩ (.int .i64 a0_4)).setCell ⟨g105, 3, none⟩ (.string (⟨#[]⟩ : ByteArray))).setCell ⟨g105, 4, none⟩ (.int .i64 0)).setCell ⟨g105, 5, none⟩ (.int .i64 0)).setCell ⟨g105, 6, none⟩ (.int .i64 0)).setCell ⟨g105, 7, none⟩ (.int .u32 0)).setCell ⟨g105, 8, none⟩ (.int .i64 0)).setCell ⟨g105, 9, none⟩ (.int .i64 0)).setCell ⟨g105, 10, none⟩ (.int .i64 0)).setCell ⟨g105, 11, none⟩ (.slice none 0 0)).heap[g104]? = some (.cells #[.int .i64 0, .int .i64 0, .int .i64 0, .string (⟨#[]⟩ : ByteArray), .int .i64 0, .int .i64 0, .int .i64 0, .int .u32 0, .int .i64 0, .int .i64 0, .int .i64 0, .slice none 0 0] 36 (0, 0))) := ⟨by (with_reducible repeat first | refine qN ?_ _ | refine qD ?_ | refine qA ?_ _); (iterate 12 (refine qR ?_ NB104_105.out _; (with_reducible repeat first | refine qN ?_ _ | refine qD ?_ | refine qA ?_ _))); exact B104.out⟩
   have n2_ : Aside0 (((((((((((((w31.setCell ⟨g105, 0, none⟩ (.int .i64 0)).setCell ⟨g105, 1, none⟩ (.int .i64 a0_0)).setCell ⟨g105, 2, none⟩ (.int .i64 a0_4)).setCell ⟨g105, 3, none⟩ (.string (⟨#[]⟩ : ByteArray))).setCell ⟨g105, 4, none⟩ (.int .i64 0)).setCell ⟨g105, 5, none⟩ (.int .i64 0)).setCell ⟨g105, 6, none⟩ (.int .i64 0)).setCell ⟨g105, 7, none⟩ (.int .u32 0)).setCell ⟨g105, 8, none⟩ (.int .i64 0)).setCell ⟨g105, 9, none⟩ (.int .i64 0)).setCell ⟨g105, 10, none⟩ (.int .i64 0)).setCell ⟨g105, 11, none⟩ (.slice none 0 0)).heap[g105]? = some (.cells #[.int .i64 0, .int .i64 a0_0, .int .i64 a0_4, .string (⟨#[]⟩ : ByteArray), .int .i64 0, .int .i64 0, .int .i64 0, .int .u32 0, .int .i64 0, .int .i64 0, .int .i64 0, .slice none 0 0] 36 (0, 0))) := ⟨by (with_reducible repeat first | refine qN ?_ _ | refine qD ?_ | refine qA ?_ _); apply puts12; (with_reducible repeat first | refine qN ?_ _ | refine qD ?_ | refine qA ?_ _); exact B105.out⟩
   have n3_ : Aside0 (Below w.heap.size w ((((((((((((w31.setCell ⟨g105, 0, none⟩ (.int .i64 0)).setCell ⟨g105, 1, none⟩ (.int .i64 a0_0)).setCell ⟨g105, 2, none⟩ (.int .i64 a0_4)).setCell ⟨g105, 3, none⟩ (.string (⟨#[]⟩ : ByteArray))).setCell ⟨g105, 4, none⟩ (.int .i64 0)).setCell ⟨g105, 5, none⟩ (.int .i64 0)).setCell ⟨g105, 6, none⟩ (.int .i64 0)).setCell ⟨g105, 7, none⟩ (.int .u32 0)).setCell ⟨g105, 8, none⟩ (.int .i64 0)).setCell ⟨g105, 9, none⟩ (.int .i64 0)).setCell ⟨g105, 10, none⟩ (.int .i64 0)).setCell ⟨g105, 11, none⟩ (.slice none 0 0))) := ⟨by repeat (first | (with_reducible first | exact HB.out | apply eA | apply eN | apply eD | refine eS ?_ GE103.out | refine eS ?_ GE104.out | refine eS ?_ GE105.out) | exact HB.out)⟩
   (try clear B103)
   (try clear B104)
   (try clear B105)
   (try clear HB)
   generalize ((((((((((((w31.setCell ⟨g105, 0, none⟩ (.int .i64 0)).setCell ⟨g105, 1, none⟩ (.int .i64 a0_0)).setCell ⟨g105, 2, none⟩ (.int .i64 a0_4)).setCell ⟨g105, 3, none⟩ (.string (⟨#[]⟩ : ByteArray))).setCell ⟨g105, 4, none⟩ (.int .i64 0)).setCell ⟨g105, 5, none⟩ (.int .i64 0)).setCell ⟨g105, 6, none⟩ (.int .i64 0)).setCell ⟨g105, 7, none⟩ (.int .u32 0)).setCell ⟨g105, 8, none⟩ (.int .i64 0)).setCell ⟨g105, 9, none⟩ (.int .i64 0)).setCell ⟨g105, 10, none⟩ (.int .i64 0)).setCell ⟨g105, 11, none⟩ (.slice none 0 0)) = w36 at n0_ n1_ n2_ n3_ ⊢
   have B103 := n0_
   have B104 := n1_
   have B105 := n2_
   have HB := n3_
   clear n0_ n1_ n2_ n3_
   have n0_ := qM (blk_drew B103.out)
   have n1_ := qM (blk_drew B104.out)
   have n2_ := qM (blk_drew B105.out)
   have n3_ := qM (below_drew1 HB.out)
   clear B103
   clear B104
   clear B105
   clear HB
   have B103 := n0_
   have B104 := n1_
   have B105 := n2_
   have HB := n3_
   clear n0_ n1_ n2_ n3_
   refine start_ (n := 13) (S := fun w' => w'.cell? ⟨g103, 0, none⟩ = some (.int .i64 a0_0) ∧ w'.cell? ⟨g103, 1, none⟩ = some (.int .i64 a0_1) ∧ w'.cell? ⟨g103, 2, none⟩ = some (.string a0_2) ∧ w'.cell? ⟨g103, 3, none⟩ = some (.string a0_3) ∧ w'.cell? ⟨g103, 4, none⟩ = some (.int .i64 a0_4) ∧ w'.cell? ⟨g103, 5, none⟩ = some (.int .i64 a0_5) ∧ w'.cell? ⟨g103, 6, none⟩ = some (.int .i64 a0_6) ∧ w'.cell? ⟨g103, 7, none⟩ = some (.int .i64 a0_7) ∧ w'.cell? ⟨g103, 8, none⟩ = some (.int .i64 a0_8) ∧ w'.cell? ⟨g103, 9, none⟩ = some (.int .u32 a0_9) ∧ w'.cell? ⟨g103, 10, none⟩ = some (.int .i64 a0_10) ∧ w'.cell? ⟨g103, 11, none⟩ = some (.int .i64 a0_11) ∧ w'.cell? ⟨g103, 12, none⟩ = some (.string a0_12) ∧ w'.cell? ⟨g103, 13, none⟩ = some (.bool a0_13)) (ds := []) #[false, false, false, false, false, false, false, false, false, false, false, false, false] (by kernel_rfl) rfl rfl ⟨(qC B103.out 0).trans rfl, (qC B103.out 1).trans rfl, (qC B103.out 2).trans rfl, (qC B103.out 3).trans rfl, (qC B103.out 4).trans rfl, (qC B103.out 5).trans rfl, (qC B103.out 6).trans rfl, (qC B103.out 7).trans rfl, (qC B103.out 8).trans rfl, (qC B103.out 9).trans rfl, (qC B103.out 10).trans rfl, (qC B103.out 11).trans rfl, (qC B103.out 12).trans rfl, (qC B103.out 13).trans rfl⟩ (fun hHeld => ?_); refine with_tabW deed_Want.tab7 deed_Want.bits7 (fun HT_ HW_ => ?_)
   generalize w36.drew = w37 at B103 B104 B105 HB hHeld ⊢
   refine pure_ (i := 0) (N := some 20) (v := ?_) (a' := ?_) #[true, false, false, false, false, false, false, false, false, false, false, false, false] rfl rfl (any_of HT_.out (by kernel_rfl)) (fun _ _ _ h => h) (Or.inl ⟨by rfl, ?_⟩) ?_ ?_
   rotate_left
   ·intro w'; go_simp; with_reducible rfl
   rotate_left
   ·simp only [Act.put, xA, xZ, xS, i64_w, i32_w]; rfl
   refine pure_ (i := 2) (N := some 22) (v := ?_) (a' := ?_) #[true, false, true, false, false, false, false, false, false, false, false, false, false] rfl rfl (any_of HT_.out (by kernel_rfl)) (fun _ _ _ h => h) (Or.inl ⟨by rfl, ?_⟩) ?_ ?_
   rotate_left
   ·intro w'; go_simp; with_reducible rfl
   rotate_left
   ·simp only [Act.put, xA, xZ, xS, i64_w, i32_w]; rfl
   refine pure_ (i := 5) (N := some 25) (v := ?_) (a' := ?_) #[true, false, true, false, false, true, false, false, false, false, false, false, false] rfl rfl (any_of HT_.out (by kernel_rfl)) (fun _ _ _ h => h) (Or.inl ⟨by rfl, ?_⟩) ?_ ?_
   rotate_left
   ·intro w'; go_simp; with_reducible rfl
   rotate_left
   ·simp only [Act.put, xA, xZ, xS, i64_w, i32_w]; rfl
   refine take_ (i := 1) (N := some 21) (v := ?_) (a' := ?_) #[true, true, true, false, false, true, false, false, false, false, false, false, false] rfl rfl (take_ofW HT_.out HW_.out (by kernel_rfl)) (fun _ _ _ h => h) (Or.inl ⟨by rfl, ?_⟩) hHeld ?_ ?_
   rotate_left
   ·rintro w' ⟨s0, s1, s2, s3, s4, s5, s6, s7, s8, s9, s10, s11, s12, s13⟩; go_simp; with_reducible rfl
   rotate_left
   ·simp only [Act.put, xA, xZ, xS, i64_w, i32_w]; rfl
   refine pure_ (i := 7) (N := some 27) (v := ?_) (a' := ?_) #[true, true, true, false, false, true, false, true, false, false, false, false, false] rfl rfl (any_of HT_.out (by kernel_rfl)) (fun _ _ _ h => h) (Or.inl ⟨by rfl, ?_⟩) ?_ ?_
   rotate_left
   ·intro w'; go_simp; with_reducible rfl
   rotate_left
   ·simp only [Act.put, xA, xZ, xS, i64_w, i32_w]; rfl
   refine take_ (i := 3) (N := some 23) (v := ?_) (a' := ?_) #[true, true, true, true, false, true, false, true, false, false, false, false, false] rfl rfl (take_ofW HT_.out HW_.out (by kernel_rfl)) (fun _ _ _ h => h) (Or.inl ⟨by rfl, ?_⟩) hHeld ?_ ?_
   rotate_left
   ·rintro w' ⟨s0, s1, s2, s3, s4, s5, s6, s7, s8, s9, s10, s11, s12, s13⟩; go_simp; with_reducible rfl
   rotate_left
   ·simp only [Act.put, xA, xZ, xS, i64_w, i32_w]; rfl
   refine take_ (i := 6) (N := some 26) (v := ?_) (a' := ?_) #[true, true, true, true, false, true, true, true, false, false, false, false, false] rfl rfl (take_ofW HT_.out HW_.out (by kernel_rfl)) (fun _ _ _ h => h) (Or.inl ⟨by rfl, ?_⟩) hHeld ?_ ?_
   rotate_left
   ·rintro w' ⟨s0, s1, s2, s3, s4, s5, s6, s7, s8, s9, s10, s11, s12, s13⟩; go_simp; with_reducible rfl
   rotate_left
   ·simp only [Act.put, xA, xZ, xS, i64_w, i32_w]; rfl
   refine one_ (i := 4) (N := some 24) #[true, true, true, true, true, true, true, true, false, false, false, false, false] rfl rfl (one_of HT_.out (by kernel_rfl)) (by decide) (fun K hK => ?_)
   refine goes_ Try.func27 (by kernel_rfl) rfl #[.string a0_3] (by rfl) rfl rfl (by (try simp only [List.map_toArray, List.map_cons, List.map_nil]); first | done | rfl | (simp only [List.length_drop, List.length_take]; rfl)) ?_
   with_reducible refine (crc_Sum.calls a0_3 t106 _ A3.out).mono ?_
   rintro e w38 ⟨rfl, hb⟩
   refine ⟨_, rfl, ?_⟩
   have n0_ := qM (qB (g := g103) (by (with_reducible repeat first | refine qN ?_ _ | refine qD ?_ | refine qA ?_ _); exact B103.out) hb)
   have n1_ := qM (qB (g := g104) (by (with_reducible repeat first | refine qN ?_ _ | refine qD ?_ | refine qA ?_ _); exact B104.out) hb)
   have n2_ := qM (qB (g := g105) (by (with_reducible repeat first | refine qN ?_ _ | refine qD ?_ | refine qA ?_ _); exact B105.out) hb)
   have n3_ := qM (eT (by repeat (first | (with_reducible first | exact HB.out | apply eA | apply eN | apply eD | refine eS ?_ GE103.out | refine eS ?_ GE104.out | refine eS ?_ GE105.out) | exact HB.out)) hb)
   clear B103
   clear B104
   clear B105
   clear HB
   have B103 := n0_
   have B104 := n1_
   have B105 := n2_
   have HB := n3_
   clear n0_ n1_ n2_ n3_
   (try clear hb)
   (try clear hb2)
   (try clear hk)
   (try clear hi)
   refine hK.out _ _ ⟨(qC B103.out 0).trans rfl, (qC B103.out 1).trans rfl, (qC B103.out 2).trans rfl, (qC B103.out 3).trans rfl, (qC B103.out 4).trans rfl, (qC B103.out 5).trans rfl, (qC B103.out 6).trans rfl, (qC B103.out 7).trans rfl, (qC B103.out 8).trans rfl, (qC B103.out 9).trans rfl, (qC B103.out 10).trans rfl, (qC B103.out 11).trans rfl, (qC B103.out 12).trans rfl, (qC B103.out 13).trans rfl⟩ (fun hHeld => ?_)
   clear hK K
   refine norm_ (a' := ?_) ?_ ?_
   rotate_left
   ·show Act.put _ (some 24) _ = _
    simp only [Act.put, xA, xZ, xS, i64_w, i32_w]
    rfl
   refine one_ (i := 8) (N := none) #[true, true, true, true, true, true, true, true, true, false, false, false, false] rfl rfl (one_of HT_.out (by kernel_rfl)) (by decide) (fun K hK => ?_)
   have hs39 : w38.cell? ⟨g105, 5, none⟩ = some (.int .i64 0) := (qC B105.out 5).trans rfl
   have hfs39 := qF B105.out 5
   have hns39_0 := NB103_105.out
   have hns39_1 := NB104_105.out
   have hms39_0 := NB105_103.out
   have hms39_1 := NB105_104.out
   refine skip_ (w1 := ?_) (by rfl) rfl ?_ ?_
   rotate_left
   ·go_simp; rfl
   refine hK.out _ _ ⟨((cell_far (p := ⟨g105, _, none⟩) NB103_105.out _).trans (hHeld.1)), ((cell_far (p := ⟨g105, _, none⟩) NB103_105.out _).trans (hHeld.2.1)), ((cell_far (p := ⟨g105, _, none⟩) NB103_105.out _).trans (hHeld.2.2.1)), ((cell_far (p := ⟨g105, _, none⟩) NB103_105.out _).trans (hHeld.2.2.2.1)), ((cell_far (p := ⟨g105, _, none⟩) NB103_105.out _).trans (hHeld.2.2.2.2.1)), ((cell_far (p := ⟨g105, _, none⟩) NB103_105.out _).trans (hHeld.2.2.2.2.2.1)), ((cell_far (p := ⟨g105, _, none⟩) NB103_105.out _).trans (hHeld.2.2.2.2.2.2.1)), ((cell_far (p := ⟨g105, _, none⟩) NB103_105.out _).trans (hHeld.2.2.2.2.2.2.2.1)), ((cell_far (p := ⟨g105, _, none⟩) NB103_105.out _).trans (hHeld.2.2.2.2.2.2.2.2.1)), ((cell_far (p := ⟨g105, _, none⟩) NB103_105.out _).trans (hHeld.2.2.2.2.2.2.2.2.2.1)), ((cell_far (p := ⟨g105, _, none⟩) NB103_105.out _).trans (hHeld.2.2.2.2.2.2.2.2.2.2.1)), ((cell_far (p := ⟨g105, _, none⟩) NB103_105.out _).trans (hHeld.2.2.2.2.2.2.2.2.2.2.2.1)), ((cell_far (p := ⟨g105, _, none⟩) NB103_105.out _).trans (hHeld.2.2.2.2.2.2.2.2.2.2.2.2.1)), ((cell_far (p := ⟨g105, _, none⟩) NB103_105.out _).trans (hHeld.2.2.2.2.2.2.2.2.2.2.2.2.2))⟩ (fun hHeld => ?_)
   clear hK K
   refine pure_ (i := 9) (N := some 28) (v := ?_) (a' := ?_) #[true, true, true, true, true, true, true, true, true, true, false, false, false] rfl rfl (any_of HT_.out (by kernel_rfl)) (fun _ _ _ h => h) (Or.inl ⟨by rfl, ?_⟩) ?_ ?_
   rotate_left
   ·intro w'; go_simp; with_reducible rfl
   rotate_left
   ·simp only [Act.put, xA, xZ, xS, i64_w, i32_w]; rfl
   refine one_ (i := 10) (N := none) #[true, true, true, true, true, true, true, true, true, true, true, false, false] rfl rfl (one_of HT_.out (by kernel_rfl)) (by decide) (fun K hK => ?_)
   have hs40 : w38.cell? ⟨g105, 7, none⟩ = some (.int .u32 0) := (qC B105.out 7).trans rfl
   have hfs40 := qF B105.out 7
   have hns40_0 := NB103_105.out
   have hns40_1 := NB104_105.out
   have hms40_0 := NB105_103.out
   have hms40_1 := NB105_104.out
   refine skip_ (w1 := ?_) (by rfl) rfl ?_ ?_
   rotate_left
   ·go_simp; rfl
   refine hK.out _ _ ⟨((cell_far (p := ⟨g105, _, none⟩) NB103_105.out _).trans (hHeld.1)), ((cell_far (p := ⟨g105, _, none⟩) NB103_105.out _).trans (hHeld.2.1)), ((cell_far (p := ⟨g105, _, none⟩) NB103_105.out _).trans (hHeld.2.2.1)), ((cell_far (p := ⟨g105, _, none⟩) NB103_105.out _).trans (hHeld.2.2.2.1)), ((cell_far (p := ⟨g105, _, none⟩) NB103_105.out _).trans (hHeld.2.2.2.2.1)), ((cell_far (p := ⟨g105, _, none⟩) NB103_105.out _).trans (hHeld.2.2.2.2.2.1)), ((cell_far (p := ⟨g105, _, none⟩) NB103_105.out _).trans (hHeld.2.2.2.2.2.2.1)), ((cell_far (p := ⟨g105, _, none⟩) NB103_105.out _).trans (hHeld.2.2.2.2.2.2.2.1)), ((cell_far (p := ⟨g105, _, none⟩) NB103_105.out _).trans (hHeld.2.2.2.2.2.2.2.2.1)), ((cell_far (p := ⟨g105, _, none⟩) NB103_105.out _).trans (hHeld.2.2.2.2.2.2.2.2.2.1)), ((cell_far (p := ⟨g105, _, none⟩) NB103_105.out _).trans (hHeld.2.2.2.2.2.2.2.2.2.2.1)), ((cell_far (p := ⟨g105, _, none⟩) NB103_105.out _).trans (hHeld.2.2.2.2.2.2.2.2.2.2.2.1)), ((cell_far (p := ⟨g105, _, none⟩) NB103_105.out _).trans (hHeld.2.2.2.2.2.2.2.2.2.2.2.2.1)), ((cell_far (p := ⟨g105, _, none⟩) NB103_105.out _).trans (hHeld.2.2.2.2.2.2.2.2.2.2.2.2.2))⟩ (fun hHeld => ?_)
   clear hK K
   refine pure_ (i := 11) (N := some 29) (v := ?_) (a' := ?_) #[true, true, true, true, true, true, true, true, true, true, true, true, false] rfl rfl (any_of HT_.out (by kernel_rfl)) (fun _ _ _ h => h) (Or.inl ⟨by rfl, ?_⟩) ?_ ?_
   rotate_left
   ·intro w'; go_simp; with_reducible rfl
   rotate_left
   ·simp only [Act.put, xA, xZ, xS, i64_w, i32_w]; rfl
   refine one_ (i := 12) (N := none) #[true, true, true, true, true, true, true, true, true, true, true, true, true] rfl rfl (one_of HT_.out (by kernel_rfl)) (by decide) (fun K hK => ?_)
   have hs41 : w38.cell? ⟨g105, 3, none⟩ = some (.string (⟨#[]⟩ : ByteArray)) := (qC B105.out 3).trans rfl
   have hfs41 := qF B105.out 3
   have hns41_0 := NB103_105.out
   have hns41_1 := NB104_105.out
   have hms41_0 := NB105_103.out
   have hms41_1 := NB105_104.out
   refine skip_ (w1 := ?_) (by rfl) rfl ?_ ?_
   rotate_left
   ·go_simp; rfl
   refine hK.out _ _ ⟨((cell_far (p := ⟨g105, _, none⟩) NB103_105.out _).trans (hHeld.1)), ((cell_far (p := ⟨g105, _, none⟩) NB103_105.out _).trans (hHeld.2.1)), ((cell_far (p := ⟨g105, _, none⟩) NB103_105.out _).trans (hHeld.2.2.1)), ((cell_far (p := ⟨g105, _, none⟩) NB103_105.out _).trans (hHeld.2.2.2.1)), ((cell_far (p := ⟨g105, _, none⟩) NB103_105.out _).trans (hHeld.2.2.2.2.1)), ((cell_far (p := ⟨g105, _, none⟩) NB103_105.out _).trans (hHeld.2.2.2.2.2.1)), ((cell_far (p := ⟨g105, _, none⟩) NB103_105.out _).trans (hHeld.2.2.2.2.2.2.1)), ((cell_far (p := ⟨g105, _, none⟩) NB103_105.out _).trans (hHeld.2.2.2.2.2.2.2.1)), ((cell_far (p := ⟨g105, _, none⟩) NB103_105.out _).trans (hHeld.2.2.2.2.2.2.2.2.1)), ((cell_far (p := ⟨g105, _, none⟩) NB103_105.out _).trans (hHeld.2.2.2.2.2.2.2.2.2.1)), ((cell_far (p := ⟨g105, _, none⟩) NB103_105.out _).trans (hHeld.2.2.2.2.2.2.2.2.2.2.1)), ((cell_far (p := ⟨g105, _, none⟩) NB103_105.out _).trans (hHeld.2.2.2.2.2.2.2.2.2.2.2.1)), ((cell_far (p := ⟨g105, _, none⟩) NB103_105.out _).trans (hHeld.2.2.2.2.2.2.2.2.2.2.2.2.1)), ((cell_far (p := ⟨g105, _, none⟩) NB103_105.out _).trans (hHeld.2.2.2.2.2.2.2.2.2.2.2.2.2))⟩ (fun hHeld => ?_)
   clear hK K
   refine done_ (done_of HT_.out (by kernel_rfl)) ?_
   obtain ⟨z42_0, z42_1, z42_2, z42_3, z42_4, z42_5, z42_6, z42_7, z42_8, z42_9, z42_10, z42_11, f42_0, f42_1, f42_2, f42_3, f42_4, f42_5, f42_6, f42_7, f42_8, f42_9, f42_10, f42_11⟩ := cells12 B105.out
   try go_wp2
   have n0_ : Aside0 (((((w38.setCell ⟨g105, 5, none⟩ (.int .i64 a0_7)).setCell ⟨g105, 7, none⟩ (.int .u32 t106)).setCell ⟨g105, 3, none⟩ (.string a0_2)).setCell ⟨g105, 0, none⟩ (.int .i64 3)).heap[g103]? = some (.cells #[.int .i64 a0_0, .int .i64 a0_1, .string a0_2, .string a0_3, .int .i64 a0_4, .int .i64 a0_5, .int .i64 a0_6, .int .i64 a0_7, .int .i64 a0_8, .int .u32 a0_9, .int .i64 a0_10, .int .i64 a0_11, .string a0_12, .bool a0_13] 28 (0, 0))) := ⟨by (with_reducible repeat first | refine qN ?_ _ | refine qD ?_ | refine qA ?_ _); (iterate 4 (refine qR ?_ NB103_105.out _; (with_reducible repeat first | refine qN ?_ _ | refine qD ?_ | refine qA ?_ _))); exact B103.out⟩
   have n1_ : Aside0 (((((w38.setCell ⟨g105, 5, none⟩ (.int .i64 a0_7)).setCell ⟨g105, 7, none⟩ (.int .u32 t106)).setCell ⟨g105, 3, none⟩ (.string a0_2)).setCell ⟨g105, 0, none⟩ (.int .i64 3)).heap[g104]? = some (.cells #[.int .i64 0, .int .i64 0, .int .i64 0, .string (⟨#[]⟩ : ByteArray), .int .i64 0, .int .i64 0, .int .i64 0, .int .u32 0, .int .i64 0, .int .i64 0, .int .i64 0, .slice none 0 0] 36 (0, 0))) := ⟨by (with_reducible repeat first | refine qN ?_ _ | refine qD ?_ | refine qA ?_ _); (iterate 4 (refine qR ?_ NB104_105.out _; (with_reducible repeat first | refine qN ?_ _ | refine qD ?_ | refine qA ?_ _))); exact B104.out⟩
   have n2_ : Aside0 (((((w38.setCell ⟨g105, 5, none⟩ (.int .i64 a0_7)).setCell ⟨g105, 7, none⟩ (.int .u32 t106)).setCell ⟨g105, 3, none⟩ (.string a0_2)).setCell ⟨g105, 0, none⟩ (.int .i64 3)).heap[g105]? = some (.cells #[.int .i64 3, .int .i64 a0_0, .int .i64 a0_4, .string a0_2, .int .i64 0, .int .i64 a0_7, .int .i64 0, .int .u32 t106, .int .i64 0, .int .i64 0, .int .i64 0, .slice none 0 0] 36 (0, 0))) := ⟨by (with_reducible repeat first | refine qN ?_ _ | refine qD ?_ | refine qA ?_ _); refine qP (cs := #[.int .i64 0, .int .i64 a0_0, .int .i64 a0_4, .string a0_2, .int .i64 0, .int .i64 a0_7, .int .i64 0, .int .u32 t106, .int .i64 0, .int .i64 0, .int .i64 0, .slice none 0 0]) ?_ 0 _ rfl; (with_reducible repeat first | refine qN ?_ _ | refine qD ?_ | refine qA ?_ _); refine qP (cs := #[.int .i64 0, .int .i64 a0_0, .int .i64 a0_4, .string (⟨#[]⟩ : ByteArray), .int .i64 0, .int .i64 a0_7, .int .i64 0, .int .u32 t106, .int .i64 0, .int .i64 0, .int .i64 0, .slice none 0 0]) ?_ 3 _ rfl; (with_reducible repeat first | refine qN ?_ _ | refine qD ?_ | refine qA ?_ _); refine qP (cs := #[.int .i64 0, .int .i64 a0_0, .int .i64 a0_4, .string (⟨#[]⟩ : ByteArray), .int .i64 0, .int .i64 a0_7, .int .i64 0, .int .u32 0, .int .i64 0, .int .i64 0, .int .i64 0, .slice none 0 0]) ?_ 7 _ rfl; (with_reducible repeat first | refine qN ?_ _ | refine qD ?_ | refine qA ?_ _); refine qP (cs := #[.int .i64 0, .int .i64 a0_0, .int .i64 a0_4, .string (⟨#[]⟩ : ByteArray), .int .i64 0, .int .i64 0, .int .i64 0, .int .u32 0, .int .i64 0, .int .i64 0, .int .i64 0, .slice none 0 0]) ?_ 5 _ rfl; (with_reducible repeat first | refine qN ?_ _ | refine qD ?_ | refine qA ?_ _); exact B105.out⟩
   have n3_ : Aside0 (Below w.heap.size w ((((w38.setCell ⟨g105, 5, none⟩ (.int .i64 a0_7)).setCell ⟨g105, 7, none⟩ (.int .u32 t106)).setCell ⟨g105, 3, none⟩ (.string a0_2)).setCell ⟨g105, 0, none⟩ (.int .i64 3))) := ⟨by repeat (first | (with_reducible first | exact HB.out | apply eA | apply eN | apply eD | refine eS ?_ GE103.out | refine eS ?_ GE104.out | refine eS ?_ GE105.out) | exact HB.out)⟩
   (try clear B103)
   (try clear B104)
   (try clear B105)
   (try clear HB)
   generalize ((((w38.setCell ⟨g105, 5, none⟩ (.int .i64 a0_7)).setCell ⟨g105, 7, none⟩ (.int .u32 t106)).setCell ⟨g105, 3, none⟩ (.string a0_2)).setCell ⟨g105, 0, none⟩ (.int .i64 3)) = w43 at n0_ n1_ n2_ n3_ ⊢
   have B103 := n0_
   have B104 := n1_
   have B105 := n2_
   have HB := n3_
   clear n0_ n1_ n2_ n3_
   have n0_ := qM (blk_drew B103.out)
   have n1_ := qM (blk_drew B104.out)
   have n2_ := qM (blk_drew B105.out)
   have n3_ := qM (below_drew1 HB.out)
   clear B103
   clear B104
   clear B105
   clear HB
   have B103 := n0_
   have B104 := n1_
   have B105 := n2_
   have HB := n3_
   clear n0_ n1_ n2_ n3_
   refine start_ (n := 8) (S := fun w' => w'.cell? ⟨g103, 0, none⟩ = some (.int .i64 a0_0) ∧ w'.cell? ⟨g103, 1, none⟩ = some (.int .i64 a0_1) ∧ w'.cell? ⟨g103, 2, none⟩ = some (.string a0_2) ∧ w'.cell? ⟨g103, 3, none⟩ = some (.string a0_3) ∧ w'.cell? ⟨g103, 4, none⟩ = some (.int .i64 a0_4) ∧ w'.cell? ⟨g103, 5, none⟩ = some (.int .i64 a0_5) ∧ w'.cell? ⟨g103, 6, none⟩ = some (.int .i64 a0_6) ∧ w'.cell? ⟨g103, 7, none⟩ = some (.int .i64 a0_7) ∧ w'.cell? ⟨g103, 8, none⟩ = some (.int .i64 a0_8) ∧ w'.cell? ⟨g103, 9, none⟩ = some (.int .u32 a0_9) ∧ w'.cell? ⟨g103, 10, none⟩ = some (.int .i64 a0_10) ∧ w'.cell? ⟨g103, 11, none⟩ = some (.int .i64 a0_11) ∧ w'.cell? ⟨g103, 12, none⟩ = some (.string a0_12) ∧ w'.cell? ⟨g103, 13, none⟩ = some (.bool a0_13)) (ds := []) #[false, false, false, false, false, false, false, false] (by kernel_rfl) rfl rfl ⟨(qC B103.out 0).trans rfl, (qC B103.out 1).trans rfl, (qC B103.out 2).trans rfl, (qC B103.out 3).trans rfl, (qC B103.out 4).trans rfl, (qC B103.out 5).trans rfl, (qC B103.out 6).trans rfl, (qC B103.out 7).trans rfl, (qC B103.out 8).trans rfl, (qC B103.out 9).trans rfl, (qC B103.out 10).trans rfl, (qC B103.out 11).trans rfl, (qC B103.out 12).trans rfl, (qC B103.out 13).trans rfl⟩ (fun hHeld => ?_); refine with_tabW deed_Want.tab9 deed_Want.bits9 (fun HT_ HW_ => ?_)
   generalize w43.drew = w44 at B103 B104 B105 HB hHeld ⊢
   refine pure_ (i := 0) (N := some 31) (v := ?_) (a' := ?_) #[true, false, false, false, false, false, false, false] rfl rfl (any_of HT_.out (by kernel_rfl)) (fun _ _ _ h => h) (Or.inl ⟨by rfl, ?_⟩) ?_ ?_
   rotate_left
   ·intro w'; go_simp; with_reducible rfl
   rotate_left
   ·simp only [Act.put, xA, xZ, xS, i64_w, i32_w]; rfl
   refine pure_ (i := 2) (N := some 33) (v := ?_) (a' := ?_) #[true, false, true, false, false, false, false, false] rfl rfl (any_of HT_.out (by kernel_rfl)) (fun _ _ _ h => h) (Or.inl ⟨by rfl, ?_⟩) ?_ ?_
   rotate_left
   ·intro w'; go_simp; with_reducible rfl
   rotate_left
   ·simp only [Act.put, xA, xZ, xS, i64_w, i32_w]; rfl
   refine take_ (i := 1) (N := some 32) (v := ?_) (a' := ?_) #[true, true, true, false, false, false, false, false] rfl rfl (take_ofW HT_.out HW_.out (by kernel_rfl)) (fun _ _ _ h => h) (Or.inl ⟨by rfl, ?_⟩) hHeld ?_ ?_
   rotate_left
   ·rintro w' ⟨s0, s1, s2, s3, s4, s5, s6, s7, s8, s9, s10, s11, s12, s13⟩; go_simp; with_reducible rfl
   rotate_left
   ·simp only [Act.put, xA, xZ, xS, i64_w, i32_w]; rfl
   refine pure_ (i := 4) (N := some 35) (v := ?_) (a' := ?_) #[true, true, true, false, true, false, false, false] rfl rfl (any_of HT_.out (by kernel_rfl)) (fun _ _ _ h => h) (Or.inl ⟨by rfl, ?_⟩) ?_ ?_
   rotate_left
   ·intro w'; go_simp; with_reducible rfl
   rotate_left
   ·simp only [Act.put, xA, xZ, xS, i64_w, i32_w]; rfl
   refine take_ (i := 3) (N := some 34) (v := ?_) (a' := ?_) #[true, true, true, true, true, false, false, false] rfl rfl (take_ofW HT_.out HW_.out (by kernel_rfl)) (fun _ _ _ h => h) (Or.inl ⟨by rfl, ?_⟩) hHeld ?_ ?_
   rotate_left
   ·rintro w' ⟨s0, s1, s2, s3, s4, s5, s6, s7, s8, s9, s10, s11, s12, s13⟩; go_simp; with_reducible rfl
   rotate_left
   ·simp only [Act.put, xA, xZ, xS, i64_w, i32_w]; rfl
   refine one_ (i := 5) (N := none) #[true, true, true, true, true, true, false, false] rfl rfl (one_of HT_.out (by kernel_rfl)) (by decide) (fun K hK => ?_)
   have hs45 : w44.cell? ⟨g105, 4, none⟩ = some (.int .i64 0) := (qC B105.out 4).trans rfl
   have hfs45 := qF B105.out 4
   have hns45_0 := NB103_105.out
   have hns45_1 := NB104_105.out
   have hms45_0 := NB105_103.out
   have hms45_1 := NB105_104.out
   refine skip_ (w1 := ?_) (by rfl) rfl ?_ ?_
   rotate_left
   ·go_simp; rfl
   refine hK.out _ _ ⟨((cell_far (p := ⟨g105, _, none⟩) NB103_105.out _).trans (hHeld.1)), ((cell_far (p := ⟨g105, _, none⟩) NB103_105.out _).trans (hHeld.2.1)), ((cell_far (p := ⟨g105, _, none⟩) NB103_105.out _).trans (hHeld.2.2.1)), ((cell_far (p := ⟨g105, _, none⟩) NB103_105.out _).trans (hHeld.2.2.2.1)), ((cell_far (p := ⟨g105, _, none⟩) NB103_105.out _).trans (hHeld.2.2.2.2.1)), ((cell_far (p := ⟨g105, _, none⟩) NB103_105.out _).trans (hHeld.2.2.2.2.2.1)), ((cell_far (p := ⟨g105, _, none⟩) NB103_105.out _).trans (hHeld.2.2.2.2.2.2.1)), ((cell_far (p := ⟨g105, _, none⟩) NB103_105.out _).trans (hHeld.2.2.2.2.2.2.2.1)), ((cell_far (p := ⟨g105, _, none⟩) NB103_105.out _).trans (hHeld.2.2.2.2.2.2.2.2.1)), ((cell_far (p := ⟨g105, _, none⟩) NB103_105.out _).trans (hHeld.2.2.2.2.2.2.2.2.2.1)), ((cell_far (p := ⟨g105, _, none⟩) NB103_105.out _).trans (hHeld.2.2.2.2.2.2.2.2.2.2.1)), ((cell_far (p := ⟨g105, _, none⟩) NB103_105.out _).trans (hHeld.2.2.2.2.2.2.2.2.2.2.2.1)), ((cell_far (p := ⟨g105, _, none⟩) NB103_105.out _).trans (hHeld.2.2.2.2.2.2.2.2.2.2.2.2.1)), ((cell_far (p := ⟨g105, _, none⟩) NB103_105.out _).trans (hHeld.2.2.2.2.2.2.2.2.2.2.2.2.2))⟩ (fun hHeld => ?_)
   clear hK K
   refine pure_ (i := 6) (N := some 36) (v := ?_) (a' := ?_) #[true, true, true, true, true, true, true, false] rfl rfl (any_of HT_.out (by kernel_rfl)) (fun _ _ _ h => h) (Or.inl ⟨by rfl, ?_⟩) ?_ ?_
   rotate_left
   ·intro w'; go_simp; with_reducible rfl
   rotate_left
   ·simp only [Act.put, xA, xZ, xS, i64_w, i32_w]; rfl
   refine one_ (i := 7) (N := none) #[true, true, true, true, true, true, true, true] rfl rfl (one_of HT_.out (by kernel_rfl)) (by decide) (fun K hK => ?_)
   have hs46 : w44.cell? ⟨g105, 6, none⟩ = some (.int .i64 0) := (qC B105.out 6).trans rfl
   have hfs46 := qF B105.out 6
   have hns46_0 := NB103_105.out
   have hns46_1 := NB104_105.out
   have hms46_0 := NB105_103.out
   have hms46_1 := NB105_104.out
   refine skip_ (w1 := ?_) (by rfl) rfl ?_ ?_
   rotate_left
   ·go_simp; rfl
   refine hK.out _ _ ⟨((cell_far (p := ⟨g105, _, none⟩) NB103_105.out _).trans (hHeld.1)), ((cell_far (p := ⟨g105, _, none⟩) NB103_105.out _).trans (hHeld.2.1)), ((cell_far (p := ⟨g105, _, none⟩) NB103_105.out _).trans (hHeld.2.2.1)), ((cell_far (p := ⟨g105, _, none⟩) NB103_105.out _).trans (hHeld.2.2.2.1)), ((cell_far (p := ⟨g105, _, none⟩) NB103_105.out _).trans (hHeld.2.2.2.2.1)), ((cell_far (p := ⟨g105, _, none⟩) NB103_105.out _).trans (hHeld.2.2.2.2.2.1)), ((cell_far (p := ⟨g105, _, none⟩) NB103_105.out _).trans (hHeld.2.2.2.2.2.2.1)), ((cell_far (p := ⟨g105, _, none⟩) NB103_105.out _).trans (hHeld.2.2.2.2.2.2.2.1)), ((cell_far (p := ⟨g105, _, none⟩) NB103_105.out _).trans (hHeld.2.2.2.2.2.2.2.2.1)), ((cell_far (p := ⟨g105, _, none⟩) NB103_105.out _).trans (hHeld.2.2.2.2.2.2.2.2.2.1)), ((cell_far (p := ⟨g105, _, none⟩) NB103_105.out _).trans (hHeld.2.2.2.2.2.2.2.2.2.2.1)), ((cell_far (p := ⟨g105, _, none⟩) NB103_105.out _).trans (hHeld.2.2.2.2.2.2.2.2.2.2.2.1)), ((cell_far (p := ⟨g105, _, none⟩) NB103_105.out _).trans (hHeld.2.2.2.2.2.2.2.2.2.2.2.2.1)), ((cell_far (p := ⟨g105, _, none⟩) NB103_105.out _).trans (hHeld.2.2.2.2.2.2.2.2.2.2.2.2.2))⟩ (fun hHeld => ?_)
   clear hK K
   refine done_ (done_of HT_.out (by kernel_rfl)) ?_
   obtain ⟨z47_0, z47_1, z47_2, z47_3, z47_4, z47_5, z47_6, z47_7, z47_8, z47_9, z47_10, z47_11, f47_0, f47_1, f47_2, f47_3, f47_4, f47_5, f47_6, f47_7, f47_8, f47_9, f47_10, f47_11⟩ := cells12 B105.out
   obtain ⟨z48_0, z48_1, z48_2, z48_3, z48_4, z48_5, z48_6, z48_7, z48_8, z48_9, z48_10, z48_11, f48_0, f48_1, f48_2, f48_3, f48_4, f48_5, f48_6, f48_7, f48_8, f48_9, f48_10, f48_11⟩ := cells12 B104.out
   try go_wp2
   refine bodyPost_ret (results_ct rfl _ _ g104 36 #[.int .i64 3, .int .i64 a0_0, .int .i64 a0_4, .string a0_2, .int .i64 a0_6, .int .i64 a0_7, .int .i64 a0_8, .int .u32 t106, .int .i64 0, .int .i64 0, .int .i64 0, .slice none 0 0] (0, 0) _ rfl (by (with_reducible repeat first | refine qN ?_ _ | refine qD ?_ | refine qA ?_ _); apply puts12; (with_reducible repeat first | refine qN ?_ _ | refine qD ?_ | refine qA ?_ _); (iterate 2 (refine qR ?_ NB104_105.out _; (with_reducible repeat first | refine qN ?_ _ | refine qD ?_ | refine qA ?_ _))); exact B104.out) Try.underlying36 rfl (by kernel_rfl)) rfl ?_
   exact ⟨_, by first | rfl | (simp [errW_none, errW_some] <;> rfl) | (simp [*, errW_none, errW_some] <;> rfl), by first | exact Kd.R_nil _ _ _ _ _ | exact Kd.N_nil _ _ _ _ _ | exact Kd.V_nil _ _ _ _ _ | exact Kd.Q_nil _ _ _ _ _ | exact Kd.S_nil _ _ _ _ _, by repeat (first | (with_reducible first | exact HB.out | apply eA | apply eN | apply eD | refine eS ?_ GE103.out | refine eS ?_ GE104.out | refine eS ?_ GE105.out) | exact HB.out)⟩
 ·rw [if_neg c2] at H
  have c2b0 : (a0_5 == 4) = false := beq_eq_false_iff_ne.mpr c2
  have c2b1 : (a0_5 != 4) = true := bne_iff_ne.mpr c2
  by_cases c49 : a0_5 = 2
  ·rw [if_pos c49] at H
   have c49b0 : (a0_5 == 2) = true := beq_iff_eq.mpr c49
   have c49b1 : (a0_5 != 2) = false := bne_eq_false_iff_eq.mpr c49
   clear c49
   by_cases c50 : 0 = 0
   ·rw [if_pos c50] at H
    have c50b0 : (0 == 0) = true := beq_iff_eq.mpr c50
    have c50b1 : (0 != 0) = false := bne_eq_false_iff_eq.mpr c50
    clear c50
    simp only [Option.some.injEq, Prod.mk.injEq] at H
    obtain ⟨rfl, rfl, rfl, rfl, rfl, rfl, rfl, rfl, rfl, rfl, rfl, rfl, rfl⟩ := H
    go_enter Try.func12, Try.ntmps12
    try go_wp2_with (first | ((with_reducible refine gate_dst (N := 1) rfl ?_); refine box_event ?hg (N := 1) ?hd (cs := #[.int .i64 a0_0, .int .i64 a0_1, .string a0_2, .string a0_3, .int .i64 a0_4, .int .i64 a0_5, .int .i64 a0_6, .int .i64 a0_7, .int .i64 a0_8, .int .u32 a0_9, .int .i64 a0_10, .int .i64 a0_11, .string a0_12, .bool a0_13]) (t := 28) ?hr ?_; (case hd => rfl); (case hg => rfl); (case hr => first | (go_simp; done) | (go_simp; rfl)); intro g103 hg w51 hbox hb; have n0_ := qM (eT (by repeat (first | (with_reducible first | exact HB.out | apply eA | apply eN | apply eD) | exact HB.out)) hb); have n1_ := qM (hbox); have n2_ := qM ((by rw [hg]; exact (eZ (by repeat (first | (with_reducible first | exact HB.out | apply eA | apply eN | apply eD) | exact HB.out))) : w.heap.size ≤ g103)); have n3_ := n2_; clear HB; have HB := n0_; have B103 := n1_; have GW103 := n2_; have GE103 := n3_; clear n0_ n1_ n2_ n3_; clear hb hbox hg) | ((with_reducible refine gate_dst (N := 2) rfl ?_); refine box_event ?hg (N := 2) ?hd (cs := #[.int .i64 0, .int .i64 0, .int .i64 0, .string (⟨#[]⟩ : ByteArray), .int .i64 0, .int .i64 0, .int .i64 0, .int .u32 0, .int .i64 0, .int .i64 0, .int .i64 0, .slice none 0 0]) (t := 36) ?hr ?_; (case hd => rfl); (case hg => rfl); (case hr => first | (go_simp; done) | (go_simp; rfl)); intro g104 hg w52 hbox hb; have n0_ := qM (qB (g := g103) (by (with_reducible repeat first | refine qN ?_ _ | refine qD ?_ | refine qA ?_ _); exact B103.out) hb); have n1_ := qM (eT (by repeat (first | (with_reducible first | exact HB.out | apply eA | apply eN | apply eD | refine eS ?_ GE103.out) | exact HB.out)) hb); have n2_ := qM (hbox); have n3_ := qM ((by rw [hg]; exact (eZ (by repeat (first | (with_reducible first | exact HB.out | apply eA | apply eN | apply eD | refine eS ?_ GE103.out) | exact HB.out))) : w.heap.size ≤ g104)); have n4_ := n3_; have n5_ := qM ((by rw [hg]; exact Nat.ne_of_lt (qL (g := g103) (by (with_reducible repeat first | refine qN ?_ _ | refine qD ?_ | refine qA ?_ _); exact B103.out)) : g103 ≠ g104)); have n6_ := qM (Ne.symm n5_.out); clear B103; clear HB; have B103 := n0_; have HB := n1_; have B104 := n2_; have GW104 := n3_; have GE104 := n4_; have NB103_104 := n5_; have NB104_103 := n6_; clear n0_ n1_ n2_ n3_ n4_ n5_ n6_; clear hb hbox hg; have hnb53 := NB103_104.out; have hnc53 := NB104_103.out; obtain ⟨z54_0, z54_1, z54_2, z54_3, z54_4, z54_5, z54_6, z54_7, z54_8, z54_9, z54_10, z54_11, z54_12, z54_13, f54_0, f54_1, f54_2, f54_3, f54_4, f54_5, f54_6, f54_7, f54_8, f54_9, f54_10, f54_11, f54_12, f54_13⟩ := cells14 B103.out) | ((with_reducible refine gate_dst (N := 4) rfl ?_); refine box_event ?hg (N := 4) ?hd (cs := #[.int .i64 0, .int .i64 0, .int .i64 0, .string (⟨#[]⟩ : ByteArray), .int .i64 0, .int .i64 0, .int .i64 0, .int .u32 0, .int .i64 0, .int .i64 0, .int .i64 0, .slice none 0 0]) (t := 36) ?hr ?_; (case hd => rfl); (case hg => rfl); (case hr => first | (go_simp; done) | (go_simp; rfl)); intro g105 hg w55 hbox hb; have n0_ := qM (qB (g := g103) (by (with_reducible repeat first | refine qN ?_ _ | refine qD ?_ | refine qA ?_ _); exact B103.out) hb); have n1_ := qM (qB (g := g104) (by (with_reducible repeat first | refine qN ?_ _ | refine qD ?_ | refine qA ?_ _); exact B104.out) hb); have n2_ := qM (eT (by repeat (first | (with_reducible first | exact HB.out | apply eA | apply eN | apply eD | refine eS ?_ GE103.out | refine eS ?_ GE104.out) | exact HB.out)) hb); have n3_ := qM (hbox); have n4_ := qM ((by rw [hg]; exact (eZ (by repeat (first | (with_reducible first | exact HB.out | apply eA | apply eN | apply eD | refine eS ?_ GE103.out | refine eS ?_ GE104.out) | exact HB.out))) : w.heap.size ≤ g105)); have n5_ := n4_; have n6_ := qM ((by rw [hg]; exact Nat.ne_of_lt (qL (g := g103) (by (with_reducible repeat first | refine qN ?_ _ | refine qD ?_ | refine qA ?_ _); exact B103.out)) : g103 ≠ g105)); have n7_ := qM (Ne.symm n6_.out); have n8_ := qM ((by rw [hg]; exact Nat.ne_of_lt (qL (g := g104) (by (with_reducible repeat first | refine qN ?_ _ | refine qD ?_ | refine qA ?_ _); exact B104.out)) : g104 ≠ g105)); have n9_ := qM (Ne.symm n8_.out); clear B103; clear B104; clear HB; have B103 := n0_; have B104 := n1_; have HB := n2_; have B105 := n3_; have GW105 := n4_; have GE105 := n5_; have NB103_105 := n6_; have NB105_103 := n7_; have NB104_105 := n8_; have NB105_104 := n9_; clear n0_ n1_ n2_ n3_ n4_ n5_ n6_ n7_ n8_ n9_; clear hb hbox hg; have hnb56 := NB105_103.out; have hnc56 := NB103_105.out; have hnb57 := NB105_104.out; have hnc57 := NB104_105.out; obtain ⟨z58_0, z58_1, z58_2, z58_3, z58_4, z58_5, z58_6, z58_7, z58_8, z58_9, z58_10, z58_11, f58_0, f58_1, f58_2, f58_3, f58_4, f58_5, f58_6, f58_7, f58_8, f58_9, f58_10, f58_11⟩ := cells12 B105.out; obtain ⟨z59_0, z59_1, z59_2, z59_3, z59_4, z59_5, z59_6, z59_7, z59_8, z59_9, z59_10, z59_11, z59_12, z59_13, f59_0, f59_1, f59_2, f59_3, f59_4, f59_5, f59_6, f59_7, f59_8, f59_9, f59_10, f59_11, f59_12, f59_13⟩ := cells14 B103.out))
    have n0_ : Aside0 (((((((((((((w55.setCell ⟨g105, 0, none⟩ (.int .i64 0)).setCell ⟨g105, 1, none⟩ (.int .i64 a0_0)).setCell ⟨g105, 2, none⟩ (.int .i64 a0_4)).setCell ⟨g105, 3, none⟩ (.string (⟨#[]⟩ : ByteArray))).setCell ⟨g105, 4, none⟩ (.int .i64 0)).setCell ⟨g105, 5, none⟩ (.int .i64 0)).setCell ⟨g105, 6, none⟩ (.int .i64 0)).setCell ⟨g105, 7, none⟩ (.int .u32 0)).setCell ⟨g105, 8, none⟩ (.int .i64 0)).setCell ⟨g105, 9, none⟩ (.int .i64 0)).setCell ⟨g105, 10, none⟩ (.int .i64 0)).setCell ⟨g105, 11, none⟩ (.slice none 0 0)).heap[g103]? = some (.cells #[.int .i64 a0_0, .int .i64 a0_1, .string a0_2, .string a0_3, .int .i64 a0_4, .int .i64 a0_5, .int .i64 a0_6, .int .i64 a0_7, .int .i64 a0_8, .int .u32 a0_9, .int .i64 a0_10, .int .i64 a0_11, .string a0_12, .bool a0_13] 28 (0, 0))) := ⟨by (with_reducible repeat first | refine qN ?_ _ | refine qD ?_ | refine qA ?_ _); (iterate 12 (refine qR ?_ NB103_105.out _; (with_reducible repeat first | refine qN ?_ _ | refine qD ?_ | refine qA ?_ _))); exact B103.out⟩
    have n1_ : Aside0 (((((((((((((w55.setCell ⟨g105, 0, none⟩ (.int .i64 0)).setCell ⟨g105, 1, none⟩ (.int .i64 a0_0)).setCell ⟨g105, 2, none⟩ (.int .i64 a0_4)).setCell ⟨g105, 3, none⟩ (.string (⟨#[]⟩ : ByteArray))).setCell ⟨g105, 4, none⟩ (.int .i64 0)).setCell ⟨g105, 5, none⟩ (.int .i64 0)).setCell ⟨g105, 6, none⟩ (.int .i64 0)).setCell ⟨g105, 7, none⟩ (.int .u32 0)).setCell ⟨g105, 8, none⟩ (.int .i64 0)).setCell ⟨g105, 9, none⟩ (.int .i64 0)).setCell ⟨g105, 10, none⟩ (.int .i64 0)).setCell ⟨g105, 11, none⟩ (.slice none 0 0)).heap[g104]? = some (.cells #[.int .i64 0, .int .i64 0, .int .i64 0, .string (⟨#[]⟩ : ByteArray), .int .i64 0, .int .i64 0, .int .i64 0, .int .u32 0, .int .i64 0, .int .i64 0, .int .i64 0, .slice none 0 0] 36 (0, 0))) := ⟨by (with_reducible repeat first | refine qN ?_ _ | refine qD ?_ | refine qA ?_ _); (iterate 12 (refine qR ?_ NB104_105.out _; (with_reducible repeat first | refine qN ?_ _ | refine qD ?_ | refine qA ?_ _))); exact B104.out⟩
    have n2_ : Aside0 (((((((((((((w55.setCell ⟨g105, 0, none⟩ (.int .i64 0)).setCell ⟨g105, 1, none⟩ (.int .i64 a0_0)).setCell ⟨g105, 2, none⟩ (.int .i64 a0_4)).setCell ⟨g105, 3, none⟩ (.string (⟨#[]⟩ : ByteArray))).setCell ⟨g105, 4, none⟩ (.int .i64 0)).setCell ⟨g105, 5, none⟩ (.int .i64 0)).setCell ⟨g105, 6, none⟩ (.int .i64 0)).setCell ⟨g105, 7, none⟩ (.int .u32 0)).setCell ⟨g105, 8, none⟩ (.int .i64 0)).setCell ⟨g105, 9, none⟩ (.int .i64 0)).setCell ⟨g105, 10, none⟩ (.int .i64 0)).setCell ⟨g105, 11, none⟩ (.slice none 0 0)).heap[g105]? = some (.cells #[.int .i64 0, .int .i64 a0_0, .int .i64 a0_4, .string (⟨#[]⟩ : ByteArray), .int .i64 0, .int .i64 0, .int .i64 0, .int .u32 0, .int .i64 0, .int .i64 0, .int .i64 0, .slice none 0 0] 36 (0, 0))) := ⟨by (with_reducible repeat first | refine qN ?_ _ | refine qD ?_ | refine qA ?_ _); apply puts12; (with_reducible repeat first | refine qN ?_ _ | refine qD ?_ | refine qA ?_ _); exact B105.out⟩
    have n3_ : Aside0 (Below w.heap.size w ((((((((((((w55.setCell ⟨g105, 0, none⟩ (.int .i64 0)).setCell ⟨g105, 1, none⟩ (.int .i64 a0_0)).setCell ⟨g105, 2, none⟩ (.int .i64 a0_4)).setCell ⟨g105, 3, none⟩ (.string (⟨#[]⟩ : ByteArray))).setCell ⟨g105, 4, none⟩ (.int .i64 0)).setCell ⟨g105, 5, none⟩ (.int .i64 0)).setCell ⟨g105, 6, none⟩ (.int .i64 0)).setCell ⟨g105, 7, none⟩ (.int .u32 0)).setCell ⟨g105, 8, none⟩ (.int .i64 0)).setCell ⟨g105, 9, none⟩ (.int .i64 0)).setCell ⟨g105, 10, none⟩ (.int .i64 0)).setCell ⟨g105, 11, none⟩ (.slice none 0 0))) := ⟨by repeat (first | (with_reducible first | exact HB.out | apply eA | apply eN | apply eD | refine eS ?_ GE103.out | refine eS ?_ GE104.out | refine eS ?_ GE105.out) | exact HB.out)⟩
    (try clear B103)
    (try clear B104)
    (try clear B105)
    (try clear HB)
    generalize ((((((((((((w55.setCell ⟨g105, 0, none⟩ (.int .i64 0)).setCell ⟨g105, 1, none⟩ (.int .i64 a0_0)).setCell ⟨g105, 2, none⟩ (.int .i64 a0_4)).setCell ⟨g105, 3, none⟩ (.string (⟨#[]⟩ : ByteArray))).setCell ⟨g105, 4, none⟩ (.int .i64 0)).setCell ⟨g105, 5, none⟩ (.int .i64 0)).setCell ⟨g105, 6, none⟩ (.int .i64 0)).setCell ⟨g105, 7, none⟩ (.int .u32 0)).setCell ⟨g105, 8, none⟩ (.int .i64 0)).setCell ⟨g105, 9, none⟩ (.int .i64 0)).setCell ⟨g105, 10, none⟩ (.int .i64 0)).setCell ⟨g105, 11, none⟩ (.slice none 0 0)) = w60 at n0_ n1_ n2_ n3_ ⊢
    have B103 := n0_
    have B104 := n1_
    have B105 := n2_
    have HB := n3_
    clear n0_ n1_ n2_ n3_
    have n0_ := qM (blk_drew B103.out)
    have n1_ := qM (blk_drew B104.out)
    have n2_ := qM (blk_drew B105.out)
    have n3_ := qM (below_drew1 HB.out)
    clear B103
    clear B104
    clear B105
    clear HB
    have B103 := n0_
    have B104 := n1_
    have B105 := n2_
    have HB := n3_
    clear n0_ n1_ n2_ n3_
    refine start_ (n := 8) (S := fun w' => w'.cell? ⟨g103, 0, none⟩ = some (.int .i64 a0_0) ∧ w'.cell? ⟨g103, 1, none⟩ = some (.int .i64 a0_1) ∧ w'.cell? ⟨g103, 2, none⟩ = some (.string a0_2) ∧ w'.cell? ⟨g103, 3, none⟩ = some (.string a0_3) ∧ w'.cell? ⟨g103, 4, none⟩ = some (.int .i64 a0_4) ∧ w'.cell? ⟨g103, 5, none⟩ = some (.int .i64 a0_5) ∧ w'.cell? ⟨g103, 6, none⟩ = some (.int .i64 a0_6) ∧ w'.cell? ⟨g103, 7, none⟩ = some (.int .i64 a0_7) ∧ w'.cell? ⟨g103, 8, none⟩ = some (.int .i64 a0_8) ∧ w'.cell? ⟨g103, 9, none⟩ = some (.int .u32 a0_9) ∧ w'.cell? ⟨g103, 10, none⟩ = some (.int .i64 a0_10) ∧ w'.cell? ⟨g103, 11, none⟩ = some (.int .i64 a0_11) ∧ w'.cell? ⟨g103, 12, none⟩ = some (.string a0_12) ∧ w'.cell? ⟨g103, 13, none⟩ = some (.bool a0_13)) (ds := []) #[false, false, false, false, false, false, false, false] (by kernel_rfl) rfl rfl ⟨(qC B103.out 0).trans rfl, (qC B103.out 1).trans rfl, (qC B103.out 2).trans rfl, (qC B103.out 3).trans rfl, (qC B103.out 4).trans rfl, (qC B103.out 5).trans rfl, (qC B103.out 6).trans rfl, (qC B103.out 7).trans rfl, (qC B103.out 8).trans rfl, (qC B103.out 9).trans rfl, (qC B103.out 10).trans rfl, (qC B103.out 11).trans rfl, (qC B103.out 12).trans rfl, (qC B103.out 13).trans rfl⟩ (fun hHeld => ?_); refine with_tabW deed_Want.tab9 deed_Want.bits9 (fun HT_ HW_ => ?_)
    generalize w60.drew = w61 at B103 B104 B105 HB hHeld ⊢
    refine pure_ (i := 0) (N := some 31) (v := ?_) (a' := ?_) #[true, false, false, false, false, false, false, false] rfl rfl (any_of HT_.out (by kernel_rfl)) (fun _ _ _ h => h) (Or.inl ⟨by rfl, ?_⟩) ?_ ?_
    rotate_left
    ·intro w'; go_simp; with_reducible rfl
    rotate_left
    ·simp only [Act.put, xA, xZ, xS, i64_w, i32_w]; rfl
    refine pure_ (i := 2) (N := some 33) (v := ?_) (a' := ?_) #[true, false, true, false, false, false, false, false] rfl rfl (any_of HT_.out (by kernel_rfl)) (fun _ _ _ h => h) (Or.inl ⟨by rfl, ?_⟩) ?_ ?_
    rotate_left
    ·intro w'; go_simp; with_reducible rfl
    rotate_left
    ·simp only [Act.put, xA, xZ, xS, i64_w, i32_w]; rfl
    refine take_ (i := 1) (N := some 32) (v := ?_) (a' := ?_) #[true, true, true, false, false, false, false, false] rfl rfl (take_ofW HT_.out HW_.out (by kernel_rfl)) (fun _ _ _ h => h) (Or.inl ⟨by rfl, ?_⟩) hHeld ?_ ?_
    rotate_left
    ·rintro w' ⟨s0, s1, s2, s3, s4, s5, s6, s7, s8, s9, s10, s11, s12, s13⟩; go_simp; with_reducible rfl
    rotate_left
    ·simp only [Act.put, xA, xZ, xS, i64_w, i32_w]; rfl
    refine pure_ (i := 4) (N := some 35) (v := ?_) (a' := ?_) #[true, true, true, false, true, false, false, false] rfl rfl (any_of HT_.out (by kernel_rfl)) (fun _ _ _ h => h) (Or.inl ⟨by rfl, ?_⟩) ?_ ?_
    rotate_left
    ·intro w'; go_simp; with_reducible rfl
    rotate_left
    ·simp only [Act.put, xA, xZ, xS, i64_w, i32_w]; rfl
    refine take_ (i := 3) (N := some 34) (v := ?_) (a' := ?_) #[true, true, true, true, true, false, false, false] rfl rfl (take_ofW HT_.out HW_.out (by kernel_rfl)) (fun _ _ _ h => h) (Or.inl ⟨by rfl, ?_⟩) hHeld ?_ ?_
    rotate_left
    ·rintro w' ⟨s0, s1, s2, s3, s4, s5, s6, s7, s8, s9, s10, s11, s12, s13⟩; go_simp; with_reducible rfl
    rotate_left
    ·simp only [Act.put, xA, xZ, xS, i64_w, i32_w]; rfl
    refine one_ (i := 5) (N := none) #[true, true, true, true, true, true, false, false] rfl rfl (one_of HT_.out (by kernel_rfl)) (by decide) (fun K hK => ?_)
    have hs62 : w61.cell? ⟨g105, 4, none⟩ = some (.int .i64 0) := (qC B105.out 4).trans rfl
    have hfs62 := qF B105.out 4
    have hns62_0 := NB103_105.out
    have hns62_1 := NB104_105.out
    have hms62_0 := NB105_103.out
    have hms62_1 := NB105_104.out
    refine skip_ (w1 := ?_) (by rfl) rfl ?_ ?_
    rotate_left
    ·go_simp; rfl
    refine hK.out _ _ ⟨((cell_far (p := ⟨g105, _, none⟩) NB103_105.out _).trans (hHeld.1)), ((cell_far (p := ⟨g105, _, none⟩) NB103_105.out _).trans (hHeld.2.1)), ((cell_far (p := ⟨g105, _, none⟩) NB103_105.out _).trans (hHeld.2.2.1)), ((cell_far (p := ⟨g105, _, none⟩) NB103_105.out _).trans (hHeld.2.2.2.1)), ((cell_far (p := ⟨g105, _, none⟩) NB103_105.out _).trans (hHeld.2.2.2.2.1)), ((cell_far (p := ⟨g105, _, none⟩) NB103_105.out _).trans (hHeld.2.2.2.2.2.1)), ((cell_far (p := ⟨g105, _, none⟩) NB103_105.out _).trans (hHeld.2.2.2.2.2.2.1)), ((cell_far (p := ⟨g105, _, none⟩) NB103_105.out _).trans (hHeld.2.2.2.2.2.2.2.1)), ((cell_far (p := ⟨g105, _, none⟩) NB103_105.out _).trans (hHeld.2.2.2.2.2.2.2.2.1)), ((cell_far (p := ⟨g105, _, none⟩) NB103_105.out _).trans (hHeld.2.2.2.2.2.2.2.2.2.1)), ((cell_far (p := ⟨g105, _, none⟩) NB103_105.out _).trans (hHeld.2.2.2.2.2.2.2.2.2.2.1)), ((cell_far (p := ⟨g105, _, none⟩) NB103_105.out _).trans (hHeld.2.2.2.2.2.2.2.2.2.2.2.1)), ((cell_far (p := ⟨g105, _, none⟩) NB103_105.out _).trans (hHeld.2.2.2.2.2.2.2.2.2.2.2.2.1)), ((cell_far (p := ⟨g105, _, none⟩) NB103_105.out _).trans (hHeld.2.2.2.2.2.2.2.2.2.2.2.2.2))⟩ (fun hHeld => ?_)
    clear hK K
    refine pure_ (i := 6) (N := some 36) (v := ?_) (a' := ?_) #[true, true, true, true, true, true, true, false] rfl rfl (any_of HT_.out (by kernel_rfl)) (fun _ _ _ h => h) (Or.inl ⟨by rfl, ?_⟩) ?_ ?_
    rotate_left
    ·intro w'; go_simp; with_reducible rfl
    rotate_left
    ·simp only [Act.put, xA, xZ, xS, i64_w, i32_w]; rfl
    refine one_ (i := 7) (N := none) #[true, true, true, true, true, true, true, true] rfl rfl (one_of HT_.out (by kernel_rfl)) (by decide) (fun K hK => ?_)
    have hs63 : w61.cell? ⟨g105, 6, none⟩ = some (.int .i64 0) := (qC B105.out 6).trans rfl
    have hfs63 := qF B105.out 6
    have hns63_0 := NB103_105.out
    have hns63_1 := NB104_105.out
    have hms63_0 := NB105_103.out
    have hms63_1 := NB105_104.out
    refine skip_ (w1 := ?_) (by rfl) rfl ?_ ?_
    rotate_left
    ·go_simp; rfl
    refine hK.out _ _ ⟨((cell_far (p := ⟨g105, _, none⟩) NB103_105.out _).trans (hHeld.1)), ((cell_far (p := ⟨g105, _, none⟩) NB103_105.out _).trans (hHeld.2.1)), ((cell_far (p := ⟨g105, _, none⟩) NB103_105.out _).trans (hHeld.2.2.1)), ((cell_far (p := ⟨g105, _, none⟩) NB103_105.out _).trans (hHeld.2.2.2.1)), ((cell_far (p := ⟨g105, _, none⟩) NB103_105.out _).trans (hHeld.2.2.2.2.1)), ((cell_far (p := ⟨g105, _, none⟩) NB103_105.out _).trans (hHeld.2.2.2.2.2.1)), ((cell_far (p := ⟨g105, _, none⟩) NB103_105.out _).trans (hHeld.2.2.2.2.2.2.1)), ((cell_far (p := ⟨g105, _, none⟩) NB103_105.out _).trans (hHeld.2.2.2.2.2.2.2.1)), ((cell_far (p := ⟨g105, _, none⟩) NB103_105.out _).trans (hHeld.2.2.2.2.2.2.2.2.1)), ((cell_far (p := ⟨g105, _, none⟩) NB103_105.out _).trans (hHeld.2.2.2.2.2.2.2.2.2.1)), ((cell_far (p := ⟨g105, _, none⟩) NB103_105.out _).trans (hHeld.2.2.2.2.2.2.2.2.2.2.1)), ((cell_far (p := ⟨g105, _, none⟩) NB103_105.out _).trans (hHeld.2.2.2.2.2.2.2.2.2.2.2.1)), ((cell_far (p := ⟨g105, _, none⟩) NB103_105.out _).trans (hHeld.2.2.2.2.2.2.2.2.2.2.2.2.1)), ((cell_far (p := ⟨g105, _, none⟩) NB103_105.out _).trans (hHeld.2.2.2.2.2.2.2.2.2.2.2.2.2))⟩ (fun hHeld => ?_)
    clear hK K
    refine done_ (done_of HT_.out (by kernel_rfl)) ?_
    obtain ⟨z64_0, z64_1, z64_2, z64_3, z64_4, z64_5, z64_6, z64_7, z64_8, z64_9, z64_10, z64_11, f64_0, f64_1, f64_2, f64_3, f64_4, f64_5, f64_6, f64_7, f64_8, f64_9, f64_10, f64_11⟩ := cells12 B105.out
    obtain ⟨z65_0, z65_1, z65_2, z65_3, z65_4, z65_5, z65_6, z65_7, z65_8, z65_9, z65_10, z65_11, f65_0, f65_1, f65_2, f65_3, f65_4, f65_5, f65_6, f65_7, f65_8, f65_9, f65_10, f65_11⟩ := cells12 B104.out
    try go_wp2
    refine bodyPost_ret (results_ct rfl _ _ g104 36 #[.int .i64 2, .int .i64 a0_0, .int .i64 a0_4, .string (⟨#[]⟩ : ByteArray), .int .i64 a0_6, .int .i64 0, .int .i64 a0_8, .int .u32 0, .int .i64 0, .int .i64 0, .int .i64 0, .slice none 0 0] (0, 0) _ rfl (by (with_reducible repeat first | refine qN ?_ _ | refine qD ?_ | refine qA ?_ _); apply puts12; (with_reducible repeat first | refine qN ?_ _ | refine qD ?_ | refine qA ?_ _); (iterate 3 (refine qR ?_ NB104_105.out _; (with_reducible repeat first | refine qN ?_ _ | refine qD ?_ | refine qA ?_ _))); exact B104.out) Try.underlying36 rfl (by kernel_rfl)) rfl ?_
    exact ⟨_, by first | rfl | (simp [errW_none, errW_some] <;> rfl) | (simp [*, errW_none, errW_some] <;> rfl), by first | exact Kd.R_nil _ _ _ _ _ | exact Kd.N_nil _ _ _ _ _ | exact Kd.V_nil _ _ _ _ _ | exact Kd.Q_nil _ _ _ _ _ | exact Kd.S_nil _ _ _ _ _, by repeat (first | (with_reducible first | exact HB.out | apply eA | apply eN | apply eD | refine eS ?_ GE103.out | refine eS ?_ GE104.out | refine eS ?_ GE105.out) | exact HB.out)⟩
   ·exact absurd rfl c50
  ·rw [if_neg c49] at H
   have c49b0 : (a0_5 == 2) = false := beq_eq_false_iff_ne.mpr c49
   have c49b1 : (a0_5 != 2) = true := bne_iff_ne.mpr c49
   by_cases c81 : a0_5 = 5
   ·rw [if_pos c81] at H
    have c81b0 : (a0_5 == 5) = true := beq_iff_eq.mpr c81
    have c81b1 : (a0_5 != 5) = false := bne_eq_false_iff_eq.mpr c81
    clear c81
    simp only [Option.some.injEq, Prod.mk.injEq] at H
    obtain ⟨rfl, rfl, rfl, rfl, rfl, rfl, rfl, rfl, rfl, rfl, rfl, rfl, rfl⟩ := H
    go_enter Try.func12, Try.ntmps12
    try go_wp2_with (first | ((with_reducible refine gate_dst (N := 1) rfl ?_); refine box_event ?hg (N := 1) ?hd (cs := #[.int .i64 a0_0, .int .i64 a0_1, .string a0_2, .string a0_3, .int .i64 a0_4, .int .i64 a0_5, .int .i64 a0_6, .int .i64 a0_7, .int .i64 a0_8, .int .u32 a0_9, .int .i64 a0_10, .int .i64 a0_11, .string a0_12, .bool a0_13]) (t := 28) ?hr ?_; (case hd => rfl); (case hg => rfl); (case hr => first | (go_simp; done) | (go_simp; rfl)); intro g103 hg w82 hbox hb; have n0_ := qM (eT (by repeat (first | (with_reducible first | exact HB.out | apply eA | apply eN | apply eD) | exact HB.out)) hb); have n1_ := qM (hbox); have n2_ := qM ((by rw [hg]; exact (eZ (by repeat (first | (with_reducible first | exact HB.out | apply eA | apply eN | apply eD) | exact HB.out))) : w.heap.size ≤ g103)); have n3_ := n2_; clear HB; have HB := n0_; have B103 := n1_; have GW103 := n2_; have GE103 := n3_; clear n0_ n1_ n2_ n3_; clear hb hbox hg) | ((with_reducible refine gate_dst (N := 2) rfl ?_); refine box_event ?hg (N := 2) ?hd (cs := #[.int .i64 0, .int .i64 0, .int .i64 0, .string (⟨#[]⟩ : ByteArray), .int .i64 0, .int .i64 0, .int .i64 0, .int .u32 0, .int .i64 0, .int .i64 0, .int .i64 0, .slice none 0 0]) (t := 36) ?hr ?_; (case hd => rfl); (case hg => rfl); (case hr => first | (go_simp; done) | (go_simp; rfl)); intro g104 hg w83 hbox hb; have n0_ := qM (qB (g := g103) (by (with_reducible repeat first | refine qN ?_ _ | refine qD ?_ | refine qA ?_ _); exact B103.out) hb); have n1_ := qM (eT (by repeat (first | (with_reducible first | exact HB.out | apply eA | apply eN | apply eD | refine eS ?_ GE103.out) | exact HB.out)) hb); have n2_ := qM (hbox); have n3_ := qM ((by rw [hg]; exact (eZ (by repeat (first | (with_reducible first | exact HB.out | apply eA | apply eN | apply eD | refine eS ?_ GE103.out) | exact HB.out))) : w.heap.size ≤ g104)); have n4_ := n3_; have n5_ := qM ((by rw [hg]; exact Nat.ne_of_lt (qL (g := g103) (by (with_reducible repeat first | refine qN ?_ _ | refine qD ?_ | refine qA ?_ _); exact B103.out)) : g103 ≠ g104)); have n6_ := qM (Ne.symm n5_.out); clear B103; clear HB; have B103 := n0_; have HB := n1_; have B104 := n2_; have GW104 := n3_; have GE104 := n4_; have NB103_104 := n5_; have NB104_103 := n6_; clear n0_ n1_ n2_ n3_ n4_ n5_ n6_; clear hb hbox hg; have hnb84 := NB103_104.out; have hnc84 := NB104_103.out; obtain ⟨z85_0, z85_1, z85_2, z85_3, z85_4, z85_5, z85_6, z85_7, z85_8, z85_9, z85_10, z85_11, z85_12, z85_13, f85_0, f85_1, f85_2, f85_3, f85_4, f85_5, f85_6, f85_7, f85_8, f85_9, f85_10, f85_11, f85_12, f85_13⟩ := cells14 B103.out) | ((with_reducible refine gate_dst (N := 4) rfl ?_); refine box_event ?hg (N := 4) ?hd (cs := #[.int .i64 0, .int .i64 0, .int .i64 0, .string (⟨#[]⟩ : ByteArray), .int .i64 0, .int .i64 0, .int .i64 0, .int .u32 0, .int .i64 0, .int .i64 0, .int .i64 0, .slice none 0 0]) (t := 36) ?hr ?_; (case hd => rfl); (case hg => rfl); (case hr => first | (go_simp; done) | (go_simp; rfl)); intro g105 hg w86 hbox hb; have n0_ := qM (qB (g := g103) (by (with_reducible repeat first | refine qN ?_ _ | refine qD ?_ | refine qA ?_ _); exact B103.out) hb); have n1_ := qM (qB (g := g104) (by (with_reducible repeat first | refine qN ?_ _ | refine qD ?_ | refine qA ?_ _); exact B104.out) hb); have n2_ := qM (eT (by repeat (first | (with_reducible first | exact HB.out | apply eA | apply eN | apply eD | refine eS ?_ GE103.out | refine eS ?_ GE104.out) | exact HB.out)) hb); have n3_ := qM (hbox); have n4_ := qM ((by rw [hg]; exact (eZ (by repeat (first | (with_reducible first | exact HB.out | apply eA | apply eN | apply eD | refine eS ?_ GE103.out | refine eS ?_ GE104.out) | exact HB.out))) : w.heap.size ≤ g105)); have n5_ := n4_; have n6_ := qM ((by rw [hg]; exact Nat.ne_of_lt (qL (g := g103) (by (with_reducible repeat first | refine qN ?_ _ | refine qD ?_ | refine qA ?_ _); exact B103.out)) : g103 ≠ g105)); have n7_ := qM (Ne.symm n6_.out); have n8_ := qM ((by rw [hg]; exact Nat.ne_of_lt (qL (g := g104) (by (with_reducible repeat first | refine qN ?_ _ | refine qD ?_ | refine qA ?_ _); exact B104.out)) : g104 ≠ g105)); have n9_ := qM (Ne.symm n8_.out); clear B103; clear B104; clear HB; have B103 := n0_; have B104 := n1_; have HB := n2_; have B105 := n3_; have GW105 := n4_; have GE105 := n5_; have NB103_105 := n6_; have NB105_103 := n7_; have NB104_105 := n8_; have NB105_104 := n9_; clear n0_ n1_ n2_ n3_ n4_ n5_ n6_ n7_ n8_ n9_; clear hb hbox hg; have hnb87 := NB105_103.out; have hnc87 := NB103_105.out; have hnb88 := NB105_104.out; have hnc88 := NB104_105.out; obtain ⟨z89_0, z89_1, z89_2, z89_3, z89_4, z89_5, z89_6, z89_7, z89_8, z89_9, z89_10, z89_11, f89_0, f89_1, f89_2, f89_3, f89_4, f89_5, f89_6, f89_7, f89_8, f89_9, f89_10, f89_11⟩ := cells12 B105.out; obtain ⟨z90_0, z90_1, z90_2, z90_3, z90_4, z90_5, z90_6, z90_7, z90_8, z90_9, z90_10, z90_11, z90_12, z90_13, f90_0, f90_1, f90_2, f90_3, f90_4, f90_5, f90_6, f90_7, f90_8, f90_9, f90_10, f90_11, f90_12, f90_13⟩ := cells14 B103.out))
    have n0_ : Aside0 (((((((((((((w86.setCell ⟨g105, 0, none⟩ (.int .i64 0)).setCell ⟨g105, 1, none⟩ (.int .i64 a0_0)).setCell ⟨g105, 2, none⟩ (.int .i64 a0_4)).setCell ⟨g105, 3, none⟩ (.string (⟨#[]⟩ : ByteArray))).setCell ⟨g105, 4, none⟩ (.int .i64 0)).setCell ⟨g105, 5, none⟩ (.int .i64 0)).setCell ⟨g105, 6, none⟩ (.int .i64 0)).setCell ⟨g105, 7, none⟩ (.int .u32 0)).setCell ⟨g105, 8, none⟩ (.int .i64 0)).setCell ⟨g105, 9, none⟩ (.int .i64 0)).setCell ⟨g105, 10, none⟩ (.int .i64 0)).setCell ⟨g105, 11, none⟩ (.slice none 0 0)).heap[g103]? = some (.cells #[.int .i64 a0_0, .int .i64 a0_1, .string a0_2, .string a0_3, .int .i64 a0_4, .int .i64 a0_5, .int .i64 a0_6, .int .i64 a0_7, .int .i64 a0_8, .int .u32 a0_9, .int .i64 a0_10, .int .i64 a0_11, .string a0_12, .bool a0_13] 28 (0, 0))) := ⟨by (with_reducible repeat first | refine qN ?_ _ | refine qD ?_ | refine qA ?_ _); (iterate 12 (refine qR ?_ NB103_105.out _; (with_reducible repeat first | refine qN ?_ _ | refine qD ?_ | refine qA ?_ _))); exact B103.out⟩
    have n1_ : Aside0 (((((((((((((w86.setCell ⟨g105, 0, none⟩ (.int .i64 0)).setCell ⟨g105, 1, none⟩ (.int .i64 a0_0)).setCell ⟨g105, 2, none⟩ (.int .i64 a0_4)).setCell ⟨g105, 3, none⟩ (.string (⟨#[]⟩ : ByteArray))).setCell ⟨g105, 4, none⟩ (.int .i64 0)).setCell ⟨g105, 5, none⟩ (.int .i64 0)).setCell ⟨g105, 6, none⟩ (.int .i64 0)).setCell ⟨g105, 7, none⟩ (.int .u32 0)).setCell ⟨g105, 8, none⟩ (.int .i64 0)).setCell ⟨g105, 9, none⟩ (.int .i64 0)).setCell ⟨g105, 10, none⟩ (.int .i64 0)).setCell ⟨g105, 11, none⟩ (.slice none 0 0)).heap[g104]? = some (.cells #[.int .i64 0, .int .i64 0, .int .i64 0, .string (⟨#[]⟩ : ByteArray), .int .i64 0, .int .i64 0, .int .i64 0, .int .u32 0, .int .i64 0, .int .i64 0, .int .i64 0, .slice none 0 0] 36 (0, 0))) := ⟨by (with_reducible repeat first | refine qN ?_ _ | refine qD ?_ | refine qA ?_ _); (iterate 12 (refine qR ?_ NB104_105.out _; (with_reducible repeat first | refine qN ?_ _ | refine qD ?_ | refine qA ?_ _))); exact B104.out⟩
    have n2_ : Aside0 (((((((((((((w86.setCell ⟨g105, 0, none⟩ (.int .i64 0)).setCell ⟨g105, 1, none⟩ (.int .i64 a0_0)).setCell ⟨g105, 2, none⟩ (.int .i64 a0_4)).setCell ⟨g105, 3, none⟩ (.string (⟨#[]⟩ : ByteArray))).setCell ⟨g105, 4, none⟩ (.int .i64 0)).setCell ⟨g105, 5, none⟩ (.int .i64 0)).setCell ⟨g105, 6, none⟩ (.int .i64 0)).setCell ⟨g105, 7, none⟩ (.int .u32 0)).setCell ⟨g105, 8, none⟩ (.int .i64 0)).setCell ⟨g105, 9, none⟩ (.int .i64 0)).setCell ⟨g105, 10, none⟩ (.int .i64 0)).setCell ⟨g105, 11, none⟩ (.slice none 0 0)).heap[g105]? = some (.cells #[.int .i64 0, .int .i64 a0_0, .int .i64 a0_4, .string (⟨#[]⟩ : ByteArray), .int .i64 0, .int .i64 0, .int .i64 0, .int .u32 0, .int .i64 0, .int .i64 0, .int .i64 0, .slice none 0 0] 36 (0, 0))) := ⟨by (with_reducible repeat first | refine qN ?_ _ | refine qD ?_ | refine qA ?_ _); apply puts12; (with_reducible repeat first | refine qN ?_ _ | refine qD ?_ | refine qA ?_ _); exact B105.out⟩
    have n3_ : Aside0 (Below w.heap.size w ((((((((((((w86.setCell ⟨g105, 0, none⟩ (.int .i64 0)).setCell ⟨g105, 1, none⟩ (.int .i64 a0_0)).setCell ⟨g105, 2, none⟩ (.int .i64 a0_4)).setCell ⟨g105, 3, none⟩ (.string (⟨#[]⟩ : ByteArray))).setCell ⟨g105, 4, none⟩ (.int .i64 0)).setCell ⟨g105, 5, none⟩ (.int .i64 0)).setCell ⟨g105, 6, none⟩ (.int .i64 0)).setCell ⟨g105, 7, none⟩ (.int .u32 0)).setCell ⟨g105, 8, none⟩ (.int .i64 0)).setCell ⟨g105, 9, none⟩ (.int .i64 0)).setCell ⟨g105, 10, none⟩ (.int .i64 0)).setCell ⟨g105, 11, none⟩ (.slice none 0 0))) := ⟨by repeat (first | (with_reducible first | exact HB.out | apply eA | apply eN | apply eD | refine eS ?_ GE103.out | refine eS ?_ GE104.out | refine eS ?_ GE105.out) | exact HB.out)⟩
    (try clear B103)
    (try clear B104)
    (try clear B105)
    (try clear HB)
    generalize ((((((((((((w86.setCell ⟨g105, 0, none⟩ (.int .i64 0)).setCell ⟨g105, 1, none⟩ (.int .i64 a0_0)).setCell ⟨g105, 2, none⟩ (.int .i64 a0_4)).setCell ⟨g105, 3, none⟩ (.string (⟨#[]⟩ : ByteArray))).setCell ⟨g105, 4, none⟩ (.int .i64 0)).setCell ⟨g105, 5, none⟩ (.int .i64 0)).setCell ⟨g105, 6, none⟩ (.int .i64 0)).setCell ⟨g105, 7, none⟩ (.int .u32 0)).setCell ⟨g105, 8, none⟩ (.int .i64 0)).setCell ⟨g105, 9, none⟩ (.int .i64 0)).setCell ⟨g105, 10, none⟩ (.int .i64 0)).setCell ⟨g105, 11, none⟩ (.slice none 0 0)) = w91 at n0_ n1_ n2_ n3_ ⊢
    have B103 := n0_
    have B104 := n1_
    have B105 := n2_
    have HB := n3_
    clear n0_ n1_ n2_ n3_
    have n0_ := qM (blk_drew B103.out)
    have n1_ := qM (blk_drew B104.out)
    have n2_ := qM (blk_drew B105.out)
    have n3_ := qM (below_drew1 HB.out)
    clear B103
    clear B104
    clear B105
    clear HB
    have B103 := n0_
    have B104 := n1_
    have B105 := n2_
    have HB := n3_
    clear n0_ n1_ n2_ n3_
    refine start_ (n := 6) (S := fun w' => w'.cell? ⟨g103, 0, none⟩ = some (.int .i64 a0_0) ∧ w'.cell? ⟨g103, 1, none⟩ = some (.int .i64 a0_1) ∧ w'.cell? ⟨g103, 2, none⟩ = some (.string a0_2) ∧ w'.cell? ⟨g103, 3, none⟩ = some (.string a0_3) ∧ w'.cell? ⟨g103, 4, none⟩ = some (.int .i64 a0_4) ∧ w'.cell? ⟨g103, 5, none⟩ = some (.int .i64 a0_5) ∧ w'.cell? ⟨g103, 6, none⟩ = some (.int .i64 a0_6) ∧ w'.cell? ⟨g103, 7, none⟩ = some (.int .i64 a0_7) ∧ w'.cell? ⟨g103, 8, none⟩ = some (.int .i64 a0_8) ∧ w'.cell? ⟨g103, 9, none⟩ = some (.int .u32 a0_9) ∧ w'.cell? ⟨g103, 10, none⟩ = some (.int .i64 a0_10) ∧ w'.cell? ⟨g103, 11, none⟩ = some (.int .i64 a0_11) ∧ w'.cell? ⟨g103, 12, none⟩ = some (.string a0_12) ∧ w'.cell? ⟨g103, 13, none⟩ = some (.bool a0_13)) (ds := []) #[false, false, false, false, false, false] (by kernel_rfl) rfl rfl ⟨(qC B103.out 0).trans rfl, (qC B103.out 1).trans rfl, (qC B103.out 2).trans rfl, (qC B103.out 3).trans rfl, (qC B103.out 4).trans rfl, (qC B103.out 5).trans rfl, (qC B103.out 6).trans rfl, (qC B103.out 7).trans rfl, (qC B103.out 8).trans rfl, (qC B103.out 9).trans rfl, (qC B103.out 10).trans rfl, (qC B103.out 11).trans rfl, (qC B103.out 12).trans rfl, (qC B103.out 13).trans rfl⟩ (fun hHeld => ?_)
    generalize w91.drew = w92 at B103 B104 B105 HB hHeld ⊢
    refine pure_ (i := 0) (N := some 42) (v := ?_) (a' := ?_) #[true, false, false, false, false, false] rfl rfl (by kernel_rfl) (fun _ _ _ h => h) (Or.inl ⟨by rfl, ?_⟩) ?_ ?_
    rotate_left
    ·intro w'; go_simp; with_reducible rfl
    rotate_left
    ·simp only [Act.put, xA, xZ, xS, i64_w, i32_w]; rfl
    refine pure_ (i := 2) (N := some 44) (v := ?_) (a' := ?_) #[true, false, true, false, false, false] rfl rfl (by kernel_rfl) (fun _ _ _ h => h) (Or.inl ⟨by rfl, ?_⟩) ?_ ?_
    rotate_left
    ·intro w'; go_simp; with_reducible rfl
    rotate_left
    ·simp only [Act.put, xA, xZ, xS, i64_w, i32_w]; rfl
    refine take_ (i := 1) (N := some 43) (v := ?_) (a' := ?_) #[true, true, true, false, false, false] rfl rfl (by kernel_rfl) (fun _ _ _ h => h) (Or.inl ⟨by rfl, ?_⟩) hHeld ?_ ?_
    rotate_left
    ·rintro w' ⟨s0, s1, s2, s3, s4, s5, s6, s7, s8, s9, s10, s11, s12, s13⟩; go_simp; with_reducible rfl
    rotate_left
    ·simp only [Act.put, xA, xZ, xS, i64_w, i32_w]; rfl
    refine one_ (i := 3) (N := none) #[true, true, true, true, false, false] rfl rfl (by kernel_rfl) (by decide) (fun K hK => ?_)
    have hs93 : w92.cell? ⟨g105, 0, none⟩ = some (.int .i64 0) := (qC B105.out 0).trans rfl
    have hfs93 := qF B105.out 0
    have hns93_0 := NB103_105.out
    have hns93_1 := NB104_105.out
    have hms93_0 := NB105_103.out
    have hms93_1 := NB105_104.out
    refine skip_ (w1 := ?_) (by rfl) rfl ?_ ?_
    rotate_left
    ·go_simp; rfl
    refine hK.out _ _ ⟨((cell_far (p := ⟨g105, _, none⟩) NB103_105.out _).trans (hHeld.1)), ((cell_far (p := ⟨g105, _, none⟩) NB103_105.out _).trans (hHeld.2.1)), ((cell_far (p := ⟨g105, _, none⟩) NB103_105.out _).trans (hHeld.2.2.1)), ((cell_far (p := ⟨g105, _, none⟩) NB103_105.out _).trans (hHeld.2.2.2.1)), ((cell_far (p := ⟨g105, _, none⟩) NB103_105.out _).trans (hHeld.2.2.2.2.1)), ((cell_far (p := ⟨g105, _, none⟩) NB103_105.out _).trans (hHeld.2.2.2.2.2.1)), ((cell_far (p := ⟨g105, _, none⟩) NB103_105.out _).trans (hHeld.2.2.2.2.2.2.1)), ((cell_far (p := ⟨g105, _, none⟩) NB103_105.out _).trans (hHeld.2.2.2.2.2.2.2.1)), ((cell_far (p := ⟨g105, _, none⟩) NB103_105.out _).trans (hHeld.2.2.2.2.2.2.2.2.1)), ((cell_far (p := ⟨g105, _, none⟩) NB103_105.out _).trans (hHeld.2.2.2.2.2.2.2.2.2.1)), ((cell_far (p := ⟨g105, _, none⟩) NB103_105.out _).trans (hHeld.2.2.2.2.2.2.2.2.2.2.1)), ((cell_far (p := ⟨g105, _, none⟩) NB103_105.out _).trans (hHeld.2.2.2.2.2.2.2.2.2.2.2.1)), ((cell_far (p := ⟨g105, _, none⟩) NB103_105.out _).trans (hHeld.2.2.2.2.2.2.2.2.2.2.2.2.1)), ((cell_far (p := ⟨g105, _, none⟩) NB103_105.out _).trans (hHeld.2.2.2.2.2.2.2.2.2.2.2.2.2))⟩ (fun hHeld => ?_)
    clear hK K
    refine pure_ (i := 4) (N := some 45) (v := ?_) (a' := ?_) #[true, true, true, true, true, false] rfl rfl (by kernel_rfl) (fun _ _ _ h => h) (Or.inl ⟨by rfl, ?_⟩) ?_ ?_
    rotate_left
    ·intro w'; go_simp; with_reducible rfl
    rotate_left
    ·simp only [Act.put, xA, xZ, xS, i64_w, i32_w]; rfl
    refine one_ (i := 5) (N := none) #[true, true, true, true, true, true] rfl rfl (by kernel_rfl) (by decide) (fun K hK => ?_)
    have hs94 : w92.cell? ⟨g105, 3, none⟩ = some (.string (⟨#[]⟩ : ByteArray)) := (qC B105.out 3).trans rfl
    have hfs94 := qF B105.out 3
    have hns94_0 := NB103_105.out
    have hns94_1 := NB104_105.out
    have hms94_0 := NB105_103.out
    have hms94_1 := NB105_104.out
    refine skip_ (w1 := ?_) (by rfl) rfl ?_ ?_
    rotate_left
    ·go_simp; rfl
    refine hK.out _ _ ⟨((cell_far (p := ⟨g105, _, none⟩) NB103_105.out _).trans (hHeld.1)), ((cell_far (p := ⟨g105, _, none⟩) NB103_105.out _).trans (hHeld.2.1)), ((cell_far (p := ⟨g105, _, none⟩) NB103_105.out _).trans (hHeld.2.2.1)), ((cell_far (p := ⟨g105, _, none⟩) NB103_105.out _).trans (hHeld.2.2.2.1)), ((cell_far (p := ⟨g105, _, none⟩) NB103_105.out _).trans (hHeld.2.2.2.2.1)), ((cell_far (p := ⟨g105, _, none⟩) NB103_105.out _).trans (hHeld.2.2.2.2.2.1)), ((cell_far (p := ⟨g105, _, none⟩) NB103_105.out _).trans (hHeld.2.2.2.2.2.2.1)), ((cell_far (p := ⟨g105, _, none⟩) NB103_105.out _).trans (hHeld.2.2.2.2.2.2.2.1)), ((cell_far (p := ⟨g105, _, none⟩) NB103_105.out _).trans (hHeld.2.2.2.2.2.2.2.2.1)), ((cell_far (p := ⟨g105, _, none⟩) NB103_105.out _).trans (hHeld.2.2.2.2.2.2.2.2.2.1)), ((cell_far (p := ⟨g105, _, none⟩) NB103_105.out _).trans (hHeld.2.2.2.2.2.2.2.2.2.2.1)), ((cell_far (p := ⟨g105, _, none⟩) NB103_105.out _).trans (hHeld.2.2.2.2.2.2.2.2.2.2.2.1)), ((cell_far (p := ⟨g105, _, none⟩) NB103_105.out _).trans (hHeld.2.2.2.2.2.2.2.2.2.2.2.2.1)), ((cell_far (p := ⟨g105, _, none⟩) NB103_105.out _).trans (hHeld.2.2.2.2.2.2.2.2.2.2.2.2.2))⟩ (fun hHeld => ?_)
    clear hK K
    refine done_ (by kernel_rfl) ?_
    obtain ⟨z95_0, z95_1, z95_2, z95_3, z95_4, z95_5, z95_6, z95_7, z95_8, z95_9, z95_10, z95_11, f95_0, f95_1, f95_2, f95_3, f95_4, f95_5, f95_6, f95_7, f95_8, f95_9, f95_10, f95_11⟩ := cells12 B105.out
    obtain ⟨z96_0, z96_1, z96_2, z96_3, z96_4, z96_5, z96_6, z96_7, z96_8, z96_9, z96_10, z96_11, f96_0, f96_1, f96_2, f96_3, f96_4, f96_5, f96_6, f96_7, f96_8, f96_9, f96_10, f96_11⟩ := cells12 B104.out
    try go_wp2
    refine bodyPost_ret (results_ct rfl _ _ g104 36 #[.int .i64 5, .int .i64 a0_0, .int .i64 a0_4, .string a0_2, .int .i64 0, .int .i64 0, .int .i64 0, .int .u32 0, .int .i64 0, .int .i64 0, .int .i64 0, .slice none 0 0] (0, 0) _ rfl (by (with_reducible repeat first | refine qN ?_ _ | refine qD ?_ | refine qA ?_ _); apply puts12; (with_reducible repeat first | refine qN ?_ _ | refine qD ?_ | refine qA ?_ _); (iterate 2 (refine qR ?_ NB104_105.out _; (with_reducible repeat first | refine qN ?_ _ | refine qD ?_ | refine qA ?_ _))); exact B104.out) Try.underlying36 rfl (by kernel_rfl)) rfl ?_
    exact ⟨_, by first | rfl | (simp [errW_none, errW_some] <;> rfl) | (simp [*, errW_none, errW_some] <;> rfl), by first | exact Kd.R_nil _ _ _ _ _ | exact Kd.N_nil _ _ _ _ _ | exact Kd.V_nil _ _ _ _ _ | exact Kd.Q_nil _ _ _ _ _ | exact Kd.S_nil _ _ _ _ _, by repeat (first | (with_reducible first | exact HB.out | apply eA | apply eN | apply eD | refine eS ?_ GE103.out | refine eS ?_ GE104.out | refine eS ?_ GE105.out) | exact HB.out)⟩
   ·rw [if_neg c81] at H
    have c81b0 : (a0_5 == 5) = false := beq_eq_false_iff_ne.mpr c81
    have c81b1 : (a0_5 != 5) = true := bne_iff_ne.mpr c81
    by_cases c97 : a0_5 = 7
    ·rw [if_pos c97] at H
     have c97b0 : (a0_5 == 7) = true := beq_iff_eq.mpr c97
     have c97b1 : (a0_5 != 7) = false := bne_eq_false_iff_eq.mpr c97
     clear c97
     simp only [Option.some.injEq, Prod.mk.injEq] at H
     obtain ⟨rfl, rfl, rfl, rfl, rfl, rfl, rfl, rfl, rfl, rfl, rfl, rfl, rfl⟩ := H
     go_enter Try.func12, Try.ntmps12
     try go_wp2_with (first | ((with_reducible refine gate_dst (N := 1) rfl ?_); refine box_event ?hg (N := 1) ?hd (cs := #[.int .i64 a0_0, .int .i64 a0_1, .string a0_2, .string a0_3, .int .i64 a0_4, .int .i64 a0_5, .int .i64 a0_6, .int .i64 a0_7, .int .i64 a0_8, .int .u32 a0_9, .int .i64 a0_10, .int .i64 a0_11, .string a0_12, .bool a0_13]) (t := 28) ?hr ?_; (case hd => rfl); (case hg => rfl); (case hr => first | (go_simp; done) | (go_simp; rfl)); intro g103 hg w98 hbox hb; have n0_ := qM (eT (by repeat (first | (with_reducible first | exact HB.out | apply eA | apply eN | apply eD) | exact HB.out)) hb); have n1_ := qM (hbox); have n2_ := qM ((by rw [hg]; exact (eZ (by repeat (first | (with_reducible first | exact HB.out | apply eA | apply eN | apply eD) | exact HB.out))) : w.heap.size ≤ g103)); have n3_ := n2_; clear HB; have HB := n0_; have B103 := n1_; have GW103 := n2_; have GE103 := n3_; clear n0_ n1_ n2_ n3_; clear hb hbox hg) | ((with_reducible refine gate_dst (N := 2) rfl ?_); refine box_event ?hg (N := 2) ?hd (cs := #[.int .i64 0, .int .i64 0, .int .i64 0, .string (⟨#[]⟩ : ByteArray), .int .i64 0, .int .i64 0, .int .i64 0, .int .u32 0, .int .i64 0, .int .i64 0, .int .i64 0, .slice none 0 0]) (t := 36) ?hr ?_; (case hd => rfl); (case hg => rfl); (case hr => first | (go_simp; done) | (go_simp; rfl)); intro g104 hg w99 hbox hb; have n0_ := qM (qB (g := g103) (by (with_reducible repeat first | refine qN ?_ _ | refine qD ?_ | refine qA ?_ _); exact B103.out) hb); have n1_ := qM (eT (by repeat (first | (with_reducible first | exact HB.out | apply eA | apply eN | apply eD | refine eS ?_ GE103.out) | exact HB.out)) hb); have n2_ := qM (hbox); have n3_ := qM ((by rw [hg]; exact (eZ (by repeat (first | (with_reducible first | exact HB.out | apply eA | apply eN | apply eD | refine eS ?_ GE103.out) | exact HB.out))) : w.heap.size ≤ g104)); have n4_ := n3_; have n5_ := qM ((by rw [hg]; exact Nat.ne_of_lt (qL (g := g103) (by (with_reducible repeat first | refine qN ?_ _ | refine qD ?_ | refine qA ?_ _); exact B103.out)) : g103 ≠ g104)); have n6_ := qM (Ne.symm n5_.out); clear B103; clear HB; have B103 := n0_; have HB := n1_; have B104 := n2_; have GW104 := n3_; have GE104 := n4_; have NB103_104 := n5_; have NB104_103 := n6_; clear n0_ n1_ n2_ n3_ n4_ n5_ n6_; clear hb hbox hg; have hnb100 := NB103_104.out; have hnc100 := NB104_103.out; obtain ⟨z101_0, z101_1, z101_2, z101_3, z101_4, z101_5, z101_6, z101_7, z101_8, z101_9, z101_10, z101_11, z101_12, z101_13, f101_0, f101_1, f101_2, f101_3, f101_4, f101_5, f101_6, f101_7, f101_8, f101_9, f101_10, f101_11, f101_12, f101_13⟩ := cells14 B103.out) | ((with_reducible refine gate_dst (N := 4) rfl ?_); refine box_event ?hg (N := 4) ?hd (cs := #[.int .i64 0, .int .i64 0, .int .i64 0, .string (⟨#[]⟩ : ByteArray), .int .i64 0, .int .i64 0, .int .i64 0, .int .u32 0, .int .i64 0, .int .i64 0, .int .i64 0, .slice none 0 0]) (t := 36) ?hr ?_; (case hd => rfl); (case hg => rfl); (case hr => first | (go_simp; done) | (go_simp; rfl)); intro g105 hg w102 hbox hb; have n0_ := qM (qB (g := g103) (by (with_reducible repeat first | refine qN ?_ _ | refine qD ?_ | refine qA ?_ _); exact B103.out) hb); have n1_ := qM (qB (g := g104) (by (with_reducible repeat first | refine qN ?_ _ | refine qD ?_ | refine qA ?_ _); exact B104.out) hb); have n2_ := qM (eT (by repeat (first | (with_reducible first | exact HB.out | apply eA | apply eN | apply eD | refine eS ?_ GE103.out | refine eS ?_ GE104.out) | exact HB.out)) hb); have n3_ := qM (hbox); have n4_ := qM ((by rw [hg]; exact (eZ (by repeat (first | (with_reducible first | exact HB.out | apply eA | apply eN | apply eD | refine eS ?_ GE103.out | refine eS ?_ GE104.out) | exact HB.out))) : w.heap.size ≤ g105)); have n5_ := n4_; have n6_ := qM ((by rw [hg]; exact Nat.ne_of_lt (qL (g := g103) (by (with_reducible repeat first | refine qN ?_ _ | refine qD ?_ | refine qA ?_ _); exact B103.out)) : g103 ≠ g105)); have n7_ := qM (Ne.symm n6_.out); have n8_ := qM ((by rw [hg]; exact Nat.ne_of_lt (qL (g := g104) (by (with_reducible repeat first | refine qN ?_ _ | refine qD ?_ | refine qA ?_ _); exact B104.out)) : g104 ≠ g105)); have n9_ := qM (Ne.symm n8_.out); clear B103; clear B104; clear HB; have B103 := n0_; have B104 := n1_; have HB := n2_; have B105 := n3_; have GW105 := n4_; have GE105 := n5_; have NB103_105 := n6_; have NB105_103 := n7_; have NB104_105 := n8_; have NB105_104 := n9_; clear n0_ n1_ n2_ n3_ n4_ n5_ n6_ n7_ n8_ n9_; clear hb hbox hg; have hnb103 := NB105_103.out; have hnc103 := NB103_105.out; have hnb104 := NB105_104.out; have hnc104 := NB104_105.out; obtain ⟨z105_0, z105_1, z105_2, z105_3, z105_4, z105_5, z105_6, z105_7, z105_8, z105_9, z105_10, z105_11, f105_0, f105_1, f105_2, f105_3, f105_4, f105_5, f105_6, f105_7, f105_8, f105_9, f105_10, f105_11⟩ := cells12 B105.out; obtain ⟨z106_0, z106_1, z106_2, z106_3, z106_4, z106_5, z106_6, z106_7, z106_8, z106_9, z106_10, z106_11, z106_12, z106_13, f106_0, f106_1, f106_2, f106_3, f106_4, f106_5, f106_6, f106_7, f106_8, f106_9, f106_10, f106_11, f106_12, f106_13⟩ := cells14 B103.out))
     have n0_ : Aside0 (((((((((((((w102.setCell ⟨g105, 0, none⟩ (.int .i64 0)).setCell ⟨g105, 1, none⟩ (.int .i64 a0_0)).setCell ⟨g105, 2, none⟩ (.int .i64 a0_4)).setCell ⟨g105, 3, none⟩ (.string (⟨#[]⟩ : ByteArray))).setCell ⟨g105, 4, none⟩ (.int .i64 0)).setCell ⟨g105, 5, none⟩ (.int .i64 0)).setCell ⟨g105, 6, none⟩ (.int .i64 0)).setCell ⟨g105, 7, none⟩ (.int .u32 0)).setCell ⟨g105, 8, none⟩ (.int .i64 0)).setCell ⟨g105, 9, none⟩ (.int .i64 0)).setCell ⟨g105, 10, none⟩ (.int .i64 0)).setCell ⟨g105, 11, none⟩ (.slice none 0 0)).heap[g103]? = some (.cells #[.int .i64 a0_0, .int .i64 a0_1, .string a0_2, .string a0_3, .int .i64 a0_4, .int .i64 a0_5, .int .i64 a0_6, .int .i64 a0_7, .int .i64 a0_8, .int .u32 a0_9, .int .i64 a0_10, .int .i64 a0_11, .string a0_12, .bool a0_13] 28 (0, 0))) := ⟨by (with_reducible repeat first | refine qN ?_ _ | refine qD ?_ | refine qA ?_ _); (iterate 12 (refine qR ?_ NB103_105.out _; (with_reducible repeat first | refine qN ?_ _ | refine qD ?_ | refine qA ?_ _))); exact B103.out⟩
     have n1_ : Aside0 (((((((((((((w102.setCell ⟨g105, 0, none⟩ (.int .i64 0)).setCell ⟨g105, 1, none⟩ (.int .i64 a0_0)).setCell ⟨g105, 2, none⟩ (.int .i64 a0_4)).setCell ⟨g105, 3, none⟩ (.string (⟨#[]⟩ : ByteArray))).setCell ⟨g105, 4, none⟩ (.int .i64 0)).setCell ⟨g105, 5, none⟩ (.int .i64 0)).setCell ⟨g105, 6, none⟩ (.int .i64 0)).setCell ⟨g105, 7, none⟩ (.int .u32 0)).setCell ⟨g105, 8, none⟩ (.int .i64 0)).setCell ⟨g105, 9, none⟩ (.int .i64 0)).setCell ⟨g105, 10, none⟩ (.int .i64 0)).setCell ⟨g105, 11, none⟩ (.slice none 0 0)).heap[g104]? = some (.cells #[.int .i64 0, .int .i64 0, .int .i64 0, .string (⟨#[]⟩ : ByteArray), .int .i64 0, .int .i64 0, .int .i64 0, .int .u32 0, .int .i64 0, .int .i64 0, .int .i64 0, .slice none 0 0] 36 (0, 0))) := ⟨by (with_reducible repeat first | refine qN ?_ _ | refine qD ?_ | refine qA ?_ _); (iterate 12 (refine qR ?_ NB104_105.out _; (with_reducible repeat first | refine qN ?_ _ | refine qD ?_ | refine qA ?_ _))); exact B104.out⟩
     have n2_ : Aside0 (((((((((((((w102.setCell ⟨g105, 0, none⟩ (.int .i64 0)).setCell ⟨g105, 1, none⟩ (.int .i64 a0_0)).setCell ⟨g105, 2, none⟩ (.int .i64 a0_4)).setCell ⟨g105, 3, none⟩ (.string (⟨#[]⟩ : ByteArray))).setCell ⟨g105, 4, none⟩ (.int .i64 0)).setCell ⟨g105, 5, none⟩ (.int .i64 0)).setCell ⟨g105, 6, none⟩ (.int .i64 0)).setCell ⟨g105, 7, none⟩ (.int .u32 0)).setCell ⟨g105, 8, none⟩ (.int .i64 0)).setCell ⟨g105, 9, none⟩ (.int .i64 0)).setCell ⟨g105, 10, none⟩ (.int .i64 0)).setCell ⟨g105, 11, none⟩ (.slice none 0 0)).heap[g105]? = some (.cells #[.int .i64 0, .int .i64 a0_0, .int .i64 a0_4, .string (⟨#[]⟩ : ByteArray), .int .i64 0, .int .i64 0, .int .i64 0, .int .u32 0, .int .i64 0, .int .i64 0, .int .i64 0, .slice none 0 0] 36 (0, 0))) := ⟨by (with_reducible repeat first | refine qN ?_ _ | refine qD ?_ | refine qA ?_ _); apply puts12; (with_reducible repeat first | refine qN ?_ _ | refine qD ?_ | refine qA ?_ _); exact B105.out⟩
     have n3_ : Aside0 (Below w.heap.size w ((((((((((((w102.setCell ⟨g105, 0, none⟩ (.int .i64 0)).setCell ⟨g105, 1, none⟩ (.int .i64 a0_0)).setCell ⟨g105, 2, none⟩ (.int .i64 a0_4)).setCell ⟨g105, 3, none⟩ (.string (⟨#[]⟩ : ByteArray))).setCell ⟨g105, 4, none⟩ (.int .i64 0)).setCell ⟨g105, 5, none⟩ (.int .i64 0)).setCell ⟨g105, 6, none⟩ (.int .i64 0)).setCell ⟨g105, 7, none⟩ (.int .u32 0)).setCell ⟨g105, 8, none⟩ (.int .i64 0)).setCell ⟨g105, 9, none⟩ (.int .i64 0)).setCell ⟨g105, 10, none⟩ (.int .i64 0)).setCell ⟨g105, 11, none⟩ (.slice none 0 0))) := ⟨by repeat (first | (with_reducible first | exact HB.out | apply eA | apply eN | apply eD | refine eS ?_ GE103.out | refine eS ?_ GE104.out | refine eS ?_ GE105.out) | exact HB.out)⟩
     (try clear B103)
     (try clear B104)
     (try clear B105)
     (try clear HB)
     generalize ((((((((((((w102.setCell ⟨g105, 0, none⟩ (.int .i64 0)).setCell ⟨g105, 1, none⟩ (.int .i64 a0_0)).setCell ⟨g105, 2, none⟩ (.int .i64 a0_4)).setCell ⟨g105, 3, none⟩ (.string (⟨#[]⟩ : ByteArray))).setCell ⟨g105, 4, none⟩ (.int .i64 0)).setCell ⟨g105, 5, none⟩ (.int .i64 0)).setCell ⟨g105, 6, none⟩ (.int .i64 0)).setCell ⟨g105, 7, none⟩ (.int .u32 0)).setCell ⟨g105, 8, none⟩ (.int .i64 0)).setCell ⟨g105, 9, none⟩ (.int .i64 0)).setCell ⟨g105, 10, none⟩ (.int .i64 0)).setCell ⟨g105, 11, none⟩ (.slice none 0 0)) = w107 at n0_ n1_ n2_ n3_ ⊢
     have B103 := n0_
     have B104 := n1_
     have B105 := n2_
     have HB := n3_
     clear n0_ n1_ n2_ n3_
     have n0_ := qM (blk_drew B103.out)
     have n1_ := qM (blk_drew B104.out)
     have n2_ := qM (blk_drew B105.out)
     have n3_ := qM (below_drew1 HB.out)
     clear B103
     clear B104
     clear B105
     clear HB
     have B103 := n0_
     have B104 := n1_
     have B105 := n2_
     have HB := n3_
     clear n0_ n1_ n2_ n3_
     refine start_ (n := 6) (S := fun w' => w'.cell? ⟨g103, 0, none⟩ = some (.int .i64 a0_0) ∧ w'.cell? ⟨g103, 1, none⟩ = some (.int .i64 a0_1) ∧ w'.cell? ⟨g103, 2, none⟩ = some (.string a0_2) ∧ w'.cell? ⟨g103, 3, none⟩ = some (.string a0_3) ∧ w'.cell? ⟨g103, 4, none⟩ = some (.int .i64 a0_4) ∧ w'.cell? ⟨g103, 5, none⟩ = some (.int .i64 a0_5) ∧ w'.cell? ⟨g103, 6, none⟩ = some (.int .i64 a0_6) ∧ w'.cell? ⟨g103, 7, none⟩ = some (.int .i64 a0_7) ∧ w'.cell? ⟨g103, 8, none⟩ = some (.int .i64 a0_8) ∧ w'.cell? ⟨g103, 9, none⟩ = some (.int .u32 a0_9) ∧ w'.cell? ⟨g103, 10, none⟩ = some (.int .i64 a0_10) ∧ w'.cell? ⟨g103, 11, none⟩ = some (.int .i64 a0_11) ∧ w'.cell? ⟨g103, 12, none⟩ = some (.string a0_12) ∧ w'.cell? ⟨g103, 13, none⟩ = some (.bool a0_13)) (ds := []) #[false, false, false, false, false, false] (by kernel_rfl) rfl rfl ⟨(qC B103.out 0).trans rfl, (qC B103.out 1).trans rfl, (qC B103.out 2).trans rfl, (qC B103.out 3).trans rfl, (qC B103.out 4).trans rfl, (qC B103.out 5).trans rfl, (qC B103.out 6).trans rfl, (qC B103.out 7).trans rfl, (qC B103.out 8).trans rfl, (qC B103.out 9).trans rfl, (qC B103.out 10).trans rfl, (qC B103.out 11).trans rfl, (qC B103.out 12).trans rfl, (qC B103.out 13).trans rfl⟩ (fun hHeld => ?_)
     generalize w107.drew = w108 at B103 B104 B105 HB hHeld ⊢
     refine pure_ (i := 0) (N := some 47) (v := ?_) (a' := ?_) #[true, false, false, false, false, false] rfl rfl (by kernel_rfl) (fun _ _ _ h => h) (Or.inl ⟨by rfl, ?_⟩) ?_ ?_
     rotate_left
     ·intro w'; go_simp; with_reducible rfl
     rotate_left
     ·simp only [Act.put, xA, xZ, xS, i64_w, i32_w]; rfl
     refine pure_ (i := 2) (N := some 49) (v := ?_) (a' := ?_) #[true, false, true, false, false, false] rfl rfl (by kernel_rfl) (fun _ _ _ h => h) (Or.inl ⟨by rfl, ?_⟩) ?_ ?_
     rotate_left
     ·intro w'; go_simp; with_reducible rfl
     rotate_left
     ·simp only [Act.put, xA, xZ, xS, i64_w, i32_w]; rfl
     refine take_ (i := 1) (N := some 48) (v := ?_) (a' := ?_) #[true, true, true, false, false, false] rfl rfl (by kernel_rfl) (fun _ _ _ h => h) (Or.inl ⟨by rfl, ?_⟩) hHeld ?_ ?_
     rotate_left
     ·rintro w' ⟨s0, s1, s2, s3, s4, s5, s6, s7, s8, s9, s10, s11, s12, s13⟩; go_simp; with_reducible rfl
     rotate_left
     ·simp only [Act.put, xA, xZ, xS, i64_w, i32_w]; rfl
     refine one_ (i := 3) (N := none) #[true, true, true, true, false, false] rfl rfl (by kernel_rfl) (by decide) (fun K hK => ?_)
     have hs109 : w108.cell? ⟨g105, 0, none⟩ = some (.int .i64 0) := (qC B105.out 0).trans rfl
     have hfs109 := qF B105.out 0
     have hns109_0 := NB103_105.out
     have hns109_1 := NB104_105.out
     have hms109_0 := NB105_103.out
     have hms109_1 := NB105_104.out
     refine skip_ (w1 := ?_) (by rfl) rfl ?_ ?_
     rotate_left
     ·go_simp; rfl
     refine hK.out _ _ ⟨((cell_far (p := ⟨g105, _, none⟩) NB103_105.out _).trans (hHeld.1)), ((cell_far (p := ⟨g105, _, none⟩) NB103_105.out _).trans (hHeld.2.1)), ((cell_far (p := ⟨g105, _, none⟩) NB103_105.out _).trans (hHeld.2.2.1)), ((cell_far (p := ⟨g105, _, none⟩) NB103_105.out _).trans (hHeld.2.2.2.1)), ((cell_far (p := ⟨g105, _, none⟩) NB103_105.out _).trans (hHeld.2.2.2.2.1)), ((cell_far (p := ⟨g105, _, none⟩) NB103_105.out _).trans (hHeld.2.2.2.2.2.1)), ((cell_far (p := ⟨g105, _, none⟩) NB103_105.out _).trans (hHeld.2.2.2.2.2.2.1)), ((cell_far (p := ⟨g105, _, none⟩) NB103_105.out _).trans (hHeld.2.2.2.2.2.2.2.1)), ((cell_far (p := ⟨g105, _, none⟩) NB103_105.out _).trans (hHeld.2.2.2.2.2.2.2.2.1)), ((cell_far (p := ⟨g105, _, none⟩) NB103_105.out _).trans (hHeld.2.2.2.2.2.2.2.2.2.1)), ((cell_far (p := ⟨g105, _, none⟩) NB103_105.out _).trans (hHeld.2.2.2.2.2.2.2.2.2.2.1)), ((cell_far (p := ⟨g105, _, none⟩) NB103_105.out _).trans (hHeld.2.2.2.2.2.2.2.2.2.2.2.1)), ((cell_far (p := ⟨g105, _, none⟩) NB103_105.out _).trans (hHeld.2.2.2.2.2.2.2.2.2.2.2.2.1)), ((cell_far (p := ⟨g105, _, none⟩) NB103_105.out _).trans (hHeld.2.2.2.2.2.2.2.2.2.2.2.2.2))⟩ (fun hHeld => ?_)
     clear hK K
     refine pure_ (i := 4) (N := some 50) (v := ?_) (a' := ?_) #[true, true, true, true, true, false] rfl rfl (by kernel_rfl) (fun _ _ _ h => h) (Or.inl ⟨by rfl, ?_⟩) ?_ ?_
     rotate_left
     ·intro w'; go_simp; with_reducible rfl
     rotate_left
     ·simp only [Act.put, xA, xZ, xS, i64_w, i32_w]; rfl
     refine one_ (i := 5) (N := none) #[true, true, true, true, true, true] rfl rfl (by kernel_rfl) (by decide) (fun K hK => ?_)
     have hs110 : w108.cell? ⟨g105, 3, none⟩ = some (.string (⟨#[]⟩ : ByteArray)) := (qC B105.out 3).trans rfl
     have hfs110 := qF B105.out 3
     have hns110_0 := NB103_105.out
     have hns110_1 := NB104_105.out
     have hms110_0 := NB105_103.out
     have hms110_1 := NB105_104.out
     refine skip_ (w1 := ?_) (by rfl) rfl ?_ ?_
     rotate_left
     ·go_simp; rfl
     refine hK.out _ _ ⟨((cell_far (p := ⟨g105, _, none⟩) NB103_105.out _).trans (hHeld.1)), ((cell_far (p := ⟨g105, _, none⟩) NB103_105.out _).trans (hHeld.2.1)), ((cell_far (p := ⟨g105, _, none⟩) NB103_105.out _).trans (hHeld.2.2.1)), ((cell_far (p := ⟨g105, _, none⟩) NB103_105.out _).trans (hHeld.2.2.2.1)), ((cell_far (p := ⟨g105, _, none⟩) NB103_105.out _).trans (hHeld.2.2.2.2.1)), ((cell_far (p := ⟨g105, _, none⟩) NB103_105.out _).trans (hHeld.2.2.2.2.2.1)), ((cell_far (p := ⟨g105, _, none⟩) NB103_105.out _).trans (hHeld.2.2.2.2.2.2.1)), ((cell_far (p := ⟨g105, _, none⟩) NB103_105.out _).trans (hHeld.2.2.2.2.2.2.2.1)), ((cell_far (p := ⟨g105, _, none⟩) NB103_105.out _).trans (hHeld.2.2.2.2.2.2.2.2.1)), ((cell_far (p := ⟨g105, _, none⟩) NB103_105.out _).trans (hHeld.2.2.2.2.2.2.2.2.2.1)), ((cell_far (p := ⟨g105, _, none⟩) NB103_105.out _).trans (hHeld.2.2.2.2.2.2.2.2.2.2.1)), ((cell_far (p := ⟨g105, _, none⟩) NB103_105.out _).trans (hHeld.2.2.2.2.2.2.2.2.2.2.2.1)), ((cell_far (p := ⟨g105, _, none⟩) NB103_105.out _).trans (hHeld.2.2.2.2.2.2.2.2.2.2.2.2.1)), ((cell_far (p := ⟨g105, _, none⟩) NB103_105.out _).trans (hHeld.2.2.2.2.2.2.2.2.2.2.2.2.2))⟩ (fun hHeld => ?_)
     clear hK K
     refine done_ (by kernel_rfl) ?_
     obtain ⟨z111_0, z111_1, z111_2, z111_3, z111_4, z111_5, z111_6, z111_7, z111_8, z111_9, z111_10, z111_11, f111_0, f111_1, f111_2, f111_3, f111_4, f111_5, f111_6, f111_7, f111_8, f111_9, f111_10, f111_11⟩ := cells12 B105.out
     obtain ⟨z112_0, z112_1, z112_2, z112_3, z112_4, z112_5, z112_6, z112_7, z112_8, z112_9, z112_10, z112_11, f112_0, f112_1, f112_2, f112_3, f112_4, f112_5, f112_6, f112_7, f112_8, f112_9, f112_10, f112_11⟩ := cells12 B104.out
     try go_wp2
     refine bodyPost_ret (results_ct rfl _ _ g104 36 #[.int .i64 4, .int .i64 a0_0, .int .i64 a0_4, .string a0_2, .int .i64 0, .int .i64 0, .int .i64 0, .int .u32 0, .int .i64 0, .int .i64 0, .int .i64 0, .slice none 0 0] (0, 0) _ rfl (by (with_reducible repeat first | refine qN ?_ _ | refine qD ?_ | refine qA ?_ _); apply puts12; (with_reducible repeat first | refine qN ?_ _ | refine qD ?_ | refine qA ?_ _); (iterate 2 (refine qR ?_ NB104_105.out _; (with_reducible repeat first | refine qN ?_ _ | refine qD ?_ | refine qA ?_ _))); exact B104.out) Try.underlying36 rfl (by kernel_rfl)) rfl ?_
     exact ⟨_, by first | rfl | (simp [errW_none, errW_some] <;> rfl) | (simp [*, errW_none, errW_some] <;> rfl), by first | exact Kd.R_nil _ _ _ _ _ | exact Kd.N_nil _ _ _ _ _ | exact Kd.V_nil _ _ _ _ _ | exact Kd.Q_nil _ _ _ _ _ | exact Kd.S_nil _ _ _ _ _, by repeat (first | (with_reducible first | exact HB.out | apply eA | apply eN | apply eD | refine eS ?_ GE103.out | refine eS ?_ GE104.out | refine eS ?_ GE105.out) | exact HB.out)⟩
    ·rw [if_neg c97] at H
     have c97b0 : (a0_5 == 7) = false := beq_eq_false_iff_ne.mpr c97
     have c97b1 : (a0_5 != 7) = true := bne_iff_ne.mpr c97
     simp only [Option.some.injEq, Prod.mk.injEq] at H
     obtain ⟨rfl, rfl, rfl, rfl, rfl, rfl, rfl, rfl, rfl, rfl, rfl, rfl, rfl⟩ := H
     go_enter Try.func12, Try.ntmps12
     go_wp2_with (first | ((with_reducible refine gate_dst (N := 1) rfl ?_); refine box_event ?hg (N := 1) ?hd (cs := #[.int .i64 a0_0, .int .i64 a0_1, .string a0_2, .string a0_3, .int .i64 a0_4, .int .i64 a0_5, .int .i64 a0_6, .int .i64 a0_7, .int .i64 a0_8, .int .u32 a0_9, .int .i64 a0_10, .int .i64 a0_11, .string a0_12, .bool a0_13]) (t := 28) ?hr ?_; (case hd => rfl); (case hg => rfl); (case hr => first | (go_simp; done) | (go_simp; rfl)); intro g103 hg w113 hbox hb; have n0_ := qM (eT (by repeat (first | (with_reducible first | exact HB.out | apply eA | apply eN | apply eD) | exact HB.out)) hb); have n1_ := qM (hbox); have n2_ := qM ((by rw [hg]; exact (eZ (by repeat (first | (with_reducible first | exact HB.out | apply eA | apply eN | apply eD) | exact HB.out))) : w.heap.size ≤ g103)); have n3_ := n2_; clear HB; have HB := n0_; have B103 := n1_; have GW103 := n2_; have GE103 := n3_; clear n0_ n1_ n2_ n3_; clear hb hbox hg) | ((with_reducible refine gate_dst (N := 2) rfl ?_); refine box_event ?hg (N := 2) ?hd (cs := #[.int .i64 0, .int .i64 0, .int .i64 0, .string (⟨#[]⟩ : ByteArray), .int .i64 0, .int .i64 0, .int .i64 0, .int .u32 0, .int .i64 0, .int .i64 0, .int .i64 0, .slice none 0 0]) (t := 36) ?hr ?_; (case hd => rfl); (case hg => rfl); (case hr => first | (go_simp; done) | (go_simp; rfl)); intro g104 hg w114 hbox hb; have n0_ := qM (qB (g := g103) (by (with_reducible repeat first | refine qN ?_ _ | refine qD ?_ | refine qA ?_ _); exact B103.out) hb); have n1_ := qM (eT (by repeat (first | (with_reducible first | exact HB.out | apply eA | apply eN | apply eD | refine eS ?_ GE103.out) | exact HB.out)) hb); have n2_ := qM (hbox); have n3_ := qM ((by rw [hg]; exact (eZ (by repeat (first | (with_reducible first | exact HB.out | apply eA | apply eN | apply eD | refine eS ?_ GE103.out) | exact HB.out))) : w.heap.size ≤ g104)); have n4_ := n3_; have n5_ := qM ((by rw [hg]; exact Nat.ne_of_lt (qL (g := g103) (by (with_reducible repeat first | refine qN ?_ _ | refine qD ?_ | refine qA ?_ _); exact B103.out)) : g103 ≠ g104)); have n6_ := qM (Ne.symm n5_.out); clear B103; clear HB; have B103 := n0_; have HB := n1_; have B104 := n2_; have GW104 := n3_; have GE104 := n4_; have NB103_104 := n5_; have NB104_103 := n6_; clear n0_ n1_ n2_ n3_ n4_ n5_ n6_; clear hb hbox hg; have hnb115 := NB103_104.out; have hnc115 := NB104_103.out; obtain ⟨z116_0, z116_1, z116_2, z116_3, z116_4, z116_5, z116_6, z116_7, z116_8, z116_9, z116_10, z116_11, z116_12, z116_13, f116_0, f116_1, f116_2, f116_3, f116_4, f116_5, f116_6, f116_7, f116_8, f116_9, f116_10, f116_11, f116_12, f116_13⟩ := cells14 B103.out) | ((with_reducible refine gate_dst (N := 4) rfl ?_); refine box_event ?hg (N := 4) ?hd (cs := #[.int .i64 0, .int .i64 0, .int .i64 0, .string (⟨#[]⟩ : ByteArray), .int .i64 0, .int .i64 0, .int .i64 0, .int .u32 0, .int .i64 0, .int .i64 0, .int .i64 0, .slice none 0 0]) (t := 36) ?hr ?_; (case hd => rfl); (case hg => rfl); (case hr => first | (go_simp; done) | (go_simp; rfl)); intro g105 hg w117 hbox hb; have n0_ := qM (qB (g := g103) (by (with_reducible repeat first | refine qN ?_ _ | refine qD ?_ | refine qA ?_ _); exact B103.out) hb); have n1_ := qM (qB (g := g104) (by (with_reducible repeat first | refine qN ?_ _ | refine qD ?_ | refine qA ?_ _); exact B104.out) hb); have n2_ := qM (eT (by repeat (first | (with_reducible first | exact HB.out | apply eA | apply eN | apply eD | refine eS ?_ GE103.out | refine eS ?_ GE104.out) | exact HB.out)) hb); have n3_ := qM (hbox); have n4_ := qM ((by rw [hg]; exact (eZ (by repeat (first | (with_reducible first | exact HB.out | apply eA | apply eN | apply eD | refine eS ?_ GE103.out | refine eS ?_ GE104.out) | exact HB.out))) : w.heap.size ≤ g105)); have n5_ := n4_; have n6_ := qM ((by rw [hg]; exact Nat.ne_of_lt (qL (g := g103) (by (with_reducible repeat first | refine qN ?_ _ | refine qD ?_ | refine qA ?_ _); exact B103.out)) : g103 ≠ g105)); have n7_ := qM (Ne.symm n6_.out); have n8_ := qM ((by rw [hg]; exact Nat.ne_of_lt (qL (g := g104) (by (with_reducible repeat first | refine qN ?_ _ | refine qD ?_ | refine qA ?_ _); exact B104.out)) : g104 ≠ g105)); have n9_ := qM (Ne.symm n8_.out); clear B103; clear B104; clear HB; have B103 := n0_; have B104 := n1_; have HB := n2_; have B105 := n3_; have GW105 := n4_; have GE105 := n5_; have NB103_105 := n6_; have NB105_103 := n7_; have NB104_105 := n8_; have NB105_104 := n9_; clear n0_ n1_ n2_ n3_ n4_ n5_ n6_ n7_ n8_ n9_; clear hb hbox hg; have hnb118 := NB105_103.out; have hnc118 := NB103_105.out; have hnb119 := NB105_104.out; have hnc119 := NB104_105.out; obtain ⟨z120_0, z120_1, z120_2, z120_3, z120_4, z120_5, z120_6, z120_7, z120_8, z120_9, z120_10, z120_11, f120_0, f120_1, f120_2, f120_3, f120_4, f120_5, f120_6, f120_7, f120_8, f120_9, f120_10, f120_11⟩ := cells12 B105.out; obtain ⟨z121_0, z121_1, z121_2, z121_3, z121_4, z121_5, z121_6, z121_7, z121_8, z121_9, z121_10, z121_11, z121_12, z121_13, f121_0, f121_1, f121_2, f121_3, f121_4, f121_5, f121_6, f121_7, f121_8, f121_9, f121_10, f121_11, f121_12, f121_13⟩ := cells14 B103.out; obtain ⟨z122_0, z122_1, z122_2, z122_3, z122_4, z122_5, z122_6, z122_7, z122_8, z122_9, z122_10, z122_11, f122_0, f122_1, f122_2, f122_3, f122_4, f122_5, f122_6, f122_7, f122_8, f122_9, f122_10, f122_11⟩ := cells12 B104.out))
     refine bodyPost_ret (results_ct rfl _ _ g104 36 #[.int .i64 0, .int .i64 0, .int .i64 0, .string (⟨#[]⟩ : ByteArray), .int .i64 0, .int .i64 0, .int .i64 0, .int .u32 0, .int .i64 0, .int .i64 0, .int .i64 0, .slice none 0 0] (0, 0) _ rfl (by (with_reducible repeat first | refine qN ?_ _ | refine qD ?_ | refine qA ?_ _); apply puts12; (with_reducible repeat first | refine qN ?_ _ | refine qD ?_ | refine qA ?_ _); (iterate 12 (refine qR ?_ NB104_105.out _; (with_reducible repeat first | refine qN ?_ _ | refine qD ?_ | refine qA ?_ _))); exact B104.out) Try.underlying36 rfl (by kernel_rfl)) rfl ?_
     exact ⟨_, by first | rfl | (simp [errW_none, errW_some] <;> rfl) | (simp [*, errW_none, errW_some] <;> rfl), by first | exact Kd.R_nil _ _ _ _ _ | exact Kd.N_nil _ _ _ _ _ | exact Kd.V_nil _ _ _ _ _ | exact Kd.Q_nil _ _ _ _ _ | exact Kd.S_nil _ _ _ _ _, by repeat (first | (with_reducible first | exact HB.out | apply eA | apply eN | apply eD | refine eS ?_ GE103.out | refine eS ?_ GE104.out | refine eS ?_ GE105.out) | exact HB.out)⟩

end Go.Proofs.Ytmjmmgefkebggaa.PAll
