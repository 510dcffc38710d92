/- Functions of the program as plain Lean functions, and that each call comes to what they say. Laid by a program of this session (hprint.py); Lean checks it. -/
import Derived.Test.YtffjbbedjddpmaaPAllx0
import Derived.Test.YtffjbbedjddpmaaPAllx22
import Derived.Test.YtffjbbedjddpmaaPAllx29
import Derived.Test.YtffjbbedjddpmaaPAllx33
import Derived.Test.YtffjbbedjddpmaaPAllx37
namespace Go.Proofs.Ytffjbbedjddpmaa.PAll
open Go.RowKit Go.Proofs.YtffjbbedjddpmaaW.PrintWords Go.Proofs.YtffjbbedjddpmaaW.PrintLast Go.Proofs.YtffjbbedjddpmaaW.PrintMore
attribute [local go_sem] max2_int min2_int max_two min_two max_three min_three max_four min_four   -- for this text's walks alone
set_option linter.unusedVariables false
set_option linter.unusedSimpArgs false
attribute [local irreducible] World.setCell

/-! ### hogsheadref10_Put: function 31 -/
mutual
def hogsheadref10_Put.j0 : Nat → ByteArray → Int → Bool → List ByteArray → List (S94) → Int → Bool → Option (List ByteArray × (List (S94)) × Int × Bool × Int)
 | 0, _, _, _, _, _, _, _ => none
 | k + 1, x6, x9, x40, x318000, x318001, x318002, x318003 => if x40 = true then (some (x318000, x318001, x318002, x318003, 0)) else (if x9 = 0 then (some (x318000, x318001, x318002, x318003, 8)) else (hogsheadref10_Put.l0 k x6 0 x318000 x318001 x318002 x318003))
def hogsheadref10_Put.l0 : Nat → ByteArray → Int → List ByteArray → List (S94) → Int → Bool → Option (List ByteArray × (List (S94)) × Int × Bool × Int)
 | 0, _, _, _, _, _, _ => none
 | k + 1, x6, x10, x318000, x318001, x318002, x318003 => if x10 < (x318000.length : Int) then ((hogsheadref10_at.f k x318000 x318001 x318002 x318003 x10).bind fun bt324 => (if bt324.2.2.2.1 = true then (hogsheadref10_Put.l0 k x6 (wrap64 (x10 + 1)) x318000 x318001 x318002 x318003) else ((hogsheadref08_Put.f k x318000 x318001 x318002 x318003 x10 x6).bind fun bt330 => (some (bt330.1, bt330.2.1, bt330.2.2.1, bt330.2.2.2.1, bt330.2.2.2.2))))) else (some (x318000, x318001, x318002, x318003, 5))
end
def hogsheadref10_Put.f (k : Nat) (l0_0 : List ByteArray) (l0_1 : List (S94)) (a0_2 : Int) (a0_3 : Bool) (a1_0 : Int) (a1_1 : Int) (a1_2 : ByteArray) : Option (List ByteArray × (List (S94)) × Int × Bool × Int) := (hogsheadref10_Record.f k a1_0 a1_1 a1_2).bind fun bt320 => (if bt320.2 = 0 then ((hogsheadref10_Find.f k l0_0 l0_1 a0_2 a0_3 a1_0 a1_1).bind fun bt322 => (if bt322.2 = 0 then (hogsheadref10_Put.j0 k bt320.1 bt322.2 (bt322.1.toList == a1_2.toList) l0_0 l0_1 a0_2 a0_3) else (hogsheadref10_Put.j0 k bt320.1 bt322.2 false l0_0 l0_1 a0_2 a0_3))) else (some (l0_0, l0_1, a0_2, a0_3, bt320.2)))
theorem hogsheadref10_Put.mono_l : ∀ k, (∀ y0 y1 y2 y3 y4 y5 y6, LeO (hogsheadref10_Put.j0 k y0 y1 y2 y3 y4 y5 y6) (hogsheadref10_Put.j0 (k + 1) y0 y1 y2 y3 y4 y5 y6)) ∧ (∀ y0 y1 y2 y3 y4 y5, LeO (hogsheadref10_Put.l0 k y0 y1 y2 y3 y4 y5) (hogsheadref10_Put.l0 (k + 1) y0 y1 y2 y3 y4 y5))
 | 0 => ⟨fun _ _ _ _ _ _ _ r h => by simp [hogsheadref10_Put.j0] at h, fun _ _ _ _ _ _ r h => by simp [hogsheadref10_Put.l0] at h⟩
 | k + 1 => by
  obtain ⟨ih0, ih1⟩ := hogsheadref10_Put.mono_l k
  refine ⟨?_, ?_⟩
  ·intro y0 y1 y2 y3 y4 y5 y6
   unfold hogsheadref10_Put.j0
   repeat' first
   | (with_reducible exact ih0 _ _ _ _ _ _ _)
   | (with_reducible exact ih1 _ _ _ _ _ _)
   | (with_reducible exact hogsheadref08_Put.mono _ _ _ _ _ _ _)
   | (with_reducible exact hogsheadref10_Find.mono _ _ _ _ _ _ _)
   | (with_reducible exact hogsheadref10_Record.mono _ _ _ _)
   | (with_reducible exact hogsheadref10_at.mono _ _ _ _ _ _)
   | (with_reducible exact LeO.refl _)
   | (with_reducible exact LeO.none _)
   | (with_reducible refine LeO.ite ?_ ?_)
   | (with_reducible refine LeO.bind ?_ (fun _ => ?_))
   | exact ih0 _ _ _ _ _ _ _
   | exact ih1 _ _ _ _ _ _
   | exact hogsheadref08_Put.mono _ _ _ _ _ _ _
   | exact hogsheadref10_Find.mono _ _ _ _ _ _ _
   | exact hogsheadref10_Record.mono _ _ _ _
   | exact hogsheadref10_at.mono _ _ _ _ _ _
   | exact LeO.none _
   | refine LeO.ite ?_ ?_
   | refine LeO.bind ?_ (fun _ => ?_)
  ·intro y0 y1 y2 y3 y4 y5
   unfold hogsheadref10_Put.l0
   repeat' first
   | (with_reducible exact ih0 _ _ _ _ _ _ _)
   | (with_reducible exact ih1 _ _ _ _ _ _)
   | (with_reducible exact hogsheadref08_Put.mono _ _ _ _ _ _ _)
   | (with_reducible exact hogsheadref10_Find.mono _ _ _ _ _ _ _)
   | (with_reducible exact hogsheadref10_Record.mono _ _ _ _)
   | (with_reducible exact hogsheadref10_at.mono _ _ _ _ _ _)
   | (with_reducible exact LeO.refl _)
   | (with_reducible exact LeO.none _)
   | (with_reducible refine LeO.ite ?_ ?_)
   | (with_reducible refine LeO.bind ?_ (fun _ => ?_))
   | exact ih0 _ _ _ _ _ _ _
   | exact ih1 _ _ _ _ _ _
   | exact hogsheadref08_Put.mono _ _ _ _ _ _ _
   | exact hogsheadref10_Find.mono _ _ _ _ _ _ _
   | exact hogsheadref10_Record.mono _ _ _ _
   | exact hogsheadref10_at.mono _ _ _ _ _ _
   | exact LeO.none _
   | refine LeO.ite ?_ ?_
   | refine LeO.bind ?_ (fun _ => ?_)
theorem hogsheadref10_Put.mono : ∀ a0 a1 a2 a3 a4 a5 a6 k, LeO (hogsheadref10_Put.f k a0 a1 a2 a3 a4 a5 a6) (hogsheadref10_Put.f (k + 1) a0 a1 a2 a3 a4 a5 a6) := by
 intro a0 a1 a2 a3 a4 a5 a6 k
 obtain ⟨ih0, ih1⟩ := hogsheadref10_Put.mono_l k
 unfold hogsheadref10_Put.f
 repeat' first
   | (with_reducible exact ih0 _ _ _ _ _ _ _)
   | (with_reducible exact ih1 _ _ _ _ _ _)
   | (with_reducible exact hogsheadref08_Put.mono _ _ _ _ _ _ _)
   | (with_reducible exact hogsheadref10_Find.mono _ _ _ _ _ _ _)
   | (with_reducible exact hogsheadref10_Record.mono _ _ _ _)
   | (with_reducible exact hogsheadref10_at.mono _ _ _ _ _ _)
   | (with_reducible exact LeO.refl _)
   | (with_reducible exact LeO.none _)
   | (with_reducible refine LeO.ite ?_ ?_)
   | (with_reducible refine LeO.bind ?_ (fun _ => ?_))
   | exact ih0 _ _ _ _ _ _ _
   | exact ih1 _ _ _ _ _ _
   | exact hogsheadref08_Put.mono _ _ _ _ _ _ _
   | exact hogsheadref10_Find.mono _ _ _ _ _ _ _
   | exact hogsheadref10_Record.mono _ _ _ _
   | exact hogsheadref10_at.mono _ _ _ _ _ _
   | exact LeO.none _
   | refine LeO.ite ?_ ?_
   | refine LeO.bind ?_ (fun _ => ?_)
set_option maxHeartbeats 40000000 in
set_option maxRecDepth 100000 in
theorem hogsheadref10_Put.calls (k : Nat) (P0_0_ : Nat → Prop) (A0_0 : Option Addr) (c0_0 : Nat) (l0_0 : List ByteArray) (P0_1_ : Nat → Prop) (A0_1 : Option Addr) (c0_1 : Nat) (l0_1 : List (S94)) (a0_2 : Int) (a0_3 : Bool) (a1_0 : Int) (a1_1 : Int) (a1_2 : ByteArray) (r1 : List ByteArray) (r2 : List (S94)) (r3 : Int) (r4 : Bool) (r5 : Int) (w : World) (hs0_0 : Kd.V Kd.string 9 w w.heap.size (fun k_ => P0_0_ k_) (.slice A0_0 l0_0.length c0_0) l0_0) (hs0_1 : Kd.V k94 94 w w.heap.size (fun k_ => P0_1_ k_) (.slice A0_1 l0_1.length c0_1) l0_1) (h : hogsheadref10_Put.f k l0_0 l0_1 a0_2 a0_3 a1_0 a1_1 a1_2 = some (r1, r2, r3, r4, r5)) :
  Calls Try.prog 31 #[.agg #[.slice A0_0 l0_0.length c0_0, .slice A0_1 l0_1.length c0_1, .int .i64 a0_2, .bool a0_3], .agg #[.int .i64 a1_0, .int .i64 a1_1, .string a1_2]] w fun e w' => ∃ v0_ v1_ : Value, e = .returned (.tuple #[.agg #[v0_, v1_, .int .i64 r3, .bool r4], .int .i64 r5]) ∧ Kd.V Kd.string 9 w' w.heap.size (fun k_ => ((P0_0_ k_ ∨ P0_1_ k_) ∨ w.heap.size ≤ k_)) v0_ r1 ∧ Kd.V k94 94 w' w.heap.size (fun k_ => ((P0_0_ k_ ∨ P0_1_ k_) ∨ w.heap.size ≤ k_)) v1_ r2 ∧ Below w.heap.size w w' := by
 have hu25 := Try.underlying25
 have hu43 := Try.underlying43
 have hu27 := Try.underlying27
 have HO0_0 := qM (show Kd.V Kd.string 9 w w.heap.size (fun k_ => ((P0_0_ k_ ∨ P0_1_ k_) ∨ w.heap.size ≤ k_)) (.slice A0_0 l0_0.length c0_0) l0_0 from Vm hs0_0 (fun k_ hk => .inl (.inl hk)))
 have HO0_1 := qM (show Kd.V k94 94 w w.heap.size (fun k_ => ((P0_0_ k_ ∨ P0_1_ k_) ∨ w.heap.size ≤ k_)) (.slice A0_1 l0_1.length c0_1) l0_1 from Vm hs0_1 (fun k_ hk => .inl (.inr hk)))
 have HB := qM (Below.refl w.heap.size w)
 have H : ((hogsheadref10_Record.f k a1_0 a1_1 a1_2).bind fun bt320 => (if bt320.2 = 0 then ((hogsheadref10_Find.f k l0_0 l0_1 a0_2 a0_3 a1_0 a1_1).bind fun bt322 => (if bt322.2 = 0 then (hogsheadref10_Put.j0 k bt320.1 bt322.2 (bt322.1.toList == a1_2.toList) l0_0 l0_1 a0_2 a0_3) else (hogsheadref10_Put.j0 k bt320.1 bt322.2 false l0_0 l0_1 a0_2 a0_3))) else (some (l0_0, l0_1, a0_2, a0_3, bt320.2)))) = some (r1, r2, r3, r4, r5) := h
 clear h
 replace H := Option.bind_eq_some_iff.mp H
 obtain ⟨⟨t320, t321⟩, A30, H⟩ := H
 replace H : (if t321 = 0 then ((hogsheadref10_Find.f k l0_0 l0_1 a0_2 a0_3 a1_0 a1_1).bind fun bt322 => (if bt322.2 = 0 then (hogsheadref10_Put.j0 k t320 bt322.2 (bt322.1.toList == a1_2.toList) l0_0 l0_1 a0_2 a0_3) else (hogsheadref10_Put.j0 k t320 bt322.2 false l0_0 l0_1 a0_2 a0_3))) else (some (l0_0, l0_1, a0_2, a0_3, t321))) = some (r1, r2, r3, r4, r5) := H
 have A3 := qM A30
 clear A30
 by_cases c4 : t321 = 0
 ·rw [if_pos c4] at H
  have c4b0 : (t321 == 0) = true := beq_iff_eq.mpr c4
  have c4b1 : (t321 != 0) = false := bne_eq_false_iff_eq.mpr c4
  clear c4
  replace H := Option.bind_eq_some_iff.mp H
  obtain ⟨⟨t322, t323⟩, A50, H⟩ := H
  replace H : (if t323 = 0 then (hogsheadref10_Put.j0 k t320 t323 (t322.toList == a1_2.toList) l0_0 l0_1 a0_2 a0_3) else (hogsheadref10_Put.j0 k t320 t323 false l0_0 l0_1 a0_2 a0_3)) = some (r1, r2, r3, r4, r5) := H
  have A5 := qM A50
  clear A50
  have HC6 := qM H
  clear H
  go_enter Try.func31, Try.ntmps31
  go_upto_region 5 with (first | ((with_reducible refine gate_dst (N := 2) rfl ?_); refine box_event ?hg (N := 2) ?hd (cs := #[.slice A0_0 l0_0.length c0_0, .slice A0_1 l0_1.length c0_1, .int .i64 a0_2, .bool a0_3]) (t := 25) ?hr ?_; (case hd => rfl); (case hg => rfl); (case hr => first | (go_simp; done) | (go_simp; rfl)); intro g317 hg w7 hbox hb; have n0_ := qM (Vb (Kd.V_elderB (by (with_reducible repeat first | apply VA | apply VN | apply VD); exact HO0_0.out) g317 (Nat.le_of_eq hg.symm)) hb); have n1_ := qM (Vb (Kd.V_elderB (by (with_reducible repeat first | apply VA | apply VN | apply VD); exact HO0_1.out) g317 (Nat.le_of_eq hg.symm)) hb); have n2_ := qM (eT (by repeat (first | (with_reducible first | exact HB.out | apply eA | apply eN | apply eD) | exact HB.out)) hb); have n3_ := qM (hbox); have n4_ := qM ((by rw [hg]; exact (eZ (by repeat (first | (with_reducible first | exact HB.out | apply eA | apply eN | apply eD) | exact HB.out))) : w.heap.size ≤ g317)); have n5_ := n4_; clear HO0_0 HO0_1 HB; have HO0_0 := n0_; have HO0_1 := n1_; have HB := n2_; have B317 := n3_; have GW317 := n4_; have GE317 := n5_; clear n0_ n1_ n2_ n3_ n4_ n5_; clear hb hbox hg) | ((with_reducible refine gate_dst (N := 3) rfl ?_); refine box_event ?hg (N := 3) ?hd (cs := #[.int .i64 a1_0, .int .i64 a1_1, .string a1_2]) (t := 43) ?hr ?_; (case hd => rfl); (case hg => rfl); (case hr => first | (go_simp; done) | (go_simp; rfl)); intro g318 hg w8 hbox hb; have n0_ := qM (Vb (Kd.V_elderB (by (with_reducible repeat first | apply VA | apply VN | apply VD); exact HO0_0.out) g318 (Nat.le_of_eq hg.symm)) hb); have n1_ := qM (Vb (Kd.V_elderB (by (with_reducible repeat first | apply VA | apply VN | apply VD); exact HO0_1.out) g318 (Nat.le_of_eq hg.symm)) hb); have n2_ := qM (qB (g := g317) (by (with_reducible repeat first | refine qN ?_ _ | refine qD ?_ | refine qA ?_ _); exact B317.out) hb); have n3_ := qM (eT (by repeat (first | (with_reducible first | exact HB.out | apply eA | apply eN | apply eD | refine eU ?_ (by assumption)) | exact HB.out)) hb); have n4_ := qM (hbox); have n5_ := qM ((by rw [hg]; exact (eZ (by repeat (first | (with_reducible first | exact HB.out | apply eA | apply eN | apply eD | refine eU ?_ (by assumption)) | exact HB.out))) : w.heap.size ≤ g318)); have n6_ := n5_; have n7_ := qM ((by rw [hg]; exact Nat.ne_of_lt (qL (g := g317) (by (with_reducible repeat first | refine qN ?_ _ | refine qD ?_ | refine qA ?_ _); exact B317.out)) : g317 ≠ g318)); have n8_ := qM (Ne.symm n7_.out); clear HO0_0 HO0_1 B317 HB; have HO0_0 := n0_; have HO0_1 := n1_; have B317 := n2_; have HB := n3_; have B318 := n4_; have GW318 := n5_; have GE318 := n6_; have NB317_318 := n7_; have NB318_317 := n8_; clear n0_ n1_ n2_ n3_ n4_ n5_ n6_ n7_ n8_; clear hb hbox hg) | ((with_reducible refine gate_dst (N := 4) rfl ?_); refine box_event ?hg (N := 4) ?hd (cs := #[.slice none 0 0, .slice none 0 0, .int .i64 0, .bool false]) (t := 25) ?hr ?_; (case hd => rfl); (case hg => rfl); (case hr => first | (go_simp; done) | (go_simp; rfl)); intro g319 hg w9 hbox hb; have n0_ := qM (Vb (Kd.V_elderB (by (with_reducible repeat first | apply VA | apply VN | apply VD); exact HO0_0.out) g319 (Nat.le_of_eq hg.symm)) hb); have n1_ := qM (Vb (Kd.V_elderB (by (with_reducible repeat first | apply VA | apply VN | apply VD); exact HO0_1.out) g319 (Nat.le_of_eq hg.symm)) hb); have n2_ := qM (qB (g := g317) (by (with_reducible repeat first | refine qN ?_ _ | refine qD ?_ | refine qA ?_ _); exact B317.out) hb); have n3_ := qM (qB (g := g318) (by (with_reducible repeat first | refine qN ?_ _ | refine qD ?_ | refine qA ?_ _); exact B318.out) hb); have n4_ := qM (eT (by repeat (first | (with_reducible first | exact HB.out | apply eA | apply eN | apply eD | refine eU ?_ (by assumption)) | exact HB.out)) hb); have n5_ := qM (hbox); have n6_ := qM ((by rw [hg]; exact (eZ (by repeat (first | (with_reducible first | exact HB.out | apply eA | apply eN | apply eD | refine eU ?_ (by assumption)) | exact HB.out))) : w.heap.size ≤ g319)); have n7_ := n6_; have n8_ := qM ((by rw [hg]; exact Nat.ne_of_lt (qL (g := g317) (by (with_reducible repeat first | refine qN ?_ _ | refine qD ?_ | refine qA ?_ _); exact B317.out)) : g317 ≠ g319)); have n9_ := qM (Ne.symm n8_.out); have n10_ := qM ((by rw [hg]; exact Nat.ne_of_lt (qL (g := g318) (by (with_reducible repeat first | refine qN ?_ _ | refine qD ?_ | refine qA ?_ _); exact B318.out)) : g318 ≠ g319)); have n11_ := qM (Ne.symm n10_.out); clear HO0_0 HO0_1 B317 B318 HB; have HO0_0 := n0_; have HO0_1 := n1_; have B317 := n2_; have B318 := n3_; have HB := n4_; have B319 := n5_; have GW319 := n6_; have GE319 := n7_; have NB317_319 := n8_; have NB319_317 := n9_; have NB318_319 := n10_; have NB319_318 := n11_; clear n0_ n1_ n2_ n3_ n4_ n5_ n6_ n7_ n8_ n9_ n10_ n11_; clear hb hbox hg; have hnb10 := NB318_317.out; have hnc10 := NB317_318.out; have hnb11 := NB318_319.out; have hnc11 := NB319_318.out; obtain ⟨z12_0, z12_1, z12_2, f12_0, f12_1, f12_2⟩ := cells3 B318.out) | ((with_reducible refine gate_callee (f := 24) rfl ?_); refine goesL_ (some 16) rfl rfl Try.func24 (by kernel_rfl) rfl #[.agg #[.int .i64 a1_0, .int .i64 a1_1, .string a1_2]] rfl (by (try simp only [List.map_toArray, List.map_cons, List.map_nil]); first | done | rfl | (simp only [List.length_drop, List.length_take]; rfl)) ?_; (with_reducible refine (hogsheadref10_Record.calls k a1_0 a1_1 a1_2 t320 t321 _ A3.out).mono ?_); rintro e w13 ⟨rfl, hb⟩; refine ⟨_, rfl, ?_⟩; have n0_ := qM (Vb (by (with_reducible repeat first | apply VA | apply VN | apply VD); exact HO0_0.out) hb); have n1_ := qM (Vb (by (with_reducible repeat first | apply VA | apply VN | apply VD); exact HO0_1.out) hb); have n2_ := qM (qB (g := g317) (by (with_reducible repeat first | refine qN ?_ _ | refine qD ?_ | refine qA ?_ _); exact B317.out) hb); have n3_ := qM (qB (g := g318) (by (with_reducible repeat first | refine qN ?_ _ | refine qD ?_ | refine qA ?_ _); exact B318.out) hb); have n4_ := qM (qB (g := g319) (by (with_reducible repeat first | refine qN ?_ _ | refine qD ?_ | refine qA ?_ _); exact B319.out) hb); have n5_ := qM (eT (by repeat (first | (with_reducible first | exact HB.out | apply eA | apply eN | apply eD | refine eU ?_ (by assumption)) | exact HB.out)) hb); clear HO0_0 HO0_1 B317 B318 B319 HB; have HO0_0 := n0_; have HO0_1 := n1_; have B317 := n2_; have B318 := n3_; have B319 := n4_; have HB := n5_; clear n0_ n1_ n2_ n3_ n4_ n5_; (try clear hb); (try clear hb2); (try clear hk); (try clear hi); have hnb14 := NB317_319.out; have hnc14 := NB319_317.out; obtain ⟨z15_0, z15_1, z15_2, z15_3, f15_0, f15_1, f15_2, f15_3⟩ := cells4 B317.out; obtain ⟨z16_0, z16_1, z16_2, f16_0, f16_1, f16_2⟩ := cells3 B318.out) | ((with_reducible refine gate_callee (f := 19) rfl ?_); refine goesL_ (some 30) rfl rfl Try.func19 (by kernel_rfl) rfl #[.agg #[.slice A0_0 l0_0.length c0_0, .slice A0_1 l0_1.length c0_1, .int .i64 a0_2, .bool a0_3], .agg #[.int .i64 a1_0, .int .i64 a1_1]] rfl (by (try simp only [List.map_toArray, List.map_cons, List.map_nil]); first | done | rfl | (simp only [List.length_drop, List.length_take]; rfl)) ?_; (with_reducible refine (hogsheadref10_Find.calls k _ _ l0_0 _ _ l0_1 a0_2 a0_3 a1_0 a1_1 t322 t323 _ ?side1 ?side2 ?side3 ?side4 A5.out).mono ?_); (case side1 => repeat (first | exact (Kd.V_reads' HO0_0.out).2.2 | (with_reducible refine Kd.C_alloc ?_ _) | (with_reducible refine Kd.C_drewN ?_ _) | (with_reducible refine Kd.C_drew ?_))); (case side2 => exact (Kd.V_reads' HO0_0.out).2.1); (case side3 => repeat (first | exact (Kd.V_reads' HO0_1.out).2.2 | (with_reducible refine Kd.C_alloc ?_ _) | (with_reducible refine Kd.C_drewN ?_ _) | (with_reducible refine Kd.C_drew ?_))); (case side4 => exact (Kd.V_reads' HO0_1.out).2.1); rintro e w17 ⟨rfl, hb⟩; refine ⟨_, rfl, ?_⟩; have n0_ := qM (Vb (by (with_reducible repeat first | apply VA | apply VN | apply VD); exact HO0_0.out) hb); have n1_ := qM (Vb (by (with_reducible repeat first | apply VA | apply VN | apply VD); exact HO0_1.out) hb); have n2_ := qM (qB (g := g317) (by (with_reducible repeat first | refine qN ?_ _ | refine qD ?_ | refine qA ?_ _); exact B317.out) hb); have n3_ := qM (qB (g := g318) (by (with_reducible repeat first | refine qN ?_ _ | refine qD ?_ | refine qA ?_ _); exact B318.out) hb); have n4_ := qM (qB (g := g319) (by (with_reducible repeat first | refine qN ?_ _ | refine qD ?_ | refine qA ?_ _); exact B319.out) hb); have n5_ := qM (eT (by repeat (first | (with_reducible first | exact HB.out | apply eA | apply eN | apply eD | refine eU ?_ (by assumption)) | exact HB.out)) hb); clear HO0_0 HO0_1 B317 B318 B319 HB; have HO0_0 := n0_; have HO0_1 := n1_; have B317 := n2_; have B318 := n3_; have B319 := n4_; have HB := n5_; clear n0_ n1_ n2_ n3_ n4_ n5_; (try clear hb); (try clear hb2); (try clear hk); (try clear hi)))
  (try simp only [Act.put, List.setIfInBounds_toArray, List.set_cons_zero, List.set_cons_succ])
  go_cut [40] (fun v40 wc => ∃ (kq : Nat) (x40_5 : Bool), v40 = .bool x40_5 ∧ Aside0 (hogsheadref10_Put.j0 kq t320 t323 x40_5 l0_0 l0_1 a0_2 a0_3 = some (r1, r2, r3, r4, r5)) ∧ Aside0 (kq ≤ k) ∧ Aside0 (Kd.V Kd.string 9 wc w.heap.size (fun k_ => ((P0_0_ k_ ∨ P0_1_ k_) ∨ w.heap.size ≤ k_) ∧ k_ ≠ g317 ∧ k_ ≠ g318 ∧ k_ ≠ g319) (.slice A0_0 l0_0.length c0_0) l0_0) ∧ Aside0 (Kd.V k94 94 wc w.heap.size (fun k_ => ((P0_0_ k_ ∨ P0_1_ k_) ∨ w.heap.size ≤ k_) ∧ k_ ≠ g317 ∧ k_ ≠ g318 ∧ k_ ≠ g319) (.slice A0_1 l0_1.length c0_1) l0_1) ∧ Aside0 (wc.heap[g317]? = some (.cells #[(.slice A0_0 l0_0.length c0_0), (.slice A0_1 l0_1.length c0_1), .int .i64 a0_2, .bool a0_3] 25 (0, 0))) ∧ Aside0 (wc.heap[g318]? = some (.cells #[.int .i64 a1_0, .int .i64 a1_1, .string a1_2] 43 (0, 0))) ∧ Aside0 (wc.heap[g319]? = some (.cells #[(.slice none 0 0), (.slice none 0 0), .int .i64 0, .bool false] 25 (0, 0))) ∧ Aside0 (Below w.heap.size w wc))
  case first =>
   have H := HC6.out
   clear HC6
   by_cases c18 : t323 = 0
   ·rw [if_pos c18] at H
    have c18b0 : (t323 == 0) = true := beq_iff_eq.mpr c18
    have c18b1 : (t323 != 0) = false := bne_eq_false_iff_eq.mpr c18
    clear c18
    (first | rw [c18b0] | (simp only [i64_w, i32_w]; rw [c18b0]) | skip)
    have H' := qM H
    clear H
    have hnb19 := NB318_317.out
    have hnc19 := NB317_318.out
    have hnb20 := NB318_319.out
    have hnc20 := NB319_318.out
    obtain ⟨z21_0, z21_1, z21_2, f21_0, f21_1, f21_2⟩ := cells3 B318.out
    go_wp2
    go_meet
    case rel => exact ⟨_, ((t322.toList == a1_2.toList)), (by first | rfl | (simp; done) | (simp [*]; done)), H', ⟨by first | omega | exact Nat.le_refl _⟩, ⟨by (with_reducible repeat first | apply VA | apply VN | apply VD); exact Vm HO0_0.out (fun _ hk => ⟨hk.1.1.1, ⟨hk.1.1.2, ⟨hk.1.2, hk.2⟩⟩⟩)⟩, ⟨by (with_reducible repeat first | apply VA | apply VN | apply VD); exact Vm HO0_1.out (fun _ hk => ⟨hk.1.1.1, ⟨hk.1.1.2, ⟨hk.1.2, hk.2⟩⟩⟩)⟩, ⟨by (with_reducible repeat first | refine qN ?_ _ | refine qD ?_ | refine qA ?_ _); exact B317.out⟩, ⟨by (with_reducible repeat first | refine qN ?_ _ | refine qD ?_ | refine qA ?_ _); exact B318.out⟩, ⟨by (with_reducible repeat first | refine qN ?_ _ | refine qD ?_ | refine qA ?_ _); exact B319.out⟩, ⟨by repeat (first | (with_reducible first | exact HB.out | apply eA | apply eN | apply eD | refine eS ?_ GE317.out | refine eS ?_ GE318.out | refine eS ?_ GE319.out) | exact HB.out)⟩⟩
   ·rw [if_neg c18] at H
    have c18b0 : (t323 == 0) = false := beq_eq_false_iff_ne.mpr c18
    have c18b1 : (t323 != 0) = true := bne_iff_ne.mpr c18
    (first | rw [c18b0] | (simp only [i64_w, i32_w]; rw [c18b0]) | skip)
    have H' := qM H
    clear H
    go_wp2
    go_meet
    case rel => exact ⟨_, (false), (by first | rfl | (simp; done) | (simp [*]; done)), H', ⟨by first | omega | exact Nat.le_refl _⟩, ⟨by (with_reducible repeat first | apply VA | apply VN | apply VD); exact Vm HO0_0.out (fun _ hk => ⟨hk.1.1.1, ⟨hk.1.1.2, ⟨hk.1.2, hk.2⟩⟩⟩)⟩, ⟨by (with_reducible repeat first | apply VA | apply VN | apply VD); exact Vm HO0_1.out (fun _ hk => ⟨hk.1.1.1, ⟨hk.1.1.2, ⟨hk.1.2, hk.2⟩⟩⟩)⟩, ⟨by (with_reducible repeat first | refine qN ?_ _ | refine qD ?_ | refine qA ?_ _); exact B317.out⟩, ⟨by (with_reducible repeat first | refine qN ?_ _ | refine qD ?_ | refine qA ?_ _); exact B318.out⟩, ⟨by (with_reducible repeat first | refine qN ?_ _ | refine qD ?_ | refine qA ?_ _); exact B319.out⟩, ⟨by repeat (first | (with_reducible first | exact HB.out | apply eA | apply eN | apply eD | refine eS ?_ GE317.out | refine eS ?_ GE318.out | refine eS ?_ GE319.out) | exact HB.out)⟩⟩
  case rest =>
   clear HC6
   try clear c1
   try clear c2
   try clear p2
   try clear c3
   try clear c4
   try clear c4b0
   try clear c4b1
   try clear c10
   try clear c11
   try clear c14
   try clear c18
   try clear c18b0
   try clear c18b1
   try clear c19
   try clear c20
   try clear z12_0
   try clear z12_1
   try clear z12_2
   try clear z15_0
   try clear z15_1
   try clear z15_2
   try clear z15_3
   try clear z16_0
   try clear z16_1
   try clear z16_2
   try clear z21_0
   try clear z21_1
   try clear z21_2
   try clear f12_0
   try clear f12_1
   try clear f12_2
   try clear f15_0
   try clear f15_1
   try clear f15_2
   try clear f15_3
   try clear f16_0
   try clear f16_1
   try clear f16_2
   try clear f21_0
   try clear f21_1
   try clear f21_2
   obtain ⟨kq, x40_5, rfl, HA, HJ5, HO_318000, HO_318001, B317, B318, B319, HB⟩ := hcut
   cases kq with
   | zero => exact absurd HA.out (by simp [hogsheadref10_Put.j0])
   | succ kj5 =>
    have H := HA.out
    clear HA
    simp only [hogsheadref10_Put.j0] at H
    by_cases c22 : x40_5 = true
    ·subst c22
     have H1 : (some (l0_0, l0_1, a0_2, a0_3, 0)) = some (r1, r2, r3, r4, r5) := by rw [if_pos rfl] at H; exact H
     clear H
     have H := H1
     clear H1
     simp only [Option.some.injEq, Prod.mk.injEq] at H
     obtain ⟨rfl, rfl, rfl, rfl, rfl⟩ := H
     have hnb23 := NB317_318.out
     have hnc23 := NB318_317.out
     have hnb24 := NB317_319.out
     have hnc24 := NB319_317.out
     obtain ⟨z25_0, z25_1, z25_2, z25_3, f25_0, f25_1, f25_2, f25_3⟩ := cells4 B317.out
     have hnb26 := NB319_318.out
     have hnc26 := NB318_319.out
     obtain ⟨z27_0, z27_1, z27_2, z27_3, f27_0, f27_1, f27_2, f27_3⟩ := cells4 B319.out
     go_wp2
     refine bodyPost_ret (results_ct rfl _ _ g319 25 #[.slice A0_0 l0_0.length c0_0, .slice A0_1 l0_1.length c0_1, .int .i64 a0_2, .bool a0_3] (0, 0) _ rfl (by (with_reducible repeat first | refine qN ?_ _ | refine qD ?_ | refine qA ?_ _); apply puts4; (with_reducible repeat first | refine qN ?_ _ | refine qD ?_ | refine qA ?_ _); exact B319.out) Try.underlying25 rfl (by kernel_rfl)) rfl ?_
     exact ⟨_, _, by first | rfl | (simp [errW_none, errW_some] <;> rfl) | (simp [*, errW_none, errW_some] <;> rfl), by (with_reducible repeat first | apply VA | apply VN | apply VD); exact Vm (Vf (p := ⟨g319, 3, none⟩) (Vf (p := ⟨g319, 2, none⟩) (Vf (p := ⟨g319, 1, none⟩) (Vf (p := ⟨g319, 0, none⟩) (Vm HO_318000.out (fun k_ hk => (⟨hk, hk.2.2.2⟩ : _ ∧ k_ ≠ g319))) (fun _ hk => hk.2) (.slice A0_0 l0_0.length c0_0)) (fun _ hk => hk.2) (.slice A0_1 l0_1.length c0_1)) (fun _ hk => hk.2) (.int .i64 a0_2)) (fun _ hk => hk.2) (.bool a0_3)) (fun _ hk => hk.1.1), by (with_reducible repeat first | apply VA | apply VN | apply VD); exact Vm (Vf (p := ⟨g319, 3, none⟩) (Vf (p := ⟨g319, 2, none⟩) (Vf (p := ⟨g319, 1, none⟩) (Vf (p := ⟨g319, 0, none⟩) (Vm HO_318001.out (fun k_ hk => (⟨hk, hk.2.2.2⟩ : _ ∧ k_ ≠ g319))) (fun _ hk => hk.2) (.slice A0_0 l0_0.length c0_0)) (fun _ hk => hk.2) (.slice A0_1 l0_1.length c0_1)) (fun _ hk => hk.2) (.int .i64 a0_2)) (fun _ hk => hk.2) (.bool a0_3)) (fun _ hk => hk.1.1), by repeat (first | (with_reducible first | exact HB.out | apply eA | apply eN | apply eD | refine eS ?_ GE317.out | refine eS ?_ GE318.out | refine eS ?_ GE319.out) | exact HB.out)⟩
    ·replace c22 := Bool.eq_false_iff.mpr c22
     subst c22
     have H1 : (if t323 = 0 then (some (l0_0, l0_1, a0_2, a0_3, 8)) else (hogsheadref10_Put.l0 kj5 t320 0 l0_0 l0_1 a0_2 a0_3)) = some (r1, r2, r3, r4, r5) := by rw [if_neg (show ¬ (false = true) by decide)] at H; exact H
     clear H
     have H := H1
     clear H1
     by_cases c28 : t323 = 0
     ·rw [if_pos c28] at H
      have c28b0 : (t323 == 0) = true := beq_iff_eq.mpr c28
      have c28b1 : (t323 != 0) = false := bne_eq_false_iff_eq.mpr c28
      clear c28
      simp only [Option.some.injEq, Prod.mk.injEq] at H
      obtain ⟨rfl, rfl, rfl, rfl, rfl⟩ := H
      have hnb29 := NB317_318.out
      have hnc29 := NB318_317.out
      have hnb30 := NB317_319.out
      have hnc30 := NB319_317.out
      obtain ⟨z31_0, z31_1, z31_2, z31_3, f31_0, f31_1, f31_2, f31_3⟩ := cells4 B317.out
      have hnb32 := NB319_318.out
      have hnc32 := NB318_319.out
      obtain ⟨z33_0, z33_1, z33_2, z33_3, f33_0, f33_1, f33_2, f33_3⟩ := cells4 B319.out
      go_wp2
      refine bodyPost_ret (results_ct rfl _ _ g319 25 #[.slice A0_0 l0_0.length c0_0, .slice A0_1 l0_1.length c0_1, .int .i64 a0_2, .bool a0_3] (0, 0) _ rfl (by (with_reducible repeat first | refine qN ?_ _ | refine qD ?_ | refine qA ?_ _); apply puts4; (with_reducible repeat first | refine qN ?_ _ | refine qD ?_ | refine qA ?_ _); exact B319.out) Try.underlying25 rfl (by kernel_rfl)) rfl ?_
      exact ⟨_, _, by first | rfl | (simp [errW_none, errW_some] <;> rfl) | (simp [*, errW_none, errW_some] <;> rfl), by (with_reducible repeat first | apply VA | apply VN | apply VD); exact Vm (Vf (p := ⟨g319, 3, none⟩) (Vf (p := ⟨g319, 2, none⟩) (Vf (p := ⟨g319, 1, none⟩) (Vf (p := ⟨g319, 0, none⟩) (Vm HO_318000.out (fun k_ hk => (⟨hk, hk.2.2.2⟩ : _ ∧ k_ ≠ g319))) (fun _ hk => hk.2) (.slice A0_0 l0_0.length c0_0)) (fun _ hk => hk.2) (.slice A0_1 l0_1.length c0_1)) (fun _ hk => hk.2) (.int .i64 a0_2)) (fun _ hk => hk.2) (.bool a0_3)) (fun _ hk => hk.1.1), by (with_reducible repeat first | apply VA | apply VN | apply VD); exact Vm (Vf (p := ⟨g319, 3, none⟩) (Vf (p := ⟨g319, 2, none⟩) (Vf (p := ⟨g319, 1, none⟩) (Vf (p := ⟨g319, 0, none⟩) (Vm HO_318001.out (fun k_ hk => (⟨hk, hk.2.2.2⟩ : _ ∧ k_ ≠ g319))) (fun _ hk => hk.2) (.slice A0_0 l0_0.length c0_0)) (fun _ hk => hk.2) (.slice A0_1 l0_1.length c0_1)) (fun _ hk => hk.2) (.int .i64 a0_2)) (fun _ hk => hk.2) (.bool a0_3)) (fun _ hk => hk.1.1), by repeat (first | (with_reducible first | exact HB.out | apply eA | apply eN | apply eD | refine eS ?_ GE317.out | refine eS ?_ GE318.out | refine eS ?_ GE319.out) | exact HB.out)⟩
     ·rw [if_neg c28] at H
      have c28b0 : (t323 == 0) = false := beq_eq_false_iff_ne.mpr c28
      have c28b1 : (t323 != 0) = true := bne_iff_ne.mpr c28
      have H' := qM H
      clear H
      go_wp2
      go_loopg [10] kj5 (fun kq v10 w' => ∃ (x10_2 : Int) (x320002_2 : Int) (x320003_2 : Bool), v10 = .int .i64 x10_2 ∧ Aside0 (hogsheadref10_Put.l0 kq t320 x10_2 l0_0 l0_1 a0_2 a0_3 = some (r1, r2, r3, r4, r5)) ∧ Aside0 (kq ≤ kj5) ∧ Aside0 (Kd.V Kd.string 9 w' w.heap.size (fun k_ => ((P0_0_ k_ ∨ P0_1_ k_) ∨ w.heap.size ≤ k_) ∧ k_ ≠ g317 ∧ k_ ≠ g318 ∧ k_ ≠ g319) (.slice A0_0 l0_0.length c0_0) l0_0) ∧ Aside0 (Kd.V k94 94 w' w.heap.size (fun k_ => ((P0_0_ k_ ∨ P0_1_ k_) ∨ w.heap.size ≤ k_) ∧ k_ ≠ g317 ∧ k_ ≠ g318 ∧ k_ ≠ g319) (.slice A0_1 l0_1.length c0_1) l0_1) ∧ Aside0 (w'.heap[g317]? = some (.cells #[(.slice A0_0 l0_0.length c0_0), (.slice A0_1 l0_1.length c0_1), .int .i64 a0_2, .bool a0_3] 25 (0, 0))) ∧ Aside0 (w'.heap[g318]? = some (.cells #[.int .i64 a1_0, .int .i64 a1_1, .string a1_2] 43 (0, 0))) ∧ Aside0 (w'.heap[g319]? = some (.cells #[(.slice none 0 0), (.slice none 0 0), .int .i64 x320002_2, .bool x320003_2] 25 (0, 0))) ∧ Aside0 (Below w.heap.size w w'))
      case atStart => exact ⟨(0), (0), (false), (by first | rfl | (simp; done) | (simp [*]; done)), H', ⟨Nat.le_refl _⟩, ⟨by (with_reducible repeat first | apply VA | apply VN | apply VD); exact HO_318000.out⟩, ⟨by (with_reducible repeat first | apply VA | apply VN | apply VD); exact HO_318001.out⟩, ⟨by (with_reducible repeat first | refine qN ?_ _ | refine qD ?_ | refine qA ?_ _); exact B317.out⟩, ⟨by (with_reducible repeat first | refine qN ?_ _ | refine qD ?_ | refine qA ?_ _); exact B318.out⟩, ⟨by (with_reducible repeat first | refine qN ?_ _ | refine qD ?_ | refine qA ?_ _); exact B319.out⟩, ⟨by repeat (first | (with_reducible first | exact HB.out | apply eA | apply eN | apply eD | refine eS ?_ GE317.out | refine eS ?_ GE318.out | refine eS ?_ GE319.out) | exact HB.out)⟩⟩
      case round =>
       clear H'
       try clear c1
       try clear c2
       try clear p2
       try clear c3
       try clear c4
       try clear c4b0
       try clear c4b1
       try clear c10
       try clear c11
       try clear c14
       try clear c18
       try clear c18b0
       try clear c18b1
       try clear c19
       try clear c20
       try clear c22
       try clear c23
       try clear c24
       try clear c26
       try clear c28
       try clear c28b0
       try clear c28b1
       try clear c29
       try clear c30
       try clear c31
       try clear c32
       try clear z12_0
       try clear z12_1
       try clear z12_2
       try clear z15_0
       try clear z15_1
       try clear z15_2
       try clear z15_3
       try clear z16_0
       try clear z16_1
       try clear z16_2
       try clear z21_0
       try clear z21_1
       try clear z21_2
       try clear z25_0
       try clear z25_1
       try clear z25_2
       try clear z25_3
       try clear z27_0
       try clear z27_1
       try clear z27_2
       try clear z27_3
       try clear z31_0
       try clear z31_1
       try clear z31_2
       try clear z31_3
       try clear z33_0
       try clear z33_1
       try clear z33_2
       try clear z33_3
       try clear f12_0
       try clear f12_1
       try clear f12_2
       try clear f15_0
       try clear f15_1
       try clear f15_2
       try clear f15_3
       try clear f16_0
       try clear f16_1
       try clear f16_2
       try clear f21_0
       try clear f21_1
       try clear f21_2
       try clear f25_0
       try clear f25_1
       try clear f25_2
       try clear f25_3
       try clear f27_0
       try clear f27_1
       try clear f27_2
       try clear f27_3
       try clear f31_0
       try clear f31_1
       try clear f31_2
       try clear f31_3
       try clear f33_0
       try clear f33_1
       try clear f33_2
       try clear f33_3
       try clear p2
       obtain ⟨x10_2, x320002_2, x320003_2, rfl, HA, HK2, HO_318000, HO_318001, B317, B318, B319, HB⟩ := hrel
       cases gk with
       | zero => exact absurd HA.out (by simp [hogsheadref10_Put.l0])
       | succ k2 =>
        have H := HA.out
        clear HA
        simp only [hogsheadref10_Put.l0] at H
        by_cases c34 : x10_2 < (l0_0.length : Int)
        ·rw [if_pos c34] at H
         have c34b0 : decide (x10_2 < (l0_0.length : Int)) = true := decide_eq_true c34
         clear c34
         replace H := Option.bind_eq_some_iff.mp H
         obtain ⟨⟨t324, t325, t326, t327, t328⟩, A350, H⟩ := H
         replace H : (if t327 = true then (hogsheadref10_Put.l0 k2 t320 (wrap64 (x10_2 + 1)) l0_0 l0_1 a0_2 a0_3) else ((hogsheadref08_Put.f k2 l0_0 l0_1 a0_2 a0_3 x10_2 t320).bind fun bt330 => (some (bt330.1, bt330.2.1, bt330.2.2.1, bt330.2.2.2.1, bt330.2.2.2.2)))) = some (r1, r2, r3, r4, r5) := H
         have A35 := qM A350
         clear A350
         by_cases c36 : t327 = true
         ·subst c36
          have H1 : (hogsheadref10_Put.l0 k2 t320 (wrap64 (x10_2 + 1)) l0_0 l0_1 a0_2 a0_3) = some (r1, r2, r3, r4, r5) := by rw [if_pos rfl] at H; exact H
          clear H
          have H := H1
          clear H1
          have H' := qM H
          clear H
          have hnb37 := NB317_318.out
          have hnc37 := NB318_317.out
          have hnb38 := NB317_319.out
          have hnc38 := NB319_317.out
          obtain ⟨z39_0, z39_1, z39_2, z39_3, f39_0, f39_1, f39_2, f39_3⟩ := cells4 B317.out
          go_wp2_with (first | ((with_reducible refine gate_callee (f := 38) rfl ?_); refine goesL_ (some 55) rfl rfl Try.func38 (by kernel_rfl) rfl #[.agg #[.slice A0_0 l0_0.length c0_0, .slice A0_1 l0_1.length c0_1, .int .i64 a0_2, .bool a0_3], .int .i64 x10_2] rfl (by (try simp only [List.map_toArray, List.map_cons, List.map_nil]); first | done | rfl | (simp only [List.length_drop, List.length_take]; rfl)) ?_; (with_reducible refine (hogsheadref10_at.calls k2 _ _ l0_0 _ _ l0_1 a0_2 a0_3 x10_2 t324 t325 t326 true t328 _ ?side1 ?side2 ?side3 ?side4 A35.out).mono ?_); (case side1 => repeat (first | exact (Kd.V_reads' HO_318000.out).2.2 | (with_reducible refine Kd.C_alloc ?_ _) | (with_reducible refine Kd.C_drewN ?_ _) | (with_reducible refine Kd.C_drew ?_))); (case side2 => exact (Kd.V_reads' HO_318000.out).2.1); (case side3 => repeat (first | exact (Kd.V_reads' HO_318001.out).2.2 | (with_reducible refine Kd.C_alloc ?_ _) | (with_reducible refine Kd.C_drewN ?_ _) | (with_reducible refine Kd.C_drew ?_))); (case side4 => exact (Kd.V_reads' HO_318001.out).2.1); rintro e w40 ⟨rfl, hb⟩; refine ⟨_, rfl, ?_⟩; have n0_ := qM (Vb (by (with_reducible repeat first | apply VA | apply VN | apply VD); exact HO_318000.out) hb); have n1_ := qM (Vb (by (with_reducible repeat first | apply VA | apply VN | apply VD); exact HO_318001.out) hb); have n2_ := qM (qB (g := g317) (by (with_reducible repeat first | refine qN ?_ _ | refine qD ?_ | refine qA ?_ _); exact B317.out) hb); have n3_ := qM (qB (g := g318) (by (with_reducible repeat first | refine qN ?_ _ | refine qD ?_ | refine qA ?_ _); exact B318.out) hb); have n4_ := qM (qB (g := g319) (by (with_reducible repeat first | refine qN ?_ _ | refine qD ?_ | refine qA ?_ _); exact B319.out) hb); have n5_ := qM (eT (by repeat (first | (with_reducible first | exact HB.out | apply eA | apply eN | apply eD | refine eU ?_ (by assumption)) | exact HB.out)) hb); clear HO_318000 HO_318001 B317 B318 B319 HB; have HO_318000 := n0_; have HO_318001 := n1_; have B317 := n2_; have B318 := n3_; have B319 := n4_; have HB := n5_; clear n0_ n1_ n2_ n3_ n4_ n5_; (try clear hb); (try clear hb2); (try clear hk); (try clear hi)) | ((with_reducible refine gate_dst (N := 11) rfl ?_); refine box_event ?hg (N := 11) ?hd (cs := #[.int .i64 0, .int .i64 0, .string (⟨#[]⟩ : ByteArray)]) (t := 43) ?hr ?_; (case hd => rfl); (case hg => rfl); (case hr => first | (go_simp; done) | (go_simp; rfl)); intro g329 hg w41 hbox hb; have n0_ := qM (Vb (Kd.V_elderB (by (with_reducible repeat first | apply VA | apply VN | apply VD); exact HO_318000.out) g329 (Nat.le_of_eq hg.symm)) hb); have n1_ := qM (Vb (Kd.V_elderB (by (with_reducible repeat first | apply VA | apply VN | apply VD); exact HO_318001.out) g329 (Nat.le_of_eq hg.symm)) hb); have n2_ := qM (qB (g := g317) (by (with_reducible repeat first | refine qN ?_ _ | refine qD ?_ | refine qA ?_ _); exact B317.out) hb); have n3_ := qM (qB (g := g318) (by (with_reducible repeat first | refine qN ?_ _ | refine qD ?_ | refine qA ?_ _); exact B318.out) hb); have n4_ := qM (qB (g := g319) (by (with_reducible repeat first | refine qN ?_ _ | refine qD ?_ | refine qA ?_ _); exact B319.out) hb); have n5_ := qM (eT (by repeat (first | (with_reducible first | exact HB.out | apply eA | apply eN | apply eD | refine eU ?_ (by assumption)) | exact HB.out)) hb); have n6_ := qM (hbox); have n7_ := qM ((by rw [hg]; exact (eZ (by repeat (first | (with_reducible first | exact HB.out | apply eA | apply eN | apply eD | refine eU ?_ (by assumption)) | exact HB.out))) : w.heap.size ≤ g329)); have n8_ := n7_; have n9_ := qM ((by rw [hg]; exact Nat.ne_of_lt (qL (g := g317) (by (with_reducible repeat first | refine qN ?_ _ | refine qD ?_ | refine qA ?_ _); exact B317.out)) : g317 ≠ g329)); have n10_ := qM (Ne.symm n9_.out); have n11_ := qM ((by rw [hg]; exact Nat.ne_of_lt (qL (g := g318) (by (with_reducible repeat first | refine qN ?_ _ | refine qD ?_ | refine qA ?_ _); exact B318.out)) : g318 ≠ g329)); have n12_ := qM (Ne.symm n11_.out); have n13_ := qM ((by rw [hg]; exact Nat.ne_of_lt (qL (g := g319) (by (with_reducible repeat first | refine qN ?_ _ | refine qD ?_ | refine qA ?_ _); exact B319.out)) : g319 ≠ g329)); have n14_ := qM (Ne.symm n13_.out); clear HO_318000 HO_318001 B317 B318 B319 HB; have HO_318000 := n0_; have HO_318001 := n1_; have B317 := n2_; have B318 := n3_; have B319 := n4_; have HB := n5_; have B329 := n6_; have GW329 := n7_; have GE329 := n8_; have NB317_329 := n9_; have NB329_317 := n10_; have NB318_329 := n11_; have NB329_318 := n12_; have NB319_329 := n13_; have NB329_319 := n14_; clear n0_ n1_ n2_ n3_ n4_ n5_ n6_ n7_ n8_ n9_ n10_ n11_ n12_ n13_ n14_; clear hb hbox hg; have hnb42 := NB329_317.out; have hnc42 := NB317_329.out; have hnb43 := NB329_318.out; have hnc43 := NB318_329.out; have hnb44 := NB329_319.out; have hnc44 := NB319_329.out; obtain ⟨z45_0, z45_1, z45_2, f45_0, f45_1, f45_2⟩ := cells3 B329.out))
          go_roundg k2
          case measure => have := HJ5.out; have := HK2.out; omega
          case rel => exact ⟨(wrap64 (x10_2 + 1)), (x320002_2), (x320003_2), (by first | rfl | (simp; done) | (simp [*]; done)), H', ⟨by have := HJ5.out; have := HK2.out; omega⟩, ⟨by (with_reducible repeat first | apply VA | apply VN | apply VD); exact Vm (Vf (p := ⟨g329, 2, none⟩) (Vf (p := ⟨g329, 1, none⟩) (Vf (p := ⟨g329, 0, none⟩) (Vm HO_318000.out (fun k_ hk => (⟨hk, hk.2⟩ : _ ∧ k_ ≠ g329))) (fun _ hk => hk.2) (.int .i64 t324)) (fun _ hk => hk.2) (.int .i64 t325)) (fun _ hk => hk.2) (.string t326)) (fun _ hk => ⟨hk.1.1.1, ⟨hk.1.1.2.1, ⟨hk.1.1.2.2.1, hk.1.1.2.2.2⟩⟩⟩)⟩, ⟨by (with_reducible repeat first | apply VA | apply VN | apply VD); exact Vm (Vf (p := ⟨g329, 2, none⟩) (Vf (p := ⟨g329, 1, none⟩) (Vf (p := ⟨g329, 0, none⟩) (Vm HO_318001.out (fun k_ hk => (⟨hk, hk.2⟩ : _ ∧ k_ ≠ g329))) (fun _ hk => hk.2) (.int .i64 t324)) (fun _ hk => hk.2) (.int .i64 t325)) (fun _ hk => hk.2) (.string t326)) (fun _ hk => ⟨hk.1.1.1, ⟨hk.1.1.2.1, ⟨hk.1.1.2.2.1, hk.1.1.2.2.2⟩⟩⟩)⟩, ⟨by (with_reducible repeat first | refine qN ?_ _ | refine qD ?_ | refine qA ?_ _); (iterate 3 (refine qR ?_ NB317_329.out _; (with_reducible repeat first | refine qN ?_ _ | refine qD ?_ | refine qA ?_ _))); exact B317.out⟩, ⟨by (with_reducible repeat first | refine qN ?_ _ | refine qD ?_ | refine qA ?_ _); (iterate 3 (refine qR ?_ NB318_329.out _; (with_reducible repeat first | refine qN ?_ _ | refine qD ?_ | refine qA ?_ _))); exact B318.out⟩, ⟨by (with_reducible repeat first | refine qN ?_ _ | refine qD ?_ | refine qA ?_ _); (iterate 3 (refine qR ?_ NB319_329.out _; (with_reducible repeat first | refine qN ?_ _ | refine qD ?_ | refine qA ?_ _))); exact B319.out⟩, ⟨by repeat (first | (with_reducible first | exact HB.out | apply eA | apply eN | apply eD | refine eS ?_ GE317.out | refine eS ?_ GE318.out | refine eS ?_ GE319.out | refine eS ?_ GE329.out) | exact HB.out)⟩⟩
         ·replace c36 := Bool.eq_false_iff.mpr c36
          subst c36
          have H1 : ((hogsheadref08_Put.f k2 l0_0 l0_1 a0_2 a0_3 x10_2 t320).bind fun bt330 => (some (bt330.1, bt330.2.1, bt330.2.2.1, bt330.2.2.2.1, bt330.2.2.2.2))) = some (r1, r2, r3, r4, r5) := by rw [if_neg (show ¬ (false = true) by decide)] at H; exact H
          clear H
          have H := H1
          clear H1
          replace H := Option.bind_eq_some_iff.mp H
          obtain ⟨⟨t330, t333, t336, t337, t338⟩, A460, H⟩ := H
          replace H : (some (t330, t333, t336, t337, t338)) = some (r1, r2, r3, r4, r5) := H
          have A46 := qM A460
          clear A460
          simp only [Option.some.injEq, Prod.mk.injEq] at H
          obtain ⟨rfl, rfl, rfl, rfl, rfl⟩ := H
          have hnb47 := NB317_318.out
          have hnc47 := NB318_317.out
          have hnb48 := NB317_319.out
          have hnc48 := NB319_317.out
          obtain ⟨z49_0, z49_1, z49_2, z49_3, f49_0, f49_1, f49_2, f49_3⟩ := cells4 B317.out
          go_wp2_with (first | ((with_reducible refine gate_callee (f := 38) rfl ?_); refine goesL_ (some 55) rfl rfl Try.func38 (by kernel_rfl) rfl #[.agg #[.slice A0_0 l0_0.length c0_0, .slice A0_1 l0_1.length c0_1, .int .i64 a0_2, .bool a0_3], .int .i64 x10_2] rfl (by (try simp only [List.map_toArray, List.map_cons, List.map_nil]); first | done | rfl | (simp only [List.length_drop, List.length_take]; rfl)) ?_; (with_reducible refine (hogsheadref10_at.calls k2 _ _ l0_0 _ _ l0_1 a0_2 a0_3 x10_2 t324 t325 t326 false t328 _ ?side1 ?side2 ?side3 ?side4 A35.out).mono ?_); (case side1 => repeat (first | exact (Kd.V_reads' HO_318000.out).2.2 | (with_reducible refine Kd.C_alloc ?_ _) | (with_reducible refine Kd.C_drewN ?_ _) | (with_reducible refine Kd.C_drew ?_))); (case side2 => exact (Kd.V_reads' HO_318000.out).2.1); (case side3 => repeat (first | exact (Kd.V_reads' HO_318001.out).2.2 | (with_reducible refine Kd.C_alloc ?_ _) | (with_reducible refine Kd.C_drewN ?_ _) | (with_reducible refine Kd.C_drew ?_))); (case side4 => exact (Kd.V_reads' HO_318001.out).2.1); rintro e w50 ⟨rfl, hb⟩; refine ⟨_, rfl, ?_⟩; have n0_ := qM (Vb (by (with_reducible repeat first | apply VA | apply VN | apply VD); exact HO_318000.out) hb); have n1_ := qM (Vb (by (with_reducible repeat first | apply VA | apply VN | apply VD); exact HO_318001.out) hb); have n2_ := qM (qB (g := g317) (by (with_reducible repeat first | refine qN ?_ _ | refine qD ?_ | refine qA ?_ _); exact B317.out) hb); have n3_ := qM (qB (g := g318) (by (with_reducible repeat first | refine qN ?_ _ | refine qD ?_ | refine qA ?_ _); exact B318.out) hb); have n4_ := qM (qB (g := g319) (by (with_reducible repeat first | refine qN ?_ _ | refine qD ?_ | refine qA ?_ _); exact B319.out) hb); have n5_ := qM (eT (by repeat (first | (with_reducible first | exact HB.out | apply eA | apply eN | apply eD | refine eU ?_ (by assumption)) | exact HB.out)) hb); clear HO_318000 HO_318001 B317 B318 B319 HB; have HO_318000 := n0_; have HO_318001 := n1_; have B317 := n2_; have B318 := n3_; have B319 := n4_; have HB := n5_; clear n0_ n1_ n2_ n3_ n4_ n5_; (try clear hb); (try clear hb2); (try clear hk); (try clear hi)) | ((with_reducible refine gate_dst (N := 11) rfl ?_); refine box_event ?hg (N := 11) ?hd (cs := #[.int .i64 0, .int .i64 0, .string (⟨#[]⟩ : ByteArray)]) (t := 43) ?hr ?_; (case hd => rfl); (case hg => rfl); (case hr => first | (go_simp; done) | (go_simp; rfl)); intro g329 hg w51 hbox hb; have n0_ := qM (Vb (Kd.V_elderB (by (with_reducible repeat first | apply VA | apply VN | apply VD); exact HO_318000.out) g329 (Nat.le_of_eq hg.symm)) hb); have n1_ := qM (Vb (Kd.V_elderB (by (with_reducible repeat first | apply VA | apply VN | apply VD); exact HO_318001.out) g329 (Nat.le_of_eq hg.symm)) hb); have n2_ := qM (qB (g := g317) (by (with_reducible repeat first | refine qN ?_ _ | refine qD ?_ | refine qA ?_ _); exact B317.out) hb); have n3_ := qM (qB (g := g318) (by (with_reducible repeat first | refine qN ?_ _ | refine qD ?_ | refine qA ?_ _); exact B318.out) hb); have n4_ := qM (qB (g := g319) (by (with_reducible repeat first | refine qN ?_ _ | refine qD ?_ | refine qA ?_ _); exact B319.out) hb); have n5_ := qM (eT (by repeat (first | (with_reducible first | exact HB.out | apply eA | apply eN | apply eD | refine eU ?_ (by assumption)) | exact HB.out)) hb); have n6_ := qM (hbox); have n7_ := qM ((by rw [hg]; exact (eZ (by repeat (first | (with_reducible first | exact HB.out | apply eA | apply eN | apply eD | refine eU ?_ (by assumption)) | exact HB.out))) : w.heap.size ≤ g329)); have n8_ := n7_; have n9_ := qM ((by rw [hg]; exact Nat.ne_of_lt (qL (g := g317) (by (with_reducible repeat first | refine qN ?_ _ | refine qD ?_ | refine qA ?_ _); exact B317.out)) : g317 ≠ g329)); have n10_ := qM (Ne.symm n9_.out); have n11_ := qM ((by rw [hg]; exact Nat.ne_of_lt (qL (g := g318) (by (with_reducible repeat first | refine qN ?_ _ | refine qD ?_ | refine qA ?_ _); exact B318.out)) : g318 ≠ g329)); have n12_ := qM (Ne.symm n11_.out); have n13_ := qM ((by rw [hg]; exact Nat.ne_of_lt (qL (g := g319) (by (with_reducible repeat first | refine qN ?_ _ | refine qD ?_ | refine qA ?_ _); exact B319.out)) : g319 ≠ g329)); have n14_ := qM (Ne.symm n13_.out); clear HO_318000 HO_318001 B317 B318 B319 HB; have HO_318000 := n0_; have HO_318001 := n1_; have B317 := n2_; have B318 := n3_; have B319 := n4_; have HB := n5_; have B329 := n6_; have GW329 := n7_; have GE329 := n8_; have NB317_329 := n9_; have NB329_317 := n10_; have NB318_329 := n11_; have NB329_318 := n12_; have NB319_329 := n13_; have NB329_319 := n14_; clear n0_ n1_ n2_ n3_ n4_ n5_ n6_ n7_ n8_ n9_ n10_ n11_ n12_ n13_ n14_; clear hb hbox hg; have hnb52 := NB329_317.out; have hnc52 := NB317_329.out; have hnb53 := NB329_318.out; have hnc53 := NB318_329.out; have hnb54 := NB329_319.out; have hnc54 := NB319_329.out; obtain ⟨z55_0, z55_1, z55_2, f55_0, f55_1, f55_2⟩ := cells3 B329.out) | ((with_reducible refine gate_store (t := 43) (p := 11) rfl ?_); refine store_event (t := 43) (p := 11) (v := ?vo_w56) (w1 := (((w51.setCell ⟨g329, 0, none⟩ (.int .i64 t324)).setCell ⟨g329, 1, none⟩ (.int .i64 t325)).setCell ⟨g329, 2, none⟩ (.string t326))) ?hg ?ho ?hn ?hr ?_; (case ho => rfl); (case hg => rfl); (case hn => rfl); (case hr => first | (go_simp; done) | (go_simp; rfl)); intro w56 hw; have n0_ : Aside0 (Kd.V Kd.string 9 w56 w.heap.size (fun k_ => ((P0_0_ k_ ∨ P0_1_ k_) ∨ w.heap.size ≤ k_) ∧ k_ ≠ g317 ∧ k_ ≠ g318 ∧ k_ ≠ g319 ∧ k_ ≠ g329) (.slice A0_0 l0_0.length c0_0) l0_0) := ⟨(by rw [hw]; exact (by (with_reducible repeat first | apply VA | apply VN | apply VD); exact Vm (Vf (p := ⟨g329, 2, none⟩) (Vf (p := ⟨g329, 1, none⟩) (Vf (p := ⟨g329, 0, none⟩) (Vm HO_318000.out (fun k_ hk => (⟨hk, hk.2⟩ : _ ∧ k_ ≠ g329))) (fun _ hk => hk.2) (.int .i64 t324)) (fun _ hk => hk.2) (.int .i64 t325)) (fun _ hk => hk.2) (.string t326)) (fun _ hk => ⟨hk.1.1.1, ⟨hk.1.1.2.1, ⟨hk.1.1.2.2.1, ⟨hk.1.1.2.2.2, hk.1.2⟩⟩⟩⟩)))⟩; have n1_ : Aside0 (Kd.V k94 94 w56 w.heap.size (fun k_ => ((P0_0_ k_ ∨ P0_1_ k_) ∨ w.heap.size ≤ k_) ∧ k_ ≠ g317 ∧ k_ ≠ g318 ∧ k_ ≠ g319 ∧ k_ ≠ g329) (.slice A0_1 l0_1.length c0_1) l0_1) := ⟨(by rw [hw]; exact (by (with_reducible repeat first | apply VA | apply VN | apply VD); exact Vm (Vf (p := ⟨g329, 2, none⟩) (Vf (p := ⟨g329, 1, none⟩) (Vf (p := ⟨g329, 0, none⟩) (Vm HO_318001.out (fun k_ hk => (⟨hk, hk.2⟩ : _ ∧ k_ ≠ g329))) (fun _ hk => hk.2) (.int .i64 t324)) (fun _ hk => hk.2) (.int .i64 t325)) (fun _ hk => hk.2) (.string t326)) (fun _ hk => ⟨hk.1.1.1, ⟨hk.1.1.2.1, ⟨hk.1.1.2.2.1, ⟨hk.1.1.2.2.2, hk.1.2⟩⟩⟩⟩)))⟩; have n2_ : Aside0 (w56.heap[g317]? = some (.cells #[.slice A0_0 l0_0.length c0_0, .slice A0_1 l0_1.length c0_1, .int .i64 a0_2, .bool a0_3] 25 (0, 0))) := ⟨(by rw [hw]; exact (by (with_reducible repeat first | refine qN ?_ _ | refine qD ?_ | refine qA ?_ _); (iterate 3 (refine qR ?_ NB317_329.out _; (with_reducible repeat first | refine qN ?_ _ | refine qD ?_ | refine qA ?_ _))); exact B317.out))⟩; have n3_ : Aside0 (w56.heap[g318]? = some (.cells #[.int .i64 a1_0, .int .i64 a1_1, .string a1_2] 43 (0, 0))) := ⟨(by rw [hw]; exact (by (with_reducible repeat first | refine qN ?_ _ | refine qD ?_ | refine qA ?_ _); (iterate 3 (refine qR ?_ NB318_329.out _; (with_reducible repeat first | refine qN ?_ _ | refine qD ?_ | refine qA ?_ _))); exact B318.out))⟩; have n4_ : Aside0 (w56.heap[g319]? = some (.cells #[.slice none 0 0, .slice none 0 0, .int .i64 x320002_2, .bool x320003_2] 25 (0, 0))) := ⟨(by rw [hw]; exact (by (with_reducible repeat first | refine qN ?_ _ | refine qD ?_ | refine qA ?_ _); (iterate 3 (refine qR ?_ NB319_329.out _; (with_reducible repeat first | refine qN ?_ _ | refine qD ?_ | refine qA ?_ _))); exact B319.out))⟩; have n5_ : Aside0 (w56.heap[g329]? = some (.cells #[.int .i64 t324, .int .i64 t325, .string t326] 43 (0, 0))) := ⟨(by rw [hw]; exact (by (with_reducible repeat first | refine qN ?_ _ | refine qD ?_ | refine qA ?_ _); apply puts3; (with_reducible repeat first | refine qN ?_ _ | refine qD ?_ | refine qA ?_ _); exact B329.out))⟩; have n6_ : Aside0 (Below w.heap.size w w56) := ⟨(by rw [hw]; exact (by repeat (first | (with_reducible first | exact HB.out | apply eA | apply eN | apply eD | refine eU ?_ (by assumption)) | exact HB.out)))⟩; clear hw HO_318000 HO_318001 B317 B318 B319 B329 HB; have HO_318000 := n0_; have HO_318001 := n1_; have B317 := n2_; have B318 := n3_; have B319 := n4_; have B329 := n5_; have HB := n6_; clear n0_ n1_ n2_ n3_ n4_ n5_ n6_; obtain ⟨z57_0, z57_1, z57_2, z57_3, f57_0, f57_1, f57_2, f57_3⟩ := cells4 B317.out) | ((with_reducible refine gate_callee (f := 53) rfl ?_); refine goesL_ (some 64) rfl rfl Try.func53 (by kernel_rfl) rfl #[.agg #[.slice A0_0 l0_0.length c0_0, .slice A0_1 l0_1.length c0_1, .int .i64 a0_2, .bool a0_3], .int .i64 x10_2, .string t320] rfl (by (try simp only [List.map_toArray, List.map_cons, List.map_nil]); first | done | rfl | (simp only [List.length_drop, List.length_take]; rfl)) ?_; (with_reducible refine (hogsheadref08_Put.calls k2 (fun k_ => (((P0_0_ k_ ∨ P0_1_ k_) ∨ w.heap.size ≤ k_) ∧ (k_ ≠ g317 ∧ (k_ ≠ g318 ∧ (k_ ≠ g319 ∧ k_ ≠ g329))))) _ _ l0_0 (fun k_ => (((P0_0_ k_ ∨ P0_1_ k_) ∨ w.heap.size ≤ k_) ∧ (k_ ≠ g317 ∧ (k_ ≠ g318 ∧ (k_ ≠ g319 ∧ k_ ≠ g329))))) _ _ l0_1 a0_2 a0_3 x10_2 t320 t330 t333 t336 t337 t338 _ ?side1 ?side2 A46.out).mono ?_); (case side1 => exact HO_318000.out); (case side2 => exact HO_318001.out); rintro e w58 ⟨v331, v334, rfl, ho0, ho1, hb⟩; refine ⟨_, rfl, ?_⟩; have n0_ := qM (Vb (by (with_reducible repeat first | apply VA | apply VN | apply VD); exact HO_318000.out) hb); have n1_ := qM (Vb (by (with_reducible repeat first | apply VA | apply VN | apply VD); exact HO_318001.out) hb); have n2_ := qM (Vl (Vm (ok' := fun k_ => ((P0_0_ k_ ∨ P0_1_ k_) ∨ w.heap.size ≤ k_) ∧ k_ ≠ g317 ∧ k_ ≠ g318 ∧ k_ ≠ g319 ∧ k_ ≠ g329) ho0 (fun k_ hk_ => ⟨Or.elim hk_ (fun hs_ => Or.elim hs_ (fun hs_ => hs_.1) (fun hs_ => hs_.1)) (fun hn_ => (.inr (Nat.le_trans (eZ (by repeat (first | (with_reducible first | exact HB.out | apply eA | apply eN | apply eD | refine eU ?_ (by assumption)) | exact HB.out))) hn_))), Or.elim hk_ (fun hs_ => Or.elim hs_ (fun hs_ => hs_.2.1) (fun hs_ => hs_.2.1)) (fun hn_ => (Fb (g := g317) (by (with_reducible repeat first | refine qN ?_ _ | refine qD ?_ | refine qA ?_ _); exact B317.out) k_ hn_)), Or.elim hk_ (fun hs_ => Or.elim hs_ (fun hs_ => hs_.2.2.1) (fun hs_ => hs_.2.2.1)) (fun hn_ => (Fb (g := g318) (by (with_reducible repeat first | refine qN ?_ _ | refine qD ?_ | refine qA ?_ _); exact B318.out) k_ hn_)), Or.elim hk_ (fun hs_ => Or.elim hs_ (fun hs_ => hs_.2.2.2.1) (fun hs_ => hs_.2.2.2.1)) (fun hn_ => (Fb (g := g319) (by (with_reducible repeat first | refine qN ?_ _ | refine qD ?_ | refine qA ?_ _); exact B319.out) k_ hn_)), Or.elim hk_ (fun hs_ => Or.elim hs_ (fun hs_ => hs_.2.2.2.2) (fun hs_ => hs_.2.2.2.2)) (fun hn_ => (Fb (g := g329) (by (with_reducible repeat first | refine qN ?_ _ | refine qD ?_ | refine qA ?_ _); exact B329.out) k_ hn_))⟩)) (eZ (by repeat (first | (with_reducible first | exact HB.out | apply eA | apply eN | apply eD | refine eU ?_ (by assumption)) | exact HB.out)))); have n3_ := qM (Vl (Vm (ok' := fun k_ => ((P0_0_ k_ ∨ P0_1_ k_) ∨ w.heap.size ≤ k_) ∧ k_ ≠ g317 ∧ k_ ≠ g318 ∧ k_ ≠ g319 ∧ k_ ≠ g329) ho1 (fun k_ hk_ => ⟨Or.elim hk_ (fun hs_ => Or.elim hs_ (fun hs_ => hs_.1) (fun hs_ => hs_.1)) (fun hn_ => (.inr (Nat.le_trans (eZ (by repeat (first | (with_reducible first | exact HB.out | apply eA | apply eN | apply eD | refine eU ?_ (by assumption)) | exact HB.out))) hn_))), Or.elim hk_ (fun hs_ => Or.elim hs_ (fun hs_ => hs_.2.1) (fun hs_ => hs_.2.1)) (fun hn_ => (Fb (g := g317) (by (with_reducible repeat first | refine qN ?_ _ | refine qD ?_ | refine qA ?_ _); exact B317.out) k_ hn_)), Or.elim hk_ (fun hs_ => Or.elim hs_ (fun hs_ => hs_.2.2.1) (fun hs_ => hs_.2.2.1)) (fun hn_ => (Fb (g := g318) (by (with_reducible repeat first | refine qN ?_ _ | refine qD ?_ | refine qA ?_ _); exact B318.out) k_ hn_)), Or.elim hk_ (fun hs_ => Or.elim hs_ (fun hs_ => hs_.2.2.2.1) (fun hs_ => hs_.2.2.2.1)) (fun hn_ => (Fb (g := g319) (by (with_reducible repeat first | refine qN ?_ _ | refine qD ?_ | refine qA ?_ _); exact B319.out) k_ hn_)), Or.elim hk_ (fun hs_ => Or.elim hs_ (fun hs_ => hs_.2.2.2.2) (fun hs_ => hs_.2.2.2.2)) (fun hn_ => (Fb (g := g329) (by (with_reducible repeat first | refine qN ?_ _ | refine qD ?_ | refine qA ?_ _); exact B329.out) k_ hn_))⟩)) (eZ (by repeat (first | (with_reducible first | exact HB.out | apply eA | apply eN | apply eD | refine eU ?_ (by assumption)) | exact HB.out)))); have n4_ := qM (qB (g := g317) (by (with_reducible repeat first | refine qN ?_ _ | refine qD ?_ | refine qA ?_ _); exact B317.out) hb); have n5_ := qM (qB (g := g318) (by (with_reducible repeat first | refine qN ?_ _ | refine qD ?_ | refine qA ?_ _); exact B318.out) hb); have n6_ := qM (qB (g := g319) (by (with_reducible repeat first | refine qN ?_ _ | refine qD ?_ | refine qA ?_ _); exact B319.out) hb); have n7_ := qM (qB (g := g329) (by (with_reducible repeat first | refine qN ?_ _ | refine qD ?_ | refine qA ?_ _); exact B329.out) hb); have n8_ := qM (eT (by repeat (first | (with_reducible first | exact HB.out | apply eA | apply eN | apply eD | refine eU ?_ (by assumption)) | exact HB.out)) hb); clear HO_318000 HO_318001 B317 B318 B319 B329 HB; have HO_318000 := n0_; have HO_318001 := n1_; have HO332 := n2_; have HO335 := n3_; have B317 := n4_; have B318 := n5_; have B319 := n6_; have B329 := n7_; have HB := n8_; clear n0_ n1_ n2_ n3_ n4_ n5_ n6_ n7_ n8_; (try clear hb); (try clear hb2); (try clear hk); (try clear hi); (try clear ho0); (try clear ho1); obtain ⟨Ao59, co59, eo59⟩ := Kd.V_slice HO332.out; subst eo59; have hnb60 := NB319_318.out; have hnc60 := NB318_319.out; obtain ⟨z61_0, z61_1, z61_2, z61_3, f61_0, f61_1, f61_2, f61_3⟩ := cells4 B319.out; obtain ⟨Ao62, co62, eo62⟩ := Kd.V_slice HO335.out; subst eo62))
          refine bodyPost_ret (results_ct rfl _ _ g319 25 #[.slice Ao59 t330.length co59, .slice Ao62 t333.length co62, .int .i64 t336, .bool t337] (0, 0) _ rfl (by (with_reducible repeat first | refine qN ?_ _ | refine qD ?_ | refine qA ?_ _); apply puts4; (with_reducible repeat first | refine qN ?_ _ | refine qD ?_ | refine qA ?_ _); exact B319.out) Try.underlying25 rfl (by kernel_rfl)) rfl ?_
          exact ⟨_, _, by first | rfl | (simp [errW_none, errW_some] <;> rfl) | (simp [*, errW_none, errW_some] <;> rfl), by (with_reducible repeat first | apply VA | apply VN | apply VD); exact Vm (Vf (p := ⟨g319, 3, none⟩) (Vf (p := ⟨g319, 2, none⟩) (Vf (p := ⟨g319, 1, none⟩) (Vf (p := ⟨g319, 0, none⟩) (Vm HO332.out (fun k_ hk => (⟨hk, hk.2.2.2.1⟩ : _ ∧ k_ ≠ g319))) (fun _ hk => hk.2) (.slice Ao59 t330.length co59)) (fun _ hk => hk.2) (.slice Ao62 t333.length co62)) (fun _ hk => hk.2) (.int .i64 t336)) (fun _ hk => hk.2) (.bool t337)) (fun _ hk => hk.1.1), by (with_reducible repeat first | apply VA | apply VN | apply VD); exact Vm (Vf (p := ⟨g319, 3, none⟩) (Vf (p := ⟨g319, 2, none⟩) (Vf (p := ⟨g319, 1, none⟩) (Vf (p := ⟨g319, 0, none⟩) (Vm HO335.out (fun k_ hk => (⟨hk, hk.2.2.2.1⟩ : _ ∧ k_ ≠ g319))) (fun _ hk => hk.2) (.slice Ao59 t330.length co59)) (fun _ hk => hk.2) (.slice Ao62 t333.length co62)) (fun _ hk => hk.2) (.int .i64 t336)) (fun _ hk => hk.2) (.bool t337)) (fun _ hk => hk.1.1), by repeat (first | (with_reducible first | exact HB.out | apply eA | apply eN | apply eD | refine eS ?_ GE317.out | refine eS ?_ GE318.out | refine eS ?_ GE319.out | refine eS ?_ GE329.out) | exact HB.out)⟩
        ·rw [if_neg c34] at H
         have c34b0 : decide (x10_2 < (l0_0.length : Int)) = false := decide_eq_false c34
         clear c34
         simp only [Option.some.injEq, Prod.mk.injEq] at H
         obtain ⟨rfl, rfl, rfl, rfl, rfl⟩ := H
         have hnb63 := NB317_318.out
         have hnc63 := NB318_317.out
         have hnb64 := NB317_319.out
         have hnc64 := NB319_317.out
         obtain ⟨z65_0, z65_1, z65_2, z65_3, f65_0, f65_1, f65_2, f65_3⟩ := cells4 B317.out
         have hnb66 := NB319_318.out
         have hnc66 := NB318_319.out
         obtain ⟨z67_0, z67_1, z67_2, z67_3, f67_0, f67_1, f67_2, f67_3⟩ := cells4 B319.out
         go_wp2
         refine bodyPost_ret (results_ct rfl _ _ g319 25 #[.slice A0_0 l0_0.length c0_0, .slice A0_1 l0_1.length c0_1, .int .i64 a0_2, .bool a0_3] (0, 0) _ rfl (by (with_reducible repeat first | refine qN ?_ _ | refine qD ?_ | refine qA ?_ _); apply puts4; (with_reducible repeat first | refine qN ?_ _ | refine qD ?_ | refine qA ?_ _); exact B319.out) Try.underlying25 rfl (by kernel_rfl)) rfl ?_
         exact ⟨_, _, by first | rfl | (simp [errW_none, errW_some] <;> rfl) | (simp [*, errW_none, errW_some] <;> rfl), by (with_reducible repeat first | apply VA | apply VN | apply VD); exact Vm (Vf (p := ⟨g319, 3, none⟩) (Vf (p := ⟨g319, 2, none⟩) (Vf (p := ⟨g319, 1, none⟩) (Vf (p := ⟨g319, 0, none⟩) (Vm HO_318000.out (fun k_ hk => (⟨hk, hk.2.2.2⟩ : _ ∧ k_ ≠ g319))) (fun _ hk => hk.2) (.slice A0_0 l0_0.length c0_0)) (fun _ hk => hk.2) (.slice A0_1 l0_1.length c0_1)) (fun _ hk => hk.2) (.int .i64 a0_2)) (fun _ hk => hk.2) (.bool a0_3)) (fun _ hk => hk.1.1), by (with_reducible repeat first | apply VA | apply VN | apply VD); exact Vm (Vf (p := ⟨g319, 3, none⟩) (Vf (p := ⟨g319, 2, none⟩) (Vf (p := ⟨g319, 1, none⟩) (Vf (p := ⟨g319, 0, none⟩) (Vm HO_318001.out (fun k_ hk => (⟨hk, hk.2.2.2⟩ : _ ∧ k_ ≠ g319))) (fun _ hk => hk.2) (.slice A0_0 l0_0.length c0_0)) (fun _ hk => hk.2) (.slice A0_1 l0_1.length c0_1)) (fun _ hk => hk.2) (.int .i64 a0_2)) (fun _ hk => hk.2) (.bool a0_3)) (fun _ hk => hk.1.1), by repeat (first | (with_reducible first | exact HB.out | apply eA | apply eN | apply eD | refine eS ?_ GE317.out | refine eS ?_ GE318.out | refine eS ?_ GE319.out) | exact HB.out)⟩
 ·rw [if_neg c4] at H
  have c4b0 : (t321 == 0) = false := beq_eq_false_iff_ne.mpr c4
  have c4b1 : (t321 != 0) = true := bne_iff_ne.mpr c4
  simp only [Option.some.injEq, Prod.mk.injEq] at H
  obtain ⟨rfl, rfl, rfl, rfl, rfl⟩ := H
  go_enter Try.func31, Try.ntmps31
  go_wp2_with (first | ((with_reducible refine gate_dst (N := 2) rfl ?_); refine box_event ?hg (N := 2) ?hd (cs := #[.slice A0_0 l0_0.length c0_0, .slice A0_1 l0_1.length c0_1, .int .i64 a0_2, .bool a0_3]) (t := 25) ?hr ?_; (case hd => rfl); (case hg => rfl); (case hr => first | (go_simp; done) | (go_simp; rfl)); intro g317 hg w68 hbox hb; have n0_ := qM (Vb (Kd.V_elderB (by (with_reducible repeat first | apply VA | apply VN | apply VD); exact HO0_0.out) g317 (Nat.le_of_eq hg.symm)) hb); have n1_ := qM (Vb (Kd.V_elderB (by (with_reducible repeat first | apply VA | apply VN | apply VD); exact HO0_1.out) g317 (Nat.le_of_eq hg.symm)) hb); have n2_ := qM (eT (by repeat (first | (with_reducible first | exact HB.out | apply eA | apply eN | apply eD) | exact HB.out)) hb); have n3_ := qM (hbox); have n4_ := qM ((by rw [hg]; exact (eZ (by repeat (first | (with_reducible first | exact HB.out | apply eA | apply eN | apply eD) | exact HB.out))) : w.heap.size ≤ g317)); have n5_ := n4_; clear HO0_0 HO0_1 HB; have HO0_0 := n0_; have HO0_1 := n1_; have HB := n2_; have B317 := n3_; have GW317 := n4_; have GE317 := n5_; clear n0_ n1_ n2_ n3_ n4_ n5_; clear hb hbox hg) | ((with_reducible refine gate_dst (N := 3) rfl ?_); refine box_event ?hg (N := 3) ?hd (cs := #[.int .i64 a1_0, .int .i64 a1_1, .string a1_2]) (t := 43) ?hr ?_; (case hd => rfl); (case hg => rfl); (case hr => first | (go_simp; done) | (go_simp; rfl)); intro g318 hg w69 hbox hb; have n0_ := qM (Vb (Kd.V_elderB (by (with_reducible repeat first | apply VA | apply VN | apply VD); exact HO0_0.out) g318 (Nat.le_of_eq hg.symm)) hb); have n1_ := qM (Vb (Kd.V_elderB (by (with_reducible repeat first | apply VA | apply VN | apply VD); exact HO0_1.out) g318 (Nat.le_of_eq hg.symm)) hb); have n2_ := qM (qB (g := g317) (by (with_reducible repeat first | refine qN ?_ _ | refine qD ?_ | refine qA ?_ _); exact B317.out) hb); have n3_ := qM (eT (by repeat (first | (with_reducible first | exact HB.out | apply eA | apply eN | apply eD | refine eU ?_ (by assumption)) | exact HB.out)) hb); have n4_ := qM (hbox); have n5_ := qM ((by rw [hg]; exact (eZ (by repeat (first | (with_reducible first | exact HB.out | apply eA | apply eN | apply eD | refine eU ?_ (by assumption)) | exact HB.out))) : w.heap.size ≤ g318)); have n6_ := n5_; have n7_ := qM ((by rw [hg]; exact Nat.ne_of_lt (qL (g := g317) (by (with_reducible repeat first | refine qN ?_ _ | refine qD ?_ | refine qA ?_ _); exact B317.out)) : g317 ≠ g318)); have n8_ := qM (Ne.symm n7_.out); clear HO0_0 HO0_1 B317 HB; have HO0_0 := n0_; have HO0_1 := n1_; have B317 := n2_; have HB := n3_; have B318 := n4_; have GW318 := n5_; have GE318 := n6_; have NB317_318 := n7_; have NB318_317 := n8_; clear n0_ n1_ n2_ n3_ n4_ n5_ n6_ n7_ n8_; clear hb hbox hg) | ((with_reducible refine gate_dst (N := 4) rfl ?_); refine box_event ?hg (N := 4) ?hd (cs := #[.slice none 0 0, .slice none 0 0, .int .i64 0, .bool false]) (t := 25) ?hr ?_; (case hd => rfl); (case hg => rfl); (case hr => first | (go_simp; done) | (go_simp; rfl)); intro g319 hg w70 hbox hb; have n0_ := qM (Vb (Kd.V_elderB (by (with_reducible repeat first | apply VA | apply VN | apply VD); exact HO0_0.out) g319 (Nat.le_of_eq hg.symm)) hb); have n1_ := qM (Vb (Kd.V_elderB (by (with_reducible repeat first | apply VA | apply VN | apply VD); exact HO0_1.out) g319 (Nat.le_of_eq hg.symm)) hb); have n2_ := qM (qB (g := g317) (by (with_reducible repeat first | refine qN ?_ _ | refine qD ?_ | refine qA ?_ _); exact B317.out) hb); have n3_ := qM (qB (g := g318) (by (with_reducible repeat first | refine qN ?_ _ | refine qD ?_ | refine qA ?_ _); exact B318.out) hb); have n4_ := qM (eT (by repeat (first | (with_reducible first | exact HB.out | apply eA | apply eN | apply eD | refine eU ?_ (by assumption)) | exact HB.out)) hb); have n5_ := qM (hbox); have n6_ := qM ((by rw [hg]; exact (eZ (by repeat (first | (with_reducible first | exact HB.out | apply eA | apply eN | apply eD | refine eU ?_ (by assumption)) | exact HB.out))) : w.heap.size ≤ g319)); have n7_ := n6_; have n8_ := qM ((by rw [hg]; exact Nat.ne_of_lt (qL (g := g317) (by (with_reducible repeat first | refine qN ?_ _ | refine qD ?_ | refine qA ?_ _); exact B317.out)) : g317 ≠ g319)); have n9_ := qM (Ne.symm n8_.out); have n10_ := qM ((by rw [hg]; exact Nat.ne_of_lt (qL (g := g318) (by (with_reducible repeat first | refine qN ?_ _ | refine qD ?_ | refine qA ?_ _); exact B318.out)) : g318 ≠ g319)); have n11_ := qM (Ne.symm n10_.out); clear HO0_0 HO0_1 B317 B318 HB; have HO0_0 := n0_; have HO0_1 := n1_; have B317 := n2_; have B318 := n3_; have HB := n4_; have B319 := n5_; have GW319 := n6_; have GE319 := n7_; have NB317_319 := n8_; have NB319_317 := n9_; have NB318_319 := n10_; have NB319_318 := n11_; clear n0_ n1_ n2_ n3_ n4_ n5_ n6_ n7_ n8_ n9_ n10_ n11_; clear hb hbox hg; have hnb71 := NB318_317.out; have hnc71 := NB317_318.out; have hnb72 := NB318_319.out; have hnc72 := NB319_318.out; obtain ⟨z73_0, z73_1, z73_2, f73_0, f73_1, f73_2⟩ := cells3 B318.out) | ((with_reducible refine gate_callee (f := 24) rfl ?_); refine goesL_ (some 16) rfl rfl Try.func24 (by kernel_rfl) rfl #[.agg #[.int .i64 a1_0, .int .i64 a1_1, .string a1_2]] rfl (by (try simp only [List.map_toArray, List.map_cons, List.map_nil]); first | done | rfl | (simp only [List.length_drop, List.length_take]; rfl)) ?_; (with_reducible refine (hogsheadref10_Record.calls k a1_0 a1_1 a1_2 t320 t321 _ A3.out).mono ?_); rintro e w74 ⟨rfl, hb⟩; refine ⟨_, rfl, ?_⟩; have n0_ := qM (Vb (by (with_reducible repeat first | apply VA | apply VN | apply VD); exact HO0_0.out) hb); have n1_ := qM (Vb (by (with_reducible repeat first | apply VA | apply VN | apply VD); exact HO0_1.out) hb); have n2_ := qM (qB (g := g317) (by (with_reducible repeat first | refine qN ?_ _ | refine qD ?_ | refine qA ?_ _); exact B317.out) hb); have n3_ := qM (qB (g := g318) (by (with_reducible repeat first | refine qN ?_ _ | refine qD ?_ | refine qA ?_ _); exact B318.out) hb); have n4_ := qM (qB (g := g319) (by (with_reducible repeat first | refine qN ?_ _ | refine qD ?_ | refine qA ?_ _); exact B319.out) hb); have n5_ := qM (eT (by repeat (first | (with_reducible first | exact HB.out | apply eA | apply eN | apply eD | refine eU ?_ (by assumption)) | exact HB.out)) hb); clear HO0_0 HO0_1 B317 B318 B319 HB; have HO0_0 := n0_; have HO0_1 := n1_; have B317 := n2_; have B318 := n3_; have B319 := n4_; have HB := n5_; clear n0_ n1_ n2_ n3_ n4_ n5_; (try clear hb); (try clear hb2); (try clear hk); (try clear hi); have hnb75 := NB317_319.out; have hnc75 := NB319_317.out; obtain ⟨z76_0, z76_1, z76_2, z76_3, f76_0, f76_1, f76_2, f76_3⟩ := cells4 B317.out; obtain ⟨z77_0, z77_1, z77_2, z77_3, f77_0, f77_1, f77_2, f77_3⟩ := cells4 B319.out))
  refine bodyPost_ret (results_ct rfl _ _ g319 25 #[.slice A0_0 l0_0.length c0_0, .slice A0_1 l0_1.length c0_1, .int .i64 a0_2, .bool a0_3] (0, 0) _ rfl (by (with_reducible repeat first | refine qN ?_ _ | refine qD ?_ | refine qA ?_ _); apply puts4; (with_reducible repeat first | refine qN ?_ _ | refine qD ?_ | refine qA ?_ _); exact B319.out) Try.underlying25 rfl (by kernel_rfl)) rfl ?_
  exact ⟨_, _, by first | rfl | (simp [errW_none, errW_some] <;> rfl) | (simp [*, errW_none, errW_some] <;> rfl), by (with_reducible repeat first | apply VA | apply VN | apply VD); exact Vm (Vf (p := ⟨g319, 3, none⟩) (Vf (p := ⟨g319, 2, none⟩) (Vf (p := ⟨g319, 1, none⟩) (Vf (p := ⟨g319, 0, none⟩) (Vm HO0_0.out (fun k_ hk => (⟨hk, hk.2⟩ : _ ∧ k_ ≠ g319))) (fun _ hk => hk.2) (.slice A0_0 l0_0.length c0_0)) (fun _ hk => hk.2) (.slice A0_1 l0_1.length c0_1)) (fun _ hk => hk.2) (.int .i64 a0_2)) (fun _ hk => hk.2) (.bool a0_3)) (fun _ hk => hk.1.1.1.1), by (with_reducible repeat first | apply VA | apply VN | apply VD); exact Vm (Vf (p := ⟨g319, 3, none⟩) (Vf (p := ⟨g319, 2, none⟩) (Vf (p := ⟨g319, 1, none⟩) (Vf (p := ⟨g319, 0, none⟩) (Vm HO0_1.out (fun k_ hk => (⟨hk, hk.2⟩ : _ ∧ k_ ≠ g319))) (fun _ hk => hk.2) (.slice A0_0 l0_0.length c0_0)) (fun _ hk => hk.2) (.slice A0_1 l0_1.length c0_1)) (fun _ hk => hk.2) (.int .i64 a0_2)) (fun _ hk => hk.2) (.bool a0_3)) (fun _ hk => hk.1.1.1.1), by repeat (first | (with_reducible first | exact HB.out | apply eA | apply eN | apply eD | refine eS ?_ GE317.out | refine eS ?_ GE318.out | refine eS ?_ GE319.out) | exact HB.out)⟩

end Go.Proofs.Ytffjbbedjddpmaa.PAll
