/- Functions of the program as plain Lean functions, and that each call comes to what they say. Laid by a program of this session (hprint.py); Lean checks it. -/
import Derived.Test.YtmaojfeikbdkhaaPAllx0
import Derived.Test.YtmaojfeikbdkhaaPAllx1
import Derived.Test.YtmaojfeikbdkhaaPAllx2
import Derived.Test.YtmaojfeikbdkhaaPAllx3
import Derived.Test.YtmaojfeikbdkhaaFlip
namespace Go.Proofs.Ytmaojfeikbdkhaa.PAll
open Go.RowKit Go.Proofs.YtmaojfeikbdkhaaW.PrintWords Go.Proofs.YtmaojfeikbdkhaaW.PrintLast Go.Proofs.YtmaojfeikbdkhaaW.PrintMore
attribute [local go_sem] max2_int min2_int max_two min_two max_three min_three max_four min_four   -- for this text's walks alone
set_option linter.unusedVariables false
set_option linter.unusedSimpArgs false

attribute [local go_sem high] eqA47
/-! ### hogsheadref08_Same: function 19 -/
mutual
def hogsheadref08_Same.j0 : Nat → Bool → List ByteArray → List (S47) → Int → Bool → List ByteArray → List (S47) → Int → Bool → Option (Bool)
 | 0, _, _, _, _, _, _, _, _, _ => none
 | k + 1, x36, x187000, x187001, x187002, x187003, x188000, x188001, x188002, x188003 => if x36 = true then (some false) else (hogsheadref08_Same.l0 k 0 x187000 x187001 x187002 x187003 x188000 x188001 x188002 x188003)
def hogsheadref08_Same.l0 : Nat → Int → List ByteArray → List (S47) → Int → Bool → List ByteArray → List (S47) → Int → Bool → Option (Bool)
 | 0, _, _, _, _, _, _, _, _, _ => none
 | k + 1, x6, x187000, x187001, x187002, x187003, x188000, x188001, x188002, x188003 => if x6 < (x187001.length : Int) then (if 0 ≤ x6 then (if x6 < (x188001.length : Int) then (if (!(((rd_T47 x187001 x6).f0) == ((rd_T47 x188001 x6).f0)) || (!((((rd_T47 x187001 x6).f1).toList) == (((rd_T47 x188001 x6).f1).toList)))) = true then (some false) else (hogsheadref08_Same.l0 k (wrap64 (x6 + 1)) x187000 x187001 x187002 x187003 x188000 x188001 x188002 x188003)) else (none)) else (none)) else (some true)
end
def hogsheadref08_Same.f (k : Nat) (l0_0 : List ByteArray) (l0_1 : List (S47)) (a0_2 : Int) (a0_3 : Bool) (l1_0 : List ByteArray) (l1_1 : List (S47)) (a1_2 : Int) (a1_3 : Bool) : Option (Bool) := (hogsheadref01_Same.f k l0_0 l1_0).bind fun t188 => (if t188 = true then (if (l0_1.length : Int) = (l1_1.length : Int) then (if a0_2 = a1_2 then (hogsheadref08_Same.j0 k (a0_3 != a1_3) l0_0 l0_1 a0_2 a0_3 l1_0 l1_1 a1_2 a1_3) else (hogsheadref08_Same.j0 k true l0_0 l0_1 a0_2 a0_3 l1_0 l1_1 a1_2 a1_3)) else (hogsheadref08_Same.j0 k true l0_0 l0_1 a0_2 a0_3 l1_0 l1_1 a1_2 a1_3)) else (hogsheadref08_Same.j0 k true l0_0 l0_1 a0_2 a0_3 l1_0 l1_1 a1_2 a1_3))
theorem hogsheadref08_Same.mono_l : ∀ k, (∀ y0 y1 y2 y3 y4 y5 y6 y7 y8, LeO (hogsheadref08_Same.j0 k y0 y1 y2 y3 y4 y5 y6 y7 y8) (hogsheadref08_Same.j0 (k + 1) y0 y1 y2 y3 y4 y5 y6 y7 y8)) ∧ (∀ y0 y1 y2 y3 y4 y5 y6 y7 y8, LeO (hogsheadref08_Same.l0 k y0 y1 y2 y3 y4 y5 y6 y7 y8) (hogsheadref08_Same.l0 (k + 1) y0 y1 y2 y3 y4 y5 y6 y7 y8))
 | 0 => ⟨fun _ _ _ _ _ _ _ _ _ r h => by simp [hogsheadref08_Same.j0] at h, fun _ _ _ _ _ _ _ _ _ r h => by simp [hogsheadref08_Same.l0] at h⟩
 | k + 1 => by
  obtain ⟨ih0, ih1⟩ := hogsheadref08_Same.mono_l k
  refine ⟨?_, ?_⟩
  ·intro y0 y1 y2 y3 y4 y5 y6 y7 y8
   unfold hogsheadref08_Same.j0
   repeat' first
   | (with_reducible exact ih0 _ _ _ _ _ _ _ _ _)
   | (with_reducible exact ih1 _ _ _ _ _ _ _ _ _)
   | (with_reducible exact hogsheadref01_Same.mono _ _ _)
   | (with_reducible exact LeO.refl _)
   | (with_reducible exact LeO.none _)
   | (with_reducible refine LeO.ite ?_ ?_)
   | (with_reducible refine LeO.bind ?_ (fun _ => ?_))
   | exact ih0 _ _ _ _ _ _ _ _ _
   | exact ih1 _ _ _ _ _ _ _ _ _
   | exact hogsheadref01_Same.mono _ _ _
   | exact LeO.none _
   | refine LeO.ite ?_ ?_
   | refine LeO.bind ?_ (fun _ => ?_)
  ·intro y0 y1 y2 y3 y4 y5 y6 y7 y8
   unfold hogsheadref08_Same.l0
   repeat' first
   | (with_reducible exact ih0 _ _ _ _ _ _ _ _ _)
   | (with_reducible exact ih1 _ _ _ _ _ _ _ _ _)
   | (with_reducible exact hogsheadref01_Same.mono _ _ _)
   | (with_reducible exact LeO.refl _)
   | (with_reducible exact LeO.none _)
   | (with_reducible refine LeO.ite ?_ ?_)
   | (with_reducible refine LeO.bind ?_ (fun _ => ?_))
   | exact ih0 _ _ _ _ _ _ _ _ _
   | exact ih1 _ _ _ _ _ _ _ _ _
   | exact hogsheadref01_Same.mono _ _ _
   | exact LeO.none _
   | refine LeO.ite ?_ ?_
   | refine LeO.bind ?_ (fun _ => ?_)
theorem hogsheadref08_Same.mono : ∀ a0 a1 a2 a3 a4 a5 a6 a7 k, LeO (hogsheadref08_Same.f k a0 a1 a2 a3 a4 a5 a6 a7) (hogsheadref08_Same.f (k + 1) a0 a1 a2 a3 a4 a5 a6 a7) := by
 intro a0 a1 a2 a3 a4 a5 a6 a7 k
 obtain ⟨ih0, ih1⟩ := hogsheadref08_Same.mono_l k
 unfold hogsheadref08_Same.f
 repeat' first
   | (with_reducible exact ih0 _ _ _ _ _ _ _ _ _)
   | (with_reducible exact ih1 _ _ _ _ _ _ _ _ _)
   | (with_reducible exact hogsheadref01_Same.mono _ _ _)
   | (with_reducible exact LeO.refl _)
   | (with_reducible exact LeO.none _)
   | (with_reducible refine LeO.ite ?_ ?_)
   | (with_reducible refine LeO.bind ?_ (fun _ => ?_))
   | exact ih0 _ _ _ _ _ _ _ _ _
   | exact ih1 _ _ _ _ _ _ _ _ _
   | exact hogsheadref01_Same.mono _ _ _
   | exact LeO.none _
   | refine LeO.ite ?_ ?_
   | refine LeO.bind ?_ (fun _ => ?_)
set_option maxHeartbeats 40000000 in
set_option maxRecDepth 100000 in
theorem hogsheadref08_Same.calls (k : Nat) (A0_0 : Option Addr) (c0_0 : Nat) (l0_0 : List ByteArray) (A0_1 : Option Addr) (c0_1 : Nat) (l0_1 : List (S47)) (a0_2 : Int) (a0_3 : Bool) (A1_0 : Option Addr) (c1_0 : Nat) (l1_0 : List ByteArray) (A1_1 : Option Addr) (c1_1 : Nat) (l1_1 : List (S47)) (a1_2 : Int) (a1_3 : Bool) (r : Bool) (w : World) (hr0_0 : Kd.C Kd.string w A0_0 l0_0.length l0_0) (hc0_0 : l0_0.length ≤ c0_0) (hr0_1 : Kd.C k47 w A0_1 l0_1.length l0_1) (hc0_1 : l0_1.length ≤ c0_1) (hr1_0 : Kd.C Kd.string w A1_0 l1_0.length l1_0) (hc1_0 : l1_0.length ≤ c1_0) (hr1_1 : Kd.C k47 w A1_1 l1_1.length l1_1) (hc1_1 : l1_1.length ≤ c1_1) (h : hogsheadref08_Same.f k l0_0 l0_1 a0_2 a0_3 l1_0 l1_1 a1_2 a1_3 = some r) :
  Calls Try.prog 19 #[.agg #[.slice A0_0 l0_0.length c0_0, .slice A0_1 l0_1.length c0_1, .int .i64 a0_2, .bool a0_3], .agg #[.slice A1_0 l1_0.length c1_0, .slice A1_1 l1_1.length c1_1, .int .i64 a1_2, .bool a1_3]] w fun e w' => e = .returned (.bool r) ∧ Below w.heap.size w w' := by
 have hu25 := Try.underlying25
 have hu47 := Try.underlying47
 have HR0_0 := qM hr0_0
 have HC0_0 := qM hc0_0
 clear hr0_0 hc0_0
 have HR0_1 := qM hr0_1
 have HC0_1 := qM hc0_1
 clear hr0_1 hc0_1
 have HR1_0 := qM hr1_0
 have HC1_0 := qM hc1_0
 clear hr1_0 hc1_0
 have HR1_1 := qM hr1_1
 have HC1_1 := qM hc1_1
 clear hr1_1 hc1_1
 have HB := qM (Below.refl w.heap.size w)
 have H : ((hogsheadref01_Same.f k l0_0 l1_0).bind fun t188 => (if t188 = true then (if (l0_1.length : Int) = (l1_1.length : Int) then (if a0_2 = a1_2 then (hogsheadref08_Same.j0 k (a0_3 != a1_3) l0_0 l0_1 a0_2 a0_3 l1_0 l1_1 a1_2 a1_3) else (hogsheadref08_Same.j0 k true l0_0 l0_1 a0_2 a0_3 l1_0 l1_1 a1_2 a1_3)) else (hogsheadref08_Same.j0 k true l0_0 l0_1 a0_2 a0_3 l1_0 l1_1 a1_2 a1_3)) else (hogsheadref08_Same.j0 k true l0_0 l0_1 a0_2 a0_3 l1_0 l1_1 a1_2 a1_3))) = some r := h
 clear h
 replace H := Option.bind_eq_some_iff.mp H
 obtain ⟨t188, A30, H⟩ := H
 replace H : (if t188 = true then (if (l0_1.length : Int) = (l1_1.length : Int) then (if a0_2 = a1_2 then (hogsheadref08_Same.j0 k (a0_3 != a1_3) l0_0 l0_1 a0_2 a0_3 l1_0 l1_1 a1_2 a1_3) else (hogsheadref08_Same.j0 k true l0_0 l0_1 a0_2 a0_3 l1_0 l1_1 a1_2 a1_3)) else (hogsheadref08_Same.j0 k true l0_0 l0_1 a0_2 a0_3 l1_0 l1_1 a1_2 a1_3)) else (hogsheadref08_Same.j0 k true l0_0 l0_1 a0_2 a0_3 l1_0 l1_1 a1_2 a1_3)) = some r := H
 have A3 := qM A30
 clear A30
 have HC4 := qM H
 clear H
 go_enter Try.func19, Try.ntmps19
 go_upto_region 2 with (first | ((with_reducible refine gate_dst (N := 2) rfl ?_); (try (refine gate_guard (by rfl) ?_; dsimp only)); refine box_event ?hg (N := 2) ?hd (cs := #[.slice A0_0 l0_0.length c0_0, .slice A0_1 l0_1.length c0_1, .int .i64 a0_2, .bool a0_3]) (t := 25) ?hr ?_; (case hd => rfl); (case hg => rfl); (case hr => first | (go_simp; done) | (go_simp; rfl)); intro g186 hg w5 hbox hb; have n0_ := qM (eT (by repeat (first | (with_reducible first | exact HB.out | apply eA | apply eN | apply eD) | exact HB.out)) hb); have n1_ := qM (hbox); have n2_ := qM ((by rw [hg]; exact (eZ (by repeat (first | (with_reducible first | exact HB.out | apply eA | apply eN | apply eD) | exact HB.out))) : w.heap.size ≤ g186)); have n3_ := n2_; clear HB; have HB := n0_; have B186 := n1_; have GW186 := n2_; have GE186 := n3_; clear n0_ n1_ n2_ n3_; clear hb hbox hg) | ((with_reducible refine gate_dst (N := 3) rfl ?_); (try (refine gate_guard (by rfl) ?_; dsimp only)); refine box_event ?hg (N := 3) ?hd (cs := #[.slice A1_0 l1_0.length c1_0, .slice A1_1 l1_1.length c1_1, .int .i64 a1_2, .bool a1_3]) (t := 25) ?hr ?_; (case hd => rfl); (case hg => rfl); (case hr => first | (go_simp; done) | (go_simp; rfl)); intro g187 hg w6 hbox hb; have n0_ := qM (qB (g := g186) (by (with_reducible repeat first | refine qN ?_ _ | refine qD ?_ | refine qA ?_ _); exact B186.out) hb); have n1_ := qM (eT (by repeat (first | (with_reducible first | exact HB.out | apply eA | apply eN | apply eD | refine eU ?_ (by assumption)) | exact HB.out)) hb); have n2_ := qM (hbox); have n3_ := qM ((by rw [hg]; exact (eZ (by repeat (first | (with_reducible first | exact HB.out | apply eA | apply eN | apply eD | refine eU ?_ (by assumption)) | exact HB.out))) : w.heap.size ≤ g187)); have n4_ := n3_; have n5_ := qM ((by rw [hg]; exact Nat.ne_of_lt (qL (g := g186) (by (with_reducible repeat first | refine qN ?_ _ | refine qD ?_ | refine qA ?_ _); exact B186.out)) : g186 ≠ g187)); have n6_ := qM (Ne.symm n5_.out); clear B186 HB; have B186 := n0_; have HB := n1_; have B187 := n2_; have GW187 := n3_; have GE187 := n4_; have NB186_187 := n5_; have NB187_186 := n6_; clear n0_ n1_ n2_ n3_ n4_ n5_ n6_; clear hb hbox hg; have hnb7 := NB186_187.out; have hnc7 := NB187_186.out; obtain ⟨z8_0, z8_1, z8_2, z8_3, f8_0, f8_1, f8_2, f8_3⟩ := cells4 B186.out; obtain ⟨z9_0, z9_1, z9_2, z9_3, f9_0, f9_1, f9_2, f9_3⟩ := cells4 B187.out) | (go_at_call 31; (with_reducible refine (hogsheadref01_Same.calls k _ _ l0_0 _ _ l1_0 t188 _ ?side1 ?side2 ?side3 ?side4 A3.out).mono ?_); (case side1 => repeat (first | exact (Kd.C_below HR0_0.out HB.out) | (with_reducible refine Kd.C_alloc ?_ _) | (with_reducible refine Kd.C_drewN ?_ _) | (with_reducible refine Kd.C_drew ?_))); (case side2 => exact HC0_0.out); (case side3 => repeat (first | exact (Kd.C_below HR1_0.out HB.out) | (with_reducible refine Kd.C_alloc ?_ _) | (with_reducible refine Kd.C_drewN ?_ _) | (with_reducible refine Kd.C_drew ?_))); (case side4 => exact HC1_0.out); rintro e w' ⟨rfl, ⟨nd, rfl⟩⟩; (try first | exact ⟨rfl, _, World.drewN_drewN _ _ _⟩ | exact ⟨rfl, _, Eq.trans (World.drewN_drewN _ _ _) (congrArg (World.drewN _) (Nat.add_assoc _ _ _))⟩)))
 repeat (go_quiet (first | ((with_reducible refine gate_dst (N := 2) rfl ?_); (try (refine gate_guard (by rfl) ?_; dsimp only)); refine box_event ?hg (N := 2) ?hd (cs := #[.slice A0_0 l0_0.length c0_0, .slice A0_1 l0_1.length c0_1, .int .i64 a0_2, .bool a0_3]) (t := 25) ?hr ?_; (case hd => rfl); (case hg => rfl); (case hr => first | (go_simp; done) | (go_simp; rfl)); intro g186 hg w5 hbox hb; have n0_ := qM (eT (by repeat (first | (with_reducible first | exact HB.out | apply eA | apply eN | apply eD) | exact HB.out)) hb); have n1_ := qM (hbox); have n2_ := qM ((by rw [hg]; exact (eZ (by repeat (first | (with_reducible first | exact HB.out | apply eA | apply eN | apply eD) | exact HB.out))) : w.heap.size ≤ g186)); have n3_ := n2_; clear HB; have HB := n0_; have B186 := n1_; have GW186 := n2_; have GE186 := n3_; clear n0_ n1_ n2_ n3_; clear hb hbox hg) | ((with_reducible refine gate_dst (N := 3) rfl ?_); (try (refine gate_guard (by rfl) ?_; dsimp only)); refine box_event ?hg (N := 3) ?hd (cs := #[.slice A1_0 l1_0.length c1_0, .slice A1_1 l1_1.length c1_1, .int .i64 a1_2, .bool a1_3]) (t := 25) ?hr ?_; (case hd => rfl); (case hg => rfl); (case hr => first | (go_simp; done) | (go_simp; rfl)); intro g187 hg w6 hbox hb; have n0_ := qM (qB (g := g186) (by (with_reducible repeat first | refine qN ?_ _ | refine qD ?_ | refine qA ?_ _); exact B186.out) hb); have n1_ := qM (eT (by repeat (first | (with_reducible first | exact HB.out | apply eA | apply eN | apply eD | refine eU ?_ (by assumption)) | exact HB.out)) hb); have n2_ := qM (hbox); have n3_ := qM ((by rw [hg]; exact (eZ (by repeat (first | (with_reducible first | exact HB.out | apply eA | apply eN | apply eD | refine eU ?_ (by assumption)) | exact HB.out))) : w.heap.size ≤ g187)); have n4_ := n3_; have n5_ := qM ((by rw [hg]; exact Nat.ne_of_lt (qL (g := g186) (by (with_reducible repeat first | refine qN ?_ _ | refine qD ?_ | refine qA ?_ _); exact B186.out)) : g186 ≠ g187)); have n6_ := qM (Ne.symm n5_.out); clear B186 HB; have B186 := n0_; have HB := n1_; have B187 := n2_; have GW187 := n3_; have GE187 := n4_; have NB186_187 := n5_; have NB187_186 := n6_; clear n0_ n1_ n2_ n3_ n4_ n5_ n6_; clear hb hbox hg; have hnb7 := NB186_187.out; have hnc7 := NB187_186.out; obtain ⟨z8_0, z8_1, z8_2, z8_3, f8_0, f8_1, f8_2, f8_3⟩ := cells4 B186.out; obtain ⟨z9_0, z9_1, z9_2, z9_3, f9_0, f9_1, f9_2, f9_3⟩ := cells4 B187.out) | (go_at_call 31; (with_reducible refine (hogsheadref01_Same.calls k _ _ l0_0 _ _ l1_0 t188 _ ?side1 ?side2 ?side3 ?side4 A3.out).mono ?_); (case side1 => repeat (first | exact (Kd.C_below HR0_0.out HB.out) | (with_reducible refine Kd.C_alloc ?_ _) | (with_reducible refine Kd.C_drewN ?_ _) | (with_reducible refine Kd.C_drew ?_))); (case side2 => exact HC0_0.out); (case side3 => repeat (first | exact (Kd.C_below HR1_0.out HB.out) | (with_reducible refine Kd.C_alloc ?_ _) | (with_reducible refine Kd.C_drewN ?_ _) | (with_reducible refine Kd.C_drew ?_))); (case side4 => exact HC1_0.out); rintro e w' ⟨rfl, ⟨nd, rfl⟩⟩; (try first | exact ⟨rfl, _, World.drewN_drewN _ _ _⟩ | exact ⟨rfl, _, Eq.trans (World.drewN_drewN _ _ _) (congrArg (World.drewN _) (Nat.add_assoc _ _ _))⟩))); go_upto_region 2 with (first | ((with_reducible refine gate_dst (N := 2) rfl ?_); (try (refine gate_guard (by rfl) ?_; dsimp only)); refine box_event ?hg (N := 2) ?hd (cs := #[.slice A0_0 l0_0.length c0_0, .slice A0_1 l0_1.length c0_1, .int .i64 a0_2, .bool a0_3]) (t := 25) ?hr ?_; (case hd => rfl); (case hg => rfl); (case hr => first | (go_simp; done) | (go_simp; rfl)); intro g186 hg w5 hbox hb; have n0_ := qM (eT (by repeat (first | (with_reducible first | exact HB.out | apply eA | apply eN | apply eD) | exact HB.out)) hb); have n1_ := qM (hbox); have n2_ := qM ((by rw [hg]; exact (eZ (by repeat (first | (with_reducible first | exact HB.out | apply eA | apply eN | apply eD) | exact HB.out))) : w.heap.size ≤ g186)); have n3_ := n2_; clear HB; have HB := n0_; have B186 := n1_; have GW186 := n2_; have GE186 := n3_; clear n0_ n1_ n2_ n3_; clear hb hbox hg) | ((with_reducible refine gate_dst (N := 3) rfl ?_); (try (refine gate_guard (by rfl) ?_; dsimp only)); refine box_event ?hg (N := 3) ?hd (cs := #[.slice A1_0 l1_0.length c1_0, .slice A1_1 l1_1.length c1_1, .int .i64 a1_2, .bool a1_3]) (t := 25) ?hr ?_; (case hd => rfl); (case hg => rfl); (case hr => first | (go_simp; done) | (go_simp; rfl)); intro g187 hg w6 hbox hb; have n0_ := qM (qB (g := g186) (by (with_reducible repeat first | refine qN ?_ _ | refine qD ?_ | refine qA ?_ _); exact B186.out) hb); have n1_ := qM (eT (by repeat (first | (with_reducible first | exact HB.out | apply eA | apply eN | apply eD | refine eU ?_ (by assumption)) | exact HB.out)) hb); have n2_ := qM (hbox); have n3_ := qM ((by rw [hg]; exact (eZ (by repeat (first | (with_reducible first | exact HB.out | apply eA | apply eN | apply eD | refine eU ?_ (by assumption)) | exact HB.out))) : w.heap.size ≤ g187)); have n4_ := n3_; have n5_ := qM ((by rw [hg]; exact Nat.ne_of_lt (qL (g := g186) (by (with_reducible repeat first | refine qN ?_ _ | refine qD ?_ | refine qA ?_ _); exact B186.out)) : g186 ≠ g187)); have n6_ := qM (Ne.symm n5_.out); clear B186 HB; have B186 := n0_; have HB := n1_; have B187 := n2_; have GW187 := n3_; have GE187 := n4_; have NB186_187 := n5_; have NB187_186 := n6_; clear n0_ n1_ n2_ n3_ n4_ n5_ n6_; clear hb hbox hg; have hnb7 := NB186_187.out; have hnc7 := NB187_186.out; obtain ⟨z8_0, z8_1, z8_2, z8_3, f8_0, f8_1, f8_2, f8_3⟩ := cells4 B186.out; obtain ⟨z9_0, z9_1, z9_2, z9_3, f9_0, f9_1, f9_2, f9_3⟩ := cells4 B187.out) | (go_at_call 31; (with_reducible refine (hogsheadref01_Same.calls k _ _ l0_0 _ _ l1_0 t188 _ ?side1 ?side2 ?side3 ?side4 A3.out).mono ?_); (case side1 => repeat (first | exact (Kd.C_below HR0_0.out HB.out) | (with_reducible refine Kd.C_alloc ?_ _) | (with_reducible refine Kd.C_drewN ?_ _) | (with_reducible refine Kd.C_drew ?_))); (case side2 => exact HC0_0.out); (case side3 => repeat (first | exact (Kd.C_below HR1_0.out HB.out) | (with_reducible refine Kd.C_alloc ?_ _) | (with_reducible refine Kd.C_drewN ?_ _) | (with_reducible refine Kd.C_drew ?_))); (case side4 => exact HC1_0.out); rintro e w' ⟨rfl, ⟨nd, rfl⟩⟩; (try first | exact ⟨rfl, _, World.drewN_drewN _ _ _⟩ | exact ⟨rfl, _, Eq.trans (World.drewN_drewN _ _ _) (congrArg (World.drewN _) (Nat.add_assoc _ _ _))⟩))))
 (try simp only [Act.put, List.setIfInBounds_toArray, List.set_cons_zero, List.set_cons_succ])
 go_cut [36] (fun v36 wc => ∃ (kq : Nat) (x36_3 : Bool), v36 = .bool x36_3 ∧ Aside0 (hogsheadref08_Same.j0 kq x36_3 l0_0 l0_1 a0_2 a0_3 l1_0 l1_1 a1_2 a1_3 = some r) ∧ Aside0 (kq ≤ k) ∧ Aside0 (wc.heap[g186]? = some (.cells #[(.slice A0_0 l0_0.length c0_0), (.slice A0_1 l0_1.length c0_1), .int .i64 a0_2, .bool a0_3] 25 (0, 0))) ∧ Aside0 (wc.heap[g187]? = some (.cells #[(.slice A1_0 l1_0.length c1_0), (.slice A1_1 l1_1.length c1_1), .int .i64 a1_2, .bool a1_3] 25 (0, 0))) ∧ Aside0 (Below w.heap.size w wc))
 case first =>
  have H := HC4.out
  clear HC4
  by_cases c10 : t188 = true
  ·subst c10
   have H1 : (if (l0_1.length : Int) = (l1_1.length : Int) then (if a0_2 = a1_2 then (hogsheadref08_Same.j0 k (a0_3 != a1_3) l0_0 l0_1 a0_2 a0_3 l1_0 l1_1 a1_2 a1_3) else (hogsheadref08_Same.j0 k true l0_0 l0_1 a0_2 a0_3 l1_0 l1_1 a1_2 a1_3)) else (hogsheadref08_Same.j0 k true l0_0 l0_1 a0_2 a0_3 l1_0 l1_1 a1_2 a1_3)) = some r := by rw [if_pos rfl] at H; exact H
   clear H
   have H := H1
   clear H1
   by_cases c11 : (l0_1.length : Int) = (l1_1.length : Int)
   ·rw [if_pos c11] at H
    have c11b0 : ((l0_1.length : Int) == (l1_1.length : Int)) = true := beq_iff_eq.mpr c11
    have c11b1 : ((l0_1.length : Int) != (l1_1.length : Int)) = false := bne_eq_false_iff_eq.mpr c11
    have c11b2 : (l0_1.length == l1_1.length) = true := by first | simpa using c11 | (simp at c11 ⊢; omega)
    clear c11
    (first | rw [c11b0] | (simp only [i64_w, i32_w]; rw [c11b0]) | skip)
    by_cases c12 : a0_2 = a1_2
    ·rw [if_pos c12] at H
     have c12b0 : (a0_2 == a1_2) = true := beq_iff_eq.mpr c12
     have c12b1 : (a0_2 != a1_2) = false := bne_eq_false_iff_eq.mpr c12
     clear c12
     have H' := qM H
     clear H
     have hnb13 := NB186_187.out
     have hnc13 := NB187_186.out
     obtain ⟨z14_0, z14_1, z14_2, z14_3, f14_0, f14_1, f14_2, f14_3⟩ := cells4 B186.out
     obtain ⟨z15_0, z15_1, z15_2, z15_3, f15_0, f15_1, f15_2, f15_3⟩ := cells4 B187.out
     go_wp2
     repeat (go_quiet (fail); try go_wp2)
     go_meet
     case rel => exact ⟨_, ((a0_3 != a1_3)), (by first | rfl | (simp; done) | (simp [*]; done)), H', ⟨by first | omega | exact Nat.le_refl _⟩, ⟨by (with_reducible repeat first | refine qN ?_ _ | refine qD ?_ | refine qA ?_ _); exact B186.out⟩, ⟨by (with_reducible repeat first | refine qN ?_ _ | refine qD ?_ | refine qA ?_ _); exact B187.out⟩, ⟨by repeat (first | (with_reducible first | exact HB.out | apply eA | apply eN | apply eD | refine eS ?_ GE186.out | refine eS ?_ GE187.out) | exact HB.out)⟩⟩
    ·rw [if_neg c12] at H
     have c12b0 : (a0_2 == a1_2) = false := beq_eq_false_iff_ne.mpr c12
     have c12b1 : (a0_2 != a1_2) = true := bne_iff_ne.mpr c12
     have H' := qM H
     clear H
     have hnb16 := NB186_187.out
     have hnc16 := NB187_186.out
     obtain ⟨z17_0, z17_1, z17_2, z17_3, f17_0, f17_1, f17_2, f17_3⟩ := cells4 B186.out
     obtain ⟨z18_0, z18_1, z18_2, z18_3, f18_0, f18_1, f18_2, f18_3⟩ := cells4 B187.out
     go_wp2
     repeat (go_quiet (fail); try go_wp2)
     go_meet
     case rel => exact ⟨_, (true), (by first | rfl | (simp; done) | (simp [*]; done)), H', ⟨by first | omega | exact Nat.le_refl _⟩, ⟨by (with_reducible repeat first | refine qN ?_ _ | refine qD ?_ | refine qA ?_ _); exact B186.out⟩, ⟨by (with_reducible repeat first | refine qN ?_ _ | refine qD ?_ | refine qA ?_ _); exact B187.out⟩, ⟨by repeat (first | (with_reducible first | exact HB.out | apply eA | apply eN | apply eD | refine eS ?_ GE186.out | refine eS ?_ GE187.out) | exact HB.out)⟩⟩
   ·rw [if_neg c11] at H
    have c11b0 : ((l0_1.length : Int) == (l1_1.length : Int)) = false := beq_eq_false_iff_ne.mpr c11
    have c11b1 : ((l0_1.length : Int) != (l1_1.length : Int)) = true := bne_iff_ne.mpr c11
    have c11b2 : (l0_1.length == l1_1.length) = false := by first | simpa using c11 | (simp at c11 ⊢; omega)
    (first | rw [c11b0] | (simp only [i64_w, i32_w]; rw [c11b0]) | skip)
    have H' := qM H
    clear H
    have hnb19 := NB186_187.out
    have hnc19 := NB187_186.out
    obtain ⟨z20_0, z20_1, z20_2, z20_3, f20_0, f20_1, f20_2, f20_3⟩ := cells4 B186.out
    obtain ⟨z21_0, z21_1, z21_2, z21_3, f21_0, f21_1, f21_2, f21_3⟩ := cells4 B187.out
    go_wp2
    repeat (go_quiet (fail); try go_wp2)
    go_meet
    case rel => exact ⟨_, (true), (by first | rfl | (simp; done) | (simp [*]; done)), H', ⟨by first | omega | exact Nat.le_refl _⟩, ⟨by (with_reducible repeat first | refine qN ?_ _ | refine qD ?_ | refine qA ?_ _); exact B186.out⟩, ⟨by (with_reducible repeat first | refine qN ?_ _ | refine qD ?_ | refine qA ?_ _); exact B187.out⟩, ⟨by repeat (first | (with_reducible first | exact HB.out | apply eA | apply eN | apply eD | refine eS ?_ GE186.out | refine eS ?_ GE187.out) | exact HB.out)⟩⟩
  ·replace c10 := Bool.eq_false_iff.mpr c10
   subst c10
   have H1 : (hogsheadref08_Same.j0 k true l0_0 l0_1 a0_2 a0_3 l1_0 l1_1 a1_2 a1_3) = some r := by rw [if_neg (show ¬ (false = true) by decide)] at H; exact H
   clear H
   have H := H1
   clear H1
   have H' := qM H
   clear H
   go_wp2
   repeat (go_quiet (fail); try go_wp2)
   go_meet
   case rel => exact ⟨_, (true), (by first | rfl | (simp; done) | (simp [*]; done)), H', ⟨by first | omega | exact Nat.le_refl _⟩, ⟨by (with_reducible repeat first | refine qN ?_ _ | refine qD ?_ | refine qA ?_ _); exact B186.out⟩, ⟨by (with_reducible repeat first | refine qN ?_ _ | refine qD ?_ | refine qA ?_ _); exact B187.out⟩, ⟨by repeat (first | (with_reducible first | exact HB.out | apply eA | apply eN | apply eD | refine eS ?_ GE186.out | refine eS ?_ GE187.out) | exact HB.out)⟩⟩
 case rest =>
  clear HC4
  try clear c1
  try clear p2
  try clear c7
  try clear c10
  try clear c11
  try clear c11b0
  try clear c11b1
  try clear c11b2
  try clear c12
  try clear c12b0
  try clear c12b1
  try clear c13
  try clear c16
  try clear c19
  try clear z14_0
  try clear z14_1
  try clear z14_2
  try clear z14_3
  try clear z15_0
  try clear z15_1
  try clear z15_2
  try clear z15_3
  try clear z17_0
  try clear z17_1
  try clear z17_2
  try clear z17_3
  try clear z18_0
  try clear z18_1
  try clear z18_2
  try clear z18_3
  try clear z20_0
  try clear z20_1
  try clear z20_2
  try clear z20_3
  try clear z21_0
  try clear z21_1
  try clear z21_2
  try clear z21_3
  try clear z8_0
  try clear z8_1
  try clear z8_2
  try clear z8_3
  try clear z9_0
  try clear z9_1
  try clear z9_2
  try clear z9_3
  try clear f14_0
  try clear f14_1
  try clear f14_2
  try clear f14_3
  try clear f15_0
  try clear f15_1
  try clear f15_2
  try clear f15_3
  try clear f17_0
  try clear f17_1
  try clear f17_2
  try clear f17_3
  try clear f18_0
  try clear f18_1
  try clear f18_2
  try clear f18_3
  try clear f20_0
  try clear f20_1
  try clear f20_2
  try clear f20_3
  try clear f21_0
  try clear f21_1
  try clear f21_2
  try clear f21_3
  try clear f8_0
  try clear f8_1
  try clear f8_2
  try clear f8_3
  try clear f9_0
  try clear f9_1
  try clear f9_2
  try clear f9_3
  obtain ⟨kq, x36_3, rfl, HA, HJ3, B186, B187, HB⟩ := hcut
  cases kq with
  | zero => exact absurd HA.out (by simp [hogsheadref08_Same.j0])
  | succ kj3 =>
   have H := HA.out
   clear HA
   simp only [hogsheadref08_Same.j0] at H
   by_cases c22 : x36_3 = true
   ·subst c22
    have H1 : (some false) = some r := by rw [if_pos rfl] at H; exact H
    clear H
    have H := H1
    clear H1
    obtain rfl := Option.some.inj H
    go_wp2
    repeat (go_quiet (fail); try go_wp2)
    go_ret
    exact ⟨by first | rfl | (simp [errW_none, errW_some] <;> rfl) | (simp [*, errW_none, errW_some] <;> rfl), by repeat (first | (with_reducible first | exact HB.out | apply eA | apply eN | apply eD | refine eS ?_ GE186.out | refine eS ?_ GE187.out) | exact HB.out)⟩
   ·replace c22 := Bool.eq_false_iff.mpr c22
    subst c22
    have H1 : (hogsheadref08_Same.l0 kj3 0 l0_0 l0_1 a0_2 a0_3 l1_0 l1_1 a1_2 a1_3) = some r := by rw [if_neg (show ¬ (false = true) by decide)] at H; exact H
    clear H
    have H := H1
    clear H1
    have H' := qM H
    clear H
    go_wp2
    repeat (go_quiet (fail); try go_wp2)
    go_loopg [6] kj3 (fun kq v6 w' => ∃ (x6_2 : Int), v6 = .int .i64 x6_2 ∧ Aside0 (hogsheadref08_Same.l0 kq x6_2 l0_0 l0_1 a0_2 a0_3 l1_0 l1_1 a1_2 a1_3 = some r) ∧ Aside0 (kq ≤ kj3) ∧ Aside0 (w'.heap[g186]? = some (.cells #[(.slice A0_0 l0_0.length c0_0), (.slice A0_1 l0_1.length c0_1), .int .i64 a0_2, .bool a0_3] 25 (0, 0))) ∧ Aside0 (w'.heap[g187]? = some (.cells #[(.slice A1_0 l1_0.length c1_0), (.slice A1_1 l1_1.length c1_1), .int .i64 a1_2, .bool a1_3] 25 (0, 0))) ∧ Aside0 (Below w.heap.size w w'))
    case atStart => exact ⟨(0), (by first | rfl | (simp; done) | (simp [*]; done)), H', ⟨Nat.le_refl _⟩, ⟨by (with_reducible repeat first | refine qN ?_ _ | refine qD ?_ | refine qA ?_ _); exact B186.out⟩, ⟨by (with_reducible repeat first | refine qN ?_ _ | refine qD ?_ | refine qA ?_ _); exact B187.out⟩, ⟨by repeat (first | (with_reducible first | exact HB.out | apply eA | apply eN | apply eD | refine eS ?_ GE186.out | refine eS ?_ GE187.out) | exact HB.out)⟩⟩
    case round =>
     clear H'
     try clear c1
     try clear c2
     try clear p2
     try clear c7
     try clear c10
     try clear c11
     try clear c11b0
     try clear c11b1
     try clear c11b2
     try clear c12
     try clear c12b0
     try clear c12b1
     try clear c13
     try clear c16
     try clear c19
     try clear c22
     try clear z14_0
     try clear z14_1
     try clear z14_2
     try clear z14_3
     try clear z15_0
     try clear z15_1
     try clear z15_2
     try clear z15_3
     try clear z17_0
     try clear z17_1
     try clear z17_2
     try clear z17_3
     try clear z18_0
     try clear z18_1
     try clear z18_2
     try clear z18_3
     try clear z20_0
     try clear z20_1
     try clear z20_2
     try clear z20_3
     try clear z21_0
     try clear z21_1
     try clear z21_2
     try clear z21_3
     try clear z8_0
     try clear z8_1
     try clear z8_2
     try clear z8_3
     try clear z9_0
     try clear z9_1
     try clear z9_2
     try clear z9_3
     try clear f14_0
     try clear f14_1
     try clear f14_2
     try clear f14_3
     try clear f15_0
     try clear f15_1
     try clear f15_2
     try clear f15_3
     try clear f17_0
     try clear f17_1
     try clear f17_2
     try clear f17_3
     try clear f18_0
     try clear f18_1
     try clear f18_2
     try clear f18_3
     try clear f20_0
     try clear f20_1
     try clear f20_2
     try clear f20_3
     try clear f21_0
     try clear f21_1
     try clear f21_2
     try clear f21_3
     try clear f8_0
     try clear f8_1
     try clear f8_2
     try clear f8_3
     try clear f9_0
     try clear f9_1
     try clear f9_2
     try clear f9_3
     try clear p2
     obtain ⟨x6_2, rfl, HA, HK2, B186, B187, HB⟩ := hrel
     cases gk with
     | zero => exact absurd HA.out (by simp [hogsheadref08_Same.l0])
     | succ k2 =>
      have H := HA.out
      clear HA
      simp only [hogsheadref08_Same.l0] at H
      by_cases c23 : x6_2 < (l0_1.length : Int)
      ·rw [if_pos c23] at H
       have c23b0 : decide (x6_2 < (l0_1.length : Int)) = true := decide_eq_true c23
       clear c23
       by_cases c24 : 0 ≤ x6_2
       ·rw [if_pos c24] at H
        have c24b0 : decide (0 ≤ x6_2) = true := decide_eq_true c24
        clear c24
        by_cases c25 : x6_2 < (l1_1.length : Int)
        ·rw [if_pos c25] at H
         have c25b0 : decide (x6_2 < (l1_1.length : Int)) = true := decide_eq_true c25
         clear c25
         by_cases c26 : (!(((rd_T47 l0_1 x6_2).f0) == ((rd_T47 l1_1 x6_2).f0)) || (!((((rd_T47 l0_1 x6_2).f1).toList) == (((rd_T47 l1_1 x6_2).f1).toList)))) = true
         ·rw [if_pos c26] at H
          have c26b0 : (!(((rd_T47 l0_1 x6_2).f0) == ((rd_T47 l1_1 x6_2).f0)) || (!((((rd_T47 l0_1 x6_2).f1).toList) == (((rd_T47 l1_1 x6_2).f1).toList)))) = true := c26
          clear c26
          obtain rfl := Option.some.inj H
          have hnb27 := NB186_187.out
          have hnc27 := NB187_186.out
          obtain ⟨z28_0, z28_1, z28_2, z28_3, f28_0, f28_1, f28_2, f28_3⟩ := cells4 B186.out
          have p189 : 0 ≤ (x6_2 : Int) := of_decide_eq_true (by first | (with_reducible assumption) | assumption)
          have q189 : x6_2 < (l0_1.length : Int) := of_decide_eq_true (by first | (with_reducible assumption) | assumption)
          obtain ⟨ad189, e189, hx189_0, hx189_1⟩ := at_T47 HR0_1.out x6_2 p189 q189
          cases e189
          replace hx189_0 := (HB.out.cell (World.block_lt_of_cell? w _ hx189_0)).trans hx189_0
          replace hx189_1 := (HB.out.cell (World.block_lt_of_cell? w _ hx189_1)).trans hx189_1
          replace p189 := eq_true p189
          replace q189 := eq_true q189
          obtain ⟨z29_0, z29_1, z29_2, z29_3, f29_0, f29_1, f29_2, f29_3⟩ := cells4 B187.out
          have p190 : 0 ≤ (x6_2 : Int) := of_decide_eq_true (by first | (with_reducible assumption) | assumption)
          have q190 : x6_2 < (l1_1.length : Int) := of_decide_eq_true (by first | (with_reducible assumption) | assumption)
          obtain ⟨ad190, e190, hx190_0, hx190_1⟩ := at_T47 HR1_1.out x6_2 p190 q190
          cases e190
          replace hx190_0 := (HB.out.cell (World.block_lt_of_cell? w _ hx190_0)).trans hx190_0
          replace hx190_1 := (HB.out.cell (World.block_lt_of_cell? w _ hx190_1)).trans hx190_1
          replace p190 := eq_true p190
          replace q190 := eq_true q190
          go_wp2
          repeat (go_quiet (fail); try go_wp2)
          go_ret
          exact ⟨by first | rfl | (simp [errW_none, errW_some] <;> rfl) | (simp [*, errW_none, errW_some] <;> rfl), by repeat (first | (with_reducible first | exact HB.out | apply eA | apply eN | apply eD | refine eS ?_ GE186.out | refine eS ?_ GE187.out) | exact HB.out)⟩
         ·rw [if_neg c26] at H
          have c26b0 : (!(((rd_T47 l0_1 x6_2).f0) == ((rd_T47 l1_1 x6_2).f0)) || (!((((rd_T47 l0_1 x6_2).f1).toList) == (((rd_T47 l1_1 x6_2).f1).toList)))) = false := by simpa using c26
          clear c26
          have H' := qM H
          clear H
          have hnb30 := NB186_187.out
          have hnc30 := NB187_186.out
          obtain ⟨z31_0, z31_1, z31_2, z31_3, f31_0, f31_1, f31_2, f31_3⟩ := cells4 B186.out
          have p189 : 0 ≤ (x6_2 : Int) := of_decide_eq_true (by first | (with_reducible assumption) | assumption)
          have q189 : x6_2 < (l0_1.length : Int) := of_decide_eq_true (by first | (with_reducible assumption) | assumption)
          obtain ⟨ad189, e189, hx189_0, hx189_1⟩ := at_T47 HR0_1.out x6_2 p189 q189
          cases e189
          replace hx189_0 := (HB.out.cell (World.block_lt_of_cell? w _ hx189_0)).trans hx189_0
          replace hx189_1 := (HB.out.cell (World.block_lt_of_cell? w _ hx189_1)).trans hx189_1
          replace p189 := eq_true p189
          replace q189 := eq_true q189
          obtain ⟨z32_0, z32_1, z32_2, z32_3, f32_0, f32_1, f32_2, f32_3⟩ := cells4 B187.out
          have p190 : 0 ≤ (x6_2 : Int) := of_decide_eq_true (by first | (with_reducible assumption) | assumption)
          have q190 : x6_2 < (l1_1.length : Int) := of_decide_eq_true (by first | (with_reducible assumption) | assumption)
          obtain ⟨ad190, e190, hx190_0, hx190_1⟩ := at_T47 HR1_1.out x6_2 p190 q190
          cases e190
          replace hx190_0 := (HB.out.cell (World.block_lt_of_cell? w _ hx190_0)).trans hx190_0
          replace hx190_1 := (HB.out.cell (World.block_lt_of_cell? w _ hx190_1)).trans hx190_1
          replace p190 := eq_true p190
          replace q190 := eq_true q190
          go_wp2
          repeat (go_quiet (fail); try go_wp2)
          go_roundg k2
          case measure => have := HJ3.out; have := HK2.out; omega
          case rel => exact ⟨(wrap64 (x6_2 + 1)), (by first | rfl | (simp; done) | (simp [*]; done)), H', ⟨by have := HJ3.out; have := HK2.out; omega⟩, ⟨by (with_reducible repeat first | refine qN ?_ _ | refine qD ?_ | refine qA ?_ _); exact B186.out⟩, ⟨by (with_reducible repeat first | refine qN ?_ _ | refine qD ?_ | refine qA ?_ _); exact B187.out⟩, ⟨by repeat (first | (with_reducible first | exact HB.out | apply eA | apply eN | apply eD | refine eS ?_ GE186.out | refine eS ?_ GE187.out) | exact HB.out)⟩⟩
        ·rw [if_neg c25] at H
         exact absurd H (by simp)
       ·rw [if_neg c24] at H
        exact absurd H (by simp)
      ·rw [if_neg c23] at H
       have c23b0 : decide (x6_2 < (l0_1.length : Int)) = false := decide_eq_false c23
       clear c23
       obtain rfl := Option.some.inj H
       have hnb33 := NB186_187.out
       have hnc33 := NB187_186.out
       obtain ⟨z34_0, z34_1, z34_2, z34_3, f34_0, f34_1, f34_2, f34_3⟩ := cells4 B186.out
       go_wp2
       repeat (go_quiet (fail); try go_wp2)
       go_ret
       exact ⟨by first | rfl | (simp [errW_none, errW_some] <;> rfl) | (simp [*, errW_none, errW_some] <;> rfl), by repeat (first | (with_reducible first | exact HB.out | apply eA | apply eN | apply eD | refine eS ?_ GE186.out | refine eS ?_ GE187.out) | exact HB.out)⟩

/-! ### disk_Burst: function 22 -/
-- IMPORT Derived.Test.YtmaojfeikbdkhaaFlip
def disk_Burst.f (l0_0 : List ByteArray) (l0_1 : List (S47)) (a0_2 : Int) (a0_3 : Bool) (a1 a2 a3 : Int) : Option (List ByteArray × (List (S47)) × Int × Bool × Int) := Mark.burst_f l0_0 l0_1 a0_2 a0_3 a1 a2 a3
set_option maxHeartbeats 40000000 in
set_option maxRecDepth 100000 in
theorem disk_Burst.calls (P0_0_ : Nat → Prop) (A0_0 : Option Addr) (c0_0 : Nat) (l0_0 : List ByteArray) (P0_1_ : Nat → Prop) (A0_1 : Option Addr) (c0_1 : Nat) (l0_1 : List (S47)) (a0_2 : Int) (a0_3 : Bool) (a1 a2 a3 : Int) (r1 : List ByteArray) (r2 : List (S47)) (r3 : Int) (r4 : Bool) (r5 : Int) (w : World) (hs0_0 : Kd.V Kd.string 9 w w.heap.size (fun k_ => P0_0_ k_) (.slice A0_0 l0_0.length c0_0) l0_0) (hs0_1 : Kd.V k47 47 w w.heap.size (fun k_ => P0_1_ k_) (.slice A0_1 l0_1.length c0_1) l0_1) (h : disk_Burst.f l0_0 l0_1 a0_2 a0_3 a1 a2 a3 = some (r1, r2, r3, r4, r5)) :
    Calls Try.prog 22 #[.agg #[.slice A0_0 l0_0.length c0_0, .slice A0_1 l0_1.length c0_1, .int .i64 a0_2, .bool a0_3], .int .i64 a1, .int .i64 a2, .int .u32 a3] w fun e w' => ∃ v0_ v1_ : Value, e = .returned (.tuple #[.agg #[v0_, v1_, .int .i64 r3, .bool r4], .int .i64 r5]) ∧ Kd.V Kd.string 9 w' w.heap.size (fun k_ => ((P0_0_ k_ ∨ P0_1_ k_) ∨ w.heap.size ≤ k_)) v0_ r1 ∧ Kd.V k47 47 w' w.heap.size (fun k_ => ((P0_0_ k_ ∨ P0_1_ k_) ∨ w.heap.size ≤ k_)) v1_ r2 ∧ Below w.heap.size w w' := by
  have hu25 := Try.underlying25
  have HR0 := qM (Kd.V_reads' hs0_0).2.2
  have HC0 := qM (Kd.V_reads' hs0_0).2.1
  have HR1 := qM (Kd.V_reads' hs0_1).2.2
  have HC1 := qM (Kd.V_reads' hs0_1).2.1
  have HS0 := qM hs0_0
  have HS1 := qM hs0_1
  clear hs0_0 hs0_1
  unfold disk_Burst.f Mark.burst_f at h
  have hg : l0_0.length < 8796093022208 ∧ (rdOf ByteArray.empty l0_0 a1).size ≤ 1152921504606846975 ∧ 0 ≤ a3 ∧ a3 < 4294967296 := Decidable.byContradiction fun hg => by
    rw [if_neg hg] at h
    cases h
  rw [if_pos hg] at h
  obtain ⟨hl1, hq1, h0, h1⟩ := hg
  obtain ⟨b, rfl⟩ := Int.eq_ofNat_of_zero_le h0
  have HLEN := qM hl1
  have HQ := qM hq1
  have Hb := qM h1
  clear hl1 hq1 h0 h1
  have hhas : disk_has.f l0_0 l0_1 a0_2 a0_3 a1 = some (decide (0 ≤ a1 ∧ a1 < (l0_0.length : Int))) := by
    unfold disk_has.f
    by_cases c0 : a1 ≥ 0
    · rw [if_pos c0]
      simp [c0]
    · rw [if_neg c0]
      simp [c0]
  by_cases cs : 0 ≤ a1 ∧ a1 < (l0_0.length : Int)
  · rw [if_pos cs] at h
    rw [decide_eq_true cs] at hhas
    have HH := qM hhas
    clear hhas
    have CS := qM cs
    have HPOS := qM (show 0 < l0_0.length by omega)
    obtain ⟨ad, e, hx⟩ := Kd.at_string HR0.out a1 cs.1 cs.2
    cases e
    have HX := qM hx
    clear hx
    have p0 := eq_true cs.1
    have q0 := eq_true cs.2
    clear cs
    generalize hs : rdOf ByteArray.empty l0_0 a1 = s at *
    clear hs
    have hw1 : wrap64 (8 * (s.size : Int)) = 8 * (s.size : Int) := by have := HQ.out; unfold wrap64; omega
    have hw2 : wrap64 (8 * (s.size : Int) - 32) = 8 * (s.size : Int) - 32 := by have := HQ.out; unfold wrap64; omega
    by_cases c2 : a2 < 0
    · rw [if_pos c2] at h
      simp only [Option.some.injEq, Prod.mk.injEq] at h
      obtain ⟨rfl, rfl, rfl, rfl, rfl⟩ := h
      have c2b : decide (a2 < 0) = true := decide_eq_true c2
      clear c2
      go_enter Try.func22, Try.ntmps22
      go_wp2_with (first | ((with_reducible refine gate_dst (N := 4) rfl ?_); refine box_event ?hg (N := 4) ?hd (cs := #[.slice (some ad) l0_0.length c0_0, .slice A0_1 l0_1.length c0_1, .int .i64 a0_2, .bool a0_3]) (t := 25) ?hr ?_; (case hd => rfl); (case hg => rfl); (case hr => first | (go_simp; done) | (go_simp; rfl)); intro g1 hg w_g1 hk hb; have B1 := qM hk; have G1 := qM (show w.heap.size ≤ g1 by rw [hg]; exact Nat.le_refl _); have HB := qM hb; clear hk hb hg) | ((with_reducible refine gate_dst (N := 8) rfl ?_); refine box_event ?hg (N := 8) ?hd (cs := #[.slice none 0 0, .slice none 0 0, .int .i64 0, .bool false]) (t := 25) ?hr ?_; (case hd => rfl); (case hg => rfl); (case hr => first | (go_simp; done) | (go_simp; rfl)); intro g2 hg w_g2 hk hb; have B2 := qM hk; have NE := qM (show g1 ≠ g2 by have := blk_lt B1.out; rw [hg]; omega); have G2 := qM (show w.heap.size ≤ g2 by rw [hg]; exact HB.out.size); replace B1 := qM (blk_below B1.out hb); replace HB := qM (below_step HB.out hb); obtain ⟨z0, z1, z2, z3, f0, f1, f2, f3⟩ := cells4 B1.out; obtain ⟨y0, y1, y2, y3, j0, j1, j2, j3⟩ := cells4 B2.out; have hne1 := NE.out; have hne2 := Ne.symm NE.out; clear hk hb hg) | (go_at_call 27; (with_reducible refine (disk_has.calls (some ad) c0_0 l0_0 A0_1 c0_1 l0_1 a0_2 a0_3 a1 true _ (Kd.C_below HR0.out HB.out) HC0.out (Kd.C_below HR1.out HB.out) HC1.out HH.out).mono ?_); rintro e w3 ⟨rfl, hb⟩; replace B1 := qM (blk_below B1.out hb); replace B2 := qM (blk_below B2.out hb); replace HB := qM (below_step HB.out hb); clear hb z0 z1 z2 z3 f0 f1 f2 f3 y0 y1 y2 y3 j0 j1 j2 j3; obtain ⟨z0, z1, z2, z3, f0, f1, f2, f3⟩ := cells4 B1.out; obtain ⟨y0, y1, y2, y3, j0, j1, j2, j3⟩ := cells4 B2.out; have hx2 := (HB.out.cell (World.block_lt_of_cell? w _ HX.out)).trans HX.out))
      refine bodyPost_ret (results_ct rfl _ _ g2 25 #[.slice (some ad) l0_0.length c0_0, .slice A0_1 l0_1.length c0_1, .int .i64 a0_2, .bool a0_3] (0, 0) _ rfl (puts4 B2.out) Try.underlying25 rfl (by kernel_rfl)) rfl ?_
      have hbf := below_set (j := 3) (v := .bool a0_3) (below_set (j := 2) (v := .int .i64 a0_2) (below_set (j := 1) (v := .slice A0_1 l0_1.length c0_1) (below_set (j := 0) (v := .slice (some ad) l0_0.length c0_0) HB.out G2.out) G2.out) G2.out) G2.out
      exact ⟨_, _, rfl, Kd.V_mono (Kd.V_below HS0.out hbf) (fun k hk => .inl (.inl hk)), Kd.V_mono (Kd.V_below HS1.out hbf) (fun k hk => .inl (.inr hk)), hbf⟩
    · rw [if_neg c2] at h
      have c2b : decide (a2 < 0) = false := decide_eq_false c2
      obtain ⟨a, rfl⟩ := Int.eq_ofNat_of_zero_le (Int.not_lt.mp c2)
      clear c2
      by_cases c3 : (a : Int) > 8 * (s.size : Int) - 32
      · rw [if_pos c3] at h
        simp only [Option.some.injEq, Prod.mk.injEq] at h
        obtain ⟨rfl, rfl, rfl, rfl, rfl⟩ := h
        have c3b : decide ((a : Int) > 8 * (s.size : Int) - 32) = true := decide_eq_true c3
        have c3c : decide (8 * (s.size : Int) - 32 < (a : Int)) = true := decide_eq_true c3
        clear c3
        go_enter Try.func22, Try.ntmps22
        go_wp2_with (first | ((with_reducible refine gate_dst (N := 4) rfl ?_); refine box_event ?hg (N := 4) ?hd (cs := #[.slice (some ad) l0_0.length c0_0, .slice A0_1 l0_1.length c0_1, .int .i64 a0_2, .bool a0_3]) (t := 25) ?hr ?_; (case hd => rfl); (case hg => rfl); (case hr => first | (go_simp; done) | (go_simp; rfl)); intro g1 hg w_g1 hk hb; have B1 := qM hk; have G1 := qM (show w.heap.size ≤ g1 by rw [hg]; exact Nat.le_refl _); have HB := qM hb; clear hk hb hg) | ((with_reducible refine gate_dst (N := 8) rfl ?_); refine box_event ?hg (N := 8) ?hd (cs := #[.slice none 0 0, .slice none 0 0, .int .i64 0, .bool false]) (t := 25) ?hr ?_; (case hd => rfl); (case hg => rfl); (case hr => first | (go_simp; done) | (go_simp; rfl)); intro g2 hg w_g2 hk hb; have B2 := qM hk; have NE := qM (show g1 ≠ g2 by have := blk_lt B1.out; rw [hg]; omega); have G2 := qM (show w.heap.size ≤ g2 by rw [hg]; exact HB.out.size); replace B1 := qM (blk_below B1.out hb); replace HB := qM (below_step HB.out hb); obtain ⟨z0, z1, z2, z3, f0, f1, f2, f3⟩ := cells4 B1.out; obtain ⟨y0, y1, y2, y3, j0, j1, j2, j3⟩ := cells4 B2.out; have hne1 := NE.out; have hne2 := Ne.symm NE.out; clear hk hb hg) | (go_at_call 27; (with_reducible refine (disk_has.calls (some ad) c0_0 l0_0 A0_1 c0_1 l0_1 a0_2 a0_3 a1 true _ (Kd.C_below HR0.out HB.out) HC0.out (Kd.C_below HR1.out HB.out) HC1.out HH.out).mono ?_); rintro e w3 ⟨rfl, hb⟩; replace B1 := qM (blk_below B1.out hb); replace B2 := qM (blk_below B2.out hb); replace HB := qM (below_step HB.out hb); clear hb z0 z1 z2 z3 f0 f1 f2 f3 y0 y1 y2 y3 j0 j1 j2 j3; obtain ⟨z0, z1, z2, z3, f0, f1, f2, f3⟩ := cells4 B1.out; obtain ⟨y0, y1, y2, y3, j0, j1, j2, j3⟩ := cells4 B2.out; have hx2 := (HB.out.cell (World.block_lt_of_cell? w _ HX.out)).trans HX.out))
        refine bodyPost_ret (results_ct rfl _ _ g2 25 #[.slice (some ad) l0_0.length c0_0, .slice A0_1 l0_1.length c0_1, .int .i64 a0_2, .bool a0_3] (0, 0) _ rfl (puts4 B2.out) Try.underlying25 rfl (by kernel_rfl)) rfl ?_
        have hbf := below_set (j := 3) (v := .bool a0_3) (below_set (j := 2) (v := .int .i64 a0_2) (below_set (j := 1) (v := .slice A0_1 l0_1.length c0_1) (below_set (j := 0) (v := .slice (some ad) l0_0.length c0_0) HB.out G2.out) G2.out) G2.out) G2.out
        exact ⟨_, _, rfl, Kd.V_mono (Kd.V_below HS0.out hbf) (fun k hk => .inl (.inl hk)), Kd.V_mono (Kd.V_below HS1.out hbf) (fun k hk => .inl (.inr hk)), hbf⟩
      · rw [if_neg c3] at h
        have c3b : decide ((a : Int) > 8 * (s.size : Int) - 32) = false := decide_eq_false c3
        have c3c : decide (8 * (s.size : Int) - 32 < (a : Int)) = false := decide_eq_false c3
        have HA := qM (show a + 32 ≤ 8 * s.size by omega)
        clear c3
        simp only [Int.toNat_natCast] at h
        simp only [Option.some.injEq, Prod.mk.injEq] at h
        obtain ⟨rfl, rfl, rfl, rfl, rfl⟩ := h
        go_enter Try.func22, Try.ntmps22
        go_wp2_with (first | ((with_reducible refine gate_dst (N := 4) rfl ?_); refine box_event ?hg (N := 4) ?hd (cs := #[.slice (some ad) l0_0.length c0_0, .slice A0_1 l0_1.length c0_1, .int .i64 a0_2, .bool a0_3]) (t := 25) ?hr ?_; (case hd => rfl); (case hg => rfl); (case hr => first | (go_simp; done) | (go_simp; rfl)); intro g1 hg w_g1 hk hb; have B1 := qM hk; have G1 := qM (show w.heap.size ≤ g1 by rw [hg]; exact Nat.le_refl _); have HB := qM hb; clear hk hb hg) | ((with_reducible refine gate_dst (N := 8) rfl ?_); refine box_event ?hg (N := 8) ?hd (cs := #[.slice none 0 0, .slice none 0 0, .int .i64 0, .bool false]) (t := 25) ?hr ?_; (case hd => rfl); (case hg => rfl); (case hr => first | (go_simp; done) | (go_simp; rfl)); intro g2 hg w_g2 hk hb; have B2 := qM hk; have NE := qM (show g1 ≠ g2 by have := blk_lt B1.out; rw [hg]; omega); have G2 := qM (show w.heap.size ≤ g2 by rw [hg]; exact HB.out.size); replace B1 := qM (blk_below B1.out hb); replace HB := qM (below_step HB.out hb); obtain ⟨z0, z1, z2, z3, f0, f1, f2, f3⟩ := cells4 B1.out; obtain ⟨y0, y1, y2, y3, j0, j1, j2, j3⟩ := cells4 B2.out; have hne1 := NE.out; have hne2 := Ne.symm NE.out; clear hk hb hg) | (go_at_call 27; (with_reducible refine (disk_has.calls (some ad) c0_0 l0_0 A0_1 c0_1 l0_1 a0_2 a0_3 a1 true _ (Kd.C_below HR0.out HB.out) HC0.out (Kd.C_below HR1.out HB.out) HC1.out HH.out).mono ?_); rintro e w3 ⟨rfl, hb⟩; replace B1 := qM (blk_below B1.out hb); replace B2 := qM (blk_below B2.out hb); replace HB := qM (below_step HB.out hb); clear hb z0 z1 z2 z3 f0 f1 f2 f3 y0 y1 y2 y3 j0 j1 j2 j3; obtain ⟨z0, z1, z2, z3, f0, f1, f2, f3⟩ := cells4 B1.out; obtain ⟨y0, y1, y2, y3, j0, j1, j2, j3⟩ := cells4 B2.out; have hx2 := (HB.out.cell (World.block_lt_of_cell? w _ HX.out)).trans HX.out) | ((with_reducible refine gate_dst (N := 39) rfl ?_); refine Mark.wpList_bytes _ rfl 9 71 5 (.tmp 38) rfl Try.underlying9 Try.underlying71 Try.underlying5 s rfl ?_; intro g c z w4 hgw hcz hcm hk hb; have HK := qM hk; have N1 := qM (show g1 ≠ g by have := blk_lt B1.out; rw [hgw]; omega); have N2 := qM (show g2 ≠ g by have := blk_lt B2.out; rw [hgw]; omega); have HG := qM (show w.heap.size ≤ g by rw [hgw]; exact HB.out.size); replace B1 := qM (blk_below B1.out hb); replace B2 := qM (blk_below B2.out hb); replace HB := qM (below_step HB.out hb); have HC := qM hcz; have HM := qM hcm; clear hk hb hgw hcz hcm z0 z1 z2 z3 f0 f1 f2 f3 y0 y1 y2 y3 j0 j1 j2 j3 hx2))
        clear hw1 hw2 c2b c3b c3c
        have HL := qM (show s.data.toList.length = s.size from data_length s)
        go_loopg [40] 32 (fun kq v40 w' => ∃ (i : Nat) (l : List UInt8), v40 = .int .i64 (i : Int) ∧ Aside0 (i + kq = 32) ∧ Aside0 (l.length = s.size) ∧ Aside0 (Mark.turnL kq l (a + i) (b * 2 ^ i % 4294967296) = Mark.turnL 32 s.data.toList a b) ∧ Aside0 (w'.heap[g]? = some (.cells (Mark.mcells l z) 5 (c, c + 1))) ∧ Aside0 (w'.heap[g1]? = some (.cells #[.slice (some ad) l0_0.length c0_0, .slice A0_1 l0_1.length c0_1, .int .i64 a0_2, .bool a0_3] 25 (0, 0))) ∧ Aside0 (w'.heap[g2]? = some (.cells #[.slice none 0 0, .slice none 0 0, .int .i64 0, .bool false] 25 (0, 0))) ∧ Aside0 (Below w.heap.size w w'))
        case atStart => exact ⟨0, s.data.toList, rfl, ⟨rfl⟩, HL, ⟨by rw [Nat.pow_zero, Nat.mul_one, Nat.mod_eq_of_lt (by have := Hb.out; omega), Nat.add_zero]⟩, HK, B1, B2, HB⟩
        case round =>
          clear HK B1 B2 HB HL
          obtain ⟨i, l, rfl, HI, HL, HF, HK, B1, B2, HB⟩ := hrel
          cases gk with
          | zero =>
            have hi : i = 32 := HI.out
            subst hi
            have hl : Mark.Bts wr w.heap.size 5 (.slice (some ⟨g, 0, none⟩) s.size c) l := by
              have h1 := HL.out
              have h2 := HC.out
              have hz := Mark.mcells_size l z
              exact ⟨g, c, _, _, by rw [h1], HG.out, HK.out, .inr (by rw [hz]; show l.length + z ≤ c; omega), by omega, HM.out (by have := HQ.out; unfold maxLen; omega), by omega, Mark.mcells_take l z⟩
            have HT := qM hl
            clear hl
            have HF2 := qM (show l = Mark.turnL 32 s.data.toList a b from HF.out)
            clear HF HK HC HM
            obtain ⟨z0, z1, z2, z3, f0, f1, f2, f3⟩ := cells4 B1.out
            have hcl : slices_Clone_string_string.f l0_0 = some l0_0 := by
              unfold slices_Clone_string_string.f
              rw [if_pos (by have := HLEN.out; omega)]
            have HCL := qM hcl
            clear hcl
            go_wp2_with (first | (go_at_call 32; refine (slices_Clone_string_string.calls (some ad) c0_0 l0_0 l0_0 _ (Kd.C_below HR0.out HB.out) HC0.out HCL.out).mono ?_; rintro e w5 ⟨v5, rfl, hr, hb⟩; have HR := qM (Kd.R_lower hr HB.out.size); replace B1 := qM (blk_below B1.out hb); replace B2 := qM (blk_below B2.out hb); replace HT := qM (Mark.bts_kept HT.out hb); replace HB := qM (below_step HB.out hb); obtain ⟨go, co, hv, hgo, hgl, hcx⟩ := Kd.R_form HR.out HPOS.out; subst hv; have HGO := qM hgo; clear hr hb z0 z1 z2 z3 f0 f1 f2 f3 hgo hgl hcx; obtain ⟨z0, z1, z2, z3, f0, f1, f2, f3⟩ := cells4 B1.out) | ((with_reducible refine gate_store (t := 22) (p := 67) rfl ?_); refine store_event (t := 22) (p := 67) (v := ?vo6) (w1 := w5.setCell ⟨g1, 0, none⟩ (.slice (some ⟨go, 0, none⟩) l0_0.length co)) ?hg ?ho ?hn ?hr ?_; (case ho => rfl); (case hg => rfl); (case hn => rfl); (case hr => first | (go_simp; done) | (go_simp; rfl)); intro w6 hw; have hB1 : w6.heap[g1]? = some (.cells #[.slice (some ⟨go, 0, none⟩) l0_0.length co, .slice A0_1 l0_1.length c0_1, .int .i64 a0_2, .bool a0_3] 25 (0, 0)) := (by rw [hw]; exact blk_put B1.out 0 _ rfl); have hB2 : w6.heap[g2]? = some (.cells #[.slice none 0 0, .slice none 0 0, .int .i64 0, .bool false] 25 (0, 0)) := (by rw [hw]; exact blk_far B2.out (Ne.symm NE.out) _); have hT : Mark.Bts w6 w.heap.size 5 (.slice (some ⟨g, 0, none⟩) s.size c) l := (by rw [hw]; exact Mark.bts_far HT.out (fun e => N1.out (by injection e with e; exact e.symm)) _); have hR : Kd.R Kd.string 9 w6 w.heap.size (fun _ => True) (.slice (some ⟨go, 0, none⟩) l0_0.length co) l0_0 := (by rw [hw]; exact Kd.R_mono (Kd.R_far (p := ⟨g1, 0, none⟩) (Kd.R_types HR.out B1.out (by decide)) (fun _ hk => hk.2) _) (fun _ h => h.1)); have hHB : Below w.heap.size w w6 := (by rw [hw]; exact below_set HB.out G1.out); clear B1 B2 HT HR HB hw z0 z1 z2 z3 f0 f1 f2 f3; have B1 := qM hB1; have B2 := qM hB2; have HT := qM hT; have HR := qM hR; have HB := qM hHB; clear hB1 hB2 hT hR hHB; obtain ⟨z0, z1, z2, z3, f0, f1, f2, f3⟩ := cells4 B1.out; obtain ⟨hc7, hf7⟩ := Kd.R_celln ByteArray.empty HR.out a1 CS.out.1 CS.out.2) | ((with_reducible refine gate_dst (N := 72) rfl ?_); refine Mark.wpList_text _ rfl 71 9 5 (.tmp 71) rfl Try.underlying71 Try.underlying5 Try.underlying9 _ rfl w.heap.size l HT.out ?_) | ((with_reducible refine gate_store (t := 9) (p := 73) rfl ?_); refine store_event (t := 9) (p := 73) (v := ?vo7) (w1 := w6.setCell ⟨go, a1.toNat, none⟩ (.string ⟨l.toArray⟩)) ?hg ?ho ?hn ?hr ?_; (case ho => rfl); (case hg => rfl); (case hn => rfl); (case hr => first | (go_simp; done) | (go_simp; rfl)); intro w7 hw; have HP := Kd.R_putg HR.out a1 (⟨l.toArray⟩ : ByteArray); have hgr : w6.grownBy w7 (some go) := (by rw [hw]; exact HP.2); have hR : Kd.R Kd.string 9 w7 w.heap.size (fun _ => True) (.slice (some ⟨go, 0, none⟩) l0_0.length co) (l0_0.set a1.toNat ⟨l.toArray⟩) := (by rw [hw]; exact HP.1); have hB1 := blk_grown B1.out hgr (Kd.R_ne HR.out B1.out (by decide)); have hB2 := blk_grown B2.out hgr (Kd.R_ne HR.out B2.out (by decide)); have hHB : Below w.heap.size w w7 := (by rw [hw]; exact below_set HB.out HGO.out); clear HP B1 B2 HT HR HB hw hgr z0 z1 z2 z3 f0 f1 f2 f3 hc7 hf7; have B1 := qM hB1; have B2 := qM hB2; have HR := qM hR; have HB := qM hHB; clear hB1 hB2 hR hHB; obtain ⟨z0, z1, z2, z3, f0, f1, f2, f3⟩ := cells4 B1.out; obtain ⟨y0, y1, y2, y3, j0, j1, j2, j3⟩ := cells4 B2.out; have hne1 := NE.out; have hne2 := Ne.symm NE.out))
            refine bodyPost_ret (results_ct rfl _ _ g2 25 #[.slice (some ⟨go, 0, none⟩) l0_0.length co, .slice A0_1 l0_1.length c0_1, .int .i64 a0_2, .bool a0_3] (0, 0) _ rfl (puts4 B2.out) Try.underlying25 rfl (by kernel_rfl)) rfl ?_
            have hbf := below_set (j := 3) (v := .bool a0_3) (below_set (j := 2) (v := .int .i64 a0_2) (below_set (j := 1) (v := .slice A0_1 l0_1.length c0_1) (below_set (j := 0) (v := .slice (some ⟨go, 0, none⟩) l0_0.length co) HB.out G2.out) G2.out) G2.out) G2.out
            have hRt := Kd.R_types HR.out B2.out (by decide)
            have hRf := Kd.R_far (p := ⟨g2, 3, none⟩) (Kd.R_far (p := ⟨g2, 2, none⟩) (Kd.R_far (p := ⟨g2, 1, none⟩) (Kd.R_far (p := ⟨g2, 0, none⟩) hRt (fun _ hk => hk.2) (.slice (some ⟨go, 0, none⟩) l0_0.length co)) (fun _ hk => hk.2) (.slice A0_1 l0_1.length c0_1)) (fun _ hk => hk.2) (.int .i64 a0_2)) (fun _ hk => hk.2) (.bool a0_3)
            refine ⟨_, _, rfl, ?_, Kd.V_mono (Kd.V_below HS1.out hbf) (fun k hk => .inl (.inr hk)), hbf⟩
            rw [← HF2.out]
            exact Kd.V_mono (Kd.R_V (Kd.R_bound hRf)) (fun k hk => .inr hk.2.1)
          | succ k2 =>
            obtain ⟨k, m, n, n7, n31, hk, e1, e2, e2b, e3b, e3, e7, e31, e6, d9, pm, qm⟩ := Mark.turn_nums a i s.size (by have := HI.out; omega) HA.out HQ.out
            have HKS := qM hk
            clear hk
            obtain ⟨y, hy, hc1, hf1⟩ := Mark.byte_at (m := m) HK.out (by rw [HL.out]; exact HC.out) (by rw [HL.out]; exact HKS.out.2.2.2.2.2)
            have HY := qM hy
            clear hy
            go_wp2
            go_region
            go_wp2
            go_roundg k2
            case measure => omega
            case rel => exact ⟨i + 1, (if b * 2 ^ i % 4294967296 / 2147483648 = 1 then Mark.flipL l k else l), (by have := HI.out; refine congrArg (Value.int .i64) ?_; unfold wrap64; omega), ⟨by have := HI.out; omega⟩, ⟨Mark.turned_length _ _ _ _ HL.out⟩, ⟨Mark.turn_on l a i k k2 b _ HKS.out.1 HF.out⟩, ⟨by have h1 := Mark.blk_setF HK.out m (.int .u8 (Go.bits .xor .u8 (y : Int) (Go.bits .and .u32 ((b : Int) / 2 ^ min n31 32) 1 % 256 * 2 ^ (7 - n) % 256))); rw [Mark.turn_cells l z k m n i n31 y b HKS.out.2.1 HKS.out.2.2.1 HY.out (by rw [HL.out]; exact HKS.out.2.2.2.2.2) (by have := Hb.out; omega) HKS.out.2.2.2.2.1] at h1; exact h1⟩, ⟨blk_far B1.out N1.out _⟩, ⟨blk_far B2.out N2.out _⟩, ⟨below_drew1 (below_set HB.out HG.out)⟩⟩

  · rw [if_neg cs] at h
    rw [decide_eq_false cs] at hhas
    have HH := qM hhas
    clear hhas cs
    simp only [Option.some.injEq, Prod.mk.injEq] at h
    obtain ⟨rfl, rfl, rfl, rfl, rfl⟩ := h
    go_enter Try.func22, Try.ntmps22
    go_wp2_with (first | ((with_reducible refine gate_dst (N := 4) rfl ?_); refine box_event ?hg (N := 4) ?hd (cs := #[.slice A0_0 l0_0.length c0_0, .slice A0_1 l0_1.length c0_1, .int .i64 a0_2, .bool a0_3]) (t := 25) ?hr ?_; (case hd => rfl); (case hg => rfl); (case hr => first | (go_simp; done) | (go_simp; rfl)); intro g1 hg w_g1 hk hb; have B1 := qM hk; have G1 := qM (show w.heap.size ≤ g1 by rw [hg]; exact Nat.le_refl _); have HB := qM hb; clear hk hb hg) | ((with_reducible refine gate_dst (N := 8) rfl ?_); refine box_event ?hg (N := 8) ?hd (cs := #[.slice none 0 0, .slice none 0 0, .int .i64 0, .bool false]) (t := 25) ?hr ?_; (case hd => rfl); (case hg => rfl); (case hr => first | (go_simp; done) | (go_simp; rfl)); intro g2 hg w_g2 hk hb; have B2 := qM hk; have NE := qM (show g1 ≠ g2 by have := blk_lt B1.out; rw [hg]; omega); have G2 := qM (show w.heap.size ≤ g2 by rw [hg]; exact HB.out.size); replace B1 := qM (blk_below B1.out hb); replace HB := qM (below_step HB.out hb); obtain ⟨z0, z1, z2, z3, f0, f1, f2, f3⟩ := cells4 B1.out; obtain ⟨y0, y1, y2, y3, j0, j1, j2, j3⟩ := cells4 B2.out; have hne1 := NE.out; have hne2 := Ne.symm NE.out; clear hk hb hg) | (go_at_call 27; (with_reducible refine (disk_has.calls A0_0 c0_0 l0_0 A0_1 c0_1 l0_1 a0_2 a0_3 a1 false _ (Kd.C_below HR0.out HB.out) HC0.out (Kd.C_below HR1.out HB.out) HC1.out HH.out).mono ?_); rintro e w3 ⟨rfl, hb⟩; replace B1 := qM (blk_below B1.out hb); replace B2 := qM (blk_below B2.out hb); replace HB := qM (below_step HB.out hb); clear hb z0 z1 z2 z3 f0 f1 f2 f3 y0 y1 y2 y3 j0 j1 j2 j3; obtain ⟨z0, z1, z2, z3, f0, f1, f2, f3⟩ := cells4 B1.out; obtain ⟨y0, y1, y2, y3, j0, j1, j2, j3⟩ := cells4 B2.out; have hne1 := NE.out; have hne2 := Ne.symm NE.out))
    refine bodyPost_ret (results_ct rfl _ _ g2 25 #[.slice A0_0 l0_0.length c0_0, .slice A0_1 l0_1.length c0_1, .int .i64 a0_2, .bool a0_3] (0, 0) _ rfl (puts4 B2.out) Try.underlying25 rfl (by kernel_rfl)) rfl ?_
    have hbf := below_set (j := 3) (v := .bool a0_3) (below_set (j := 2) (v := .int .i64 a0_2) (below_set (j := 1) (v := .slice A0_1 l0_1.length c0_1) (below_set (j := 0) (v := .slice A0_0 l0_0.length c0_0) HB.out G2.out) G2.out) G2.out) G2.out
    exact ⟨_, _, rfl, Kd.V_mono (Kd.V_below HS0.out hbf) (fun k hk => .inl (.inl hk)), Kd.V_mono (Kd.V_below HS1.out hbf) (fun k hk => .inl (.inr hk)), hbf⟩

end Go.Proofs.Ytmaojfeikbdkhaa.PAll
