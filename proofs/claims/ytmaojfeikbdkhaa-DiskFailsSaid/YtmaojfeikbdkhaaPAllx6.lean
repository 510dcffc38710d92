/- Functions of the program as plain Lean functions, and that each call comes to what they say. Laid by a program of this session (hprint.py); Lean checks it. -/
import Derived.Test.YtmaojfeikbdkhaaPAllx0
namespace Go.Proofs.Ytmaojfeikbdkhaa.PAll
open Go.RowKit Go.Proofs.YtmaojfeikbdkhaaW.PrintWords Go.Proofs.YtmaojfeikbdkhaaW.PrintLast Go.Proofs.YtmaojfeikbdkhaaW.PrintMore
attribute [local go_sem] max2_int min2_int max_two min_two max_three min_three max_four min_four   -- for this text's walks alone
set_option linter.unusedVariables false
set_option linter.unusedSimpArgs false

/-! ### disk_Arm: function 21 -/
def disk_Arm.f (l0_0 : List ByteArray) (l0_1 : List (S47)) (a0_2 : Int) (a0_3 : Bool) (a1 : Int) : Option (List ByteArray × (List (S47)) × Int × Bool) := some (l0_0, l0_1, mx a1 (-1), a0_3)
set_option maxHeartbeats 40000000 in
set_option maxRecDepth 100000 in
theorem disk_Arm.calls (P0_0_ : Nat → Prop) (A0_0 : Option Addr) (c0_0 : Nat) (l0_0 : List ByteArray) (P0_1_ : Nat → Prop) (A0_1 : Option Addr) (c0_1 : Nat) (l0_1 : List (S47)) (a0_2 : Int) (a0_3 : Bool) (a1 : Int) (r1 : List ByteArray) (r2 : List (S47)) (r3 : Int) (r4 : Bool) (w : World) (hs0_0 : Kd.V Kd.string 9 w w.heap.size (fun k_ => P0_0_ k_) (.slice A0_0 l0_0.length c0_0) l0_0) (hs0_1 : Kd.V k47 47 w w.heap.size (fun k_ => P0_1_ k_) (.slice A0_1 l0_1.length c0_1) l0_1) (h : disk_Arm.f l0_0 l0_1 a0_2 a0_3 a1 = some (r1, r2, r3, r4)) :
  Calls Try.prog 21 #[.agg #[.slice A0_0 l0_0.length c0_0, .slice A0_1 l0_1.length c0_1, .int .i64 a0_2, .bool a0_3], .int .i64 a1] w fun e w' => ∃ v0_ v1_ : Value, e = .returned (.agg #[v0_, v1_, .int .i64 r3, .bool r4]) ∧ Kd.V Kd.string 9 w' w.heap.size (fun k_ => ((P0_0_ k_ ∨ P0_1_ k_) ∨ w.heap.size ≤ k_)) v0_ r1 ∧ Kd.V k47 47 w' w.heap.size (fun k_ => ((P0_0_ k_ ∨ P0_1_ k_) ∨ w.heap.size ≤ k_)) v1_ r2 ∧ Below w.heap.size w w' := by
 have hu25 := Try.underlying25
 have HO0_0 := qM (show Kd.V Kd.string 9 w w.heap.size (fun k_ => ((P0_0_ k_ ∨ P0_1_ k_) ∨ w.heap.size ≤ k_)) (.slice A0_0 l0_0.length c0_0) l0_0 from Vm hs0_0 (fun k_ hk => .inl (.inl hk)))
 have HO0_1 := qM (show Kd.V k47 47 w w.heap.size (fun k_ => ((P0_0_ k_ ∨ P0_1_ k_) ∨ w.heap.size ≤ k_)) (.slice A0_1 l0_1.length c0_1) l0_1 from Vm hs0_1 (fun k_ hk => .inl (.inr hk)))
 have HB := qM (Below.refl w.heap.size w)
 have H : (some (l0_0, l0_1, mx a1 (-1), a0_3)) = some (r1, r2, r3, r4) := h
 clear h
 obtain ⟨ji3, hji3⟩ : ∃ j_ : Int, (mx a1 (-1)) = j_ := ⟨_, rfl⟩
 replace H : (some (l0_0, l0_1, ji3, a0_3)) = some (r1, r2, r3, r4) := by first | (rw [hji3] at H; exact H) | (simp only [hji3] at H ⊢; exact H)
 have hji3_ : (if a1 < (-1) then (-1) else a1) = ji3 := hji3
 simp only [Option.some.injEq, Prod.mk.injEq] at H
 obtain ⟨rfl, rfl, rfl, rfl⟩ := H
 go_enter Try.func21, Try.ntmps21
 go_wp2_with (first | ((with_reducible refine gate_dst (N := 2) rfl ?_); refine box_event ?hg (N := 2) ?hd (cs := #[.slice A0_0 l0_0.length c0_0, .slice A0_1 l0_1.length c0_1, .int .i64 a0_2, .bool a0_3]) (t := 25) ?hr ?_; (case hd => rfl); (case hg => rfl); (case hr => first | (go_simp; done) | (go_simp; rfl)); intro g216 hg w4 hbox hb; have n0_ := qM (Vb (Kd.V_elderB (by (with_reducible repeat first | apply VA | apply VN | apply VD); exact HO0_0.out) g216 (Nat.le_of_eq hg.symm)) hb); have n1_ := qM (Vb (Kd.V_elderB (by (with_reducible repeat first | apply VA | apply VN | apply VD); exact HO0_1.out) g216 (Nat.le_of_eq hg.symm)) hb); have n2_ := qM (eT (by repeat (first | (with_reducible first | exact HB.out | apply eA | apply eN | apply eD) | exact HB.out)) hb); have n3_ := qM (hbox); have n4_ := qM ((by rw [hg]; exact (eZ (by repeat (first | (with_reducible first | exact HB.out | apply eA | apply eN | apply eD) | exact HB.out))) : w.heap.size ≤ g216)); have n5_ := n4_; clear HO0_0 HO0_1 HB; have HO0_0 := n0_; have HO0_1 := n1_; have HB := n2_; have B216 := n3_; have GW216 := n4_; have GE216 := n5_; clear n0_ n1_ n2_ n3_ n4_ n5_; clear hb hbox hg) | ((with_reducible refine gate_dst (N := 4) rfl ?_); refine box_event ?hg (N := 4) ?hd (cs := #[.slice none 0 0, .slice none 0 0, .int .i64 0, .bool false]) (t := 25) ?hr ?_; (case hd => rfl); (case hg => rfl); (case hr => first | (go_simp; done) | (go_simp; rfl)); intro g217 hg w5 hbox hb; have n0_ := qM (Vb (Kd.V_elderB (by (with_reducible repeat first | apply VA | apply VN | apply VD); exact HO0_0.out) g217 (Nat.le_of_eq hg.symm)) hb); have n1_ := qM (Vb (Kd.V_elderB (by (with_reducible repeat first | apply VA | apply VN | apply VD); exact HO0_1.out) g217 (Nat.le_of_eq hg.symm)) hb); have n2_ := qM (qB (g := g216) (by (with_reducible repeat first | refine qN ?_ _ | refine qD ?_ | refine qA ?_ _); exact B216.out) hb); have n3_ := qM (eT (by repeat (first | (with_reducible first | exact HB.out | apply eA | apply eN | apply eD | refine eU ?_ (by assumption)) | exact HB.out)) hb); have n4_ := qM (hbox); have n5_ := qM ((by rw [hg]; exact (eZ (by repeat (first | (with_reducible first | exact HB.out | apply eA | apply eN | apply eD | refine eU ?_ (by assumption)) | exact HB.out))) : w.heap.size ≤ g217)); have n6_ := n5_; have n7_ := qM ((by rw [hg]; exact Nat.ne_of_lt (qL (g := g216) (by (with_reducible repeat first | refine qN ?_ _ | refine qD ?_ | refine qA ?_ _); exact B216.out)) : g216 ≠ g217)); have n8_ := qM (Ne.symm n7_.out); clear HO0_0 HO0_1 B216 HB; have HO0_0 := n0_; have HO0_1 := n1_; have B216 := n2_; have HB := n3_; have B217 := n4_; have GW217 := n5_; have GE217 := n6_; have NB216_217 := n7_; have NB217_216 := n8_; clear n0_ n1_ n2_ n3_ n4_ n5_ n6_ n7_ n8_; clear hb hbox hg; have hnb6 := NB216_217.out; have hnc6 := NB217_216.out; obtain ⟨z7_0, z7_1, z7_2, z7_3, f7_0, f7_1, f7_2, f7_3⟩ := cells4 B216.out; obtain ⟨z8_0, z8_1, z8_2, z8_3, f8_0, f8_1, f8_2, f8_3⟩ := cells4 B217.out))
 refine bodyPost_ret (results_cell_row rfl _ _ g217 25 #[.slice A0_0 l0_0.length c0_0, .slice A0_1 l0_1.length c0_1, .int .i64 ji3, .bool a0_3] (0, 0) _ rfl (by (with_reducible repeat first | refine qN ?_ _ | refine qD ?_ | refine qA ?_ _); apply puts4; (with_reducible repeat first | refine qN ?_ _ | refine qD ?_ | refine qA ?_ _); refine qR ?_ NB217_216.out _; (with_reducible repeat first | refine qN ?_ _ | refine qD ?_ | refine qA ?_ _); exact B217.out) Try.underlying25 rfl (by kernel_rfl)) rfl ?_
 exact ⟨_, _, by first | rfl | (simp [errW_none, errW_some] <;> rfl) | (simp only [← hji3]; first | rfl | (simp [errW_none, errW_some] <;> rfl)) | (simp [*, errW_none, errW_some] <;> rfl), by (with_reducible repeat first | apply VA | apply VN | apply VD); exact Vm (Vf (p := ⟨g217, 3, none⟩) (Vf (p := ⟨g217, 2, none⟩) (Vf (p := ⟨g217, 1, none⟩) (Vf (p := ⟨g217, 0, none⟩) (Vf (p := ⟨g216, 2, none⟩) (Vm (Vm HO0_0.out (fun k_ hk => (⟨hk, hk.1.2⟩ : _ ∧ k_ ≠ g216))) (fun k_ hk => (⟨hk, hk.1.2⟩ : _ ∧ k_ ≠ g217))) (fun _ hk => hk.1.2) (.int .i64 ji3)) (fun _ hk => hk.2) (.slice A0_0 l0_0.length c0_0)) (fun _ hk => hk.2) (.slice A0_1 l0_1.length c0_1)) (fun _ hk => hk.2) (.int .i64 ji3)) (fun _ hk => hk.2) (.bool a0_3)) (fun _ hk => hk.1.1.1.1), by (with_reducible repeat first | apply VA | apply VN | apply VD); exact Vm (Vf (p := ⟨g217, 3, none⟩) (Vf (p := ⟨g217, 2, none⟩) (Vf (p := ⟨g217, 1, none⟩) (Vf (p := ⟨g217, 0, none⟩) (Vf (p := ⟨g216, 2, none⟩) (Vm (Vm HO0_1.out (fun k_ hk => (⟨hk, hk.1.2⟩ : _ ∧ k_ ≠ g216))) (fun k_ hk => (⟨hk, hk.1.2⟩ : _ ∧ k_ ≠ g217))) (fun _ hk => hk.1.2) (.int .i64 ji3)) (fun _ hk => hk.2) (.slice A0_0 l0_0.length c0_0)) (fun _ hk => hk.2) (.slice A0_1 l0_1.length c0_1)) (fun _ hk => hk.2) (.int .i64 ji3)) (fun _ hk => hk.2) (.bool a0_3)) (fun _ hk => hk.1.1.1.1), by repeat (first | (with_reducible first | exact HB.out | apply eA | apply eN | apply eD | refine eS ?_ GE216.out | refine eS ?_ GE217.out) | exact HB.out)⟩

/-! ### hogsheadref08_done: function 30 -/
def hogsheadref08_done.l0 : Nat → Int → List ByteArray → Int → List ByteArray → List (S47) → Int → Bool → Option (List ByteArray)
 | 0, _, _, _, _, _, _, _ => none
 | k + 1, x1, x5, x6, x219000, x219001, x219002, x219003 => if x6 < x1 then (if 0 ≤ x6 then (if x6 < (x219001.length : Int) then (if ((rd_T47 x219001 x6).f0) ≥ 0 then (if ((rd_T47 x219001 x6).f0) < (x5.length : Int) then (if 0 ≤ ((rd_T47 x219001 x6).f0) then (hogsheadref08_done.l0 k x1 (x5.set (((rd_T47 x219001 x6).f0) : Int).toNat ((rd_T47 x219001 x6).f1)) (wrap64 (x6 + 1)) x219000 x219001 x219002 x219003) else (none)) else (hogsheadref08_done.l0 k x1 x5 (wrap64 (x6 + 1)) x219000 x219001 x219002 x219003)) else (hogsheadref08_done.l0 k x1 x5 (wrap64 (x6 + 1)) x219000 x219001 x219002 x219003)) else (none)) else (none)) else (some x5)
def hogsheadref08_done.f (k : Nat) (l0_0 : List ByteArray) (l0_1 : List (S47)) (a0_2 : Int) (a0_3 : Bool) (a1 : Int) : Option (List ByteArray) := (some (([] : List ByteArray) : List ByteArray)).bind fun y219 => (if y219.length + l0_0.length < 8796093022208 then (hogsheadref08_done.l0 k a1 (y219 ++ l0_0) 0 l0_0 l0_1 a0_2 a0_3) else (none))
theorem hogsheadref08_done.mono_l : ∀ k, (∀ y0 y1 y2 y3 y4 y5 y6, LeO (hogsheadref08_done.l0 k y0 y1 y2 y3 y4 y5 y6) (hogsheadref08_done.l0 (k + 1) y0 y1 y2 y3 y4 y5 y6))
 | 0 => fun _ _ _ _ _ _ _ r h => by simp [hogsheadref08_done.l0] at h
 | k + 1 => by
  have ih0 := hogsheadref08_done.mono_l k
  ·intro y0 y1 y2 y3 y4 y5 y6
   unfold hogsheadref08_done.l0
   repeat' first
   | (with_reducible exact ih0 _ _ _ _ _ _ _)
   | (with_reducible exact LeO.refl _)
   | (with_reducible exact LeO.none _)
   | (with_reducible refine LeO.ite ?_ ?_)
   | (with_reducible refine LeO.bind ?_ (fun _ => ?_))
   | exact ih0 _ _ _ _ _ _ _
   | exact LeO.none _
   | refine LeO.ite ?_ ?_
   | refine LeO.bind ?_ (fun _ => ?_)
theorem hogsheadref08_done.mono : ∀ a0 a1 a2 a3 a4 k, LeO (hogsheadref08_done.f k a0 a1 a2 a3 a4) (hogsheadref08_done.f (k + 1) a0 a1 a2 a3 a4) := by
 intro a0 a1 a2 a3 a4 k
 have ih0 := hogsheadref08_done.mono_l k
 unfold hogsheadref08_done.f
 repeat' first
   | (with_reducible exact ih0 _ _ _ _ _ _ _)
   | (with_reducible exact LeO.refl _)
   | (with_reducible exact LeO.none _)
   | (with_reducible refine LeO.ite ?_ ?_)
   | (with_reducible refine LeO.bind ?_ (fun _ => ?_))
   | exact ih0 _ _ _ _ _ _ _
   | exact LeO.none _
   | refine LeO.ite ?_ ?_
   | refine LeO.bind ?_ (fun _ => ?_)
set_option maxHeartbeats 40000000 in
set_option maxRecDepth 100000 in
theorem hogsheadref08_done.calls (k : Nat) (A0_0 : Option Addr) (c0_0 : Nat) (l0_0 : List ByteArray) (A0_1 : Option Addr) (c0_1 : Nat) (l0_1 : List (S47)) (a0_2 : Int) (a0_3 : Bool) (a1 : Int) (r : List ByteArray) (w : World) (hr0_0 : Kd.C Kd.string w A0_0 l0_0.length l0_0) (hc0_0 : l0_0.length ≤ c0_0) (hr0_1 : Kd.C k47 w A0_1 l0_1.length l0_1) (hc0_1 : l0_1.length ≤ c0_1) (h : hogsheadref08_done.f k l0_0 l0_1 a0_2 a0_3 a1 = some r) :
  Calls Try.prog 30 #[.agg #[.slice A0_0 l0_0.length c0_0, .slice A0_1 l0_1.length c0_1, .int .i64 a0_2, .bool a0_3], .int .i64 a1] w fun e w' => ∃ v0_ : Value, e = .returned (v0_) ∧ Kd.R Kd.string 9 w' w.heap.size (fun _ => True) v0_ r ∧ Below w.heap.size w w' := by
 have hu25 := Try.underlying25
 have hu47 := Try.underlying47
 have HR0_0 := qM hr0_0
 have HC0_0 := qM hc0_0
 clear hr0_0 hc0_0
 have HR0_1 := qM hr0_1
 have HC0_1 := qM hc0_1
 clear hr0_1 hc0_1
 have HB := qM (Below.refl w.heap.size w)
 have H : ((some (([] : List ByteArray) : List ByteArray)).bind fun y219 => (if y219.length + l0_0.length < 8796093022208 then (hogsheadref08_done.l0 k a1 (y219 ++ l0_0) 0 l0_0 l0_1 a0_2 a0_3) else (none))) = some r := h
 clear h
 obtain ⟨y219, hy219⟩ : ∃ y_ : List ByteArray, y_ = (([] : List ByteArray)) := ⟨_, rfl⟩
 replace H : (if y219.length + l0_0.length < 8796093022208 then (hogsheadref08_done.l0 k a1 (y219 ++ l0_0) 0 l0_0 l0_1 a0_2 a0_3) else (none)) = some r := by first | (rw [hy219]; with_reducible exact H) | (have H2_ := (Option.bind_some _ _).symm.trans H; rw [hy219]; with_reducible exact H2_) | (have H2_ := (Option.bind_some _ _).symm.trans H; with_reducible exact H2_) | with_reducible exact H | (rw [hy219]; exact H) | exact H
 have Ny219 := qM hy219
 clear hy219
 by_cases c3 : y219.length + l0_0.length < 8796093022208
 ·rw [if_pos c3] at H
  have LMc3 := qM c3
  clear c3
  obtain ⟨y222, hy222⟩ : ∃ y_ : List ByteArray, y_ = (y219 ++ l0_0) := ⟨_, rfl⟩
  replace H : (hogsheadref08_done.l0 k a1 y222 0 l0_0 l0_1 a0_2 a0_3) = some r := by first | (rw [hy222]; with_reducible exact H) | (have H2_ := (Option.bind_some _ _).symm.trans H; rw [hy222]; with_reducible exact H2_) | (have H2_ := (Option.bind_some _ _).symm.trans H; with_reducible exact H2_) | with_reducible exact H | (rw [hy222]; exact H) | exact H
  have Ny222 := qM hy222
  clear hy222
  have H' := qM H
  clear H
  go_enter Try.func30, Try.ntmps30
  go_wp2_with (first | ((with_reducible refine gate_dst (N := 2) rfl ?_); (try (refine gate_guard (by rfl) ?_; dsimp only)); refine box_event ?hg (N := 2) ?hd (cs := #[.slice A0_0 l0_0.length c0_0, .slice A0_1 l0_1.length c0_1, .int .i64 a0_2, .bool a0_3]) (t := 25) ?hr ?_; (case hd => rfl); (case hg => rfl); (case hr => first | (go_simp; done) | (go_simp; rfl)); intro g218 hg w4 hbox hb; have n0_ := qM (eT (by repeat (first | (with_reducible first | exact HB.out | apply eA | apply eN | apply eD) | exact HB.out)) hb); have n1_ := qM (hbox); have n2_ := qM ((by rw [hg]; exact (eZ (by repeat (first | (with_reducible first | exact HB.out | apply eA | apply eN | apply eD) | exact HB.out))) : w.heap.size ≤ g218)); have n3_ := n2_; clear HB; have HB := n0_; have B218 := n1_; have GW218 := n2_; have GE218 := n3_; clear n0_ n1_ n2_ n3_; clear hb hbox hg) | ((with_reducible refine gate_dst (N := 8) rfl ?_); (try (refine gate_guard (by rfl) ?_; dsimp only)); refine Kd.R_lit Kd.string _ 9 ?hg (N := 8) ?hd (xs := ([] : List ByteArray)) (inner := []) (ok := fun _ => True) (okp := fun _ => True) ?hr ?hp (fun _ hk => hk) trivial (Below.refl _ _) (Nat.le_refl _) (by simp) ?_; (case hd => rfl); (case hg => rfl); (case hr => first | (go_simp; done) | (go_simp; rfl)); (case hp => exact (Reps.none _ _)); intro v220 w5 ho6 hb hg_ hnew_; clear hg_ hnew_; (first | rw [← Ny219.out] at ho6 | (simp only [Int.reduceToNat] at ho6; rw [← Ny219.out] at ho6)); have n0_ := qM (Kd.R_lower ho6 (eZ (by repeat (first | (with_reducible first | exact HB.out | apply eA | apply eN | apply eD | refine eU ?_ (by assumption)) | exact HB.out)))); have n1_ := qM (qB (g := g218) (by (with_reducible repeat first | refine qN ?_ _ | refine qD ?_ | refine qA ?_ _); exact B218.out) hb); have n2_ := qM (eT (by repeat (first | (with_reducible first | exact HB.out | apply eA | apply eN | apply eD | refine eU ?_ (by assumption)) | exact HB.out)) hb); clear B218 HB; have HO221 := n0_; have B218 := n1_; have HB := n2_; clear n0_ n1_ n2_; clear hb ho6; obtain ⟨z7_0, z7_1, z7_2, z7_3, f7_0, f7_1, f7_2, f7_3⟩ := cells4 B218.out) | ((with_reducible refine gate_builtin (b := .append) (xs := #[.tmp 8, .tmp 10]) rfl ?_); (try (refine gate_guard (by rfl) ?_; dsimp only)); at_builtin; refine Kd.R_append_rows Kd.string (w0 := w) w.heap.size rfl (.tmp 8) (.tmp 10) 22 9 (.string ⟨#[]⟩) 16 rfl Try.underlying22 info9 rfl (by decide) (by omega) v220 y219 l0_0 _ _ _ (fun _ => True) (fun _ => False) rfl rfl ?aO ?aR (fun _ _ h => h) (fun _ h => h.elim) ?aF ?aB ?aS ?aL ?_; (case aR => repeat (first | exact (Kd.C_below HR0_0.out HB.out) | (with_reducible refine Kd.C_alloc ?_ _) | (with_reducible refine Kd.C_drewN ?_ _) | (with_reducible refine Kd.C_drew ?_))); (case aB => exact (by repeat (first | (with_reducible first | exact HB.out | apply eA | apply eN | apply eD | refine eU ?_ (by assumption)) | exact HB.out))); (case aF => exact (fun _ _ => trivial)); (case aO => exact (by (with_reducible repeat first | apply RA | apply RN | apply RD); exact HO221.out)); (case aS => exact (eZ (by repeat (first | (with_reducible first | exact HB.out | apply eA | apply eN | apply eD | refine eU ?_ (by assumption)) | exact HB.out)))); (case aL => have := LMc3.out; omega); intro v223 w8 ho hb hg hat; rw [← Ny222.out] at ho; have n0_ := qM (blk_grown (g := g218) (o := .cells #[.slice A0_0 l0_0.length c0_0, .slice A0_1 l0_1.length c0_1, .int .i64 a0_2, .bool a0_3] 25 (0, 0)) (by (with_reducible repeat first | refine qN ?_ _ | refine qD ?_ | refine qA ?_ _); exact B218.out) hg (Kd.R_ne HO221.out B218.out (by decide))); have n1_ := qM (hb); have n2_ := qM (ho); clear B218 HB HO221; have B218 := n0_; have HB := n1_; have HO224 := n2_; clear n0_ n1_ n2_; clear ho hb hg hat))
  go_loopg [6] k (fun kq v6 w' => ∃ (x5_1 : List ByteArray) (x6_1 : Int), v6 = .int .i64 x6_1 ∧ Aside0 (hogsheadref08_done.l0 kq a1 x5_1 x6_1 l0_0 l0_1 a0_2 a0_3 = some r) ∧ Aside0 (kq ≤ k) ∧ Aside0 (Kd.R Kd.string 9 w' w.heap.size (fun _ => True) v223 x5_1) ∧ Aside0 (w'.heap[g218]? = some (.cells #[(.slice A0_0 l0_0.length c0_0), (.slice A0_1 l0_1.length c0_1), .int .i64 a0_2, .bool a0_3] 25 (0, 0))) ∧ Aside0 (Below w.heap.size w w'))
  case atStart => exact ⟨(y222), (0), (by first | rfl | (simp; done) | (simp [*]; done)), H', ⟨Nat.le_refl _⟩, ⟨by (with_reducible repeat first | apply RA | apply RN | apply RD); exact HO224.out⟩, ⟨by (with_reducible repeat first | refine qN ?_ _ | refine qD ?_ | refine qA ?_ _); exact B218.out⟩, ⟨by repeat (first | (with_reducible first | exact HB.out | apply eA | apply eN | apply eD | refine eS ?_ GE218.out) | exact HB.out)⟩⟩
  case round =>
   clear H'
   try clear p2
   try clear c3
   try clear z7_0
   try clear z7_1
   try clear z7_2
   try clear z7_3
   try clear f7_0
   try clear f7_1
   try clear f7_2
   try clear f7_3
   obtain ⟨x5_1, x6_1, rfl, HA, HK1, HO_5, B218, HB⟩ := hrel
   cases gk with
   | zero => exact absurd HA.out (by simp [hogsheadref08_done.l0])
   | succ k1 =>
    have H := HA.out
    clear HA
    simp only [hogsheadref08_done.l0] at H
    by_cases c9 : x6_1 < a1
    ·rw [if_pos c9] at H
     have c9b0 : decide (x6_1 < a1) = true := decide_eq_true c9
     clear c9
     by_cases c10 : 0 ≤ x6_1
     ·rw [if_pos c10] at H
      have c10b0 : decide (0 ≤ x6_1) = true := decide_eq_true c10
      clear c10
      by_cases c11 : x6_1 < (l0_1.length : Int)
      ·rw [if_pos c11] at H
       have c11b0 : decide (x6_1 < (l0_1.length : Int)) = true := decide_eq_true c11
       clear c11
       by_cases c12 : ((rd_T47 l0_1 x6_1).f0) ≥ 0
       ·rw [if_pos c12] at H
        have c12b0 : decide (0 ≤ ((rd_T47 l0_1 x6_1).f0)) = true := decide_eq_true c12
        clear c12
        by_cases c13 : ((rd_T47 l0_1 x6_1).f0) < (x5_1.length : Int)
        ·rw [if_pos c13] at H
         have c13b0 : decide (((rd_T47 l0_1 x6_1).f0) < (x5_1.length : Int)) = true := decide_eq_true c13
         clear c13
         by_cases c14 : 0 ≤ ((rd_T47 l0_1 x6_1).f0)
         ·rw [if_pos c14] at H
          have c14b0 : decide (0 ≤ ((rd_T47 l0_1 x6_1).f0)) = true := decide_eq_true c14
          clear c14
          obtain ⟨y227, hy227⟩ : ∃ y_ : List ByteArray, y_ = (x5_1.set (((rd_T47 l0_1 x6_1).f0) : Int).toNat ((rd_T47 l0_1 x6_1).f1)) := ⟨_, rfl⟩
          replace H : (hogsheadref08_done.l0 k1 a1 y227 (wrap64 (x6_1 + 1)) l0_0 l0_1 a0_2 a0_3) = some r := by first | (rw [hy227]; with_reducible exact H) | (have H2_ := (Option.bind_some _ _).symm.trans H; rw [hy227]; with_reducible exact H2_) | (have H2_ := (Option.bind_some _ _).symm.trans H; with_reducible exact H2_) | with_reducible exact H | (rw [hy227]; exact H) | exact H
          have Ny227 := qM hy227
          clear hy227
          have H' := qM H
          clear H
          obtain ⟨z16_0, z16_1, z16_2, z16_3, f16_0, f16_1, f16_2, f16_3⟩ := cells4 B218.out
          have p225 : 0 ≤ (x6_1 : Int) := of_decide_eq_true (by first | (with_reducible assumption) | assumption)
          have q225 : x6_1 < (l0_1.length : Int) := of_decide_eq_true (by first | (with_reducible assumption) | assumption)
          obtain ⟨ad225, e225, hx225_0, hx225_1⟩ := at_T47 HR0_1.out x6_1 p225 q225
          cases e225
          replace hx225_0 := (HB.out.cell (World.block_lt_of_cell? w _ hx225_0)).trans hx225_0
          replace hx225_1 := (HB.out.cell (World.block_lt_of_cell? w _ hx225_1)).trans hx225_1
          replace p225 := eq_true p225
          replace q225 := eq_true q225
          go_wp2_with (first | ((with_reducible refine gate_dst (N := 7) rfl ?_); (try (refine gate_guard (by rfl) ?_; dsimp only)); refine box_event ?hg (N := 7) ?hd (cs := #[.int .i64 0, .string (⟨#[]⟩ : ByteArray)]) (t := 47) ?hr ?_; (case hd => rfl); (case hg => rfl); (case hr => first | (go_simp; done) | (go_simp; rfl)); intro g226 hg w17 hbox hb; have n0_ := qM (Kd.R_below (by (with_reducible repeat first | apply RA | apply RN | apply RD); exact HO_5.out) hb); have n1_ := qM (qB (g := g218) (by (with_reducible repeat first | refine qN ?_ _ | refine qD ?_ | refine qA ?_ _); exact B218.out) hb); have n2_ := qM (eT (by repeat (first | (with_reducible first | exact HB.out | apply eA | apply eN | apply eD | refine eU ?_ (by assumption)) | exact HB.out)) hb); have n3_ := qM (hbox); have n4_ := qM ((by rw [hg]; exact (eZ (by repeat (first | (with_reducible first | exact HB.out | apply eA | apply eN | apply eD | refine eU ?_ (by assumption)) | exact HB.out))) : w.heap.size ≤ g226)); have n5_ := n4_; have n6_ := qM ((by rw [hg]; exact Nat.ne_of_lt (qL (g := g218) (by (with_reducible repeat first | refine qN ?_ _ | refine qD ?_ | refine qA ?_ _); exact B218.out)) : g218 ≠ g226)); have n7_ := qM (Ne.symm n6_.out); clear HO_5 B218 HB; have HO_5 := n0_; have B218 := n1_; have HB := n2_; have B226 := n3_; have GW226 := n4_; have GE226 := n5_; have NB218_226 := n6_; have NB226_218 := n7_; clear n0_ n1_ n2_ n3_ n4_ n5_ n6_ n7_; clear hb hbox hg; have hnb18 := NB226_218.out; have hnc18 := NB218_226.out; have z19_0 : w17.cell? ⟨g226, 0, none⟩ = some (.int .i64 0) := (qC B226.out 0).trans rfl; have z19_1 : w17.cell? ⟨g226, 1, none⟩ = some (.string (⟨#[]⟩ : ByteArray)) := (qC B226.out 1).trans rfl; have f19_0 := qF B226.out 0; have f19_1 := qF B226.out 1) | ((with_reducible refine gate_store (t := 47) (p := 7) rfl ?_); refine store_event (t := 47) (p := 7) (v := ?vo_w20) (w1 := ((w17.setCell ⟨g226, 0, none⟩ (.int .i64 ((rd_T47 l0_1 x6_1).f0))).setCell ⟨g226, 1, none⟩ (.string ((rd_T47 l0_1 x6_1).f1)))) ?hg ?ho ?hn ?hr ?_; (case ho => rfl); (case hg => rfl); (case hn => rfl); (case hr => first | (go_simp; done) | (go_simp; rfl)); intro w20 hw; have n0_ : Aside0 (Kd.R Kd.string 9 w20 w.heap.size (fun _ => True) v223 x5_1) := ⟨(by rw [hw]; exact (by (with_reducible repeat first | apply RA | apply RN | apply RD); exact Kd.R_mono (Kd.R_far (p := ⟨g226, 1, none⟩) (Kd.R_far (p := ⟨g226, 0, none⟩) (Kd.R_types HO_5.out B226.out (by decide)) (fun _ hk => hk.2) (.int .i64 ((rd_T47 l0_1 x6_1).f0))) (fun _ hk => hk.2) (.string ((rd_T47 l0_1 x6_1).f1))) (fun _ hk => trivial)))⟩; have n1_ : Aside0 (w20.heap[g218]? = some (.cells #[.slice A0_0 l0_0.length c0_0, .slice (some ad225) l0_1.length c0_1, .int .i64 a0_2, .bool a0_3] 25 (0, 0))) := ⟨(by rw [hw]; exact (by (with_reducible repeat first | refine qN ?_ _ | refine qD ?_ | refine qA ?_ _); (iterate 2 (refine qR ?_ NB218_226.out _; (with_reducible repeat first | refine qN ?_ _ | refine qD ?_ | refine qA ?_ _))); exact B218.out))⟩; have n2_ : Aside0 (w20.heap[g226]? = some (.cells #[.int .i64 ((rd_T47 l0_1 x6_1).f0), .string ((rd_T47 l0_1 x6_1).f1)] 47 (0, 0))) := ⟨(by rw [hw]; exact (by (with_reducible repeat first | refine qN ?_ _ | refine qD ?_ | refine qA ?_ _); refine qP (cs := #[.int .i64 ((rd_T47 l0_1 x6_1).f0), .string (⟨#[]⟩ : ByteArray)]) ?_ 1 _ rfl; (with_reducible repeat first | refine qN ?_ _ | refine qD ?_ | refine qA ?_ _); refine qP (cs := #[.int .i64 0, .string (⟨#[]⟩ : ByteArray)]) ?_ 0 _ rfl; (with_reducible repeat first | refine qN ?_ _ | refine qD ?_ | refine qA ?_ _); exact B226.out))⟩; have n3_ : Aside0 (Below w.heap.size w w20) := ⟨(by rw [hw]; exact (by repeat (first | (with_reducible first | exact HB.out | apply eA | apply eN | apply eD | refine eU ?_ (by assumption)) | exact HB.out)))⟩; clear hw HO_5 B218 B226 HB; have HO_5 := n0_; have B218 := n1_; have B226 := n2_; have HB := n3_; clear n0_ n1_ n2_ n3_; have z21_0 : w20.cell? ⟨g226, 0, none⟩ = some (.int .i64 ((rd_T47 l0_1 x6_1).f0)) := (qC B226.out 0).trans rfl; have z21_1 : w20.cell? ⟨g226, 1, none⟩ = some (.string ((rd_T47 l0_1 x6_1).f1)) := (qC B226.out 1).trans rfl; have f21_0 := qF B226.out 0; have f21_1 := qF B226.out 1; obtain ⟨Ao22, co22, eo22⟩ := Kd.R_slice HO_5.out; subst eo22; have p15 : 0 ≤ (((rd_T47 l0_1 x6_1).f0) : Int) := of_decide_eq_true (by first | (with_reducible assumption) | assumption); have q15 : (((rd_T47 l0_1 x6_1).f0) : Int) < ((x5_1.length : Int) : Int) := of_decide_eq_true (by first | (with_reducible assumption) | assumption); obtain ⟨go15, co15, eo15, g15, gl15, cl15, HG15⟩ := Kd.R_form HO_5.out (by omega); (first | cases eo15 | (injection eo15 with ea_ en_ ec_; (first | subst ea_ | (injection ea_ with ea_; subst ea_)); subst ec_; clear en_)); have GB15 := qM g15; have GG15 := qM HG15; clear g15 gl15 HG15; obtain ⟨hx15_0, hf15_0⟩ := Kd.R_celln (⟨#[]⟩ : ByteArray) HO_5.out (((rd_T47 l0_1 x6_1).f0) : Int) p15 q15; replace p15 := eq_true p15; replace q15 := eq_true q15; obtain ⟨hy23_, hz23_⟩ := Kd.R_celln (⟨#[]⟩ : ByteArray) HO_5.out (((rd_T47 l0_1 x6_1).f0) : Int) (of_decide_eq_true (by first | (with_reducible assumption) | assumption)) (of_decide_eq_true (by first | (with_reducible assumption) | assumption)); have HP23 := Kd.R_putg HO_5.out (((rd_T47 l0_1 x6_1).f0) : Int) ((rd_T47 l0_1 x6_1).f1)) | ((with_reducible refine gate_store (t := 9) (p := 37) rfl ?_); refine store_event (t := 9) (p := 37) (v := ?vo_w24) (w1 := (w20.setCell ⟨go15, (((rd_T47 l0_1 x6_1).f0) : Int).toNat, none⟩ (.string ((rd_T47 l0_1 x6_1).f1)))) ?hg ?ho ?hn ?hr ?_; (case ho => rfl); (case hg => rfl); (case hn => rfl); (case hr => first | (go_simp; done) | (go_simp; rfl)); intro w24 hw; have hg : w20.grownBy w24 (some go15) := (by rw [hw]; exact HP23.2); have hp_ : Kd.R Kd.string 9 w24 w.heap.size (fun _ => True) (.slice (some ⟨go15, 0, none⟩) x5_1.length co22) y227 := (by rw [hw, Ny227.out]; exact HP23.1); clear HP23; have n0_ := qM (hp_); have n1_ := qM (blk_grown (g := g218) (o := .cells #[.slice A0_0 l0_0.length c0_0, .slice (some ad225) l0_1.length c0_1, .int .i64 a0_2, .bool a0_3] 25 (0, 0)) (by (with_reducible repeat first | refine qN ?_ _ | refine qD ?_ | refine qA ?_ _); exact B218.out) hg (Kd.R_ne HO_5.out B218.out (by decide))); have n2_ := qM (blk_grown (g := g226) (o := .cells #[.int .i64 ((rd_T47 l0_1 x6_1).f0), .string ((rd_T47 l0_1 x6_1).f1)] 47 (0, 0)) (by (with_reducible repeat first | refine qN ?_ _ | refine qD ?_ | refine qA ?_ _); exact B226.out) hg (Kd.R_ne HO_5.out B226.out (by decide))); have n3_ := qM ((by rw [hw]; exact below_set (HB.out) GB15.out : Below w.heap.size w w24)); clear HO_5 B218 B226 HB; have HO_5 := n0_; have B218 := n1_; have B226 := n2_; have HB := n3_; clear n0_ n1_ n2_ n3_; clear hg hw hp_))
          go_roundg k1
          case measure => have := HK1.out; omega
          case rel => exact ⟨(y227), (wrap64 (x6_1 + 1)), (by first | rfl | (simp; done) | (simp [*]; done)), H', ⟨by have := HK1.out; omega⟩, ⟨by (with_reducible repeat first | apply RA | apply RN | apply RD); exact HO_5.out⟩, ⟨by (with_reducible repeat first | refine qN ?_ _ | refine qD ?_ | refine qA ?_ _); exact B218.out⟩, ⟨by repeat (first | (with_reducible first | exact HB.out | apply eA | apply eN | apply eD | refine eS ?_ GE218.out | refine eS ?_ GE226.out) | exact HB.out)⟩⟩
         ·rw [if_neg c14] at H
          exact absurd H (by simp)
        ·rw [if_neg c13] at H
         have c13b0 : decide (((rd_T47 l0_1 x6_1).f0) < (x5_1.length : Int)) = false := decide_eq_false c13
         clear c13
         have H' := qM H
         clear H
         obtain ⟨z25_0, z25_1, z25_2, z25_3, f25_0, f25_1, f25_2, f25_3⟩ := cells4 B218.out
         have p225 : 0 ≤ (x6_1 : Int) := of_decide_eq_true (by first | (with_reducible assumption) | assumption)
         have q225 : x6_1 < (l0_1.length : Int) := of_decide_eq_true (by first | (with_reducible assumption) | assumption)
         obtain ⟨ad225, e225, hx225_0, hx225_1⟩ := at_T47 HR0_1.out x6_1 p225 q225
         cases e225
         replace hx225_0 := (HB.out.cell (World.block_lt_of_cell? w _ hx225_0)).trans hx225_0
         replace hx225_1 := (HB.out.cell (World.block_lt_of_cell? w _ hx225_1)).trans hx225_1
         replace p225 := eq_true p225
         replace q225 := eq_true q225
         go_wp2_with (first | ((with_reducible refine gate_dst (N := 7) rfl ?_); (try (refine gate_guard (by rfl) ?_; dsimp only)); refine box_event ?hg (N := 7) ?hd (cs := #[.int .i64 0, .string (⟨#[]⟩ : ByteArray)]) (t := 47) ?hr ?_; (case hd => rfl); (case hg => rfl); (case hr => first | (go_simp; done) | (go_simp; rfl)); intro g226 hg w26 hbox hb; have n0_ := qM (Kd.R_below (by (with_reducible repeat first | apply RA | apply RN | apply RD); exact HO_5.out) hb); have n1_ := qM (qB (g := g218) (by (with_reducible repeat first | refine qN ?_ _ | refine qD ?_ | refine qA ?_ _); exact B218.out) hb); have n2_ := qM (eT (by repeat (first | (with_reducible first | exact HB.out | apply eA | apply eN | apply eD | refine eU ?_ (by assumption)) | exact HB.out)) hb); have n3_ := qM (hbox); have n4_ := qM ((by rw [hg]; exact (eZ (by repeat (first | (with_reducible first | exact HB.out | apply eA | apply eN | apply eD | refine eU ?_ (by assumption)) | exact HB.out))) : w.heap.size ≤ g226)); have n5_ := n4_; have n6_ := qM ((by rw [hg]; exact Nat.ne_of_lt (qL (g := g218) (by (with_reducible repeat first | refine qN ?_ _ | refine qD ?_ | refine qA ?_ _); exact B218.out)) : g218 ≠ g226)); have n7_ := qM (Ne.symm n6_.out); clear HO_5 B218 HB; have HO_5 := n0_; have B218 := n1_; have HB := n2_; have B226 := n3_; have GW226 := n4_; have GE226 := n5_; have NB218_226 := n6_; have NB226_218 := n7_; clear n0_ n1_ n2_ n3_ n4_ n5_ n6_ n7_; clear hb hbox hg; have hnb27 := NB226_218.out; have hnc27 := NB218_226.out; have z28_0 : w26.cell? ⟨g226, 0, none⟩ = some (.int .i64 0) := (qC B226.out 0).trans rfl; have z28_1 : w26.cell? ⟨g226, 1, none⟩ = some (.string (⟨#[]⟩ : ByteArray)) := (qC B226.out 1).trans rfl; have f28_0 := qF B226.out 0; have f28_1 := qF B226.out 1; obtain ⟨Ao29, co29, eo29⟩ := Kd.R_slice HO_5.out; subst eo29))
         go_roundg k1
         case measure => have := HK1.out; omega
         case rel => exact ⟨(x5_1), (wrap64 (x6_1 + 1)), (by first | rfl | (simp; done) | (simp [*]; done)), H', ⟨by have := HK1.out; omega⟩, ⟨by (with_reducible repeat first | apply RA | apply RN | apply RD); exact Kd.R_mono (Kd.R_far (p := ⟨g226, 1, none⟩) (Kd.R_far (p := ⟨g226, 0, none⟩) (Kd.R_types HO_5.out B226.out (by decide)) (fun _ hk => hk.2) (.int .i64 ((rd_T47 l0_1 x6_1).f0))) (fun _ hk => hk.2) (.string ((rd_T47 l0_1 x6_1).f1))) (fun _ hk => trivial)⟩, ⟨by (with_reducible repeat first | refine qN ?_ _ | refine qD ?_ | refine qA ?_ _); (iterate 2 (refine qR ?_ NB218_226.out _; (with_reducible repeat first | refine qN ?_ _ | refine qD ?_ | refine qA ?_ _))); exact B218.out⟩, ⟨by repeat (first | (with_reducible first | exact HB.out | apply eA | apply eN | apply eD | refine eS ?_ GE218.out | refine eS ?_ GE226.out) | exact HB.out)⟩⟩
       ·rw [if_neg c12] at H
        have c12b0 : decide (0 ≤ ((rd_T47 l0_1 x6_1).f0)) = false := decide_eq_false c12
        clear c12
        have H' := qM H
        clear H
        obtain ⟨z30_0, z30_1, z30_2, z30_3, f30_0, f30_1, f30_2, f30_3⟩ := cells4 B218.out
        have p225 : 0 ≤ (x6_1 : Int) := of_decide_eq_true (by first | (with_reducible assumption) | assumption)
        have q225 : x6_1 < (l0_1.length : Int) := of_decide_eq_true (by first | (with_reducible assumption) | assumption)
        obtain ⟨ad225, e225, hx225_0, hx225_1⟩ := at_T47 HR0_1.out x6_1 p225 q225
        cases e225
        replace hx225_0 := (HB.out.cell (World.block_lt_of_cell? w _ hx225_0)).trans hx225_0
        replace hx225_1 := (HB.out.cell (World.block_lt_of_cell? w _ hx225_1)).trans hx225_1
        replace p225 := eq_true p225
        replace q225 := eq_true q225
        go_wp2_with (first | ((with_reducible refine gate_dst (N := 7) rfl ?_); (try (refine gate_guard (by rfl) ?_; dsimp only)); refine box_event ?hg (N := 7) ?hd (cs := #[.int .i64 0, .string (⟨#[]⟩ : ByteArray)]) (t := 47) ?hr ?_; (case hd => rfl); (case hg => rfl); (case hr => first | (go_simp; done) | (go_simp; rfl)); intro g226 hg w31 hbox hb; have n0_ := qM (Kd.R_below (by (with_reducible repeat first | apply RA | apply RN | apply RD); exact HO_5.out) hb); have n1_ := qM (qB (g := g218) (by (with_reducible repeat first | refine qN ?_ _ | refine qD ?_ | refine qA ?_ _); exact B218.out) hb); have n2_ := qM (eT (by repeat (first | (with_reducible first | exact HB.out | apply eA | apply eN | apply eD | refine eU ?_ (by assumption)) | exact HB.out)) hb); have n3_ := qM (hbox); have n4_ := qM ((by rw [hg]; exact (eZ (by repeat (first | (with_reducible first | exact HB.out | apply eA | apply eN | apply eD | refine eU ?_ (by assumption)) | exact HB.out))) : w.heap.size ≤ g226)); have n5_ := n4_; have n6_ := qM ((by rw [hg]; exact Nat.ne_of_lt (qL (g := g218) (by (with_reducible repeat first | refine qN ?_ _ | refine qD ?_ | refine qA ?_ _); exact B218.out)) : g218 ≠ g226)); have n7_ := qM (Ne.symm n6_.out); clear HO_5 B218 HB; have HO_5 := n0_; have B218 := n1_; have HB := n2_; have B226 := n3_; have GW226 := n4_; have GE226 := n5_; have NB218_226 := n6_; have NB226_218 := n7_; clear n0_ n1_ n2_ n3_ n4_ n5_ n6_ n7_; clear hb hbox hg; have hnb32 := NB226_218.out; have hnc32 := NB218_226.out; have z33_0 : w31.cell? ⟨g226, 0, none⟩ = some (.int .i64 0) := (qC B226.out 0).trans rfl; have z33_1 : w31.cell? ⟨g226, 1, none⟩ = some (.string (⟨#[]⟩ : ByteArray)) := (qC B226.out 1).trans rfl; have f33_0 := qF B226.out 0; have f33_1 := qF B226.out 1))
        go_roundg k1
        case measure => have := HK1.out; omega
        case rel => exact ⟨(x5_1), (wrap64 (x6_1 + 1)), (by first | rfl | (simp; done) | (simp [*]; done)), H', ⟨by have := HK1.out; omega⟩, ⟨by (with_reducible repeat first | apply RA | apply RN | apply RD); exact Kd.R_mono (Kd.R_far (p := ⟨g226, 1, none⟩) (Kd.R_far (p := ⟨g226, 0, none⟩) (Kd.R_types HO_5.out B226.out (by decide)) (fun _ hk => hk.2) (.int .i64 ((rd_T47 l0_1 x6_1).f0))) (fun _ hk => hk.2) (.string ((rd_T47 l0_1 x6_1).f1))) (fun _ hk => trivial)⟩, ⟨by (with_reducible repeat first | refine qN ?_ _ | refine qD ?_ | refine qA ?_ _); (iterate 2 (refine qR ?_ NB218_226.out _; (with_reducible repeat first | refine qN ?_ _ | refine qD ?_ | refine qA ?_ _))); exact B218.out⟩, ⟨by repeat (first | (with_reducible first | exact HB.out | apply eA | apply eN | apply eD | refine eS ?_ GE218.out | refine eS ?_ GE226.out) | exact HB.out)⟩⟩
      ·rw [if_neg c11] at H
       exact absurd H (by simp)
     ·rw [if_neg c10] at H
      exact absurd H (by simp)
    ·rw [if_neg c9] at H
     have c9b0 : decide (x6_1 < a1) = false := decide_eq_false c9
     clear c9
     obtain rfl := Option.some.inj H
     go_wp2
     go_ret
     exact ⟨_, by first | rfl | (simp [errW_none, errW_some] <;> rfl) | (simp [*, errW_none, errW_some] <;> rfl), by (with_reducible repeat first | apply RA | apply RN | apply RD); exact HO_5.out, by repeat (first | (with_reducible first | exact HB.out | apply eA | apply eN | apply eD | refine eS ?_ GE218.out) | exact HB.out)⟩
 ·rw [if_neg c3] at H
  exact absurd H (by simp)

end Go.Proofs.Ytmaojfeikbdkhaa.PAll
