/- Functions of the program as plain Lean functions, and that each call comes to what they say. Laid by a program of this session (hprint.py); Lean checks it. -/
import Derived.Test.YtmaojfeikbdkhaaPAllx0
import Derived.Test.YtmaojfeikbdkhaaPAllx2
namespace Go.Proofs.Ytmaojfeikbdkhaa.PAll
open Go.RowKit Go.Proofs.YtmaojfeikbdkhaaW.PrintWords Go.Proofs.YtmaojfeikbdkhaaW.PrintLast Go.Proofs.YtmaojfeikbdkhaaW.PrintMore
attribute [local go_sem] max2_int min2_int max_two min_two max_three min_three max_four min_four   -- for this text's walks alone
set_option linter.unusedVariables false
set_option linter.unusedSimpArgs false

/-! ### disk_Crash: function 20 -/
def disk_Crash.j0 : Nat → Int → Int → List ByteArray → Bool → List ByteArray → List (S47) → Int → Bool → Option (List ByteArray × (List (S47)) × Int × Bool)
 | 0, _, _, _, _, _, _, _, _ => none
 | k + 1, x2, x7, x8, x27, x129000, x129001, x129002, x129003 => if x27 = true then (if 0 ≤ x7 then (if x7 < (x129001.length : Int) then ((disk_has.f x129000 x129001 x129002 x129003 ((rd_T47 x129001 x7).f0)).bind fun t135 => (if t135 = true then (if 0 ≤ (mn x2 (((rd_T47 x129001 x7).f1).size : Int)) then (if (mn x2 (((rd_T47 x129001 x7).f1).size : Int)) ≤ (((rd_T47 x129001 x7).f1).size : Int) then (if 0 ≤ ((rd_T47 x129001 x7).f0) then (if ((rd_T47 x129001 x7).f0) < (x8.length : Int) then (some ((x8.set (((rd_T47 x129001 x7).f0) : Int).toNat (((rd_T47 x129001 x7).f1).extract 0 ((mn x2 (((rd_T47 x129001 x7).f1).size : Int)) : Int).toNat)), ([] : List (S47)), (-1), false)) else (none)) else (none)) else (none)) else (none)) else (some (x8, ([] : List (S47)), (-1), false)))) else (none)) else (none)) else (some (x8, ([] : List (S47)), (-1), false))
def disk_Crash.f (k : Nat) (l0_0 : List ByteArray) (l0_1 : List (S47)) (a0_2 : Int) (a0_3 : Bool) (a1 : Int) (a2 : Int) : Option (List ByteArray × (List (S47)) × Int × Bool) := (disk_done.f k l0_0 l0_1 a0_2 a0_3 (mn (mx a1 0) (l0_1.length : Int))).bind fun t130 => (if (mn (mx a1 0) (l0_1.length : Int)) < (l0_1.length : Int) then (disk_Crash.j0 k a2 (mn (mx a1 0) (l0_1.length : Int)) t130 (decide (a2 ≥ 0)) l0_0 l0_1 a0_2 a0_3) else (disk_Crash.j0 k a2 (mn (mx a1 0) (l0_1.length : Int)) t130 false l0_0 l0_1 a0_2 a0_3))
theorem disk_Crash.mono_l : ∀ k, (∀ y0 y1 y2 y3 y4 y5 y6 y7, LeO (disk_Crash.j0 k y0 y1 y2 y3 y4 y5 y6 y7) (disk_Crash.j0 (k + 1) y0 y1 y2 y3 y4 y5 y6 y7))
 | 0 => fun _ _ _ _ _ _ _ _ r h => by simp [disk_Crash.j0] at h
 | k + 1 => by
  have ih0 := disk_Crash.mono_l k
  ·intro y0 y1 y2 y3 y4 y5 y6 y7
   unfold disk_Crash.j0
   repeat' first
   | (with_reducible exact ih0 _ _ _ _ _ _ _ _)
   | (with_reducible exact disk_done.mono _ _ _ _ _ _)
   | (with_reducible exact LeO.refl _)
   | (with_reducible exact LeO.none _)
   | (with_reducible refine LeO.ite ?_ ?_)
   | (with_reducible refine LeO.bind ?_ (fun _ => ?_))
   | exact ih0 _ _ _ _ _ _ _ _
   | exact disk_done.mono _ _ _ _ _ _
   | exact LeO.none _
   | refine LeO.ite ?_ ?_
   | refine LeO.bind ?_ (fun _ => ?_)
theorem disk_Crash.mono : ∀ a0 a1 a2 a3 a4 a5 k, LeO (disk_Crash.f k a0 a1 a2 a3 a4 a5) (disk_Crash.f (k + 1) a0 a1 a2 a3 a4 a5) := by
 intro a0 a1 a2 a3 a4 a5 k
 have ih0 := disk_Crash.mono_l k
 unfold disk_Crash.f
 repeat' first
   | (with_reducible exact ih0 _ _ _ _ _ _ _ _)
   | (with_reducible exact disk_done.mono _ _ _ _ _ _)
   | (with_reducible exact LeO.refl _)
   | (with_reducible exact LeO.none _)
   | (with_reducible refine LeO.ite ?_ ?_)
   | (with_reducible refine LeO.bind ?_ (fun _ => ?_))
   | exact ih0 _ _ _ _ _ _ _ _
   | exact disk_done.mono _ _ _ _ _ _
   | exact LeO.none _
   | refine LeO.ite ?_ ?_
   | refine LeO.bind ?_ (fun _ => ?_)
def disk_Crash.T6 : Bool × List (List Nat × List Nat) := (true, [([], []), ([], []), ([1], [1]), ([], []), ([3], [3]), ([], []), ([], []), ([6], [6]), ([7], [7]), ([5, 8], [5, 8]), ([4, 9], [4, 9]), ([0, 2, 0, 1, 2, 3, 4, 5, 6, 7, 8, 9, 10], [0, 2]), ([11, 10, 0, 1, 2, 3, 4, 5, 6, 7, 8, 9, 10], [10, 11])])
def disk_Crash.B6 : List Nat := [0, 0, 2, 0, 8, 0, 0, 64, 192, 480, 1016, 2047, 4095]
theorem disk_Crash.tab6 : rtab .any (opsOf Try.f20 6) = disk_Crash.T6 := by kernel_rfl
theorem disk_Crash.bits6 : waitsOk disk_Crash.T6.2 disk_Crash.B6 = true := by kernel_rfl
set_option maxHeartbeats 40000000 in
set_option maxRecDepth 100000 in
theorem disk_Crash.calls (k : Nat) (A0_0 : Option Addr) (c0_0 : Nat) (l0_0 : List ByteArray) (A0_1 : Option Addr) (c0_1 : Nat) (l0_1 : List (S47)) (a0_2 : Int) (a0_3 : Bool) (a1 : Int) (a2 : Int) (r1 : List ByteArray) (r2 : List (S47)) (r3 : Int) (r4 : Bool) (w : World) (hr0_0 : Kd.C Kd.string w A0_0 l0_0.length l0_0) (hc0_0 : l0_0.length ≤ c0_0) (hr0_1 : Kd.C k47 w A0_1 l0_1.length l0_1) (hc0_1 : l0_1.length ≤ c0_1) (h : disk_Crash.f k l0_0 l0_1 a0_2 a0_3 a1 a2 = some (r1, r2, r3, r4)) :
  Calls Try.prog 20 #[.agg #[.slice A0_0 l0_0.length c0_0, .slice A0_1 l0_1.length c0_1, .int .i64 a0_2, .bool a0_3], .int .i64 a1, .int .i64 a2] w fun e w' => ∃ v0_ v1_ : Value, e = .returned (.agg #[v0_, v1_, .int .i64 r3, .bool r4]) ∧ Kd.R Kd.string 9 w' w.heap.size (fun _ => True) v0_ r1 ∧ Kd.R k47 47 w' w.heap.size (fun _ => True) v1_ r2 ∧ Below w.heap.size w w' := by
 have hu25 := Try.underlying25
 have hu47 := Try.underlying47
 have HR0_0 := qM hr0_0
 have HC0_0 := qM hc0_0
 clear hr0_0 hc0_0
 have HR0_1 := qM hr0_1
 have HC0_1 := qM hc0_1
 clear hr0_1 hc0_1
 have HB := qM (Below.refl w.heap.size w)
 have H : ((disk_done.f k l0_0 l0_1 a0_2 a0_3 (mn (mx a1 0) (l0_1.length : Int))).bind fun t130 => (if (mn (mx a1 0) (l0_1.length : Int)) < (l0_1.length : Int) then (disk_Crash.j0 k a2 (mn (mx a1 0) (l0_1.length : Int)) t130 (decide (a2 ≥ 0)) l0_0 l0_1 a0_2 a0_3) else (disk_Crash.j0 k a2 (mn (mx a1 0) (l0_1.length : Int)) t130 false l0_0 l0_1 a0_2 a0_3))) = some (r1, r2, r3, r4) := h
 clear h
 obtain ⟨ji4, hji4⟩ : ∃ j_ : Int, (mx a1 0) = j_ := ⟨_, rfl⟩
 replace H : ((disk_done.f k l0_0 l0_1 a0_2 a0_3 (mn (ji4) (l0_1.length : Int))).bind fun t130 => (if (mn (ji4) (l0_1.length : Int)) < (l0_1.length : Int) then (disk_Crash.j0 k a2 (mn (ji4) (l0_1.length : Int)) t130 (decide (a2 ≥ 0)) l0_0 l0_1 a0_2 a0_3) else (disk_Crash.j0 k a2 (mn (ji4) (l0_1.length : Int)) t130 false l0_0 l0_1 a0_2 a0_3))) = some (r1, r2, r3, r4) := by first | (rw [hji4] at H; exact H) | (simp only [hji4] at H ⊢; exact H)
 (try (have hji4l : 0 ≤ ji4 := by (rw [← hji4]; unfold mx; (repeat' split) <;> omega)))
 (try (have hji4m : 0 ≤ ji4 := by omega))
 have hji4_ : (if a1 < 0 then 0 else a1) = ji4 := hji4
 obtain ⟨ji5, hji5⟩ : ∃ j_ : Int, (mn (ji4) (l0_1.length : Int)) = j_ := ⟨_, rfl⟩
 replace H : ((disk_done.f k l0_0 l0_1 a0_2 a0_3 (ji5)).bind fun t130 => (if (ji5) < (l0_1.length : Int) then (disk_Crash.j0 k a2 ji5 t130 (decide (a2 ≥ 0)) l0_0 l0_1 a0_2 a0_3) else (disk_Crash.j0 k a2 ji5 t130 false l0_0 l0_1 a0_2 a0_3))) = some (r1, r2, r3, r4) := by first | (rw [hji5] at H; exact H) | (simp only [hji5] at H ⊢; exact H)
 have hji5_ : (if (l0_1.length : Int) < (ji4) then (l0_1.length : Int) else (ji4)) = ji5 := hji5
 replace H := Option.bind_eq_some_iff.mp H
 obtain ⟨t130, A60, H⟩ := H
 replace H : (if (ji5) < (l0_1.length : Int) then (disk_Crash.j0 k a2 ji5 t130 (decide (a2 ≥ 0)) l0_0 l0_1 a0_2 a0_3) else (disk_Crash.j0 k a2 ji5 t130 false l0_0 l0_1 a0_2 a0_3)) = some (r1, r2, r3, r4) := H
 have A6 := qM A60
 clear A60
 have HC7 := qM H
 clear H
 go_enter Try.func20, Try.ntmps20
 go_upto_region 3 with (first | ((with_reducible refine gate_dst (N := 3) rfl ?_); refine box_event ?hg (N := 3) ?hd (cs := #[.slice A0_0 l0_0.length c0_0, .slice A0_1 l0_1.length c0_1, .int .i64 a0_2, .bool a0_3]) (t := 25) ?hr ?_; (case hd => rfl); (case hg => rfl); (case hr => first | (go_simp; done) | (go_simp; rfl)); intro g128 hg w8 hbox hb; have n0_ := qM (eT (by repeat (first | (with_reducible first | exact HB.out | apply eA | apply eN | apply eD) | exact HB.out)) hb); have n1_ := qM (hbox); have n2_ := qM ((by rw [hg]; exact (eZ (by repeat (first | (with_reducible first | exact HB.out | apply eA | apply eN | apply eD) | exact HB.out))) : w.heap.size ≤ g128)); have n3_ := n2_; clear HB; have HB := n0_; have B128 := n1_; have GW128 := n2_; have GE128 := n3_; clear n0_ n1_ n2_ n3_; clear hb hbox hg) | ((with_reducible refine gate_dst (N := 6) rfl ?_); refine box_event ?hg (N := 6) ?hd (cs := #[.slice none 0 0, .slice none 0 0, .int .i64 0, .bool false]) (t := 25) ?hr ?_; (case hd => rfl); (case hg => rfl); (case hr => first | (go_simp; done) | (go_simp; rfl)); intro g129 hg w9 hbox hb; have n0_ := qM (qB (g := g128) (by (with_reducible repeat first | refine qN ?_ _ | refine qD ?_ | refine qA ?_ _); exact B128.out) hb); have n1_ := qM (eT (by repeat (first | (with_reducible first | exact HB.out | apply eA | apply eN | apply eD | refine eU ?_ (by assumption)) | exact HB.out)) hb); have n2_ := qM (hbox); have n3_ := qM ((by rw [hg]; exact (eZ (by repeat (first | (with_reducible first | exact HB.out | apply eA | apply eN | apply eD | refine eU ?_ (by assumption)) | exact HB.out))) : w.heap.size ≤ g129)); have n4_ := n3_; have n5_ := qM ((by rw [hg]; exact Nat.ne_of_lt (qL (g := g128) (by (with_reducible repeat first | refine qN ?_ _ | refine qD ?_ | refine qA ?_ _); exact B128.out)) : g128 ≠ g129)); have n6_ := qM (Ne.symm n5_.out); clear B128 HB; have B128 := n0_; have HB := n1_; have B129 := n2_; have GW129 := n3_; have GE129 := n4_; have NB128_129 := n5_; have NB129_128 := n6_; clear n0_ n1_ n2_ n3_ n4_ n5_ n6_; clear hb hbox hg; have hnb10 := NB128_129.out; have hnc10 := NB129_128.out; obtain ⟨z11_0, z11_1, z11_2, z11_3, f11_0, f11_1, f11_2, f11_3⟩ := cells4 B128.out) | ((with_reducible refine gate_callee (f := 29) rfl ?_); refine goesL_ (some 18) rfl rfl Try.func29 (by kernel_rfl) rfl #[.agg #[.slice A0_0 l0_0.length c0_0, .slice A0_1 l0_1.length c0_1, .int .i64 a0_2, .bool a0_3], .int .i64 ji5] rfl (by (try simp only [List.map_toArray, List.map_cons, List.map_nil]); first | done | (simp only [hji5]; rfl) | rfl | (simp only [List.length_drop, List.length_take]; rfl)) ?_; (with_reducible refine (disk_done.calls k _ _ l0_0 _ _ l0_1 a0_2 a0_3 ji5 t130 _ ?side1 ?side2 ?side3 ?side4 A6.out).mono ?_); (case side1 => repeat (first | exact (Kd.C_below HR0_0.out HB.out) | (with_reducible refine Kd.C_alloc ?_ _) | (with_reducible refine Kd.C_drewN ?_ _) | (with_reducible refine Kd.C_drew ?_))); (case side2 => exact HC0_0.out); (case side3 => repeat (first | exact (Kd.C_below HR0_1.out HB.out) | (with_reducible refine Kd.C_alloc ?_ _) | (with_reducible refine Kd.C_drewN ?_ _) | (with_reducible refine Kd.C_drew ?_))); (case side4 => exact HC0_1.out); rintro e w12 ⟨v131, rfl, ho0, hb⟩; refine ⟨_, rfl, ?_⟩; have n0_ := qM (Kd.R_lower ho0 (eZ (by repeat (first | (with_reducible first | exact HB.out | apply eA | apply eN | apply eD | refine eU ?_ (by assumption)) | exact HB.out)))); have n1_ := qM (qB (g := g128) (by (with_reducible repeat first | refine qN ?_ _ | refine qD ?_ | refine qA ?_ _); exact B128.out) hb); have n2_ := qM (qB (g := g129) (by (with_reducible repeat first | refine qN ?_ _ | refine qD ?_ | refine qA ?_ _); exact B129.out) hb); have n3_ := qM (eT (by repeat (first | (with_reducible first | exact HB.out | apply eA | apply eN | apply eD | refine eU ?_ (by assumption)) | exact HB.out)) hb); clear B128 B129 HB; have HO132 := n0_; have B128 := n1_; have B129 := n2_; have HB := n3_; clear n0_ n1_ n2_ n3_; (try clear hb); (try clear hb2); (try clear hk); (try clear hi); (try clear ho0)))
 (try simp only [Act.put, List.setIfInBounds_toArray, List.set_cons_zero, List.set_cons_succ])
 go_cut [27] (fun v27 wc => ∃ (kq : Nat) (x27_6 : Bool), v27 = .bool x27_6 ∧ Aside0 (disk_Crash.j0 kq a2 ji5 t130 x27_6 l0_0 l0_1 a0_2 a0_3 = some (r1, r2, r3, r4)) ∧ Aside0 (kq ≤ k) ∧ Aside0 (Kd.R Kd.string 9 wc w.heap.size (fun _ => True) v131 t130) ∧ Aside0 (wc.heap[g128]? = some (.cells #[(.slice A0_0 l0_0.length c0_0), (.slice A0_1 l0_1.length c0_1), .int .i64 a0_2, .bool a0_3] 25 (0, 0))) ∧ Aside0 (wc.heap[g129]? = some (.cells #[(.slice none 0 0), (.slice none 0 0), .int .i64 0, .bool false] 25 (0, 0))) ∧ Aside0 (Below w.heap.size w wc))
 case first =>
  have H := HC7.out
  clear HC7
  by_cases c13 : (ji5) < (l0_1.length : Int)
  ·rw [if_pos c13] at H
   have c13b0 : decide ((ji5) < (l0_1.length : Int)) = true := decide_eq_true c13
   clear c13
   (first | rw [c13b0] | (simp only [i64_w, i32_w]; rw [c13b0]) | skip)
   have H' := qM H
   clear H
   have hnb14 := NB128_129.out
   have hnc14 := NB129_128.out
   obtain ⟨z15_0, z15_1, z15_2, z15_3, f15_0, f15_1, f15_2, f15_3⟩ := cells4 B128.out
   go_wp2
   go_meet
   case rel => exact ⟨_, (decide (a2 ≥ 0)), (by first | rfl | (simp; done) | (simp [*]; done)), H', ⟨by first | omega | exact Nat.le_refl _⟩, ⟨by (with_reducible repeat first | apply RA | apply RN | apply RD); exact HO132.out⟩, ⟨by (with_reducible repeat first | refine qN ?_ _ | refine qD ?_ | refine qA ?_ _); exact B128.out⟩, ⟨by (with_reducible repeat first | refine qN ?_ _ | refine qD ?_ | refine qA ?_ _); exact B129.out⟩, ⟨by repeat (first | (with_reducible first | exact HB.out | apply eA | apply eN | apply eD | refine eS ?_ GE128.out | refine eS ?_ GE129.out) | exact HB.out)⟩⟩
  ·rw [if_neg c13] at H
   have c13b0 : decide ((ji5) < (l0_1.length : Int)) = false := decide_eq_false c13
   clear c13
   (first | rw [c13b0] | (simp only [i64_w, i32_w]; rw [c13b0]) | skip)
   have H' := qM H
   clear H
   have hnb16 := NB128_129.out
   have hnc16 := NB129_128.out
   obtain ⟨z17_0, z17_1, z17_2, z17_3, f17_0, f17_1, f17_2, f17_3⟩ := cells4 B128.out
   go_wp2
   go_meet
   case rel => exact ⟨_, (false), (by first | rfl | (simp; done) | (simp [*]; done)), H', ⟨by first | omega | exact Nat.le_refl _⟩, ⟨by (with_reducible repeat first | apply RA | apply RN | apply RD); exact HO132.out⟩, ⟨by (with_reducible repeat first | refine qN ?_ _ | refine qD ?_ | refine qA ?_ _); exact B128.out⟩, ⟨by (with_reducible repeat first | refine qN ?_ _ | refine qD ?_ | refine qA ?_ _); exact B129.out⟩, ⟨by repeat (first | (with_reducible first | exact HB.out | apply eA | apply eN | apply eD | refine eS ?_ GE128.out | refine eS ?_ GE129.out) | exact HB.out)⟩⟩
 case rest =>
  clear HC7
  try clear c1
  try clear c2
  try clear p2
  try clear c10
  try clear c13
  try clear c13b0
  try clear c14
  try clear c16
  try clear z11_0
  try clear z11_1
  try clear z11_2
  try clear z11_3
  try clear z15_0
  try clear z15_1
  try clear z15_2
  try clear z15_3
  try clear z17_0
  try clear z17_1
  try clear z17_2
  try clear z17_3
  try clear f11_0
  try clear f11_1
  try clear f11_2
  try clear f11_3
  try clear f15_0
  try clear f15_1
  try clear f15_2
  try clear f15_3
  try clear f17_0
  try clear f17_1
  try clear f17_2
  try clear f17_3
  obtain ⟨kq, x27_6, rfl, HA, HJ6, HO_8, B128, B129, HB⟩ := hcut
  cases kq with
  | zero => exact absurd HA.out (by simp [disk_Crash.j0])
  | succ kj6 =>
   have H := HA.out
   clear HA
   simp only [disk_Crash.j0] at H
   by_cases c18 : x27_6 = true
   ·subst c18
    have H1 : (if 0 ≤ ji5 then (if ji5 < (l0_1.length : Int) then ((disk_has.f l0_0 l0_1 a0_2 a0_3 ((rd_T47 l0_1 ji5).f0)).bind fun t135 => (if t135 = true then (if 0 ≤ (mn a2 (((rd_T47 l0_1 ji5).f1).size : Int)) then (if (mn a2 (((rd_T47 l0_1 ji5).f1).size : Int)) ≤ (((rd_T47 l0_1 ji5).f1).size : Int) then (if 0 ≤ ((rd_T47 l0_1 ji5).f0) then (if ((rd_T47 l0_1 ji5).f0) < (t130.length : Int) then (some ((t130.set (((rd_T47 l0_1 ji5).f0) : Int).toNat (((rd_T47 l0_1 ji5).f1).extract 0 ((mn a2 (((rd_T47 l0_1 ji5).f1).size : Int)) : Int).toNat)), ([] : List (S47)), (-1), false)) else (none)) else (none)) else (none)) else (none)) else (some (t130, ([] : List (S47)), (-1), false)))) else (none)) else (none)) = some (r1, r2, r3, r4) := by rw [if_pos rfl] at H; exact H
    clear H
    have H := H1
    clear H1
    by_cases c19 : 0 ≤ ji5
    ·rw [if_pos c19] at H
     have c19b0 : decide (0 ≤ ji5) = true := decide_eq_true c19
     clear c19
     by_cases c20 : ji5 < (l0_1.length : Int)
     ·rw [if_pos c20] at H
      have c20b0 : decide (ji5 < (l0_1.length : Int)) = true := decide_eq_true c20
      clear c20
      replace H := Option.bind_eq_some_iff.mp H
      obtain ⟨t135, A210, H⟩ := H
      replace H : (if t135 = true then (if 0 ≤ (mn a2 (((rd_T47 l0_1 ji5).f1).size : Int)) then (if (mn a2 (((rd_T47 l0_1 ji5).f1).size : Int)) ≤ (((rd_T47 l0_1 ji5).f1).size : Int) then (if 0 ≤ ((rd_T47 l0_1 ji5).f0) then (if ((rd_T47 l0_1 ji5).f0) < (t130.length : Int) then (some ((t130.set (((rd_T47 l0_1 ji5).f0) : Int).toNat (((rd_T47 l0_1 ji5).f1).extract 0 ((mn a2 (((rd_T47 l0_1 ji5).f1).size : Int)) : Int).toNat)), ([] : List (S47)), (-1), false)) else (none)) else (none)) else (none)) else (none)) else (some (t130, ([] : List (S47)), (-1), false))) = some (r1, r2, r3, r4) := H
      have A21 := qM A210
      clear A210
      by_cases c22 : t135 = true
      ·subst c22
       have H1 : (if 0 ≤ (mn a2 (((rd_T47 l0_1 ji5).f1).size : Int)) then (if (mn a2 (((rd_T47 l0_1 ji5).f1).size : Int)) ≤ (((rd_T47 l0_1 ji5).f1).size : Int) then (if 0 ≤ ((rd_T47 l0_1 ji5).f0) then (if ((rd_T47 l0_1 ji5).f0) < (t130.length : Int) then (some ((t130.set (((rd_T47 l0_1 ji5).f0) : Int).toNat (((rd_T47 l0_1 ji5).f1).extract 0 ((mn a2 (((rd_T47 l0_1 ji5).f1).size : Int)) : Int).toNat)), ([] : List (S47)), (-1), false)) else (none)) else (none)) else (none)) else (none)) = some (r1, r2, r3, r4) := by rw [if_pos rfl] at H; exact H
       clear H
       have H := H1
       clear H1
       obtain ⟨ji23, hji23⟩ : ∃ j_ : Int, (mn a2 (((rd_T47 l0_1 ji5).f1).size : Int)) = j_ := ⟨_, rfl⟩
       replace H : (if 0 ≤ (ji23) then (if (ji23) ≤ (((rd_T47 l0_1 ji5).f1).size : Int) then (if 0 ≤ ((rd_T47 l0_1 ji5).f0) then (if ((rd_T47 l0_1 ji5).f0) < (t130.length : Int) then (some ((t130.set (((rd_T47 l0_1 ji5).f0) : Int).toNat (((rd_T47 l0_1 ji5).f1).extract 0 ((ji23) : Int).toNat)), ([] : List (S47)), (-1), false)) else (none)) else (none)) else (none)) else (none)) = some (r1, r2, r3, r4) := by first | (rw [hji23] at H; exact H) | (simp only [hji23] at H ⊢; exact H)
       (try rw [hji23] at A21)
       have hji23_ : (if (((rd_T47 l0_1 ji5).f1).size : Int) < a2 then (((rd_T47 l0_1 ji5).f1).size : Int) else a2) = ji23 := hji23
       by_cases c24 : 0 ≤ (ji23)
       ·rw [if_pos c24] at H
        have c24b0 := eq_true c24
        have c24b1 : decide (0 ≤ (ji23)) = true := decide_eq_true c24
        clear c24
        by_cases c25 : (ji23) ≤ (((rd_T47 l0_1 ji5).f1).size : Int)
        ·rw [if_pos c25] at H
         have c25b0 := eq_true c25
         have c25b1 : decide ((ji23) ≤ (((rd_T47 l0_1 ji5).f1).size : Int)) = true := decide_eq_true c25
         clear c25
         by_cases c26 : 0 ≤ ((rd_T47 l0_1 ji5).f0)
         ·rw [if_pos c26] at H
          have c26b0 : decide (0 ≤ ((rd_T47 l0_1 ji5).f0)) = true := decide_eq_true c26
          clear c26
          by_cases c27 : ((rd_T47 l0_1 ji5).f0) < (t130.length : Int)
          ·rw [if_pos c27] at H
           have c27b0 : decide (((rd_T47 l0_1 ji5).f0) < (t130.length : Int)) = true := decide_eq_true c27
           clear c27
           obtain ⟨y136, hy136⟩ : ∃ y_ : List ByteArray, y_ = (t130.set (((rd_T47 l0_1 ji5).f0) : Int).toNat (((rd_T47 l0_1 ji5).f1).extract 0 ((ji23) : Int).toNat)) := ⟨_, rfl⟩
           replace H : (some (y136, ([] : List (S47)), (-1), false)) = some (r1, r2, r3, r4) := by first | (rw [hy136]; with_reducible exact H) | (have H2_ := (Option.bind_some _ _).symm.trans H; rw [hy136]; with_reducible exact H2_) | (have H2_ := (Option.bind_some _ _).symm.trans H; with_reducible exact H2_) | with_reducible exact H | (rw [hy136]; exact H) | exact H
           have Ny136 := qM hy136
           clear hy136
           simp only [Option.some.injEq, Prod.mk.injEq] at H
           obtain ⟨rfl, rfl, rfl, rfl⟩ := H
           have hnb29 := NB128_129.out
           have hnc29 := NB129_128.out
           obtain ⟨z30_0, z30_1, z30_2, z30_3, f30_0, f30_1, f30_2, f30_3⟩ := cells4 B128.out
           have p133 : 0 ≤ (ji5 : Int) := of_decide_eq_true (by first | (with_reducible assumption) | assumption)
           have q133 : ji5 < (l0_1.length : Int) := of_decide_eq_true (by first | (with_reducible assumption) | assumption)
           obtain ⟨ad133, e133, hx133_0, hx133_1⟩ := at_T47 HR0_1.out ji5 p133 q133
           cases e133
           replace hx133_0 := (HB.out.cell (World.block_lt_of_cell? w _ hx133_0)).trans hx133_0
           replace hx133_1 := (HB.out.cell (World.block_lt_of_cell? w _ hx133_1)).trans hx133_1
           replace p133 := eq_true p133
           replace q133 := eq_true q133
           try go_wp2_with (first | ((with_reducible refine gate_dst (N := 9) rfl ?_); refine box_event ?hg (N := 9) ?hd (cs := #[.int .i64 0, .string (⟨#[]⟩ : ByteArray)]) (t := 47) ?hr ?_; (case hd => rfl); (case hg => rfl); (case hr => first | (go_simp; done) | (go_simp; rfl)); intro g134 hg w31 hbox hb; have n0_ := qM (Kd.R_below (by (with_reducible repeat first | apply RA | apply RN | apply RD); exact HO_8.out) hb); have n1_ := qM (qB (g := g128) (by (with_reducible repeat first | refine qN ?_ _ | refine qD ?_ | refine qA ?_ _); exact B128.out) hb); have n2_ := qM (qB (g := g129) (by (with_reducible repeat first | refine qN ?_ _ | refine qD ?_ | refine qA ?_ _); exact B129.out) hb); have n3_ := qM (eT (by repeat (first | (with_reducible first | exact HB.out | apply eA | apply eN | apply eD | refine eU ?_ (by assumption)) | exact HB.out)) hb); have n4_ := qM (hbox); have n5_ := qM ((by rw [hg]; exact (eZ (by repeat (first | (with_reducible first | exact HB.out | apply eA | apply eN | apply eD | refine eU ?_ (by assumption)) | exact HB.out))) : w.heap.size ≤ g134)); have n6_ := n5_; have n7_ := qM ((by rw [hg]; exact Nat.ne_of_lt (qL (g := g128) (by (with_reducible repeat first | refine qN ?_ _ | refine qD ?_ | refine qA ?_ _); exact B128.out)) : g128 ≠ g134)); have n8_ := qM (Ne.symm n7_.out); have n9_ := qM ((by rw [hg]; exact Nat.ne_of_lt (qL (g := g129) (by (with_reducible repeat first | refine qN ?_ _ | refine qD ?_ | refine qA ?_ _); exact B129.out)) : g129 ≠ g134)); have n10_ := qM (Ne.symm n9_.out); clear HO_8 B128 B129 HB; have HO_8 := n0_; have B128 := n1_; have B129 := n2_; have HB := n3_; have B134 := n4_; have GW134 := n5_; have GE134 := n6_; have NB128_134 := n7_; have NB134_128 := n8_; have NB129_134 := n9_; have NB134_129 := n10_; clear n0_ n1_ n2_ n3_ n4_ n5_ n6_ n7_ n8_ n9_ n10_; clear hb hbox hg; have hnb32 := NB134_128.out; have hnc32 := NB128_134.out; have hnb33 := NB134_129.out; have hnc33 := NB129_134.out; have z34_0 : w31.cell? ⟨g134, 0, none⟩ = some (.int .i64 0) := (qC B134.out 0).trans rfl; have z34_1 : w31.cell? ⟨g134, 1, none⟩ = some (.string (⟨#[]⟩ : ByteArray)) := (qC B134.out 1).trans rfl; have f34_0 := qF B134.out 0; have f34_1 := qF B134.out 1; obtain ⟨z35_0, z35_1, z35_2, z35_3, f35_0, f35_1, f35_2, f35_3⟩ := cells4 B128.out) | ((with_reducible refine gate_callee (f := 27) rfl ?_); refine goesL_ (some 36) rfl rfl Try.func27 (by kernel_rfl) rfl #[.agg #[.slice A0_0 l0_0.length c0_0, .slice (some ad133) l0_1.length c0_1, .int .i64 a0_2, .bool a0_3], .int .i64 ((rd_T47 l0_1 ji5).f0)] rfl (by (try simp only [List.map_toArray, List.map_cons, List.map_nil]); first | done | (simp only [hji5]; rfl) | rfl | (simp only [List.length_drop, List.length_take]; rfl)) ?_; (with_reducible refine (disk_has.calls _ _ l0_0 _ _ l0_1 a0_2 a0_3 ((rd_T47 l0_1 ji5).f0) true _ ?side1 ?side2 ?side3 ?side4 A21.out).mono ?_); (case side1 => exact Kd.C_below HR0_0.out (by repeat (first | (with_reducible first | exact HB.out | apply eA | apply eN | apply eD | refine eU ?_ (by assumption)) | exact HB.out))); (case side2 => exact HC0_0.out); (case side3 => exact Kd.C_below HR0_1.out (by repeat (first | (with_reducible first | exact HB.out | apply eA | apply eN | apply eD | refine eU ?_ (by assumption)) | exact HB.out))); (case side4 => exact HC0_1.out); rintro e w36 ⟨rfl, hb⟩; refine ⟨_, rfl, ?_⟩; have n0_ := qM (Kd.R_below (by (with_reducible repeat first | apply RA | apply RN | apply RD); exact (Kd.R_mono (Kd.R_far (p := ⟨g134, 1, none⟩) (Kd.R_far (p := ⟨g134, 0, none⟩) (Kd.R_types HO_8.out B134.out (by decide)) (fun _ hk => hk.2) (.int .i64 ((rd_T47 l0_1 ji5).f0))) (fun _ hk => hk.2) (.string ((rd_T47 l0_1 ji5).f1))) (fun _ h_ => h_.1))) hb); have n1_ := qM (qB (g := g128) (o := .cells #[.slice A0_0 l0_0.length c0_0, .slice (some ad133) l0_1.length c0_1, .int .i64 a0_2, .bool a0_3] 25 (0, 0)) (by (with_reducible repeat first | refine qN ?_ _ | refine qD ?_ | refine qA ?_ _); (iterate 2 (refine qR ?_ NB128_134.out _; (with_reducible repeat first | refine qN ?_ _ | refine qD ?_ | refine qA ?_ _))); exact B128.out) hb); have n2_ := qM (qB (g := g129) (o := .cells #[.slice none 0 0, .slice none 0 0, .int .i64 0, .bool false] 25 (0, 0)) (by (with_reducible repeat first | refine qN ?_ _ | refine qD ?_ | refine qA ?_ _); (iterate 2 (refine qR ?_ NB129_134.out _; (with_reducible repeat first | refine qN ?_ _ | refine qD ?_ | refine qA ?_ _))); exact B129.out) hb); have n3_ := qM (qB (g := g134) (o := .cells #[.int .i64 ((rd_T47 l0_1 ji5).f0), .string ((rd_T47 l0_1 ji5).f1)] 47 (0, 0)) (by (with_reducible repeat first | refine qN ?_ _ | refine qD ?_ | refine qA ?_ _); refine qP (cs := #[.int .i64 ((rd_T47 l0_1 ji5).f0), .string (⟨#[]⟩ : ByteArray)]) ?_ 1 _ rfl; (with_reducible repeat first | refine qN ?_ _ | refine qD ?_ | refine qA ?_ _); refine qP (cs := #[.int .i64 0, .string (⟨#[]⟩ : ByteArray)]) ?_ 0 _ rfl; (with_reducible repeat first | refine qN ?_ _ | refine qD ?_ | refine qA ?_ _); exact B134.out) hb); have n4_ := qM (eT (by repeat (first | (with_reducible first | exact HB.out | apply eA | apply eN | apply eD | refine eU ?_ (by assumption)) | exact HB.out)) hb); clear HO_8 B128 B129 B134 HB; have HO_8 := n0_; have B128 := n1_; have B129 := n2_; have B134 := n3_; have HB := n4_; clear n0_ n1_ n2_ n3_ n4_; (try clear hb); (try clear hb2); (try clear hk); (try clear hi)))
           have n0_ := qM (Kd.R_drew HO_8.out)
           have n1_ := qM (blk_drew B128.out)
           have n2_ := qM (blk_drew B129.out)
           have n3_ := qM (blk_drew B134.out)
           have n4_ := qM (below_drew1 HB.out)
           clear HO_8
           clear B128
           clear B129
           clear B134
           clear HB
           have HO_8 := n0_
           have B128 := n1_
           have B129 := n2_
           have B134 := n3_
           have HB := n4_
           clear n0_ n1_ n2_ n3_ n4_
           have p28 : 0 ≤ (((rd_T47 l0_1 ji5).f0) : Int) := of_decide_eq_true (by first | (with_reducible assumption) | assumption)
           have q28 : (((rd_T47 l0_1 ji5).f0) : Int) < ((t130.length : Int) : Int) := of_decide_eq_true (by first | (with_reducible assumption) | assumption)
           obtain ⟨go28, co28, eo28, g28, gl28, cl28, HG28⟩ := Kd.R_form HO_8.out (by omega)
           (first | cases eo28 | (injection eo28 with ea_ en_ ec_; (first | subst ea_ | (injection ea_ with ea_; subst ea_)); subst ec_; clear en_))
           have GB28 := qM g28
           have GG28 := qM HG28
           clear g28 gl28 HG28
           obtain ⟨hx28_0, hf28_0⟩ := Kd.R_celln (⟨#[]⟩ : ByteArray) HO_8.out (((rd_T47 l0_1 ji5).f0) : Int) p28 q28
           replace p28 := eq_true p28
           replace q28 := eq_true q28
           have HP38 := Kd.R_putn HO_8.out (((rd_T47 l0_1 ji5).f0) : Int) (((rd_T47 l0_1 ji5).f1).extract 0 ((ji23) : Int).toNat)
           rw [← Ny136.out] at HP38
           have HQ38 := qM HP38
           clear HP38
           refine start_ (n := 13) (S := fun w' => w'.cell? ⟨g134, 0, none⟩ = some (.int .i64 ((rd_T47 l0_1 ji5).f0)) ∧ w'.cell? ⟨g134, 1, none⟩ = some (.string ((rd_T47 l0_1 ji5).f1))) (ds := [12]) #[false, false, false, false, false, false, false, false, false, false, false, false, false] (by kernel_rfl) rfl rfl ⟨(qC B134.out 0).trans rfl, (qC B134.out 1).trans rfl⟩ (fun hHeld => ?_); refine with_tabW disk_Crash.tab6 disk_Crash.bits6 (fun HT_ HW_ => ?_)
           generalize w36.drew = w37 at HO_8 B128 B129 B134 HB GG28 HQ38 hf28_0 hx28_0 hHeld ⊢
           refine pure_ (i := 0) (N := some 37) (v := ?_) (a' := ?_) #[true, false, false, false, false, false, false, false, false, false, false, false, false] rfl rfl (any_of HT_.out (by kernel_rfl)) (fun _ _ _ h => h) (Or.inl ⟨by rfl, ?_⟩) ?_ ?_
           rotate_left
           ·intro w'; go_simp; with_reducible rfl
           rotate_left
           ·simp only [Act.put, xA, xZ, xS, i64_w, i32_w]; rfl
           refine pure_ (i := 1) (N := some 38) (v := ?_) (a' := ?_) #[true, true, false, false, false, false, false, false, false, false, false, false, false] rfl rfl (any_of HT_.out (by kernel_rfl)) (fun _ _ _ h => h) (Or.inl ⟨by rfl, ?_⟩) ?_ ?_
           rotate_left
           ·intro w'; go_simp; with_reducible rfl
           rotate_left
           ·simp only [Act.put, xA, xZ, xS, i64_w, i32_w]; rfl
           refine pure_ (i := 3) (N := some 40) (v := ?_) (a' := ?_) #[true, true, false, true, false, false, false, false, false, false, false, false, false] rfl rfl (any_of HT_.out (by kernel_rfl)) (fun _ _ _ h => h) (Or.inl ⟨by rfl, ?_⟩) ?_ ?_
           rotate_left
           ·intro w'; go_simp; with_reducible rfl
           rotate_left
           ·simp only [Act.put, xA, xZ, xS, i64_w, i32_w]; rfl
           refine pure_ (i := 5) (N := some 42) (v := ?_) (a' := ?_) #[true, true, false, true, false, true, false, false, false, false, false, false, false] rfl rfl (any_of HT_.out (by kernel_rfl)) (fun _ _ _ h => h) (Or.inl ⟨by rfl, ?_⟩) ?_ ?_
           rotate_left
           ·intro w'; go_simp; with_reducible rfl
           rotate_left
           ·simp only [Act.put, xA, xZ, xS, i64_w, i32_w]; rfl
           refine pure_ (i := 6) (N := some 43) (v := ?_) (a' := ?_) #[true, true, false, true, false, true, true, false, false, false, false, false, false] rfl rfl (any_of HT_.out (by kernel_rfl)) (fun _ _ _ h => h) (Or.inl ⟨by rfl, ?_⟩) ?_ ?_
           rotate_left
           ·intro w'; go_simp; with_reducible rfl
           rotate_left
           ·simp only [Act.put, xA, xZ, xS, i64_w, i32_w]; rfl
           refine take_ (i := 2) (N := some 39) (v := ?_) (a' := ?_) #[true, true, true, true, false, true, true, false, false, false, false, false, false] rfl rfl (take_ofW HT_.out HW_.out (by kernel_rfl)) (fun _ _ _ h => h) (Or.inl ⟨by rfl, ?_⟩) hHeld ?_ ?_
           rotate_left
           ·rintro w' ⟨s0, s1⟩; go_simp; with_reducible rfl
           rotate_left
           ·simp only [Act.put, xA, xZ, xS, i64_w, i32_w]; rfl
           refine take_ (i := 4) (N := some 41) (v := ?_) (a' := ?_) #[true, true, true, true, true, true, true, false, false, false, false, false, false] rfl rfl (take_ofW HT_.out HW_.out (by kernel_rfl)) (fun _ _ _ h => h) (Or.inl ⟨by rfl, ?_⟩) hHeld ?_ ?_
           rotate_left
           ·rintro w' ⟨s0, s1⟩; go_simp; with_reducible rfl
           rotate_left
           ·simp only [Act.put, xA, xZ, xS, i64_w, i32_w]; rfl
           refine take_ (i := 7) (N := some 44) (v := ?_) (a' := ?_) #[true, true, true, true, true, true, true, true, false, false, false, false, false] rfl rfl (take_ofW HT_.out HW_.out (by kernel_rfl)) (fun _ _ _ h => h) (Or.inl ⟨by rfl, ?_⟩) hHeld ?_ ?_
           rotate_left
           ·rintro w' ⟨s0, s1⟩; go_simp; with_reducible rfl
           rotate_left
           ·simp only [Act.put, xA, xZ, xS, i64_w, i32_w]; rfl
           refine pure_ (i := 8) (N := some 45) (v := ?_) (a' := ?_) #[true, true, true, true, true, true, true, true, true, false, false, false, false] rfl rfl (any_of HT_.out (by kernel_rfl)) (fun _ _ _ h => h) (Or.inl ⟨by rfl, ?_⟩) ?_ ?_
           rotate_left
           ·intro w'; go_simp; with_reducible rfl
           rotate_left
           ·simp only [Act.put, xA, xZ, xS, i64_w, i32_w]; rfl
           refine pure_ (i := 9) (N := some 46) (v := ?_) (a' := ?_) #[true, true, true, true, true, true, true, true, true, true, false, false, false] rfl rfl (any_of HT_.out (by kernel_rfl)) (fun _ _ _ h => h) (Or.inl ⟨by rfl, ?_⟩) ?_ ?_
           rotate_left
           ·intro w'; go_simp; with_reducible rfl
           rotate_left
           ·simp only [Act.put, xA, xZ, xS, i64_w, i32_w]; rfl
           refine pure_ (i := 10) (N := some 47) (v := ?_) (a' := ?_) #[true, true, true, true, true, true, true, true, true, true, true, false, false] rfl rfl (any_of HT_.out (by kernel_rfl)) (fun _ _ _ h => h) (Or.inl ⟨by rfl, ?_⟩) ?_ ?_
           rotate_left
           ·intro w'; go_simp; with_reducible rfl
           rotate_left
           ·simp only [Act.put, xA, xZ, xS, i64_w, i32_w]; rfl
           refine pure_ (i := 11) (N := some 48) (v := ?_) (a' := ?_) #[true, true, true, true, true, true, true, true, true, true, true, true, false] rfl rfl (any_of HT_.out (by kernel_rfl)) (fun _ _ _ h => h) (Or.inl ⟨by rfl, ?_⟩) ?_ ?_
           rotate_left
           ·intro w'; go_simp; with_reducible rfl
           rotate_left
           ·simp only [Act.put, xA, xZ, xS, i64_w, i32_w]; rfl
           refine last_ (i := 12) (N := none) #[true, true, true, true, true, true, true, true, true, true, true, true, true] rfl rfl (one_of HT_.out (by kernel_rfl)) (by decide) (fun K hK => ?_)
           refine skip_ (w1 := ?_) (by rfl) rfl ?_ ?_
           rotate_left
           ·go_simp; rfl
           refine hK.out _ _ ?_
           clear hK K
           refine done_ (done_of HT_.out (by kernel_rfl)) ?_
           have n0_ : Aside0 (Kd.R Kd.string 9 (w37.setCell ⟨go28, (((rd_T47 l0_1 ji5).f0) : Int).toNat, none⟩ (.string (((rd_T47 l0_1 ji5).f1).extract 0 ((ji23) : Int).toNat))) w.heap.size (fun _ => True) (.slice (some ⟨go28, 0, none⟩) t130.length co28) y136) := ⟨by (with_reducible repeat first | apply RA | apply RN | apply RD); exact HQ38.out⟩
           have n1_ : Aside0 ((w37.setCell ⟨go28, (((rd_T47 l0_1 ji5).f0) : Int).toNat, none⟩ (.string (((rd_T47 l0_1 ji5).f1).extract 0 ((ji23) : Int).toNat))).heap[g128]? = some (.cells #[.slice A0_0 l0_0.length c0_0, .slice (some ad133) l0_1.length c0_1, .int .i64 a0_2, .bool a0_3] 25 (0, 0))) := ⟨by (with_reducible repeat first | refine qN ?_ _ | refine qD ?_ | refine qA ?_ _); refine qR ?_ (by have h_ := Kd.R_ne HO_8.out B128.out (by decide); intro e_; exact h_ (by rw [e_]; rfl)) _; (with_reducible repeat first | refine qN ?_ _ | refine qD ?_ | refine qA ?_ _); exact B128.out⟩
           have n2_ : Aside0 ((w37.setCell ⟨go28, (((rd_T47 l0_1 ji5).f0) : Int).toNat, none⟩ (.string (((rd_T47 l0_1 ji5).f1).extract 0 ((ji23) : Int).toNat))).heap[g129]? = some (.cells #[.slice none 0 0, .slice none 0 0, .int .i64 0, .bool false] 25 (0, 0))) := ⟨by (with_reducible repeat first | refine qN ?_ _ | refine qD ?_ | refine qA ?_ _); refine qR ?_ (by have h_ := Kd.R_ne HO_8.out B129.out (by decide); intro e_; exact h_ (by rw [e_]; rfl)) _; (with_reducible repeat first | refine qN ?_ _ | refine qD ?_ | refine qA ?_ _); exact B129.out⟩
           have n3_ : Aside0 ((w37.setCell ⟨go28, (((rd_T47 l0_1 ji5).f0) : Int).toNat, none⟩ (.string (((rd_T47 l0_1 ji5).f1).extract 0 ((ji23) : Int).toNat))).heap[g134]? = some (.cells #[.int .i64 ((rd_T47 l0_1 ji5).f0), .string ((rd_T47 l0_1 ji5).f1)] 47 (0, 0))) := ⟨by (with_reducible repeat first | refine qN ?_ _ | refine qD ?_ | refine qA ?_ _); refine qR ?_ (by have h_ := Kd.R_ne HO_8.out B134.out (by decide); intro e_; exact h_ (by rw [e_]; rfl)) _; (with_reducible repeat first | refine qN ?_ _ | refine qD ?_ | refine qA ?_ _); exact B134.out⟩
           have n4_ : Aside0 (Below w.heap.size w (w37.setCell ⟨go28, (((rd_T47 l0_1 ji5).f0) : Int).toNat, none⟩ (.string (((rd_T47 l0_1 ji5).f1).extract 0 ((ji23) : Int).toNat)))) := ⟨by repeat (first | (with_reducible first | exact HB.out | apply eA | apply eN | apply eD | refine eS ?_ GB28.out | refine eS ?_ GE128.out | refine eS ?_ GE129.out | refine eS ?_ GE134.out) | exact HB.out)⟩
           (try clear HO_8)
           (try clear B128)
           (try clear B129)
           (try clear B134)
           (try clear HB)
           generalize (w37.setCell ⟨go28, (((rd_T47 l0_1 ji5).f0) : Int).toNat, none⟩ (.string (((rd_T47 l0_1 ji5).f1).extract 0 ((ji23) : Int).toNat))) = w39 at n0_ n1_ n2_ n3_ n4_ ⊢
           have HO_8 := n0_
           have B128 := n1_
           have B129 := n2_
           have B134 := n3_
           have HB := n4_
           clear n0_ n1_ n2_ n3_ n4_
           obtain ⟨z40_0, z40_1, z40_2, z40_3, f40_0, f40_1, f40_2, f40_3⟩ := cells4 B129.out
           try go_wp2
           refine bodyPost_ret (results_cell_row rfl _ _ g129 25 #[.slice (some ⟨go28, 0, none⟩) t130.length co28, .slice none 0 0, .int .i64 (-1), .bool false] (0, 0) _ rfl (by (with_reducible repeat first | refine qN ?_ _ | refine qD ?_ | refine qA ?_ _); refine qP (cs := #[.slice (some ⟨go28, 0, none⟩) t130.length co28, .slice none 0 0, .int .i64 (-1), .bool false]) ?_ 3 _ rfl; (with_reducible repeat first | refine qN ?_ _ | refine qD ?_ | refine qA ?_ _); refine qP (cs := #[.slice (some ⟨go28, 0, none⟩) t130.length co28, .slice none 0 0, .int .i64 0, .bool false]) ?_ 2 _ rfl; (with_reducible repeat first | refine qN ?_ _ | refine qD ?_ | refine qA ?_ _); refine qP (cs := #[.slice (some ⟨go28, 0, none⟩) t130.length co28, .slice none 0 0, .int .i64 0, .bool false]) ?_ 1 _ rfl; (with_reducible repeat first | refine qN ?_ _ | refine qD ?_ | refine qA ?_ _); refine qP (cs := #[.slice none 0 0, .slice none 0 0, .int .i64 0, .bool false]) ?_ 0 _ rfl; (with_reducible repeat first | refine qN ?_ _ | refine qD ?_ | refine qA ?_ _); exact B129.out) Try.underlying25 rfl (by kernel_rfl)) rfl ?_
           exact ⟨_, _, by first | rfl | (simp [errW_none, errW_some] <;> rfl) | (simp only [← hji4, ← hji5, ← hji23]; first | rfl | (simp [errW_none, errW_some] <;> rfl)) | (simp [*, errW_none, errW_some] <;> rfl), by (with_reducible repeat first | apply RA | apply RN | apply RD); exact Kd.R_mono (Kd.R_far (p := ⟨g129, 3, none⟩) (Kd.R_far (p := ⟨g129, 2, none⟩) (Kd.R_far (p := ⟨g129, 1, none⟩) (Kd.R_far (p := ⟨g129, 0, none⟩) (Kd.R_types HO_8.out B129.out (by decide)) (fun _ hk => hk.2) (.slice (some ⟨go28, 0, none⟩) t130.length co28)) (fun _ hk => hk.2) (.slice none 0 0)) (fun _ hk => hk.2) (.int .i64 (-1))) (fun _ hk => hk.2) (.bool false)) (fun _ hk => trivial), by first | exact Kd.R_nil _ _ _ _ _ | exact Kd.N_nil _ _ _ _ _ | exact Kd.V_nil _ _ _ _ _ | exact Kd.Q_nil _ _ _ _ _ | exact Kd.S_nil _ _ _ _ _, by repeat (first | (with_reducible first | exact HB.out | apply eA | apply eN | apply eD | refine eS ?_ GE128.out | refine eS ?_ GE129.out | refine eS ?_ GE134.out) | exact HB.out)⟩
          ·rw [if_neg c27] at H
           exact absurd H (by simp)
         ·rw [if_neg c26] at H
          exact absurd H (by simp)
        ·rw [if_neg c25] at H
         exact absurd H (by simp)
       ·rw [if_neg c24] at H
        exact absurd H (by simp)
      ·replace c22 := Bool.eq_false_iff.mpr c22
       subst c22
       have H1 : (some (t130, ([] : List (S47)), (-1), false)) = some (r1, r2, r3, r4) := by rw [if_neg (show ¬ (false = true) by decide)] at H; exact H
       clear H
       have H := H1
       clear H1
       simp only [Option.some.injEq, Prod.mk.injEq] at H
       obtain ⟨rfl, rfl, rfl, rfl⟩ := H
       have hnb41 := NB128_129.out
       have hnc41 := NB129_128.out
       obtain ⟨z42_0, z42_1, z42_2, z42_3, f42_0, f42_1, f42_2, f42_3⟩ := cells4 B128.out
       have p133 : 0 ≤ (ji5 : Int) := of_decide_eq_true (by first | (with_reducible assumption) | assumption)
       have q133 : ji5 < (l0_1.length : Int) := of_decide_eq_true (by first | (with_reducible assumption) | assumption)
       obtain ⟨ad133, e133, hx133_0, hx133_1⟩ := at_T47 HR0_1.out ji5 p133 q133
       cases e133
       replace hx133_0 := (HB.out.cell (World.block_lt_of_cell? w _ hx133_0)).trans hx133_0
       replace hx133_1 := (HB.out.cell (World.block_lt_of_cell? w _ hx133_1)).trans hx133_1
       replace p133 := eq_true p133
       replace q133 := eq_true q133
       go_wp2_with (first | ((with_reducible refine gate_dst (N := 9) rfl ?_); refine box_event ?hg (N := 9) ?hd (cs := #[.int .i64 0, .string (⟨#[]⟩ : ByteArray)]) (t := 47) ?hr ?_; (case hd => rfl); (case hg => rfl); (case hr => first | (go_simp; done) | (go_simp; rfl)); intro g134 hg w43 hbox hb; have n0_ := qM (Kd.R_below (by (with_reducible repeat first | apply RA | apply RN | apply RD); exact HO_8.out) hb); have n1_ := qM (qB (g := g128) (by (with_reducible repeat first | refine qN ?_ _ | refine qD ?_ | refine qA ?_ _); exact B128.out) hb); have n2_ := qM (qB (g := g129) (by (with_reducible repeat first | refine qN ?_ _ | refine qD ?_ | refine qA ?_ _); exact B129.out) hb); have n3_ := qM (eT (by repeat (first | (with_reducible first | exact HB.out | apply eA | apply eN | apply eD | refine eU ?_ (by assumption)) | exact HB.out)) hb); have n4_ := qM (hbox); have n5_ := qM ((by rw [hg]; exact (eZ (by repeat (first | (with_reducible first | exact HB.out | apply eA | apply eN | apply eD | refine eU ?_ (by assumption)) | exact HB.out))) : w.heap.size ≤ g134)); have n6_ := n5_; have n7_ := qM ((by rw [hg]; exact Nat.ne_of_lt (qL (g := g128) (by (with_reducible repeat first | refine qN ?_ _ | refine qD ?_ | refine qA ?_ _); exact B128.out)) : g128 ≠ g134)); have n8_ := qM (Ne.symm n7_.out); have n9_ := qM ((by rw [hg]; exact Nat.ne_of_lt (qL (g := g129) (by (with_reducible repeat first | refine qN ?_ _ | refine qD ?_ | refine qA ?_ _); exact B129.out)) : g129 ≠ g134)); have n10_ := qM (Ne.symm n9_.out); clear HO_8 B128 B129 HB; have HO_8 := n0_; have B128 := n1_; have B129 := n2_; have HB := n3_; have B134 := n4_; have GW134 := n5_; have GE134 := n6_; have NB128_134 := n7_; have NB134_128 := n8_; have NB129_134 := n9_; have NB134_129 := n10_; clear n0_ n1_ n2_ n3_ n4_ n5_ n6_ n7_ n8_ n9_ n10_; clear hb hbox hg; have hnb44 := NB134_128.out; have hnc44 := NB128_134.out; have hnb45 := NB134_129.out; have hnc45 := NB129_134.out; have z46_0 : w43.cell? ⟨g134, 0, none⟩ = some (.int .i64 0) := (qC B134.out 0).trans rfl; have z46_1 : w43.cell? ⟨g134, 1, none⟩ = some (.string (⟨#[]⟩ : ByteArray)) := (qC B134.out 1).trans rfl; have f46_0 := qF B134.out 0; have f46_1 := qF B134.out 1; obtain ⟨z47_0, z47_1, z47_2, z47_3, f47_0, f47_1, f47_2, f47_3⟩ := cells4 B128.out) | ((with_reducible refine gate_callee (f := 27) rfl ?_); refine goesL_ (some 36) rfl rfl Try.func27 (by kernel_rfl) rfl #[.agg #[.slice A0_0 l0_0.length c0_0, .slice (some ad133) l0_1.length c0_1, .int .i64 a0_2, .bool a0_3], .int .i64 ((rd_T47 l0_1 ji5).f0)] rfl (by (try simp only [List.map_toArray, List.map_cons, List.map_nil]); first | done | (simp only [hji5]; rfl) | rfl | (simp only [List.length_drop, List.length_take]; rfl)) ?_; (with_reducible refine (disk_has.calls _ _ l0_0 _ _ l0_1 a0_2 a0_3 ((rd_T47 l0_1 ji5).f0) false _ ?side1 ?side2 ?side3 ?side4 A21.out).mono ?_); (case side1 => exact Kd.C_below HR0_0.out (by repeat (first | (with_reducible first | exact HB.out | apply eA | apply eN | apply eD | refine eU ?_ (by assumption)) | exact HB.out))); (case side2 => exact HC0_0.out); (case side3 => exact Kd.C_below HR0_1.out (by repeat (first | (with_reducible first | exact HB.out | apply eA | apply eN | apply eD | refine eU ?_ (by assumption)) | exact HB.out))); (case side4 => exact HC0_1.out); rintro e w48 ⟨rfl, hb⟩; refine ⟨_, rfl, ?_⟩; have n0_ := qM (Kd.R_below (by (with_reducible repeat first | apply RA | apply RN | apply RD); exact (Kd.R_mono (Kd.R_far (p := ⟨g134, 1, none⟩) (Kd.R_far (p := ⟨g134, 0, none⟩) (Kd.R_types HO_8.out B134.out (by decide)) (fun _ hk => hk.2) (.int .i64 ((rd_T47 l0_1 ji5).f0))) (fun _ hk => hk.2) (.string ((rd_T47 l0_1 ji5).f1))) (fun _ h_ => h_.1))) hb); have n1_ := qM (qB (g := g128) (o := .cells #[.slice A0_0 l0_0.length c0_0, .slice (some ad133) l0_1.length c0_1, .int .i64 a0_2, .bool a0_3] 25 (0, 0)) (by (with_reducible repeat first | refine qN ?_ _ | refine qD ?_ | refine qA ?_ _); (iterate 2 (refine qR ?_ NB128_134.out _; (with_reducible repeat first | refine qN ?_ _ | refine qD ?_ | refine qA ?_ _))); exact B128.out) hb); have n2_ := qM (qB (g := g129) (o := .cells #[.slice none 0 0, .slice none 0 0, .int .i64 0, .bool false] 25 (0, 0)) (by (with_reducible repeat first | refine qN ?_ _ | refine qD ?_ | refine qA ?_ _); (iterate 2 (refine qR ?_ NB129_134.out _; (with_reducible repeat first | refine qN ?_ _ | refine qD ?_ | refine qA ?_ _))); exact B129.out) hb); have n3_ := qM (qB (g := g134) (o := .cells #[.int .i64 ((rd_T47 l0_1 ji5).f0), .string ((rd_T47 l0_1 ji5).f1)] 47 (0, 0)) (by (with_reducible repeat first | refine qN ?_ _ | refine qD ?_ | refine qA ?_ _); refine qP (cs := #[.int .i64 ((rd_T47 l0_1 ji5).f0), .string (⟨#[]⟩ : ByteArray)]) ?_ 1 _ rfl; (with_reducible repeat first | refine qN ?_ _ | refine qD ?_ | refine qA ?_ _); refine qP (cs := #[.int .i64 0, .string (⟨#[]⟩ : ByteArray)]) ?_ 0 _ rfl; (with_reducible repeat first | refine qN ?_ _ | refine qD ?_ | refine qA ?_ _); exact B134.out) hb); have n4_ := qM (eT (by repeat (first | (with_reducible first | exact HB.out | apply eA | apply eN | apply eD | refine eU ?_ (by assumption)) | exact HB.out)) hb); clear HO_8 B128 B129 B134 HB; have HO_8 := n0_; have B128 := n1_; have B129 := n2_; have B134 := n3_; have HB := n4_; clear n0_ n1_ n2_ n3_ n4_; (try clear hb); (try clear hb2); (try clear hk); (try clear hi); obtain ⟨Ao49, co49, eo49⟩ := Kd.R_slice HO_8.out; subst eo49; obtain ⟨z50_0, z50_1, z50_2, z50_3, f50_0, f50_1, f50_2, f50_3⟩ := cells4 B129.out))
       refine bodyPost_ret (results_cell_row rfl _ _ g129 25 #[.slice Ao49 t130.length co49, .slice none 0 0, .int .i64 (-1), .bool false] (0, 0) _ rfl (by (with_reducible repeat first | refine qN ?_ _ | refine qD ?_ | refine qA ?_ _); apply puts4; (with_reducible repeat first | refine qN ?_ _ | refine qD ?_ | refine qA ?_ _); exact B129.out) Try.underlying25 rfl (by kernel_rfl)) rfl ?_
       exact ⟨_, _, by first | rfl | (simp [errW_none, errW_some] <;> rfl) | (simp only [← hji4, ← hji5]; first | rfl | (simp [errW_none, errW_some] <;> rfl)) | (simp [*, errW_none, errW_some] <;> rfl), by (with_reducible repeat first | apply RA | apply RN | apply RD); exact Kd.R_mono (Kd.R_far (p := ⟨g129, 3, none⟩) (Kd.R_far (p := ⟨g129, 2, none⟩) (Kd.R_far (p := ⟨g129, 1, none⟩) (Kd.R_far (p := ⟨g129, 0, none⟩) (Kd.R_types HO_8.out B129.out (by decide)) (fun _ hk => hk.2) (.slice Ao49 t130.length co49)) (fun _ hk => hk.2) (.slice none 0 0)) (fun _ hk => hk.2) (.int .i64 (-1))) (fun _ hk => hk.2) (.bool false)) (fun _ hk => trivial), by first | exact Kd.R_nil _ _ _ _ _ | exact Kd.N_nil _ _ _ _ _ | exact Kd.V_nil _ _ _ _ _ | exact Kd.Q_nil _ _ _ _ _ | exact Kd.S_nil _ _ _ _ _, by repeat (first | (with_reducible first | exact HB.out | apply eA | apply eN | apply eD | refine eS ?_ GE128.out | refine eS ?_ GE129.out | refine eS ?_ GE134.out) | exact HB.out)⟩
     ·rw [if_neg c20] at H
      exact absurd H (by simp)
    ·rw [if_neg c19] at H
     exact absurd H (by simp)
   ·replace c18 := Bool.eq_false_iff.mpr c18
    subst c18
    have H1 : (some (t130, ([] : List (S47)), (-1), false)) = some (r1, r2, r3, r4) := by rw [if_neg (show ¬ (false = true) by decide)] at H; exact H
    clear H
    have H := H1
    clear H1
    simp only [Option.some.injEq, Prod.mk.injEq] at H
    obtain ⟨rfl, rfl, rfl, rfl⟩ := H
    obtain ⟨Ao51, co51, eo51⟩ := Kd.R_slice HO_8.out
    subst eo51
    have hnb52 := NB129_128.out
    have hnc52 := NB128_129.out
    obtain ⟨z53_0, z53_1, z53_2, z53_3, f53_0, f53_1, f53_2, f53_3⟩ := cells4 B129.out
    go_wp2
    refine bodyPost_ret (results_cell_row rfl _ _ g129 25 #[.slice Ao51 t130.length co51, .slice none 0 0, .int .i64 (-1), .bool false] (0, 0) _ rfl (by (with_reducible repeat first | refine qN ?_ _ | refine qD ?_ | refine qA ?_ _); apply puts4; (with_reducible repeat first | refine qN ?_ _ | refine qD ?_ | refine qA ?_ _); exact B129.out) Try.underlying25 rfl (by kernel_rfl)) rfl ?_
    exact ⟨_, _, by first | rfl | (simp [errW_none, errW_some] <;> rfl) | (simp only [← hji4, ← hji5]; first | rfl | (simp [errW_none, errW_some] <;> rfl)) | (simp [*, errW_none, errW_some] <;> rfl), by (with_reducible repeat first | apply RA | apply RN | apply RD); exact Kd.R_mono (Kd.R_far (p := ⟨g129, 3, none⟩) (Kd.R_far (p := ⟨g129, 2, none⟩) (Kd.R_far (p := ⟨g129, 1, none⟩) (Kd.R_far (p := ⟨g129, 0, none⟩) (Kd.R_types HO_8.out B129.out (by decide)) (fun _ hk => hk.2) (.slice Ao51 t130.length co51)) (fun _ hk => hk.2) (.slice none 0 0)) (fun _ hk => hk.2) (.int .i64 (-1))) (fun _ hk => hk.2) (.bool false)) (fun _ hk => trivial), by first | exact Kd.R_nil _ _ _ _ _ | exact Kd.N_nil _ _ _ _ _ | exact Kd.V_nil _ _ _ _ _ | exact Kd.Q_nil _ _ _ _ _ | exact Kd.S_nil _ _ _ _ _, by repeat (first | (with_reducible first | exact HB.out | apply eA | apply eN | apply eD | refine eS ?_ GE128.out | refine eS ?_ GE129.out) | exact HB.out)⟩

/-! ### hogsheadlaw08_shown: function 10 -/
def hogsheadlaw08_shown.j0 : Nat → Bool → Option (Bool)
 | 0, _ => none
 | k + 1, x0 => some x0
def hogsheadlaw08_shown.f (k : Nat)  : Option (Bool) := (disk_New.f 2).bind fun bt137 => ((disk_Put.f bt137.1 bt137.2.1 bt137.2.2.1 bt137.2.2.2.1 0 (⟨#[97]⟩ : ByteArray)).bind fun bt147 => ((disk_Flush.f k bt147.1 bt147.2.1 bt147.2.2.1 bt147.2.2.2.1).bind fun bt156 => ((disk_Put.f bt156.1 bt156.2.1 bt156.2.2.1 bt156.2.2.2.1 0 (⟨#[98, 99]⟩ : ByteArray)).bind fun bt165 => ((disk_Crash.f k bt165.1 bt165.2.1 bt165.2.2.1 bt165.2.2.2.1 0 1).bind fun bt174 => ((disk_Get.f bt174.1 bt174.2.1 bt174.2.2.1 bt174.2.2.2 0).bind fun bt182 => (if bt137.2.2.2.2 = 0 then (if bt147.2.2.2.2 = 0 then (if bt156.2.2.2.2 = 0 then (if bt165.2.2.2.2 = 0 then (if bt182.2 = 0 then (hogsheadlaw08_shown.j0 k (bt182.1.toList == ([98] : List UInt8))) else (hogsheadlaw08_shown.j0 k false)) else (hogsheadlaw08_shown.j0 k false)) else (hogsheadlaw08_shown.j0 k false)) else (hogsheadlaw08_shown.j0 k false)) else (hogsheadlaw08_shown.j0 k false)))))))
theorem hogsheadlaw08_shown.mono_l : ∀ k, (∀ y0, LeO (hogsheadlaw08_shown.j0 k y0) (hogsheadlaw08_shown.j0 (k + 1) y0))
 | 0 => fun _ r h => by simp [hogsheadlaw08_shown.j0] at h
 | k + 1 => by
  have ih0 := hogsheadlaw08_shown.mono_l k
  ·intro y0
   unfold hogsheadlaw08_shown.j0
   repeat' first
   | (with_reducible exact ih0 _)
   | (with_reducible exact disk_Crash.mono _ _ _ _ _ _ _)
   | (with_reducible exact disk_Flush.mono _ _ _ _ _)
   | (with_reducible exact LeO.refl _)
   | (with_reducible exact LeO.none _)
   | (with_reducible refine LeO.ite ?_ ?_)
   | (with_reducible refine LeO.bind ?_ (fun _ => ?_))
   | exact ih0 _
   | exact disk_Crash.mono _ _ _ _ _ _ _
   | exact disk_Flush.mono _ _ _ _ _
   | exact LeO.none _
   | refine LeO.ite ?_ ?_
   | refine LeO.bind ?_ (fun _ => ?_)
theorem hogsheadlaw08_shown.mono : ∀ k, LeO (hogsheadlaw08_shown.f k ) (hogsheadlaw08_shown.f (k + 1) ) := by
 intro  k
 have ih0 := hogsheadlaw08_shown.mono_l k
 unfold hogsheadlaw08_shown.f
 repeat' first
   | (with_reducible exact ih0 _)
   | (with_reducible exact disk_Crash.mono _ _ _ _ _ _ _)
   | (with_reducible exact disk_Flush.mono _ _ _ _ _)
   | (with_reducible exact LeO.refl _)
   | (with_reducible exact LeO.none _)
   | (with_reducible refine LeO.ite ?_ ?_)
   | (with_reducible refine LeO.bind ?_ (fun _ => ?_))
   | exact ih0 _
   | exact disk_Crash.mono _ _ _ _ _ _ _
   | exact disk_Flush.mono _ _ _ _ _
   | exact LeO.none _
   | refine LeO.ite ?_ ?_
   | refine LeO.bind ?_ (fun _ => ?_)
set_option maxHeartbeats 40000000 in
set_option maxRecDepth 100000 in
theorem hogsheadlaw08_shown.calls (k : Nat)  (r : Bool) (w : World) (h : hogsheadlaw08_shown.f k  = some r) :
  Calls Try.prog 10 #[] w fun e w' => e = .returned (.bool r) ∧ Below w.heap.size w w' := by
 have hu25 := Try.underlying25
 have HB := qM (Below.refl w.heap.size w)
 have H : ((disk_New.f 2).bind fun bt137 => ((disk_Put.f bt137.1 bt137.2.1 bt137.2.2.1 bt137.2.2.2.1 0 (⟨#[97]⟩ : ByteArray)).bind fun bt147 => ((disk_Flush.f k bt147.1 bt147.2.1 bt147.2.2.1 bt147.2.2.2.1).bind fun bt156 => ((disk_Put.f bt156.1 bt156.2.1 bt156.2.2.1 bt156.2.2.2.1 0 (⟨#[98, 99]⟩ : ByteArray)).bind fun bt165 => ((disk_Crash.f k bt165.1 bt165.2.1 bt165.2.2.1 bt165.2.2.2.1 0 1).bind fun bt174 => ((disk_Get.f bt174.1 bt174.2.1 bt174.2.2.1 bt174.2.2.2 0).bind fun bt182 => (if bt137.2.2.2.2 = 0 then (if bt147.2.2.2.2 = 0 then (if bt156.2.2.2.2 = 0 then (if bt165.2.2.2.2 = 0 then (if bt182.2 = 0 then (hogsheadlaw08_shown.j0 k (bt182.1.toList == ([98] : List UInt8))) else (hogsheadlaw08_shown.j0 k false)) else (hogsheadlaw08_shown.j0 k false)) else (hogsheadlaw08_shown.j0 k false)) else (hogsheadlaw08_shown.j0 k false)) else (hogsheadlaw08_shown.j0 k false)))))))) = some r := h
 clear h
 replace H := Option.bind_eq_some_iff.mp H
 obtain ⟨⟨t137, t140, t143, t144, t145⟩, A10, H⟩ := H
 replace H : ((disk_Put.f t137 t140 t143 t144 0 (⟨#[97]⟩ : ByteArray)).bind fun bt147 => ((disk_Flush.f k bt147.1 bt147.2.1 bt147.2.2.1 bt147.2.2.2.1).bind fun bt156 => ((disk_Put.f bt156.1 bt156.2.1 bt156.2.2.1 bt156.2.2.2.1 0 (⟨#[98, 99]⟩ : ByteArray)).bind fun bt165 => ((disk_Crash.f k bt165.1 bt165.2.1 bt165.2.2.1 bt165.2.2.2.1 0 1).bind fun bt174 => ((disk_Get.f bt174.1 bt174.2.1 bt174.2.2.1 bt174.2.2.2 0).bind fun bt182 => (if t145 = 0 then (if bt147.2.2.2.2 = 0 then (if bt156.2.2.2.2 = 0 then (if bt165.2.2.2.2 = 0 then (if bt182.2 = 0 then (hogsheadlaw08_shown.j0 k (bt182.1.toList == ([98] : List UInt8))) else (hogsheadlaw08_shown.j0 k false)) else (hogsheadlaw08_shown.j0 k false)) else (hogsheadlaw08_shown.j0 k false)) else (hogsheadlaw08_shown.j0 k false)) else (hogsheadlaw08_shown.j0 k false))))))) = some r := H
 have A1 := qM A10
 clear A10
 replace H := Option.bind_eq_some_iff.mp H
 obtain ⟨⟨t147, t150, t153, t154, t155⟩, A20, H⟩ := H
 replace H : ((disk_Flush.f k t147 t150 t153 t154).bind fun bt156 => ((disk_Put.f bt156.1 bt156.2.1 bt156.2.2.1 bt156.2.2.2.1 0 (⟨#[98, 99]⟩ : ByteArray)).bind fun bt165 => ((disk_Crash.f k bt165.1 bt165.2.1 bt165.2.2.1 bt165.2.2.2.1 0 1).bind fun bt174 => ((disk_Get.f bt174.1 bt174.2.1 bt174.2.2.1 bt174.2.2.2 0).bind fun bt182 => (if t145 = 0 then (if t155 = 0 then (if bt156.2.2.2.2 = 0 then (if bt165.2.2.2.2 = 0 then (if bt182.2 = 0 then (hogsheadlaw08_shown.j0 k (bt182.1.toList == ([98] : List UInt8))) else (hogsheadlaw08_shown.j0 k false)) else (hogsheadlaw08_shown.j0 k false)) else (hogsheadlaw08_shown.j0 k false)) else (hogsheadlaw08_shown.j0 k false)) else (hogsheadlaw08_shown.j0 k false)))))) = some r := H
 have A2 := qM A20
 clear A20
 replace H := Option.bind_eq_some_iff.mp H
 obtain ⟨⟨t156, t159, t162, t163, t164⟩, A30, H⟩ := H
 replace H : ((disk_Put.f t156 t159 t162 t163 0 (⟨#[98, 99]⟩ : ByteArray)).bind fun bt165 => ((disk_Crash.f k bt165.1 bt165.2.1 bt165.2.2.1 bt165.2.2.2.1 0 1).bind fun bt174 => ((disk_Get.f bt174.1 bt174.2.1 bt174.2.2.1 bt174.2.2.2 0).bind fun bt182 => (if t145 = 0 then (if t155 = 0 then (if t164 = 0 then (if bt165.2.2.2.2 = 0 then (if bt182.2 = 0 then (hogsheadlaw08_shown.j0 k (bt182.1.toList == ([98] : List UInt8))) else (hogsheadlaw08_shown.j0 k false)) else (hogsheadlaw08_shown.j0 k false)) else (hogsheadlaw08_shown.j0 k false)) else (hogsheadlaw08_shown.j0 k false)) else (hogsheadlaw08_shown.j0 k false))))) = some r := H
 have A3 := qM A30
 clear A30
 replace H := Option.bind_eq_some_iff.mp H
 obtain ⟨⟨t165, t168, t171, t172, t173⟩, A40, H⟩ := H
 replace H : ((disk_Crash.f k t165 t168 t171 t172 0 1).bind fun bt174 => ((disk_Get.f bt174.1 bt174.2.1 bt174.2.2.1 bt174.2.2.2 0).bind fun bt182 => (if t145 = 0 then (if t155 = 0 then (if t164 = 0 then (if t173 = 0 then (if bt182.2 = 0 then (hogsheadlaw08_shown.j0 k (bt182.1.toList == ([98] : List UInt8))) else (hogsheadlaw08_shown.j0 k false)) else (hogsheadlaw08_shown.j0 k false)) else (hogsheadlaw08_shown.j0 k false)) else (hogsheadlaw08_shown.j0 k false)) else (hogsheadlaw08_shown.j0 k false)))) = some r := H
 have A4 := qM A40
 clear A40
 replace H := Option.bind_eq_some_iff.mp H
 obtain ⟨⟨t174, t177, t180, t181⟩, A50, H⟩ := H
 replace H : ((disk_Get.f t174 t177 t180 t181 0).bind fun bt182 => (if t145 = 0 then (if t155 = 0 then (if t164 = 0 then (if t173 = 0 then (if bt182.2 = 0 then (hogsheadlaw08_shown.j0 k (bt182.1.toList == ([98] : List UInt8))) else (hogsheadlaw08_shown.j0 k false)) else (hogsheadlaw08_shown.j0 k false)) else (hogsheadlaw08_shown.j0 k false)) else (hogsheadlaw08_shown.j0 k false)) else (hogsheadlaw08_shown.j0 k false))) = some r := H
 have A5 := qM A50
 clear A50
 replace H := Option.bind_eq_some_iff.mp H
 obtain ⟨⟨t182, t183⟩, A60, H⟩ := H
 replace H : (if t145 = 0 then (if t155 = 0 then (if t164 = 0 then (if t173 = 0 then (if t183 = 0 then (hogsheadlaw08_shown.j0 k (t182.toList == ([98] : List UInt8))) else (hogsheadlaw08_shown.j0 k false)) else (hogsheadlaw08_shown.j0 k false)) else (hogsheadlaw08_shown.j0 k false)) else (hogsheadlaw08_shown.j0 k false)) else (hogsheadlaw08_shown.j0 k false)) = some r := H
 have A6 := qM A60
 clear A60
 have HC7 := qM H
 clear H
 go_enter Try.func10, Try.ntmps10
 go_upto_region 6 with (first | ((with_reducible refine gate_callee (f := 17) rfl ?_); refine goesL_ (some 9) rfl rfl Try.func17 (by kernel_rfl) rfl #[.int .i64 2] rfl (by (try simp only [List.map_toArray, List.map_cons, List.map_nil]); first | done | rfl | (simp only [List.length_drop, List.length_take]; rfl)) ?_; (with_reducible refine (disk_New.calls 2 t137 t140 t143 t144 t145 _ A1.out).mono ?_); rintro e w8 ⟨v138, v141, rfl, ho0, ho1, hb⟩; refine ⟨_, rfl, ?_⟩; have n0_ := qM (Kd.R_lower ho0 (eZ (by repeat (first | (with_reducible first | exact HB.out | apply eA | apply eN | apply eD) | exact HB.out)))); have n1_ := qM (Kd.R_lower ho1 (eZ (by repeat (first | (with_reducible first | exact HB.out | apply eA | apply eN | apply eD) | exact HB.out)))); have n2_ := qM (eT (by repeat (first | (with_reducible first | exact HB.out | apply eA | apply eN | apply eD) | exact HB.out)) hb); clear HB; have HO139 := n0_; have HO142 := n1_; have HB := n2_; clear n0_ n1_ n2_; (try clear hb); (try clear hb2); (try clear hk); (try clear hi); (try clear ho0); (try clear ho1)) | ((with_reducible refine gate_dst (N := 1) rfl ?_); refine box_event ?hg (N := 1) ?hd (cs := #[.slice none 0 0, .slice none 0 0, .int .i64 0, .bool false]) (t := 25) ?hr ?_; (case hd => rfl); (case hg => rfl); (case hr => first | (go_simp; done) | (go_simp; rfl)); intro g146 hg w9 hbox hb; have n0_ := qM (Kd.R_below (by (with_reducible repeat first | apply RA | apply RN | apply RD); exact HO139.out) hb); have n1_ := qM (Kd.R_below (by (with_reducible repeat first | apply RA | apply RN | apply RD); exact HO142.out) hb); have n2_ := qM (eT (by repeat (first | (with_reducible first | exact HB.out | apply eA | apply eN | apply eD) | exact HB.out)) hb); have n3_ := qM (hbox); have n4_ := qM ((by rw [hg]; exact (eZ (by repeat (first | (with_reducible first | exact HB.out | apply eA | apply eN | apply eD) | exact HB.out))) : w.heap.size ≤ g146)); have n5_ := n4_; clear HO139 HO142 HB; have HO139 := n0_; have HO142 := n1_; have HB := n2_; have B146 := n3_; have GW146 := n4_; have GE146 := n5_; clear n0_ n1_ n2_ n3_ n4_ n5_; clear hb hbox hg; obtain ⟨Ao10, co10, eo10⟩ := Kd.R_slice HO139.out; subst eo10; obtain ⟨z11_0, z11_1, z11_2, z11_3, f11_0, f11_1, f11_2, f11_3⟩ := cells4 B146.out; obtain ⟨Ao12, co12, eo12⟩ := Kd.R_slice HO142.out; subst eo12) | ((with_reducible refine gate_store (t := 25) (p := 1) rfl ?_); refine store_event (t := 25) (p := 1) (v := ?vo_w13) (w1 := ((((w9.setCell ⟨g146, 0, none⟩ (.slice Ao10 t137.length co10)).setCell ⟨g146, 1, none⟩ (.slice Ao12 t140.length co12)).setCell ⟨g146, 2, none⟩ (.int .i64 t143)).setCell ⟨g146, 3, none⟩ (.bool t144))) ?hg ?ho ?hn ?hr ?_; (case ho => rfl); (case hg => rfl); (case hn => rfl); (case hr => first | (go_simp; done) | (go_simp; rfl)); intro w13 hw; have n0_ : Aside0 (Kd.R Kd.string 9 w13 w.heap.size (fun _ => True) (.slice Ao10 t137.length co10) t137) := ⟨(by rw [hw]; exact (by (with_reducible repeat first | apply RA | apply RN | apply RD); exact Kd.R_mono (Kd.R_far (p := ⟨g146, 3, none⟩) (Kd.R_far (p := ⟨g146, 2, none⟩) (Kd.R_far (p := ⟨g146, 1, none⟩) (Kd.R_far (p := ⟨g146, 0, none⟩) (Kd.R_types HO139.out B146.out (by decide)) (fun _ hk => hk.2) (.slice Ao10 t137.length co10)) (fun _ hk => hk.2) (.slice Ao12 t140.length co12)) (fun _ hk => hk.2) (.int .i64 t143)) (fun _ hk => hk.2) (.bool t144)) (fun _ hk => trivial)))⟩; have n1_ : Aside0 (Kd.R k47 47 w13 w.heap.size (fun _ => True) (.slice Ao12 t140.length co12) t140) := ⟨(by rw [hw]; exact (by (with_reducible repeat first | apply RA | apply RN | apply RD); exact Kd.R_mono (Kd.R_far (p := ⟨g146, 3, none⟩) (Kd.R_far (p := ⟨g146, 2, none⟩) (Kd.R_far (p := ⟨g146, 1, none⟩) (Kd.R_far (p := ⟨g146, 0, none⟩) (Kd.R_types HO142.out B146.out (by decide)) (fun _ hk => hk.2) (.slice Ao10 t137.length co10)) (fun _ hk => hk.2) (.slice Ao12 t140.length co12)) (fun _ hk => hk.2) (.int .i64 t143)) (fun _ hk => hk.2) (.bool t144)) (fun _ hk => trivial)))⟩; have n2_ : Aside0 (w13.heap[g146]? = some (.cells #[.slice Ao10 t137.length co10, .slice Ao12 t140.length co12, .int .i64 t143, .bool t144] 25 (0, 0))) := ⟨(by rw [hw]; exact (by (with_reducible repeat first | refine qN ?_ _ | refine qD ?_ | refine qA ?_ _); apply puts4; (with_reducible repeat first | refine qN ?_ _ | refine qD ?_ | refine qA ?_ _); exact B146.out))⟩; have n3_ : Aside0 (Below w.heap.size w w13) := ⟨(by rw [hw]; exact (by repeat (first | (with_reducible first | exact HB.out | apply eA | apply eN | apply eD | refine eU ?_ (by assumption)) | exact HB.out)))⟩; clear hw HO139 HO142 B146 HB; have HO139 := n0_; have HO142 := n1_; have B146 := n2_; have HB := n3_; clear n0_ n1_ n2_ n3_; obtain ⟨z14_0, z14_1, z14_2, z14_3, f14_0, f14_1, f14_2, f14_3⟩ := cells4 B146.out) | ((with_reducible refine gate_callee (f := 11) rfl ?_); refine goesL_ (some 14) rfl rfl Try.func11 (by kernel_rfl) rfl #[.agg #[.slice Ao10 t137.length co10, .slice Ao12 t140.length co12, .int .i64 t143, .bool t144], .int .i64 0, .string (⟨#[97]⟩ : ByteArray)] rfl (by (try simp only [List.map_toArray, List.map_cons, List.map_nil]); first | done | rfl | (simp only [List.length_drop, List.length_take]; rfl)) ?_; (with_reducible refine (disk_Put.calls (fun k_ => some k_ = (.slice Ao10 t137.length co10 : Value).ownBlock) _ _ t137 (fun k_ => some k_ = (.slice Ao12 t140.length co12 : Value).ownBlock) _ _ t140 t143 t144 0 (⟨#[97]⟩ : ByteArray) t147 t150 t153 t154 t155 _ ?side1 ?side2 A2.out).mono ?_); (case side1 => exact Kd.R_V (Kd.R_tight rfl (Kd.R_types (Kd.R_apart' (HO139.out) (Kd.R_typed HO142.out) (by decide)) B146.out (by decide)))); (case side2 => exact Kd.R_V (Kd.R_tight rfl (Kd.R_types (Kd.R_apart' (HO142.out) (Kd.R_typed HO139.out) (by decide)) B146.out (by decide)))); rintro e w15 ⟨v148, v151, rfl, ho0, ho1, hb⟩; refine ⟨_, rfl, ?_⟩; have n0_ := qM (Kd.R_below (by (with_reducible repeat first | apply RA | apply RN | apply RD); exact HO139.out) hb); have n1_ := qM (Kd.R_below (by (with_reducible repeat first | apply RA | apply RN | apply RD); exact HO142.out) hb); have n2_ := qM (Vl (Vm (ok' := fun k_ => k_ ≠ g146) ho0 (fun k_ hk_ => Or.elim hk_ (fun hs_ => Or.elim hs_ (fun hs_ => ((Kd.R_types (Kd.R_apart' (HO139.out) (Kd.R_typed HO142.out) (by decide)) B146.out (by decide)).1 k_ hs_.symm).2) (fun hs_ => ((Kd.R_types (Kd.R_apart' (HO142.out) (Kd.R_typed HO139.out) (by decide)) B146.out (by decide)).1 k_ hs_.symm).2)) (fun hn_ => (Fb (g := g146) (by (with_reducible repeat first | refine qN ?_ _ | refine qD ?_ | refine qA ?_ _); exact B146.out) k_ hn_)))) (eZ (by repeat (first | (with_reducible first | exact HB.out | apply eA | apply eN | apply eD | refine eU ?_ (by assumption)) | exact HB.out)))); have n3_ := qM (Vl (Vm (ok' := fun k_ => k_ ≠ g146) ho1 (fun k_ hk_ => Or.elim hk_ (fun hs_ => Or.elim hs_ (fun hs_ => ((Kd.R_types (Kd.R_apart' (HO139.out) (Kd.R_typed HO142.out) (by decide)) B146.out (by decide)).1 k_ hs_.symm).2) (fun hs_ => ((Kd.R_types (Kd.R_apart' (HO142.out) (Kd.R_typed HO139.out) (by decide)) B146.out (by decide)).1 k_ hs_.symm).2)) (fun hn_ => (Fb (g := g146) (by (with_reducible repeat first | refine qN ?_ _ | refine qD ?_ | refine qA ?_ _); exact B146.out) k_ hn_)))) (eZ (by repeat (first | (with_reducible first | exact HB.out | apply eA | apply eN | apply eD | refine eU ?_ (by assumption)) | exact HB.out)))); have n4_ := qM (qB (g := g146) (by (with_reducible repeat first | refine qN ?_ _ | refine qD ?_ | refine qA ?_ _); exact B146.out) hb); have n5_ := qM (eT (by repeat (first | (with_reducible first | exact HB.out | apply eA | apply eN | apply eD | refine eU ?_ (by assumption)) | exact HB.out)) hb); clear HO139 HO142 B146 HB; have HO139 := n0_; have HO142 := n1_; have HO149 := n2_; have HO152 := n3_; have B146 := n4_; have HB := n5_; clear n0_ n1_ n2_ n3_ n4_ n5_; (try clear hb); (try clear hb2); (try clear hk); (try clear hi); (try clear ho0); (try clear ho1); obtain ⟨Ao16, co16, eo16⟩ := Kd.V_slice HO149.out; subst eo16; obtain ⟨z17_0, z17_1, z17_2, z17_3, f17_0, f17_1, f17_2, f17_3⟩ := cells4 B146.out; obtain ⟨Ao18, co18, eo18⟩ := Kd.V_slice HO152.out; subst eo18) | ((with_reducible refine gate_store (t := 25) (p := 1) rfl ?_); refine store_event (t := 25) (p := 1) (v := ?vo_w19) (w1 := ((((w15.setCell ⟨g146, 0, none⟩ (.slice Ao16 t147.length co16)).setCell ⟨g146, 1, none⟩ (.slice Ao18 t150.length co18)).setCell ⟨g146, 2, none⟩ (.int .i64 t153)).setCell ⟨g146, 3, none⟩ (.bool t154))) ?hg ?ho ?hn ?hr ?_; (case ho => rfl); (case hg => rfl); (case hn => rfl); (case hr => first | (go_simp; done) | (go_simp; rfl)); intro w19 hw; have n0_ : Aside0 (Kd.R Kd.string 9 w19 w.heap.size (fun _ => True) (.slice Ao10 t137.length co10) t137) := ⟨(by rw [hw]; exact (by (with_reducible repeat first | apply RA | apply RN | apply RD); exact Kd.R_mono (Kd.R_far (p := ⟨g146, 3, none⟩) (Kd.R_far (p := ⟨g146, 2, none⟩) (Kd.R_far (p := ⟨g146, 1, none⟩) (Kd.R_far (p := ⟨g146, 0, none⟩) (Kd.R_types HO139.out B146.out (by decide)) (fun _ hk => hk.2) (.slice Ao16 t147.length co16)) (fun _ hk => hk.2) (.slice Ao18 t150.length co18)) (fun _ hk => hk.2) (.int .i64 t153)) (fun _ hk => hk.2) (.bool t154)) (fun _ hk => trivial)))⟩; have n1_ : Aside0 (Kd.R k47 47 w19 w.heap.size (fun _ => True) (.slice Ao12 t140.length co12) t140) := ⟨(by rw [hw]; exact (by (with_reducible repeat first | apply RA | apply RN | apply RD); exact Kd.R_mono (Kd.R_far (p := ⟨g146, 3, none⟩) (Kd.R_far (p := ⟨g146, 2, none⟩) (Kd.R_far (p := ⟨g146, 1, none⟩) (Kd.R_far (p := ⟨g146, 0, none⟩) (Kd.R_types HO142.out B146.out (by decide)) (fun _ hk => hk.2) (.slice Ao16 t147.length co16)) (fun _ hk => hk.2) (.slice Ao18 t150.length co18)) (fun _ hk => hk.2) (.int .i64 t153)) (fun _ hk => hk.2) (.bool t154)) (fun _ hk => trivial)))⟩; have n2_ : Aside0 (Kd.V Kd.string 9 w19 w.heap.size (fun k_ => k_ ≠ g146) (.slice Ao16 t147.length co16) t147) := ⟨(by rw [hw]; exact (by (with_reducible repeat first | apply VA | apply VN | apply VD); exact Vm (Vf (p := ⟨g146, 3, none⟩) (Vf (p := ⟨g146, 2, none⟩) (Vf (p := ⟨g146, 1, none⟩) (Vf (p := ⟨g146, 0, none⟩) (Vm HO149.out (fun k_ hk => (⟨hk, hk⟩ : _ ∧ k_ ≠ g146))) (fun _ hk => hk.2) (.slice Ao16 t147.length co16)) (fun _ hk => hk.2) (.slice Ao18 t150.length co18)) (fun _ hk => hk.2) (.int .i64 t153)) (fun _ hk => hk.2) (.bool t154)) (fun _ hk => hk.1)))⟩; have n3_ : Aside0 (Kd.V k47 47 w19 w.heap.size (fun k_ => k_ ≠ g146) (.slice Ao18 t150.length co18) t150) := ⟨(by rw [hw]; exact (by (with_reducible repeat first | apply VA | apply VN | apply VD); exact Vm (Vf (p := ⟨g146, 3, none⟩) (Vf (p := ⟨g146, 2, none⟩) (Vf (p := ⟨g146, 1, none⟩) (Vf (p := ⟨g146, 0, none⟩) (Vm HO152.out (fun k_ hk => (⟨hk, hk⟩ : _ ∧ k_ ≠ g146))) (fun _ hk => hk.2) (.slice Ao16 t147.length co16)) (fun _ hk => hk.2) (.slice Ao18 t150.length co18)) (fun _ hk => hk.2) (.int .i64 t153)) (fun _ hk => hk.2) (.bool t154)) (fun _ hk => hk.1)))⟩; have n4_ : Aside0 (w19.heap[g146]? = some (.cells #[.slice Ao16 t147.length co16, .slice Ao18 t150.length co18, .int .i64 t153, .bool t154] 25 (0, 0))) := ⟨(by rw [hw]; exact (by (with_reducible repeat first | refine qN ?_ _ | refine qD ?_ | refine qA ?_ _); apply puts4; (with_reducible repeat first | refine qN ?_ _ | refine qD ?_ | refine qA ?_ _); exact B146.out))⟩; have n5_ : Aside0 (Below w.heap.size w w19) := ⟨(by rw [hw]; exact (by repeat (first | (with_reducible first | exact HB.out | apply eA | apply eN | apply eD | refine eU ?_ (by assumption)) | exact HB.out)))⟩; clear hw HO139 HO142 HO149 HO152 B146 HB; have HO139 := n0_; have HO142 := n1_; have HO149 := n2_; have HO152 := n3_; have B146 := n4_; have HB := n5_; clear n0_ n1_ n2_ n3_ n4_ n5_; obtain ⟨z20_0, z20_1, z20_2, z20_3, f20_0, f20_1, f20_2, f20_3⟩ := cells4 B146.out) | ((with_reducible refine gate_callee (f := 15) rfl ?_); refine goesL_ (some 19) rfl rfl Try.func15 (by kernel_rfl) rfl #[.agg #[.slice Ao16 t147.length co16, .slice Ao18 t150.length co18, .int .i64 t153, .bool t154]] rfl (by (try simp only [List.map_toArray, List.map_cons, List.map_nil]); first | done | rfl | (simp only [List.length_drop, List.length_take]; rfl)) ?_; (with_reducible refine (disk_Flush.calls k (fun k_ => k_ ≠ g146) _ _ t147 (fun k_ => k_ ≠ g146) _ _ t150 t153 t154 t156 t159 t162 t163 t164 _ ?side1 ?side2 A3.out).mono ?_); (case side1 => exact HO149.out); (case side2 => exact HO152.out); rintro e w21 ⟨v157, v160, rfl, ho0, ho1, hb⟩; refine ⟨_, rfl, ?_⟩; have n0_ := qM (Kd.R_below (by (with_reducible repeat first | apply RA | apply RN | apply RD); exact HO139.out) hb); have n1_ := qM (Kd.R_below (by (with_reducible repeat first | apply RA | apply RN | apply RD); exact HO142.out) hb); have n2_ := qM (Vb (by (with_reducible repeat first | apply VA | apply VN | apply VD); exact HO149.out) hb); have n3_ := qM (Vb (by (with_reducible repeat first | apply VA | apply VN | apply VD); exact HO152.out) hb); have n4_ := qM (Vl (Vm (ok' := fun k_ => k_ ≠ g146) ho0 (fun k_ hk_ => Or.elim hk_ (fun hs_ => Or.elim hs_ (fun hs_ => hs_) (fun hs_ => hs_)) (fun hn_ => (Fb (g := g146) (by (with_reducible repeat first | refine qN ?_ _ | refine qD ?_ | refine qA ?_ _); exact B146.out) k_ hn_)))) (eZ (by repeat (first | (with_reducible first | exact HB.out | apply eA | apply eN | apply eD | refine eU ?_ (by assumption)) | exact HB.out)))); have n5_ := qM (Vl (Vm (ok' := fun k_ => k_ ≠ g146) ho1 (fun k_ hk_ => Or.elim hk_ (fun hs_ => Or.elim hs_ (fun hs_ => hs_) (fun hs_ => hs_)) (fun hn_ => (Fb (g := g146) (by (with_reducible repeat first | refine qN ?_ _ | refine qD ?_ | refine qA ?_ _); exact B146.out) k_ hn_)))) (eZ (by repeat (first | (with_reducible first | exact HB.out | apply eA | apply eN | apply eD | refine eU ?_ (by assumption)) | exact HB.out)))); have n6_ := qM (qB (g := g146) (by (with_reducible repeat first | refine qN ?_ _ | refine qD ?_ | refine qA ?_ _); exact B146.out) hb); have n7_ := qM (eT (by repeat (first | (with_reducible first | exact HB.out | apply eA | apply eN | apply eD | refine eU ?_ (by assumption)) | exact HB.out)) hb); clear HO139 HO142 HO149 HO152 B146 HB; have HO139 := n0_; have HO142 := n1_; have HO149 := n2_; have HO152 := n3_; have HO158 := n4_; have HO161 := n5_; have B146 := n6_; have HB := n7_; clear n0_ n1_ n2_ n3_ n4_ n5_ n6_ n7_; (try clear hb); (try clear hb2); (try clear hk); (try clear hi); (try clear ho0); (try clear ho1); obtain ⟨Ao22, co22, eo22⟩ := Kd.V_slice HO158.out; subst eo22; obtain ⟨z23_0, z23_1, z23_2, z23_3, f23_0, f23_1, f23_2, f23_3⟩ := cells4 B146.out; obtain ⟨Ao24, co24, eo24⟩ := Kd.V_slice HO161.out; subst eo24) | ((with_reducible refine gate_store (t := 25) (p := 1) rfl ?_); refine store_event (t := 25) (p := 1) (v := ?vo_w25) (w1 := ((((w21.setCell ⟨g146, 0, none⟩ (.slice Ao22 t156.length co22)).setCell ⟨g146, 1, none⟩ (.slice Ao24 t159.length co24)).setCell ⟨g146, 2, none⟩ (.int .i64 t162)).setCell ⟨g146, 3, none⟩ (.bool t163))) ?hg ?ho ?hn ?hr ?_; (case ho => rfl); (case hg => rfl); (case hn => rfl); (case hr => first | (go_simp; done) | (go_simp; rfl)); intro w25 hw; have n0_ : Aside0 (Kd.R Kd.string 9 w25 w.heap.size (fun _ => True) (.slice Ao10 t137.length co10) t137) := ⟨(by rw [hw]; exact (by (with_reducible repeat first | apply RA | apply RN | apply RD); exact Kd.R_mono (Kd.R_far (p := ⟨g146, 3, none⟩) (Kd.R_far (p := ⟨g146, 2, none⟩) (Kd.R_far (p := ⟨g146, 1, none⟩) (Kd.R_far (p := ⟨g146, 0, none⟩) (Kd.R_types HO139.out B146.out (by decide)) (fun _ hk => hk.2) (.slice Ao22 t156.length co22)) (fun _ hk => hk.2) (.slice Ao24 t159.length co24)) (fun _ hk => hk.2) (.int .i64 t162)) (fun _ hk => hk.2) (.bool t163)) (fun _ hk => trivial)))⟩; have n1_ : Aside0 (Kd.R k47 47 w25 w.heap.size (fun _ => True) (.slice Ao12 t140.length co12) t140) := ⟨(by rw [hw]; exact (by (with_reducible repeat first | apply RA | apply RN | apply RD); exact Kd.R_mono (Kd.R_far (p := ⟨g146, 3, none⟩) (Kd.R_far (p := ⟨g146, 2, none⟩) (Kd.R_far (p := ⟨g146, 1, none⟩) (Kd.R_far (p := ⟨g146, 0, none⟩) (Kd.R_types HO142.out B146.out (by decide)) (fun _ hk => hk.2) (.slice Ao22 t156.length co22)) (fun _ hk => hk.2) (.slice Ao24 t159.length co24)) (fun _ hk => hk.2) (.int .i64 t162)) (fun _ hk => hk.2) (.bool t163)) (fun _ hk => trivial)))⟩; have n2_ : Aside0 (Kd.V Kd.string 9 w25 w.heap.size (fun k_ => k_ ≠ g146) (.slice Ao16 t147.length co16) t147) := ⟨(by rw [hw]; exact (by (with_reducible repeat first | apply VA | apply VN | apply VD); exact Vm (Vf (p := ⟨g146, 3, none⟩) (Vf (p := ⟨g146, 2, none⟩) (Vf (p := ⟨g146, 1, none⟩) (Vf (p := ⟨g146, 0, none⟩) (Vm HO149.out (fun k_ hk => (⟨hk, hk⟩ : _ ∧ k_ ≠ g146))) (fun _ hk => hk.2) (.slice Ao22 t156.length co22)) (fun _ hk => hk.2) (.slice Ao24 t159.length co24)) (fun _ hk => hk.2) (.int .i64 t162)) (fun _ hk => hk.2) (.bool t163)) (fun _ hk => hk.1)))⟩; have n3_ : Aside0 (Kd.V k47 47 w25 w.heap.size (fun k_ => k_ ≠ g146) (.slice Ao18 t150.length co18) t150) := ⟨(by rw [hw]; exact (by (with_reducible repeat first | apply VA | apply VN | apply VD); exact Vm (Vf (p := ⟨g146, 3, none⟩) (Vf (p := ⟨g146, 2, none⟩) (Vf (p := ⟨g146, 1, none⟩) (Vf (p := ⟨g146, 0, none⟩) (Vm HO152.out (fun k_ hk => (⟨hk, hk⟩ : _ ∧ k_ ≠ g146))) (fun _ hk => hk.2) (.slice Ao22 t156.length co22)) (fun _ hk => hk.2) (.slice Ao24 t159.length co24)) (fun _ hk => hk.2) (.int .i64 t162)) (fun _ hk => hk.2) (.bool t163)) (fun _ hk => hk.1)))⟩; have n4_ : Aside0 (Kd.V Kd.string 9 w25 w.heap.size (fun k_ => k_ ≠ g146) (.slice Ao22 t156.length co22) t156) := ⟨(by rw [hw]; exact (by (with_reducible repeat first | apply VA | apply VN | apply VD); exact Vm (Vf (p := ⟨g146, 3, none⟩) (Vf (p := ⟨g146, 2, none⟩) (Vf (p := ⟨g146, 1, none⟩) (Vf (p := ⟨g146, 0, none⟩) (Vm HO158.out (fun k_ hk => (⟨hk, hk⟩ : _ ∧ k_ ≠ g146))) (fun _ hk => hk.2) (.slice Ao22 t156.length co22)) (fun _ hk => hk.2) (.slice Ao24 t159.length co24)) (fun _ hk => hk.2) (.int .i64 t162)) (fun _ hk => hk.2) (.bool t163)) (fun _ hk => hk.1)))⟩; have n5_ : Aside0 (Kd.V k47 47 w25 w.heap.size (fun k_ => k_ ≠ g146) (.slice Ao24 t159.length co24) t159) := ⟨(by rw [hw]; exact (by (with_reducible repeat first | apply VA | apply VN | apply VD); exact Vm (Vf (p := ⟨g146, 3, none⟩) (Vf (p := ⟨g146, 2, none⟩) (Vf (p := ⟨g146, 1, none⟩) (Vf (p := ⟨g146, 0, none⟩) (Vm HO161.out (fun k_ hk => (⟨hk, hk⟩ : _ ∧ k_ ≠ g146))) (fun _ hk => hk.2) (.slice Ao22 t156.length co22)) (fun _ hk => hk.2) (.slice Ao24 t159.length co24)) (fun _ hk => hk.2) (.int .i64 t162)) (fun _ hk => hk.2) (.bool t163)) (fun _ hk => hk.1)))⟩; have n6_ : Aside0 (w25.heap[g146]? = some (.cells #[.slice Ao22 t156.length co22, .slice Ao24 t159.length co24, .int .i64 t162, .bool t163] 25 (0, 0))) := ⟨(by rw [hw]; exact (by (with_reducible repeat first | refine qN ?_ _ | refine qD ?_ | refine qA ?_ _); apply puts4; (with_reducible repeat first | refine qN ?_ _ | refine qD ?_ | refine qA ?_ _); exact B146.out))⟩; have n7_ : Aside0 (Below w.heap.size w w25) := ⟨(by rw [hw]; exact (by repeat (first | (with_reducible first | exact HB.out | apply eA | apply eN | apply eD | refine eU ?_ (by assumption)) | exact HB.out)))⟩; clear hw HO139 HO142 HO149 HO152 HO158 HO161 B146 HB; have HO139 := n0_; have HO142 := n1_; have HO149 := n2_; have HO152 := n3_; have HO158 := n4_; have HO161 := n5_; have B146 := n6_; have HB := n7_; clear n0_ n1_ n2_ n3_ n4_ n5_ n6_ n7_; obtain ⟨z26_0, z26_1, z26_2, z26_3, f26_0, f26_1, f26_2, f26_3⟩ := cells4 B146.out) | ((with_reducible refine gate_callee (f := 11) rfl ?_); refine goesL_ (some 24) rfl rfl Try.func11 (by kernel_rfl) rfl #[.agg #[.slice Ao22 t156.length co22, .slice Ao24 t159.length co24, .int .i64 t162, .bool t163], .int .i64 0, .string (⟨#[98, 99]⟩ : ByteArray)] rfl (by (try simp only [List.map_toArray, List.map_cons, List.map_nil]); first | done | rfl | (simp only [List.length_drop, List.length_take]; rfl)) ?_; (with_reducible refine (disk_Put.calls (fun k_ => k_ ≠ g146) _ _ t156 (fun k_ => k_ ≠ g146) _ _ t159 t162 t163 0 (⟨#[98, 99]⟩ : ByteArray) t165 t168 t171 t172 t173 _ ?side1 ?side2 A4.out).mono ?_); (case side1 => exact HO158.out); (case side2 => exact HO161.out); rintro e w27 ⟨v166, v169, rfl, ho0, ho1, hb⟩; refine ⟨_, rfl, ?_⟩; have n0_ := qM (Kd.R_below (by (with_reducible repeat first | apply RA | apply RN | apply RD); exact HO139.out) hb); have n1_ := qM (Kd.R_below (by (with_reducible repeat first | apply RA | apply RN | apply RD); exact HO142.out) hb); have n2_ := qM (Vb (by (with_reducible repeat first | apply VA | apply VN | apply VD); exact HO149.out) hb); have n3_ := qM (Vb (by (with_reducible repeat first | apply VA | apply VN | apply VD); exact HO152.out) hb); have n4_ := qM (Vb (by (with_reducible repeat first | apply VA | apply VN | apply VD); exact HO158.out) hb); have n5_ := qM (Vb (by (with_reducible repeat first | apply VA | apply VN | apply VD); exact HO161.out) hb); have n6_ := qM (Vl (Vm (ok' := fun k_ => k_ ≠ g146) ho0 (fun k_ hk_ => Or.elim hk_ (fun hs_ => Or.elim hs_ (fun hs_ => hs_) (fun hs_ => hs_)) (fun hn_ => (Fb (g := g146) (by (with_reducible repeat first | refine qN ?_ _ | refine qD ?_ | refine qA ?_ _); exact B146.out) k_ hn_)))) (eZ (by repeat (first | (with_reducible first | exact HB.out | apply eA | apply eN | apply eD | refine eU ?_ (by assumption)) | exact HB.out)))); have n7_ := qM (Vl (Vm (ok' := fun k_ => k_ ≠ g146) ho1 (fun k_ hk_ => Or.elim hk_ (fun hs_ => Or.elim hs_ (fun hs_ => hs_) (fun hs_ => hs_)) (fun hn_ => (Fb (g := g146) (by (with_reducible repeat first | refine qN ?_ _ | refine qD ?_ | refine qA ?_ _); exact B146.out) k_ hn_)))) (eZ (by repeat (first | (with_reducible first | exact HB.out | apply eA | apply eN | apply eD | refine eU ?_ (by assumption)) | exact HB.out)))); have n8_ := qM (qB (g := g146) (by (with_reducible repeat first | refine qN ?_ _ | refine qD ?_ | refine qA ?_ _); exact B146.out) hb); have n9_ := qM (eT (by repeat (first | (with_reducible first | exact HB.out | apply eA | apply eN | apply eD | refine eU ?_ (by assumption)) | exact HB.out)) hb); clear HO139 HO142 HO149 HO152 HO158 HO161 B146 HB; have HO139 := n0_; have HO142 := n1_; have HO149 := n2_; have HO152 := n3_; have HO158 := n4_; have HO161 := n5_; have HO167 := n6_; have HO170 := n7_; have B146 := n8_; have HB := n9_; clear n0_ n1_ n2_ n3_ n4_ n5_ n6_ n7_ n8_ n9_; (try clear hb); (try clear hb2); (try clear hk); (try clear hi); (try clear ho0); (try clear ho1); obtain ⟨Ao28, co28, eo28⟩ := Kd.V_slice HO167.out; subst eo28; obtain ⟨z29_0, z29_1, z29_2, z29_3, f29_0, f29_1, f29_2, f29_3⟩ := cells4 B146.out; obtain ⟨Ao30, co30, eo30⟩ := Kd.V_slice HO170.out; subst eo30) | ((with_reducible refine gate_callee (f := 20) rfl ?_); refine goesL_ (some 29) rfl rfl Try.func20 (by kernel_rfl) rfl #[.agg #[.slice Ao28 t165.length co28, .slice Ao30 t168.length co30, .int .i64 t171, .bool t172], .int .i64 0, .int .i64 1] rfl (by (try simp only [List.map_toArray, List.map_cons, List.map_nil]); first | done | rfl | (simp only [List.length_drop, List.length_take]; rfl)) ?_; (with_reducible refine (disk_Crash.calls k _ _ t165 _ _ t168 t171 t172 0 1 t174 t177 t180 t181 _ ?side1 ?side2 ?side3 ?side4 A5.out).mono ?_); (case side1 => refine (Kd.V_reads' (e := 9) (base := w.heap.size) (ok := fun k_ => k_ ≠ g146) (n := t165.length) (c := co28) ?_).2.2; exact (by (with_reducible repeat first | apply VA | apply VN | apply VD); exact (Vm (Vf (p := ⟨g146, 3, none⟩) (Vf (p := ⟨g146, 2, none⟩) (Vf (p := ⟨g146, 1, none⟩) (Vf (p := ⟨g146, 0, none⟩) (Vm HO167.out (fun k_ hk => (⟨hk, hk⟩ : _ ∧ k_ ≠ g146))) (fun _ hk => hk.2) (.slice Ao28 t165.length co28)) (fun _ hk => hk.2) (.slice Ao30 t168.length co30)) (fun _ hk => hk.2) (.int .i64 t171)) (fun _ hk => hk.2) (.bool t172)) (fun _ h_ => h_.1)))); (case side2 => exact (Kd.V_reads' HO167.out).2.1); (case side3 => refine (Kd.V_reads' (e := 47) (base := w.heap.size) (ok := fun k_ => k_ ≠ g146) (n := t168.length) (c := co30) ?_).2.2; exact (by (with_reducible repeat first | apply VA | apply VN | apply VD); exact (Vm (Vf (p := ⟨g146, 3, none⟩) (Vf (p := ⟨g146, 2, none⟩) (Vf (p := ⟨g146, 1, none⟩) (Vf (p := ⟨g146, 0, none⟩) (Vm HO170.out (fun k_ hk => (⟨hk, hk⟩ : _ ∧ k_ ≠ g146))) (fun _ hk => hk.2) (.slice Ao28 t165.length co28)) (fun _ hk => hk.2) (.slice Ao30 t168.length co30)) (fun _ hk => hk.2) (.int .i64 t171)) (fun _ hk => hk.2) (.bool t172)) (fun _ h_ => h_.1)))); (case side4 => exact (Kd.V_reads' HO170.out).2.1); rintro e w31 ⟨v175, v178, rfl, ho0, ho1, hb⟩; refine ⟨_, rfl, ?_⟩; have n0_ := qM (Kd.R_elder' (by (with_reducible repeat first | apply RA | apply RN | apply RD); exact (Kd.R_mono (Kd.R_far (p := ⟨g146, 3, none⟩) (Kd.R_far (p := ⟨g146, 2, none⟩) (Kd.R_far (p := ⟨g146, 1, none⟩) (Kd.R_far (p := ⟨g146, 0, none⟩) (Kd.R_types HO139.out B146.out (by decide)) (fun _ hk => hk.2) (.slice Ao28 t165.length co28)) (fun _ hk => hk.2) (.slice Ao30 t168.length co30)) (fun _ hk => hk.2) (.int .i64 t171)) (fun _ hk => hk.2) (.bool t172)) (fun _ h_ => h_.1))) (Kd.R_base ho0) hb); have n1_ := qM (Kd.R_elder' (by (with_reducible repeat first | apply RA | apply RN | apply RD); exact (Kd.R_mono (Kd.R_far (p := ⟨g146, 3, none⟩) (Kd.R_far (p := ⟨g146, 2, none⟩) (Kd.R_far (p := ⟨g146, 1, none⟩) (Kd.R_far (p := ⟨g146, 0, none⟩) (Kd.R_types HO142.out B146.out (by decide)) (fun _ hk => hk.2) (.slice Ao28 t165.length co28)) (fun _ hk => hk.2) (.slice Ao30 t168.length co30)) (fun _ hk => hk.2) (.int .i64 t171)) (fun _ hk => hk.2) (.bool t172)) (fun _ h_ => h_.1))) (Kd.R_base ho1) hb); have n2_ := qM (Vm (Kd.V_told (Kd.V_told (Kd.V_old (by (with_reducible repeat first | apply VA | apply VN | apply VD); exact (Vm (Vf (p := ⟨g146, 3, none⟩) (Vf (p := ⟨g146, 2, none⟩) (Vf (p := ⟨g146, 1, none⟩) (Vf (p := ⟨g146, 0, none⟩) (Vm HO149.out (fun k_ hk => (⟨hk, hk⟩ : _ ∧ k_ ≠ g146))) (fun _ hk => hk.2) (.slice Ao28 t165.length co28)) (fun _ hk => hk.2) (.slice Ao30 t168.length co30)) (fun _ hk => hk.2) (.int .i64 t171)) (fun _ hk => hk.2) (.bool t172)) (fun _ h_ => h_.1))) hb) (Kd.R_base ho0)) (Kd.R_base ho1)) (fun _ h_ => h_.1)); have n3_ := qM (Vm (Kd.V_told (Kd.V_told (Kd.V_old (by (with_reducible repeat first | apply VA | apply VN | apply VD); exact (Vm (Vf (p := ⟨g146, 3, none⟩) (Vf (p := ⟨g146, 2, none⟩) (Vf (p := ⟨g146, 1, none⟩) (Vf (p := ⟨g146, 0, none⟩) (Vm HO152.out (fun k_ hk => (⟨hk, hk⟩ : _ ∧ k_ ≠ g146))) (fun _ hk => hk.2) (.slice Ao28 t165.length co28)) (fun _ hk => hk.2) (.slice Ao30 t168.length co30)) (fun _ hk => hk.2) (.int .i64 t171)) (fun _ hk => hk.2) (.bool t172)) (fun _ h_ => h_.1))) hb) (Kd.R_base ho0)) (Kd.R_base ho1)) (fun _ h_ => h_.1)); have n4_ := qM (Vm (Kd.V_told (Kd.V_told (Kd.V_old (by (with_reducible repeat first | apply VA | apply VN | apply VD); exact (Vm (Vf (p := ⟨g146, 3, none⟩) (Vf (p := ⟨g146, 2, none⟩) (Vf (p := ⟨g146, 1, none⟩) (Vf (p := ⟨g146, 0, none⟩) (Vm HO158.out (fun k_ hk => (⟨hk, hk⟩ : _ ∧ k_ ≠ g146))) (fun _ hk => hk.2) (.slice Ao28 t165.length co28)) (fun _ hk => hk.2) (.slice Ao30 t168.length co30)) (fun _ hk => hk.2) (.int .i64 t171)) (fun _ hk => hk.2) (.bool t172)) (fun _ h_ => h_.1))) hb) (Kd.R_base ho0)) (Kd.R_base ho1)) (fun _ h_ => h_.1)); have n5_ := qM (Vm (Kd.V_told (Kd.V_told (Kd.V_old (by (with_reducible repeat first | apply VA | apply VN | apply VD); exact (Vm (Vf (p := ⟨g146, 3, none⟩) (Vf (p := ⟨g146, 2, none⟩) (Vf (p := ⟨g146, 1, none⟩) (Vf (p := ⟨g146, 0, none⟩) (Vm HO161.out (fun k_ hk => (⟨hk, hk⟩ : _ ∧ k_ ≠ g146))) (fun _ hk => hk.2) (.slice Ao28 t165.length co28)) (fun _ hk => hk.2) (.slice Ao30 t168.length co30)) (fun _ hk => hk.2) (.int .i64 t171)) (fun _ hk => hk.2) (.bool t172)) (fun _ h_ => h_.1))) hb) (Kd.R_base ho0)) (Kd.R_base ho1)) (fun _ h_ => h_.1)); have n6_ := qM (Vm (Kd.V_told (Kd.V_told (Kd.V_old (by (with_reducible repeat first | apply VA | apply VN | apply VD); exact (Vm (Vf (p := ⟨g146, 3, none⟩) (Vf (p := ⟨g146, 2, none⟩) (Vf (p := ⟨g146, 1, none⟩) (Vf (p := ⟨g146, 0, none⟩) (Vm HO167.out (fun k_ hk => (⟨hk, hk⟩ : _ ∧ k_ ≠ g146))) (fun _ hk => hk.2) (.slice Ao28 t165.length co28)) (fun _ hk => hk.2) (.slice Ao30 t168.length co30)) (fun _ hk => hk.2) (.int .i64 t171)) (fun _ hk => hk.2) (.bool t172)) (fun _ h_ => h_.1))) hb) (Kd.R_base ho0)) (Kd.R_base ho1)) (fun _ h_ => h_.1)); have n7_ := qM (Vm (Kd.V_told (Kd.V_told (Kd.V_old (by (with_reducible repeat first | apply VA | apply VN | apply VD); exact (Vm (Vf (p := ⟨g146, 3, none⟩) (Vf (p := ⟨g146, 2, none⟩) (Vf (p := ⟨g146, 1, none⟩) (Vf (p := ⟨g146, 0, none⟩) (Vm HO170.out (fun k_ hk => (⟨hk, hk⟩ : _ ∧ k_ ≠ g146))) (fun _ hk => hk.2) (.slice Ao28 t165.length co28)) (fun _ hk => hk.2) (.slice Ao30 t168.length co30)) (fun _ hk => hk.2) (.int .i64 t171)) (fun _ hk => hk.2) (.bool t172)) (fun _ h_ => h_.1))) hb) (Kd.R_base ho0)) (Kd.R_base ho1)) (fun _ h_ => h_.1)); have n8_ := qM (Kd.R_lower (Kd.R_new' ho0 (Kd.R_lt (by (with_reducible repeat first | apply RA | apply RN | apply RD); exact (Kd.R_mono (Kd.R_far (p := ⟨g146, 3, none⟩) (Kd.R_far (p := ⟨g146, 2, none⟩) (Kd.R_far (p := ⟨g146, 1, none⟩) (Kd.R_far (p := ⟨g146, 0, none⟩) (Kd.R_types HO139.out B146.out (by decide)) (fun _ hk => hk.2) (.slice Ao28 t165.length co28)) (fun _ hk => hk.2) (.slice Ao30 t168.length co30)) (fun _ hk => hk.2) (.int .i64 t171)) (fun _ hk => hk.2) (.bool t172)) (fun _ h_ => h_.1))))) (eZ (by repeat (first | (with_reducible first | exact HB.out | apply eA | apply eN | apply eD | refine eU ?_ (by assumption)) | exact HB.out)))); have n9_ := qM (Kd.R_lower (Kd.R_new' ho1 (Kd.R_lt (by (with_reducible repeat first | apply RA | apply RN | apply RD); exact (Kd.R_mono (Kd.R_far (p := ⟨g146, 3, none⟩) (Kd.R_far (p := ⟨g146, 2, none⟩) (Kd.R_far (p := ⟨g146, 1, none⟩) (Kd.R_far (p := ⟨g146, 0, none⟩) (Kd.R_types HO142.out B146.out (by decide)) (fun _ hk => hk.2) (.slice Ao28 t165.length co28)) (fun _ hk => hk.2) (.slice Ao30 t168.length co30)) (fun _ hk => hk.2) (.int .i64 t171)) (fun _ hk => hk.2) (.bool t172)) (fun _ h_ => h_.1))))) (eZ (by repeat (first | (with_reducible first | exact HB.out | apply eA | apply eN | apply eD | refine eU ?_ (by assumption)) | exact HB.out)))); have n10_ := qM (qB (g := g146) (by (with_reducible repeat first | refine qN ?_ _ | refine qD ?_ | refine qA ?_ _); apply puts4; (with_reducible repeat first | refine qN ?_ _ | refine qD ?_ | refine qA ?_ _); exact B146.out) hb); have n11_ := qM (eT (by repeat (first | (with_reducible first | exact HB.out | apply eA | apply eN | apply eD | refine eU ?_ (by assumption)) | exact HB.out)) hb); clear HO139 HO142 HO149 HO152 HO158 HO161 HO167 HO170 B146 HB; have HO139 := n0_; have HO142 := n1_; have HO149 := n2_; have HO152 := n3_; have HO158 := n4_; have HO161 := n5_; have HO167 := n6_; have HO170 := n7_; have HO176 := n8_; have HO179 := n9_; have B146 := n10_; have HB := n11_; clear n0_ n1_ n2_ n3_ n4_ n5_ n6_ n7_ n8_ n9_ n10_ n11_; (try clear hb); (try clear hb2); (try clear hk); (try clear hi); (try clear ho0); (try clear ho1); obtain ⟨Ao32, co32, eo32⟩ := Kd.R_slice HO176.out; subst eo32; obtain ⟨Ao33, co33, eo33⟩ := Kd.R_slice HO179.out; subst eo33) | ((with_reducible refine gate_callee (f := 13) rfl ?_); refine goesL_ (some 30) rfl rfl Try.func13 (by kernel_rfl) rfl #[.agg #[.slice Ao32 t174.length co32, .slice Ao33 t177.length co33, .int .i64 t180, .bool t181], .int .i64 0] rfl (by (try simp only [List.map_toArray, List.map_cons, List.map_nil]); first | done | rfl | (simp only [List.length_drop, List.length_take]; rfl)) ?_; (with_reducible refine (disk_Get.calls _ _ t174 _ _ t177 t180 t181 0 t182 t183 _ ?side1 ?side2 ?side3 ?side4 A6.out).mono ?_); (case side1 => repeat (first | exact (Kd.R_reads' HO176.out).2.2 | (with_reducible refine Kd.C_alloc ?_ _) | (with_reducible refine Kd.C_drewN ?_ _) | (with_reducible refine Kd.C_drew ?_))); (case side2 => exact (Kd.R_reads' HO176.out).2.1); (case side3 => repeat (first | exact (Kd.R_reads' HO179.out).2.2 | (with_reducible refine Kd.C_alloc ?_ _) | (with_reducible refine Kd.C_drewN ?_ _) | (with_reducible refine Kd.C_drew ?_))); (case side4 => exact (Kd.R_reads' HO179.out).2.1); rintro e w34 ⟨rfl, hb⟩; refine ⟨_, rfl, ?_⟩; have n0_ := qM (Kd.R_below (by (with_reducible repeat first | apply RA | apply RN | apply RD); exact HO139.out) hb); have n1_ := qM (Kd.R_below (by (with_reducible repeat first | apply RA | apply RN | apply RD); exact HO142.out) hb); have n2_ := qM (Vb (by (with_reducible repeat first | apply VA | apply VN | apply VD); exact HO149.out) hb); have n3_ := qM (Vb (by (with_reducible repeat first | apply VA | apply VN | apply VD); exact HO152.out) hb); have n4_ := qM (Vb (by (with_reducible repeat first | apply VA | apply VN | apply VD); exact HO158.out) hb); have n5_ := qM (Vb (by (with_reducible repeat first | apply VA | apply VN | apply VD); exact HO161.out) hb); have n6_ := qM (Vb (by (with_reducible repeat first | apply VA | apply VN | apply VD); exact HO167.out) hb); have n7_ := qM (Vb (by (with_reducible repeat first | apply VA | apply VN | apply VD); exact HO170.out) hb); have n8_ := qM (Kd.R_below (by (with_reducible repeat first | apply RA | apply RN | apply RD); exact HO176.out) hb); have n9_ := qM (Kd.R_below (by (with_reducible repeat first | apply RA | apply RN | apply RD); exact HO179.out) hb); have n10_ := qM (qB (g := g146) (by (with_reducible repeat first | refine qN ?_ _ | refine qD ?_ | refine qA ?_ _); exact B146.out) hb); have n11_ := qM (eT (by repeat (first | (with_reducible first | exact HB.out | apply eA | apply eN | apply eD | refine eU ?_ (by assumption)) | exact HB.out)) hb); clear HO139 HO142 HO149 HO152 HO158 HO161 HO167 HO170 HO176 HO179 B146 HB; have HO139 := n0_; have HO142 := n1_; have HO149 := n2_; have HO152 := n3_; have HO158 := n4_; have HO161 := n5_; have HO167 := n6_; have HO170 := n7_; have HO176 := n8_; have HO179 := n9_; have B146 := n10_; have HB := n11_; clear n0_ n1_ n2_ n3_ n4_ n5_ n6_ n7_ n8_ n9_ n10_ n11_; (try clear hb); (try clear hb2); (try clear hk); (try clear hi)))
 (try simp only [Act.put, List.setIfInBounds_toArray, List.set_cons_zero, List.set_cons_succ])
 go_cut [0] (fun v0 wc => ∃ (kq : Nat) (x0_6 : Bool), v0 = .bool x0_6 ∧ Aside0 (hogsheadlaw08_shown.j0 kq x0_6 = some r) ∧ Aside0 (kq ≤ k) ∧ Aside0 (Kd.V Kd.string 9 wc w.heap.size (fun k_ => k_ ≠ g146) (.slice Ao28 t165.length co28) t165) ∧ Aside0 (Kd.V k47 47 wc w.heap.size (fun k_ => k_ ≠ g146) (.slice Ao30 t168.length co30) t168) ∧ Aside0 (wc.heap[g146]? = some (.cells #[(.slice Ao28 t165.length co28), (.slice Ao30 t168.length co30), .int .i64 t171, .bool t172] 25 (0, 0))) ∧ Aside0 (Below w.heap.size w wc))
 case first =>
  have H := HC7.out
  clear HC7
  by_cases c35 : t145 = 0
  ·rw [if_pos c35] at H
   have c35b0 : (t145 == 0) = true := beq_iff_eq.mpr c35
   have c35b1 : (t145 != 0) = false := bne_eq_false_iff_eq.mpr c35
   clear c35
   (first | rw [c35b0] | (simp only [i64_w, i32_w]; rw [c35b0]) | skip)
   by_cases c36 : t155 = 0
   ·rw [if_pos c36] at H
    have c36b0 : (t155 == 0) = true := beq_iff_eq.mpr c36
    have c36b1 : (t155 != 0) = false := bne_eq_false_iff_eq.mpr c36
    clear c36
    by_cases c37 : t164 = 0
    ·rw [if_pos c37] at H
     have c37b0 : (t164 == 0) = true := beq_iff_eq.mpr c37
     have c37b1 : (t164 != 0) = false := bne_eq_false_iff_eq.mpr c37
     clear c37
     by_cases c38 : t173 = 0
     ·rw [if_pos c38] at H
      have c38b0 : (t173 == 0) = true := beq_iff_eq.mpr c38
      have c38b1 : (t173 != 0) = false := bne_eq_false_iff_eq.mpr c38
      clear c38
      by_cases c39 : t183 = 0
      ·rw [if_pos c39] at H
       have c39b0 : (t183 == 0) = true := beq_iff_eq.mpr c39
       have c39b1 : (t183 != 0) = false := bne_eq_false_iff_eq.mpr c39
       clear c39
       have H' := qM H
       clear H
       go_wp2
       go_meet
       case rel => exact ⟨_, ((t182.toList == ([98] : List UInt8))), (by first | rfl | (simp; done) | (simp [*]; done)), H', ⟨by first | omega | exact Nat.le_refl _⟩, ⟨by (with_reducible repeat first | apply VA | apply VN | apply VD); exact Vm HO167.out (fun _ hk => hk.1.1)⟩, ⟨by (with_reducible repeat first | apply VA | apply VN | apply VD); exact Vm HO170.out (fun _ hk => hk.1.1)⟩, ⟨by (with_reducible repeat first | refine qN ?_ _ | refine qD ?_ | refine qA ?_ _); exact B146.out⟩, ⟨by repeat (first | (with_reducible first | exact HB.out | apply eA | apply eN | apply eD | refine eS ?_ GE146.out) | exact HB.out)⟩⟩
      ·rw [if_neg c39] at H
       have c39b0 : (t183 == 0) = false := beq_eq_false_iff_ne.mpr c39
       have c39b1 : (t183 != 0) = true := bne_iff_ne.mpr c39
       have H' := qM H
       clear H
       go_wp2
       go_meet
       case rel => exact ⟨_, (false), (by first | rfl | (simp; done) | (simp [*]; done)), H', ⟨by first | omega | exact Nat.le_refl _⟩, ⟨by (with_reducible repeat first | apply VA | apply VN | apply VD); exact Vm HO167.out (fun _ hk => hk.1.1)⟩, ⟨by (with_reducible repeat first | apply VA | apply VN | apply VD); exact Vm HO170.out (fun _ hk => hk.1.1)⟩, ⟨by (with_reducible repeat first | refine qN ?_ _ | refine qD ?_ | refine qA ?_ _); exact B146.out⟩, ⟨by repeat (first | (with_reducible first | exact HB.out | apply eA | apply eN | apply eD | refine eS ?_ GE146.out) | exact HB.out)⟩⟩
     ·rw [if_neg c38] at H
      have c38b0 : (t173 == 0) = false := beq_eq_false_iff_ne.mpr c38
      have c38b1 : (t173 != 0) = true := bne_iff_ne.mpr c38
      have H' := qM H
      clear H
      go_wp2
      go_meet
      case rel => exact ⟨_, (false), (by first | rfl | (simp; done) | (simp [*]; done)), H', ⟨by first | omega | exact Nat.le_refl _⟩, ⟨by (with_reducible repeat first | apply VA | apply VN | apply VD); exact Vm HO167.out (fun _ hk => hk.1.1)⟩, ⟨by (with_reducible repeat first | apply VA | apply VN | apply VD); exact Vm HO170.out (fun _ hk => hk.1.1)⟩, ⟨by (with_reducible repeat first | refine qN ?_ _ | refine qD ?_ | refine qA ?_ _); exact B146.out⟩, ⟨by repeat (first | (with_reducible first | exact HB.out | apply eA | apply eN | apply eD | refine eS ?_ GE146.out) | exact HB.out)⟩⟩
    ·rw [if_neg c37] at H
     have c37b0 : (t164 == 0) = false := beq_eq_false_iff_ne.mpr c37
     have c37b1 : (t164 != 0) = true := bne_iff_ne.mpr c37
     have H' := qM H
     clear H
     go_wp2
     go_meet
     case rel => exact ⟨_, (false), (by first | rfl | (simp; done) | (simp [*]; done)), H', ⟨by first | omega | exact Nat.le_refl _⟩, ⟨by (with_reducible repeat first | apply VA | apply VN | apply VD); exact Vm HO167.out (fun _ hk => hk.1.1)⟩, ⟨by (with_reducible repeat first | apply VA | apply VN | apply VD); exact Vm HO170.out (fun _ hk => hk.1.1)⟩, ⟨by (with_reducible repeat first | refine qN ?_ _ | refine qD ?_ | refine qA ?_ _); exact B146.out⟩, ⟨by repeat (first | (with_reducible first | exact HB.out | apply eA | apply eN | apply eD | refine eS ?_ GE146.out) | exact HB.out)⟩⟩
   ·rw [if_neg c36] at H
    have c36b0 : (t155 == 0) = false := beq_eq_false_iff_ne.mpr c36
    have c36b1 : (t155 != 0) = true := bne_iff_ne.mpr c36
    have H' := qM H
    clear H
    go_wp2
    go_meet
    case rel => exact ⟨_, (false), (by first | rfl | (simp; done) | (simp [*]; done)), H', ⟨by first | omega | exact Nat.le_refl _⟩, ⟨by (with_reducible repeat first | apply VA | apply VN | apply VD); exact Vm HO167.out (fun _ hk => hk.1.1)⟩, ⟨by (with_reducible repeat first | apply VA | apply VN | apply VD); exact Vm HO170.out (fun _ hk => hk.1.1)⟩, ⟨by (with_reducible repeat first | refine qN ?_ _ | refine qD ?_ | refine qA ?_ _); exact B146.out⟩, ⟨by repeat (first | (with_reducible first | exact HB.out | apply eA | apply eN | apply eD | refine eS ?_ GE146.out) | exact HB.out)⟩⟩
  ·rw [if_neg c35] at H
   have c35b0 : (t145 == 0) = false := beq_eq_false_iff_ne.mpr c35
   have c35b1 : (t145 != 0) = true := bne_iff_ne.mpr c35
   (first | rw [c35b0] | (simp only [i64_w, i32_w]; rw [c35b0]) | skip)
   have H' := qM H
   clear H
   go_wp2
   go_meet
   case rel => exact ⟨_, (false), (by first | rfl | (simp; done) | (simp [*]; done)), H', ⟨by first | omega | exact Nat.le_refl _⟩, ⟨by (with_reducible repeat first | apply VA | apply VN | apply VD); exact Vm HO167.out (fun _ hk => hk.1.1)⟩, ⟨by (with_reducible repeat first | apply VA | apply VN | apply VD); exact Vm HO170.out (fun _ hk => hk.1.1)⟩, ⟨by (with_reducible repeat first | refine qN ?_ _ | refine qD ?_ | refine qA ?_ _); exact B146.out⟩, ⟨by repeat (first | (with_reducible first | exact HB.out | apply eA | apply eN | apply eD | refine eS ?_ GE146.out) | exact HB.out)⟩⟩
 case rest =>
  clear HC7
  try clear c1
  try clear c2
  try clear p2
  try clear c3
  try clear c10
  try clear c11
  try clear c13
  try clear c15
  try clear c17
  try clear c20
  try clear c35
  try clear c35b0
  try clear c35b1
  try clear c36
  try clear c36b0
  try clear c36b1
  try clear c37
  try clear c37b0
  try clear c37b1
  try clear c38
  try clear c38b0
  try clear c38b1
  try clear c39
  try clear c39b0
  try clear c39b1
  try clear z11_0
  try clear z11_1
  try clear z11_2
  try clear z11_3
  try clear z14_0
  try clear z14_1
  try clear z14_2
  try clear z14_3
  try clear z17_0
  try clear z17_1
  try clear z17_2
  try clear z17_3
  try clear z20_0
  try clear z20_1
  try clear z20_2
  try clear z20_3
  try clear z23_0
  try clear z23_1
  try clear z23_2
  try clear z23_3
  try clear z26_0
  try clear z26_1
  try clear z26_2
  try clear z26_3
  try clear z29_0
  try clear z29_1
  try clear z29_2
  try clear z29_3
  try clear f11_0
  try clear f11_1
  try clear f11_2
  try clear f11_3
  try clear f14_0
  try clear f14_1
  try clear f14_2
  try clear f14_3
  try clear f17_0
  try clear f17_1
  try clear f17_2
  try clear f17_3
  try clear f20_0
  try clear f20_1
  try clear f20_2
  try clear f20_3
  try clear f23_0
  try clear f23_1
  try clear f23_2
  try clear f23_3
  try clear f26_0
  try clear f26_1
  try clear f26_2
  try clear f26_3
  try clear f29_0
  try clear f29_1
  try clear f29_2
  try clear f29_3
  obtain ⟨kq, x0_6, rfl, HA, HJ6, HO_147000, HO_147001, B146, HB⟩ := hcut
  cases kq with
  | zero => exact absurd HA.out (by simp [hogsheadlaw08_shown.j0])
  | succ kj6 =>
   have H := HA.out
   clear HA
   simp only [hogsheadlaw08_shown.j0] at H
   obtain rfl := Option.some.inj H
   go_wp2
   go_ret
   exact ⟨by first | rfl | (simp [errW_none, errW_some] <;> rfl) | (simp [*, errW_none, errW_some] <;> rfl), by repeat (first | (with_reducible first | exact HB.out | apply eA | apply eN | apply eD | refine eS ?_ GE146.out) | exact HB.out)⟩

/-! ### hogsheadref01_Same: function 31 -/
def hogsheadref01_Same.l0 : Nat → List ByteArray → List ByteArray → Int → Option (Bool)
 | 0, _, _, _ => none
 | k + 1, x0, x1, x5 => if x5 < (x0.length : Int) then (if 0 ≤ x5 then (if x5 < (x1.length : Int) then (if (rdOf ByteArray.empty x0 x5).toList = (rdOf ByteArray.empty x1 x5).toList then (hogsheadref01_Same.l0 k x0 x1 (wrap64 (x5 + 1))) else (some false)) else (none)) else (none)) else (some true)
def hogsheadref01_Same.f (k : Nat) (l0 : List ByteArray) (l1 : List ByteArray) : Option (Bool) := if (l0.length : Int) = (l1.length : Int) then (hogsheadref01_Same.l0 k l0 l1 0) else (some false)
theorem hogsheadref01_Same.mono_l : ∀ k, (∀ y0 y1 y2, LeO (hogsheadref01_Same.l0 k y0 y1 y2) (hogsheadref01_Same.l0 (k + 1) y0 y1 y2))
 | 0 => fun _ _ _ r h => by simp [hogsheadref01_Same.l0] at h
 | k + 1 => by
  have ih0 := hogsheadref01_Same.mono_l k
  ·intro y0 y1 y2
   unfold hogsheadref01_Same.l0
   repeat' first
   | (with_reducible exact ih0 _ _ _)
   | (with_reducible exact LeO.refl _)
   | (with_reducible exact LeO.none _)
   | (with_reducible refine LeO.ite ?_ ?_)
   | (with_reducible refine LeO.bind ?_ (fun _ => ?_))
   | exact ih0 _ _ _
   | exact LeO.none _
   | refine LeO.ite ?_ ?_
   | refine LeO.bind ?_ (fun _ => ?_)
theorem hogsheadref01_Same.mono : ∀ a0 a1 k, LeO (hogsheadref01_Same.f k a0 a1) (hogsheadref01_Same.f (k + 1) a0 a1) := by
 intro a0 a1 k
 have ih0 := hogsheadref01_Same.mono_l k
 unfold hogsheadref01_Same.f
 repeat' first
   | (with_reducible exact ih0 _ _ _)
   | (with_reducible exact LeO.refl _)
   | (with_reducible exact LeO.none _)
   | (with_reducible refine LeO.ite ?_ ?_)
   | (with_reducible refine LeO.bind ?_ (fun _ => ?_))
   | exact ih0 _ _ _
   | exact LeO.none _
   | refine LeO.ite ?_ ?_
   | refine LeO.bind ?_ (fun _ => ?_)
set_option maxHeartbeats 40000000 in
set_option maxRecDepth 100000 in
theorem hogsheadref01_Same.calls (k : Nat) (A0 : Option Addr) (c0 : Nat) (l0 : List ByteArray) (A1 : Option Addr) (c1 : Nat) (l1 : List ByteArray) (r : Bool) (w : World) (hr0 : Kd.C Kd.string w A0 l0.length l0) (hc0 : l0.length ≤ c0) (hr1 : Kd.C Kd.string w A1 l1.length l1) (hc1 : l1.length ≤ c1) (h : hogsheadref01_Same.f k l0 l1 = some r) :
  Calls Try.prog 31 #[.slice A0 l0.length c0, .slice A1 l1.length c1] w fun e w' => e = .returned (.bool r) ∧ Drawn0 w w' := by
 have HR0 := qM hr0
 have HC0 := qM hc0
 clear hr0 hc0
 have HR1 := qM hr1
 have HC1 := qM hc1
 clear hr1 hc1
 have H : (if (l0.length : Int) = (l1.length : Int) then (hogsheadref01_Same.l0 k l0 l1 0) else (some false)) = some r := h
 clear h
 by_cases c3 : (l0.length : Int) = (l1.length : Int)
 ·rw [if_pos c3] at H
  have c3b0 : ((l0.length : Int) == (l1.length : Int)) = true := beq_iff_eq.mpr c3
  have c3b1 : ((l0.length : Int) != (l1.length : Int)) = false := bne_eq_false_iff_eq.mpr c3
  have c3b2 : (l0.length == l1.length) = true := by first | simpa using c3 | (simp at c3 ⊢; omega)
  clear c3
  have H' := qM H
  clear H
  go_enter Try.func31, Try.ntmps31
  go_wp2
  repeat (go_quiet (fail); try go_wp2)
  go_loopg [5] k (fun kq v5 w' => ∃ (x5_1 : Int), v5 = .int .i64 x5_1 ∧ Aside0 (hogsheadref01_Same.l0 kq l0 l1 x5_1 = some r) ∧ Aside0 (kq ≤ k) ∧ Drawn0 w w')
  case atStart => exact ⟨(0), (by first | rfl | (simp; done) | (simp [*]; done)), H', ⟨Nat.le_refl _⟩, by repeat (first | exact Drawn0.refl _ | apply Drawn0.step)⟩
  case round =>
   clear H'
   try clear c1
   try clear p2
   try clear c3
   try clear c3b0
   try clear c3b1
   try clear c3b2
   obtain ⟨x5_1, rfl, HA, HK1, ⟨m1, rfl⟩⟩ := hrel
   cases gk with
   | zero => exact absurd HA.out (by simp [hogsheadref01_Same.l0])
   | succ k1 =>
    have H := HA.out
    clear HA
    simp only [hogsheadref01_Same.l0] at H
    by_cases c4 : x5_1 < (l0.length : Int)
    ·rw [if_pos c4] at H
     have c4b0 : decide (x5_1 < (l0.length : Int)) = true := decide_eq_true c4
     clear c4
     by_cases c5 : 0 ≤ x5_1
     ·rw [if_pos c5] at H
      have c5b0 : decide (0 ≤ x5_1) = true := decide_eq_true c5
      clear c5
      by_cases c6 : x5_1 < (l1.length : Int)
      ·rw [if_pos c6] at H
       have c6b0 : decide (x5_1 < (l1.length : Int)) = true := decide_eq_true c6
       clear c6
       by_cases c7 : (rdOf ByteArray.empty l0 x5_1).toList = (rdOf ByteArray.empty l1 x5_1).toList
       ·rw [if_pos c7] at H
        have c7b0 : ((rdOf ByteArray.empty l0 x5_1).toList == (rdOf ByteArray.empty l1 x5_1).toList) = true := beq_iff_eq.mpr c7
        have c7b1 : ((rdOf ByteArray.empty l0 x5_1).toList != (rdOf ByteArray.empty l1 x5_1).toList) = false := bne_eq_false_iff_eq.mpr c7
        clear c7
        have H' := qM H
        clear H
        have p184 : 0 ≤ (x5_1 : Int) := of_decide_eq_true (by first | (with_reducible assumption) | assumption)
        have q184 : x5_1 < (l0.length : Int) := of_decide_eq_true (by first | (with_reducible assumption) | assumption)
        obtain ⟨ad184, e184, hx184_0⟩ := Kd.at_string HR0.out x5_1 p184 q184
        cases e184
        replace p184 := eq_true p184
        replace q184 := eq_true q184
        have p185 : 0 ≤ (x5_1 : Int) := of_decide_eq_true (by first | (with_reducible assumption) | assumption)
        have q185 : x5_1 < (l1.length : Int) := of_decide_eq_true (by first | (with_reducible assumption) | assumption)
        obtain ⟨ad185, e185, hx185_0⟩ := Kd.at_string HR1.out x5_1 p185 q185
        cases e185
        replace p185 := eq_true p185
        replace q185 := eq_true q185
        go_wp2
        repeat (go_quiet (fail); try go_wp2)
        go_roundg k1
        case measure => have := HK1.out; omega
        case rel => exact ⟨(wrap64 (x5_1 + 1)), (by first | rfl | (simp; done) | (simp [*]; done)), H', ⟨by have := HK1.out; omega⟩, by repeat (first | exact Drawn0.refl _ | apply Drawn0.step)⟩
       ·rw [if_neg c7] at H
        have c7b0 : ((rdOf ByteArray.empty l0 x5_1).toList == (rdOf ByteArray.empty l1 x5_1).toList) = false := beq_eq_false_iff_ne.mpr c7
        have c7b1 : ((rdOf ByteArray.empty l0 x5_1).toList != (rdOf ByteArray.empty l1 x5_1).toList) = true := bne_iff_ne.mpr c7
        obtain rfl := Option.some.inj H
        have p184 : 0 ≤ (x5_1 : Int) := of_decide_eq_true (by first | (with_reducible assumption) | assumption)
        have q184 : x5_1 < (l0.length : Int) := of_decide_eq_true (by first | (with_reducible assumption) | assumption)
        obtain ⟨ad184, e184, hx184_0⟩ := Kd.at_string HR0.out x5_1 p184 q184
        cases e184
        replace p184 := eq_true p184
        replace q184 := eq_true q184
        have p185 : 0 ≤ (x5_1 : Int) := of_decide_eq_true (by first | (with_reducible assumption) | assumption)
        have q185 : x5_1 < (l1.length : Int) := of_decide_eq_true (by first | (with_reducible assumption) | assumption)
        obtain ⟨ad185, e185, hx185_0⟩ := Kd.at_string HR1.out x5_1 p185 q185
        cases e185
        replace p185 := eq_true p185
        replace q185 := eq_true q185
        go_wp2
        repeat (go_quiet (fail); try go_wp2)
        go_ret
        exact ⟨by first | rfl | (simp; done) | (simp [*]; done), by repeat (first | exact Drawn0.refl _ | apply Drawn0.step)⟩
      ·rw [if_neg c6] at H
       exact absurd H (by simp)
     ·rw [if_neg c5] at H
      exact absurd H (by simp)
    ·rw [if_neg c4] at H
     have c4b0 : decide (x5_1 < (l0.length : Int)) = false := decide_eq_false c4
     clear c4
     obtain rfl := Option.some.inj H
     go_wp2
     repeat (go_quiet (fail); try go_wp2)
     go_ret
     exact ⟨by first | rfl | (simp; done) | (simp [*]; done), by repeat (first | exact Drawn0.refl _ | apply Drawn0.step)⟩
 ·rw [if_neg c3] at H
  have c3b0 : ((l0.length : Int) == (l1.length : Int)) = false := beq_eq_false_iff_ne.mpr c3
  have c3b1 : ((l0.length : Int) != (l1.length : Int)) = true := bne_iff_ne.mpr c3
  have c3b2 : (l0.length == l1.length) = false := by first | simpa using c3 | (simp at c3 ⊢; omega)
  obtain rfl := Option.some.inj H
  go_enter Try.func31, Try.ntmps31
  go_wp2
  repeat (go_quiet (fail); try go_wp2)
  go_ret
  exact ⟨by first | rfl | (simp; done) | (simp [*]; done), by repeat (first | exact Drawn0.refl _ | apply Drawn0.step)⟩

end Go.Proofs.Ytmaojfeikbdkhaa.PAll
