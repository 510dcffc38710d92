/- Functions of the program as plain Lean functions, and that each call comes to what they say. Laid by a program of this session (hprint.py); Lean checks it. -/
import Derived.Test.YthnhfmmiaknhgaaPAllx0
import Derived.Test.YthnhfmmiaknhgaaPAllx21
import Derived.Test.YthnhfmmiaknhgaaPAllx23
import Derived.Test.YthnhfmmiaknhgaaPAllx24
namespace Go.Proofs.Ythnhfmmiaknhgaa.PAll
open Go.RowKit Go.Proofs.YthnhfmmiaknhgaaW.PrintWords Go.Proofs.YthnhfmmiaknhgaaW.PrintLast Go.Proofs.YthnhfmmiaknhgaaW.PrintMore
attribute [local go_sem] max2_int min2_int max_two min_two max_three min_three max_four min_four   -- for this text's walks alone
set_option linter.unusedVariables false
set_option linter.unusedSimpArgs false

/-! ### hogsheadref09_Write: function 18 -/
def hogsheadref09_Write.j0 : Nat → Int → ByteArray → Bool → List ByteArray → List (S77) → Int → Bool → Option (List ByteArray × (List (S77)) × Int × Bool × Int)
 | 0, _, _, _, _, _, _, _ => none
 | k + 1, x1, x2, x30, x296000, x296001, x296002, x296003 => if x30 = true then (some (x296000, x296001, x296002, x296003, 1)) else (if (x2.size : Int) > 1000 then (some (x296000, x296001, x296002, x296003, 4)) else ((hogsheadref09_current.f k x296000 x296001 x296002 x296003 x1).bind fun bt297 => (if bt297.2.1 = 18446744073709551615 then (some (x296000, x296001, x296002, x296003, 5)) else ((hogsheadref09_Record.f k (IntKind.u64.wrap (bt297.2.1 + 1)) x2).bind fun bt301 => (if bt297.1 = x1 then ((hogsheadref08_Put.f k x296000 x296001 x296002 x296003 (wrap64 (x1 + 1)) bt301.1).bind fun bt303 => (some (bt303.1, bt303.2.1, bt303.2.2.1, bt303.2.2.2.1, bt303.2.2.2.2))) else ((hogsheadref08_Put.f k x296000 x296001 x296002 x296003 x1 bt301.1).bind fun bt312 => (some (bt312.1, bt312.2.1, bt312.2.2.1, bt312.2.2.2.1, bt312.2.2.2.2))))))))
def hogsheadref09_Write.f (k : Nat) (l0_0 : List ByteArray) (l0_1 : List (S77)) (a0_2 : Int) (a0_3 : Bool) (a1 : Int) (a2 : ByteArray) : Option (List ByteArray × (List (S77)) × Int × Bool × Int) := if a1 < 0 then (hogsheadref09_Write.j0 k a1 a2 true l0_0 l0_1 a0_2 a0_3) else (if a1 ≥ (l0_0.length : Int) then (hogsheadref09_Write.j0 k a1 a2 true l0_0 l0_1 a0_2 a0_3) else (hogsheadref09_Write.j0 k a1 a2 (decide ((wrap64 ((l0_0.length : Int) - a1)) < 2)) l0_0 l0_1 a0_2 a0_3))
theorem hogsheadref09_Write.mono_l : ∀ k, (∀ y0 y1 y2 y3 y4 y5 y6, LeO (hogsheadref09_Write.j0 k y0 y1 y2 y3 y4 y5 y6) (hogsheadref09_Write.j0 (k + 1) y0 y1 y2 y3 y4 y5 y6))
 | 0 => fun _ _ _ _ _ _ _ r h => by simp [hogsheadref09_Write.j0] at h
 | k + 1 => by
  have ih0 := hogsheadref09_Write.mono_l k
  ·intro y0 y1 y2 y3 y4 y5 y6
   unfold hogsheadref09_Write.j0
   repeat' first
   | (with_reducible exact ih0 _ _ _ _ _ _ _)
   | (with_reducible exact hogsheadref08_Put.mono _ _ _ _ _ _ _)
   | (with_reducible exact hogsheadref09_Record.mono _ _ _)
   | (with_reducible exact hogsheadref09_current.mono _ _ _ _ _ _)
   | (with_reducible exact LeO.refl _)
   | (with_reducible exact LeO.none _)
   | (with_reducible refine LeO.ite ?_ ?_)
   | (with_reducible refine LeO.bind ?_ (fun _ => ?_))
   | exact ih0 _ _ _ _ _ _ _
   | exact hogsheadref08_Put.mono _ _ _ _ _ _ _
   | exact hogsheadref09_Record.mono _ _ _
   | exact hogsheadref09_current.mono _ _ _ _ _ _
   | exact LeO.none _
   | refine LeO.ite ?_ ?_
   | refine LeO.bind ?_ (fun _ => ?_)
theorem hogsheadref09_Write.mono : ∀ a0 a1 a2 a3 a4 a5 k, LeO (hogsheadref09_Write.f k a0 a1 a2 a3 a4 a5) (hogsheadref09_Write.f (k + 1) a0 a1 a2 a3 a4 a5) := by
 intro a0 a1 a2 a3 a4 a5 k
 have ih0 := hogsheadref09_Write.mono_l k
 unfold hogsheadref09_Write.f
 repeat' first
   | (with_reducible exact ih0 _ _ _ _ _ _ _)
   | (with_reducible exact hogsheadref08_Put.mono _ _ _ _ _ _ _)
   | (with_reducible exact hogsheadref09_Record.mono _ _ _)
   | (with_reducible exact hogsheadref09_current.mono _ _ _ _ _ _)
   | (with_reducible exact LeO.refl _)
   | (with_reducible exact LeO.none _)
   | (with_reducible refine LeO.ite ?_ ?_)
   | (with_reducible refine LeO.bind ?_ (fun _ => ?_))
   | exact ih0 _ _ _ _ _ _ _
   | exact hogsheadref08_Put.mono _ _ _ _ _ _ _
   | exact hogsheadref09_Record.mono _ _ _
   | exact hogsheadref09_current.mono _ _ _ _ _ _
   | exact LeO.none _
   | refine LeO.ite ?_ ?_
   | refine LeO.bind ?_ (fun _ => ?_)
set_option maxHeartbeats 40000000 in
set_option maxRecDepth 100000 in
theorem hogsheadref09_Write.calls (k : Nat) (P0_0_ : Nat → Prop) (A0_0 : Option Addr) (c0_0 : Nat) (l0_0 : List ByteArray) (P0_1_ : Nat → Prop) (A0_1 : Option Addr) (c0_1 : Nat) (l0_1 : List (S77)) (a0_2 : Int) (a0_3 : Bool) (a1 : Int) (a2 : ByteArray) (r1 : List ByteArray) (r2 : List (S77)) (r3 : Int) (r4 : Bool) (r5 : Int) (w : World) (hs0_0 : Kd.V Kd.string 9 w w.heap.size (fun k_ => P0_0_ k_) (.slice A0_0 l0_0.length c0_0) l0_0) (hs0_1 : Kd.V k77 77 w w.heap.size (fun k_ => P0_1_ k_) (.slice A0_1 l0_1.length c0_1) l0_1) (h : hogsheadref09_Write.f k l0_0 l0_1 a0_2 a0_3 a1 a2 = some (r1, r2, r3, r4, r5)) :
  Calls Try.prog 18 #[.agg #[.slice A0_0 l0_0.length c0_0, .slice A0_1 l0_1.length c0_1, .int .i64 a0_2, .bool a0_3], .int .i64 a1, .string a2] w fun e w' => ∃ v0_ v1_ : Value, e = .returned (.tuple #[.agg #[v0_, v1_, .int .i64 r3, .bool r4], .int .i64 r5]) ∧ Kd.V Kd.string 9 w' w.heap.size (fun k_ => ((P0_0_ k_ ∨ P0_1_ k_) ∨ w.heap.size ≤ k_)) v0_ r1 ∧ Kd.V k77 77 w' w.heap.size (fun k_ => ((P0_0_ k_ ∨ P0_1_ k_) ∨ w.heap.size ≤ k_)) v1_ r2 ∧ Below w.heap.size w w' := by
 have hu37 := Try.underlying37
 have HO0_0 := qM (show Kd.V Kd.string 9 w w.heap.size (fun k_ => ((P0_0_ k_ ∨ P0_1_ k_) ∨ w.heap.size ≤ k_)) (.slice A0_0 l0_0.length c0_0) l0_0 from Vm hs0_0 (fun k_ hk => .inl (.inl hk)))
 have HO0_1 := qM (show Kd.V k77 77 w w.heap.size (fun k_ => ((P0_0_ k_ ∨ P0_1_ k_) ∨ w.heap.size ≤ k_)) (.slice A0_1 l0_1.length c0_1) l0_1 from Vm hs0_1 (fun k_ hk => .inl (.inr hk)))
 have HB := qM (Below.refl w.heap.size w)
 have H : (if a1 < 0 then (hogsheadref09_Write.j0 k a1 a2 true l0_0 l0_1 a0_2 a0_3) else (if a1 ≥ (l0_0.length : Int) then (hogsheadref09_Write.j0 k a1 a2 true l0_0 l0_1 a0_2 a0_3) else (hogsheadref09_Write.j0 k a1 a2 (decide ((wrap64 ((l0_0.length : Int) - a1)) < 2)) l0_0 l0_1 a0_2 a0_3))) = some (r1, r2, r3, r4, r5) := h
 clear h
 have HC4 := qM H
 clear H
 go_enter Try.func18, Try.ntmps18
 go_upto_region 1 with (first | ((with_reducible refine gate_dst (N := 3) rfl ?_); (try (refine gate_guard (by rfl) ?_; dsimp only)); refine box_event ?hg (N := 3) ?hd (cs := #[.slice A0_0 l0_0.length c0_0, .slice A0_1 l0_1.length c0_1, .int .i64 a0_2, .bool a0_3]) (t := 37) ?hr ?_; (case hd => rfl); (case hg => rfl); (case hr => first | (go_simp; done) | (go_simp; rfl)); intro g295 hg w5 hbox hb; have n0_ := qM (Vb (Kd.V_elderB (by (with_reducible repeat first | apply VA | apply VN | apply VD); exact HO0_0.out) g295 (Nat.le_of_eq hg.symm)) hb); have n1_ := qM (Vb (Kd.V_elderB (by (with_reducible repeat first | apply VA | apply VN | apply VD); exact HO0_1.out) g295 (Nat.le_of_eq hg.symm)) hb); have n2_ := qM (eT (by repeat (first | (with_reducible first | exact HB.out | apply eA | apply eN | apply eD) | exact HB.out)) hb); have n3_ := qM (hbox); have n4_ := qM ((by rw [hg]; exact (eZ (by repeat (first | (with_reducible first | exact HB.out | apply eA | apply eN | apply eD) | exact HB.out))) : w.heap.size ≤ g295)); have n5_ := n4_; clear HO0_0; clear HO0_1; clear HB; have HO0_0 := n0_; have HO0_1 := n1_; have HB := n2_; have B295 := n3_; have GW295 := n4_; have GE295 := n5_; clear n0_ n1_ n2_ n3_ n4_ n5_; clear hb hbox hg) | ((with_reducible refine gate_dst (N := 6) rfl ?_); (try (refine gate_guard (by rfl) ?_; dsimp only)); refine box_event ?hg (N := 6) ?hd (cs := #[.slice none 0 0, .slice none 0 0, .int .i64 0, .bool false]) (t := 37) ?hr ?_; (case hd => rfl); (case hg => rfl); (case hr => first | (go_simp; done) | (go_simp; rfl)); intro g296 hg w6 hbox hb; have n0_ := qM (Vb (Kd.V_elderB (by (with_reducible repeat first | apply VA | apply VN | apply VD); exact HO0_0.out) g296 (Nat.le_of_eq hg.symm)) hb); have n1_ := qM (Vb (Kd.V_elderB (by (with_reducible repeat first | apply VA | apply VN | apply VD); exact HO0_1.out) g296 (Nat.le_of_eq hg.symm)) hb); have n2_ := qM (qB (g := g295) (by (with_reducible repeat first | refine qN ?_ _ | refine qD ?_ | refine qA ?_ _); exact B295.out) hb); have n3_ := qM (eT (by repeat (first | (with_reducible first | exact HB.out | apply eA | apply eN | apply eD | refine eS ?_ GE295.out) | exact HB.out)) hb); have n4_ := qM (hbox); have n5_ := qM ((by rw [hg]; exact (eZ (by repeat (first | (with_reducible first | exact HB.out | apply eA | apply eN | apply eD | refine eS ?_ GE295.out) | exact HB.out))) : w.heap.size ≤ g296)); have n6_ := n5_; have n7_ := qM ((by rw [hg]; exact Nat.ne_of_lt (qL (g := g295) (by (with_reducible repeat first | refine qN ?_ _ | refine qD ?_ | refine qA ?_ _); exact B295.out)) : g295 ≠ g296)); have n8_ := qM (Ne.symm n7_.out); clear HO0_0; clear HO0_1; clear B295; clear HB; have HO0_0 := n0_; have HO0_1 := n1_; have B295 := n2_; have HB := n3_; have B296 := n4_; have GW296 := n5_; have GE296 := n6_; have NB295_296 := n7_; have NB296_295 := n8_; clear n0_ n1_ n2_ n3_ n4_ n5_ n6_ n7_ n8_; clear hb hbox hg))
 (try simp only [Act.put, List.setIfInBounds_toArray, List.set_cons_zero, List.set_cons_succ])
 go_cut [30] (fun v30 wc => ∃ (kq : Nat) (x30_3 : Bool), v30 = .bool x30_3 ∧ Aside0 (hogsheadref09_Write.j0 kq a1 a2 x30_3 l0_0 l0_1 a0_2 a0_3 = some (r1, r2, r3, r4, r5)) ∧ Aside0 (kq ≤ k) ∧ Aside0 (Kd.V Kd.string 9 wc w.heap.size (fun k_ => ((P0_0_ k_ ∨ P0_1_ k_) ∨ w.heap.size ≤ k_) ∧ k_ ≠ g295 ∧ k_ ≠ g296) (.slice A0_0 l0_0.length c0_0) l0_0) ∧ Aside0 (Kd.V k77 77 wc w.heap.size (fun k_ => ((P0_0_ k_ ∨ P0_1_ k_) ∨ w.heap.size ≤ k_) ∧ k_ ≠ g295 ∧ k_ ≠ g296) (.slice A0_1 l0_1.length c0_1) l0_1) ∧ Aside0 (wc.heap[g295]? = some (.cells #[(.slice A0_0 l0_0.length c0_0), (.slice A0_1 l0_1.length c0_1), .int .i64 a0_2, .bool a0_3] 37 (0, 0))) ∧ Aside0 (wc.heap[g296]? = some (.cells #[(.slice none 0 0), (.slice none 0 0), .int .i64 0, .bool false] 37 (0, 0))) ∧ Aside0 (Below w.heap.size w wc))
 case first =>
  have H := HC4.out
  clear HC4
  by_cases c7 : a1 < 0
  ·rw [if_pos c7] at H
   have c7b0 : decide (a1 < 0) = true := decide_eq_true c7
   clear c7
   (first | rw [c7b0] | (simp only [i64_w, i32_w]; rw [c7b0]) | skip)
   have H' := qM H
   clear H
   go_wp2
   go_meet
   case rel => exact ⟨_, (true), (by first | rfl | (simp; done) | (simp [*]; done)), H', ⟨by first | omega | exact Nat.le_refl _⟩, ⟨by (with_reducible repeat first | apply VA | apply VN | apply VD); exact Vm HO0_0.out (fun _ hk => ⟨hk.1.1, ⟨hk.1.2, hk.2⟩⟩)⟩, ⟨by (with_reducible repeat first | apply VA | apply VN | apply VD); exact Vm HO0_1.out (fun _ hk => ⟨hk.1.1, ⟨hk.1.2, hk.2⟩⟩)⟩, ⟨by (with_reducible repeat first | refine qN ?_ _ | refine qD ?_ | refine qA ?_ _); exact B295.out⟩, ⟨by (with_reducible repeat first | refine qN ?_ _ | refine qD ?_ | refine qA ?_ _); exact B296.out⟩, ⟨by repeat (first | (with_reducible first | exact HB.out | apply eA | apply eN | apply eD | refine eS ?_ GE295.out | refine eS ?_ GE296.out) | exact HB.out)⟩⟩
  ·rw [if_neg c7] at H
   have c7b0 : decide (a1 < 0) = false := decide_eq_false c7
   clear c7
   (first | rw [c7b0] | (simp only [i64_w, i32_w]; rw [c7b0]) | skip)
   by_cases c8 : a1 ≥ (l0_0.length : Int)
   ·rw [if_pos c8] at H
    have c8b0 : decide ((l0_0.length : Int) ≤ a1) = true := decide_eq_true c8
    clear c8
    have H' := qM H
    clear H
    have hnb9 := NB295_296.out
    have hnc9 := NB296_295.out
    obtain ⟨z10_0, z10_1, z10_2, z10_3, f10_0, f10_1, f10_2, f10_3⟩ := cells4 B295.out
    go_wp2
    go_meet
    case rel => exact ⟨_, (true), (by first | rfl | (simp; done) | (simp [*]; done)), H', ⟨by first | omega | exact Nat.le_refl _⟩, ⟨by (with_reducible repeat first | apply VA | apply VN | apply VD); exact Vm HO0_0.out (fun _ hk => ⟨hk.1.1, ⟨hk.1.2, hk.2⟩⟩)⟩, ⟨by (with_reducible repeat first | apply VA | apply VN | apply VD); exact Vm HO0_1.out (fun _ hk => ⟨hk.1.1, ⟨hk.1.2, hk.2⟩⟩)⟩, ⟨by (with_reducible repeat first | refine qN ?_ _ | refine qD ?_ | refine qA ?_ _); exact B295.out⟩, ⟨by (with_reducible repeat first | refine qN ?_ _ | refine qD ?_ | refine qA ?_ _); exact B296.out⟩, ⟨by repeat (first | (with_reducible first | exact HB.out | apply eA | apply eN | apply eD | refine eS ?_ GE295.out | refine eS ?_ GE296.out) | exact HB.out)⟩⟩
   ·rw [if_neg c8] at H
    have c8b0 : decide ((l0_0.length : Int) ≤ a1) = false := decide_eq_false c8
    clear c8
    have H' := qM H
    clear H
    have hnb11 := NB295_296.out
    have hnc11 := NB296_295.out
    obtain ⟨z12_0, z12_1, z12_2, z12_3, f12_0, f12_1, f12_2, f12_3⟩ := cells4 B295.out
    go_wp2
    go_meet
    case rel => exact ⟨_, (decide ((wrap64 ((l0_0.length : Int) - a1)) < 2)), (by first | rfl | (simp; done) | (simp [*]; done)), H', ⟨by first | omega | exact Nat.le_refl _⟩, ⟨by (with_reducible repeat first | apply VA | apply VN | apply VD); exact Vm HO0_0.out (fun _ hk => ⟨hk.1.1, ⟨hk.1.2, hk.2⟩⟩)⟩, ⟨by (with_reducible repeat first | apply VA | apply VN | apply VD); exact Vm HO0_1.out (fun _ hk => ⟨hk.1.1, ⟨hk.1.2, hk.2⟩⟩)⟩, ⟨by (with_reducible repeat first | refine qN ?_ _ | refine qD ?_ | refine qA ?_ _); exact B295.out⟩, ⟨by (with_reducible repeat first | refine qN ?_ _ | refine qD ?_ | refine qA ?_ _); exact B296.out⟩, ⟨by repeat (first | (with_reducible first | exact HB.out | apply eA | apply eN | apply eD | refine eS ?_ GE295.out | refine eS ?_ GE296.out) | exact HB.out)⟩⟩
 case rest =>
  clear HC4
  try clear c1
  try clear p2
  try clear p6
  try clear c7
  try clear c7b0
  try clear c8
  try clear c8b0
  try clear c9
  try clear c11
  try clear z10_0
  try clear z10_1
  try clear z10_2
  try clear z10_3
  try clear z12_0
  try clear z12_1
  try clear z12_2
  try clear z12_3
  try clear f10_0
  try clear f10_1
  try clear f10_2
  try clear f10_3
  try clear f12_0
  try clear f12_1
  try clear f12_2
  try clear f12_3
  obtain ⟨kq, x30_3, rfl, HA, HJ3, HO_296000, HO_296001, B295, B296, HB⟩ := hcut
  cases kq with
  | zero => exact absurd HA.out (by simp [hogsheadref09_Write.j0])
  | succ kj3 =>
   have H := HA.out
   clear HA
   simp only [hogsheadref09_Write.j0] at H
   by_cases c13 : x30_3 = true
   ·subst c13
    have H1 : (some (l0_0, l0_1, a0_2, a0_3, 1)) = some (r1, r2, r3, r4, r5) := by rw [if_pos rfl] at H; exact H
    clear H
    have H := H1
    clear H1
    simp only [Option.some.injEq, Prod.mk.injEq] at H
    obtain ⟨rfl, rfl, rfl, rfl, rfl⟩ := H
    have hnb14 := NB295_296.out
    have hnc14 := NB296_295.out
    obtain ⟨z15_0, z15_1, z15_2, z15_3, f15_0, f15_1, f15_2, f15_3⟩ := cells4 B295.out
    obtain ⟨z16_0, z16_1, z16_2, z16_3, f16_0, f16_1, f16_2, f16_3⟩ := cells4 B296.out
    go_wp2
    refine bodyPost_ret (results_ct rfl _ _ g296 37 #[.slice A0_0 l0_0.length c0_0, .slice A0_1 l0_1.length c0_1, .int .i64 a0_2, .bool a0_3] (0, 0) _ rfl (by (with_reducible repeat first | refine qN ?_ _ | refine qD ?_ | refine qA ?_ _); apply puts4; (with_reducible repeat first | refine qN ?_ _ | refine qD ?_ | refine qA ?_ _); exact B296.out) Try.underlying37 rfl (by kernel_rfl)) rfl ?_
    exact ⟨_, _, by first | rfl | (simp [errW_none, errW_some] <;> rfl) | (simp [*, errW_none, errW_some] <;> rfl), by (with_reducible repeat first | apply VA | apply VN | apply VD); exact Vm (Vf (p := ⟨g296, 3, none⟩) (Vf (p := ⟨g296, 2, none⟩) (Vf (p := ⟨g296, 1, none⟩) (Vf (p := ⟨g296, 0, none⟩) (Vm HO_296000.out (fun k_ hk => (⟨hk, hk.2.2⟩ : _ ∧ k_ ≠ g296))) (fun _ hk => hk.2) (.slice A0_0 l0_0.length c0_0)) (fun _ hk => hk.2) (.slice A0_1 l0_1.length c0_1)) (fun _ hk => hk.2) (.int .i64 a0_2)) (fun _ hk => hk.2) (.bool a0_3)) (fun _ hk => hk.1.1), by (with_reducible repeat first | apply VA | apply VN | apply VD); exact Vm (Vf (p := ⟨g296, 3, none⟩) (Vf (p := ⟨g296, 2, none⟩) (Vf (p := ⟨g296, 1, none⟩) (Vf (p := ⟨g296, 0, none⟩) (Vm HO_296001.out (fun k_ hk => (⟨hk, hk.2.2⟩ : _ ∧ k_ ≠ g296))) (fun _ hk => hk.2) (.slice A0_0 l0_0.length c0_0)) (fun _ hk => hk.2) (.slice A0_1 l0_1.length c0_1)) (fun _ hk => hk.2) (.int .i64 a0_2)) (fun _ hk => hk.2) (.bool a0_3)) (fun _ hk => hk.1.1), by repeat (first | (with_reducible first | exact HB.out | apply eA | apply eN | apply eD | refine eS ?_ GE295.out | refine eS ?_ GE296.out) | exact HB.out)⟩
   ·replace c13 := Bool.eq_false_iff.mpr c13
    subst c13
    have H1 : (if (a2.size : Int) > 1000 then (some (l0_0, l0_1, a0_2, a0_3, 4)) else ((hogsheadref09_current.f kj3 l0_0 l0_1 a0_2 a0_3 a1).bind fun bt297 => (if bt297.2.1 = 18446744073709551615 then (some (l0_0, l0_1, a0_2, a0_3, 5)) else ((hogsheadref09_Record.f kj3 (IntKind.u64.wrap (bt297.2.1 + 1)) a2).bind fun bt301 => (if bt297.1 = a1 then ((hogsheadref08_Put.f kj3 l0_0 l0_1 a0_2 a0_3 (wrap64 (a1 + 1)) bt301.1).bind fun bt303 => (some (bt303.1, bt303.2.1, bt303.2.2.1, bt303.2.2.2.1, bt303.2.2.2.2))) else ((hogsheadref08_Put.f kj3 l0_0 l0_1 a0_2 a0_3 a1 bt301.1).bind fun bt312 => (some (bt312.1, bt312.2.1, bt312.2.2.1, bt312.2.2.2.1, bt312.2.2.2.2)))))))) = some (r1, r2, r3, r4, r5) := by rw [if_neg (show ¬ (false = true) by decide)] at H; exact H
    clear H
    have H := H1
    clear H1
    by_cases c17 : (a2.size : Int) > 1000
    ·rw [if_pos c17] at H
     have c17b0 : decide (1000 < (a2.size : Int)) = true := decide_eq_true c17
     have c17b1 : decide (1000 < a2.size) = true := decide_eq_true (by omega)
     clear c17
     simp only [Option.some.injEq, Prod.mk.injEq] at H
     obtain ⟨rfl, rfl, rfl, rfl, rfl⟩ := H
     have hnb18 := NB295_296.out
     have hnc18 := NB296_295.out
     obtain ⟨z19_0, z19_1, z19_2, z19_3, f19_0, f19_1, f19_2, f19_3⟩ := cells4 B295.out
     obtain ⟨z20_0, z20_1, z20_2, z20_3, f20_0, f20_1, f20_2, f20_3⟩ := cells4 B296.out
     go_wp2
     refine bodyPost_ret (results_ct rfl _ _ g296 37 #[.slice A0_0 l0_0.length c0_0, .slice A0_1 l0_1.length c0_1, .int .i64 a0_2, .bool a0_3] (0, 0) _ rfl (by (with_reducible repeat first | refine qN ?_ _ | refine qD ?_ | refine qA ?_ _); apply puts4; (with_reducible repeat first | refine qN ?_ _ | refine qD ?_ | refine qA ?_ _); exact B296.out) Try.underlying37 rfl (by kernel_rfl)) rfl ?_
     exact ⟨_, _, by first | rfl | (simp [errW_none, errW_some] <;> rfl) | (simp [*, errW_none, errW_some] <;> rfl), by (with_reducible repeat first | apply VA | apply VN | apply VD); exact Vm (Vf (p := ⟨g296, 3, none⟩) (Vf (p := ⟨g296, 2, none⟩) (Vf (p := ⟨g296, 1, none⟩) (Vf (p := ⟨g296, 0, none⟩) (Vm HO_296000.out (fun k_ hk => (⟨hk, hk.2.2⟩ : _ ∧ k_ ≠ g296))) (fun _ hk => hk.2) (.slice A0_0 l0_0.length c0_0)) (fun _ hk => hk.2) (.slice A0_1 l0_1.length c0_1)) (fun _ hk => hk.2) (.int .i64 a0_2)) (fun _ hk => hk.2) (.bool a0_3)) (fun _ hk => hk.1.1), by (with_reducible repeat first | apply VA | apply VN | apply VD); exact Vm (Vf (p := ⟨g296, 3, none⟩) (Vf (p := ⟨g296, 2, none⟩) (Vf (p := ⟨g296, 1, none⟩) (Vf (p := ⟨g296, 0, none⟩) (Vm HO_296001.out (fun k_ hk => (⟨hk, hk.2.2⟩ : _ ∧ k_ ≠ g296))) (fun _ hk => hk.2) (.slice A0_0 l0_0.length c0_0)) (fun _ hk => hk.2) (.slice A0_1 l0_1.length c0_1)) (fun _ hk => hk.2) (.int .i64 a0_2)) (fun _ hk => hk.2) (.bool a0_3)) (fun _ hk => hk.1.1), by repeat (first | (with_reducible first | exact HB.out | apply eA | apply eN | apply eD | refine eS ?_ GE295.out | refine eS ?_ GE296.out) | exact HB.out)⟩
    ·rw [if_neg c17] at H
     have c17b0 : decide (1000 < (a2.size : Int)) = false := decide_eq_false c17
     have c17b1 : decide (1000 < a2.size) = false := decide_eq_false (by omega)
     clear c17
     replace H := Option.bind_eq_some_iff.mp H
     obtain ⟨⟨t297, t298, t299, t300⟩, A210, H⟩ := H
     replace H : (if t298 = 18446744073709551615 then (some (l0_0, l0_1, a0_2, a0_3, 5)) else ((hogsheadref09_Record.f kj3 (IntKind.u64.wrap (t298 + 1)) a2).bind fun bt301 => (if t297 = a1 then ((hogsheadref08_Put.f kj3 l0_0 l0_1 a0_2 a0_3 (wrap64 (a1 + 1)) bt301.1).bind fun bt303 => (some (bt303.1, bt303.2.1, bt303.2.2.1, bt303.2.2.2.1, bt303.2.2.2.2))) else ((hogsheadref08_Put.f kj3 l0_0 l0_1 a0_2 a0_3 a1 bt301.1).bind fun bt312 => (some (bt312.1, bt312.2.1, bt312.2.2.1, bt312.2.2.2.1, bt312.2.2.2.2)))))) = some (r1, r2, r3, r4, r5) := H
     have A21 := qM A210
     clear A210
     by_cases c22 : t298 = 18446744073709551615
     ·rw [if_pos c22] at H
      have c22b0 : (t298 == 18446744073709551615) = true := beq_iff_eq.mpr c22
      have c22b1 : (t298 != 18446744073709551615) = false := bne_eq_false_iff_eq.mpr c22
      clear c22
      simp only [Option.some.injEq, Prod.mk.injEq] at H
      obtain ⟨rfl, rfl, rfl, rfl, rfl⟩ := H
      have hnb23 := NB295_296.out
      have hnc23 := NB296_295.out
      obtain ⟨z24_0, z24_1, z24_2, z24_3, f24_0, f24_1, f24_2, f24_3⟩ := cells4 B295.out
      go_wp2_with (first | ((with_reducible refine gate_callee (f := 38) rfl ?_); refine goesL_ (some 39) rfl rfl Try.func38 (by kernel_rfl) rfl #[.agg #[.slice A0_0 l0_0.length c0_0, .slice A0_1 l0_1.length c0_1, .int .i64 a0_2, .bool a0_3], .int .i64 a1] rfl (by (try simp only [List.map_toArray, List.map_cons, List.map_nil]); first | done | rfl | (simp only [List.length_drop, List.length_take]; rfl)) ?_; (with_reducible refine (hogsheadref09_current.calls kj3 _ _ l0_0 _ _ l0_1 a0_2 a0_3 a1 t297 t298 t299 t300 _ ?side1 ?side2 ?side3 ?side4 A21.out).mono ?_); (case side1 => repeat (first | exact (Kd.V_reads' HO_296000.out).2.2 | (with_reducible refine Kd.C_alloc ?_ _) | (with_reducible refine Kd.C_drewN ?_ _) | (with_reducible refine Kd.C_drew ?_))); (case side2 => exact (Kd.V_reads' HO_296000.out).2.1); (case side3 => repeat (first | exact (Kd.V_reads' HO_296001.out).2.2 | (with_reducible refine Kd.C_alloc ?_ _) | (with_reducible refine Kd.C_drewN ?_ _) | (with_reducible refine Kd.C_drew ?_))); (case side4 => exact (Kd.V_reads' HO_296001.out).2.1); rintro e w25 ⟨rfl, hb⟩; refine ⟨_, rfl, ?_⟩; have n0_ := qM (Vb (by (with_reducible repeat first | apply VA | apply VN | apply VD); exact HO_296000.out) hb); have n1_ := qM (Vb (by (with_reducible repeat first | apply VA | apply VN | apply VD); exact HO_296001.out) hb); have n2_ := qM (qB (g := g295) (by (with_reducible repeat first | refine qN ?_ _ | refine qD ?_ | refine qA ?_ _); exact B295.out) hb); have n3_ := qM (qB (g := g296) (by (with_reducible repeat first | refine qN ?_ _ | refine qD ?_ | refine qA ?_ _); exact B296.out) hb); have n4_ := qM (eT (by repeat (first | (with_reducible first | exact HB.out | apply eA | apply eN | apply eD | refine eS ?_ GE295.out | refine eS ?_ GE296.out) | exact HB.out)) hb); clear HO_296000; clear HO_296001; clear B295; clear B296; clear HB; have HO_296000 := n0_; have HO_296001 := n1_; have B295 := n2_; have B296 := n3_; have HB := n4_; clear n0_ n1_ n2_ n3_ n4_; (try clear hb); (try clear hb2); (try clear hk); (try clear hi); obtain ⟨z26_0, z26_1, z26_2, z26_3, f26_0, f26_1, f26_2, f26_3⟩ := cells4 B295.out; obtain ⟨z27_0, z27_1, z27_2, z27_3, f27_0, f27_1, f27_2, f27_3⟩ := cells4 B296.out))
      refine bodyPost_ret (results_ct rfl _ _ g296 37 #[.slice A0_0 l0_0.length c0_0, .slice A0_1 l0_1.length c0_1, .int .i64 a0_2, .bool a0_3] (0, 0) _ rfl (by (with_reducible repeat first | refine qN ?_ _ | refine qD ?_ | refine qA ?_ _); apply puts4; (with_reducible repeat first | refine qN ?_ _ | refine qD ?_ | refine qA ?_ _); exact B296.out) Try.underlying37 rfl (by kernel_rfl)) rfl ?_
      exact ⟨_, _, by first | rfl | (simp [errW_none, errW_some] <;> rfl) | (simp [*, errW_none, errW_some] <;> rfl), by (with_reducible repeat first | apply VA | apply VN | apply VD); exact Vm (Vf (p := ⟨g296, 3, none⟩) (Vf (p := ⟨g296, 2, none⟩) (Vf (p := ⟨g296, 1, none⟩) (Vf (p := ⟨g296, 0, none⟩) (Vm HO_296000.out (fun k_ hk => (⟨hk, hk.2.2⟩ : _ ∧ k_ ≠ g296))) (fun _ hk => hk.2) (.slice A0_0 l0_0.length c0_0)) (fun _ hk => hk.2) (.slice A0_1 l0_1.length c0_1)) (fun _ hk => hk.2) (.int .i64 a0_2)) (fun _ hk => hk.2) (.bool a0_3)) (fun _ hk => hk.1.1), by (with_reducible repeat first | apply VA | apply VN | apply VD); exact Vm (Vf (p := ⟨g296, 3, none⟩) (Vf (p := ⟨g296, 2, none⟩) (Vf (p := ⟨g296, 1, none⟩) (Vf (p := ⟨g296, 0, none⟩) (Vm HO_296001.out (fun k_ hk => (⟨hk, hk.2.2⟩ : _ ∧ k_ ≠ g296))) (fun _ hk => hk.2) (.slice A0_0 l0_0.length c0_0)) (fun _ hk => hk.2) (.slice A0_1 l0_1.length c0_1)) (fun _ hk => hk.2) (.int .i64 a0_2)) (fun _ hk => hk.2) (.bool a0_3)) (fun _ hk => hk.1.1), by repeat (first | (with_reducible first | exact HB.out | apply eA | apply eN | apply eD | refine eS ?_ GE295.out | refine eS ?_ GE296.out) | exact HB.out)⟩
     ·rw [if_neg c22] at H
      have c22b0 : (t298 == 18446744073709551615) = false := beq_eq_false_iff_ne.mpr c22
      have c22b1 : (t298 != 18446744073709551615) = true := bne_iff_ne.mpr c22
      replace H := Option.bind_eq_some_iff.mp H
      obtain ⟨⟨t301, t302⟩, A280, H⟩ := H
      replace H : (if t297 = a1 then ((hogsheadref08_Put.f kj3 l0_0 l0_1 a0_2 a0_3 (wrap64 (a1 + 1)) t301).bind fun bt303 => (some (bt303.1, bt303.2.1, bt303.2.2.1, bt303.2.2.2.1, bt303.2.2.2.2))) else ((hogsheadref08_Put.f kj3 l0_0 l0_1 a0_2 a0_3 a1 t301).bind fun bt312 => (some (bt312.1, bt312.2.1, bt312.2.2.1, bt312.2.2.2.1, bt312.2.2.2.2)))) = some (r1, r2, r3, r4, r5) := H
      have A28 := qM A280
      clear A280
      by_cases c29 : t297 = a1
      ·rw [if_pos c29] at H
       have c29b0 : (t297 == a1) = true := beq_iff_eq.mpr c29
       have c29b1 : (t297 != a1) = false := bne_eq_false_iff_eq.mpr c29
       clear c29
       replace H := Option.bind_eq_some_iff.mp H
       obtain ⟨⟨t303, t306, t309, t310, t311⟩, A300, H⟩ := H
       replace H : (some (t303, t306, t309, t310, t311)) = some (r1, r2, r3, r4, r5) := H
       have A30 := qM A300
       clear A300
       simp only [Option.some.injEq, Prod.mk.injEq] at H
       obtain ⟨rfl, rfl, rfl, rfl, rfl⟩ := H
       have hnb31 := NB295_296.out
       have hnc31 := NB296_295.out
       obtain ⟨z32_0, z32_1, z32_2, z32_3, f32_0, f32_1, f32_2, f32_3⟩ := cells4 B295.out
       go_wp2_with (first | ((with_reducible refine gate_callee (f := 38) rfl ?_); refine goesL_ (some 39) rfl rfl Try.func38 (by kernel_rfl) rfl #[.agg #[.slice A0_0 l0_0.length c0_0, .slice A0_1 l0_1.length c0_1, .int .i64 a0_2, .bool a0_3], .int .i64 a1] rfl (by (try simp only [List.map_toArray, List.map_cons, List.map_nil]); first | done | rfl | (simp only [List.length_drop, List.length_take]; rfl)) ?_; (with_reducible refine (hogsheadref09_current.calls kj3 _ _ l0_0 _ _ l0_1 a0_2 a0_3 a1 t297 t298 t299 t300 _ ?side1 ?side2 ?side3 ?side4 A21.out).mono ?_); (case side1 => repeat (first | exact (Kd.V_reads' HO_296000.out).2.2 | (with_reducible refine Kd.C_alloc ?_ _) | (with_reducible refine Kd.C_drewN ?_ _) | (with_reducible refine Kd.C_drew ?_))); (case side2 => exact (Kd.V_reads' HO_296000.out).2.1); (case side3 => repeat (first | exact (Kd.V_reads' HO_296001.out).2.2 | (with_reducible refine Kd.C_alloc ?_ _) | (with_reducible refine Kd.C_drewN ?_ _) | (with_reducible refine Kd.C_drew ?_))); (case side4 => exact (Kd.V_reads' HO_296001.out).2.1); rintro e w33 ⟨rfl, hb⟩; refine ⟨_, rfl, ?_⟩; have n0_ := qM (Vb (by (with_reducible repeat first | apply VA | apply VN | apply VD); exact HO_296000.out) hb); have n1_ := qM (Vb (by (with_reducible repeat first | apply VA | apply VN | apply VD); exact HO_296001.out) hb); have n2_ := qM (qB (g := g295) (by (with_reducible repeat first | refine qN ?_ _ | refine qD ?_ | refine qA ?_ _); exact B295.out) hb); have n3_ := qM (qB (g := g296) (by (with_reducible repeat first | refine qN ?_ _ | refine qD ?_ | refine qA ?_ _); exact B296.out) hb); have n4_ := qM (eT (by repeat (first | (with_reducible first | exact HB.out | apply eA | apply eN | apply eD | refine eS ?_ GE295.out | refine eS ?_ GE296.out) | exact HB.out)) hb); clear HO_296000; clear HO_296001; clear B295; clear B296; clear HB; have HO_296000 := n0_; have HO_296001 := n1_; have B295 := n2_; have B296 := n3_; have HB := n4_; clear n0_ n1_ n2_ n3_ n4_; (try clear hb); (try clear hb2); (try clear hk); (try clear hi)) | ((with_reducible refine gate_callee (f := 12) rfl ?_); refine goesL_ (some 51) rfl rfl Try.func12 (by kernel_rfl) rfl #[.int .u64 (IntKind.u64.wrap (t298 + 1)), .string a2] rfl (by (try simp only [List.map_toArray, List.map_cons, List.map_nil]); first | done | rfl | (simp only [List.length_drop, List.length_take]; rfl)) ?_; (with_reducible refine (hogsheadref09_Record.calls kj3 (IntKind.u64.wrap (t298 + 1)) a2 t301 t302 _ A28.out).mono ?_); rintro e w34 ⟨rfl, hb⟩; refine ⟨_, rfl, ?_⟩; have n0_ := qM (Vb (by (with_reducible repeat first | apply VA | apply VN | apply VD); exact HO_296000.out) hb); have n1_ := qM (Vb (by (with_reducible repeat first | apply VA | apply VN | apply VD); exact HO_296001.out) hb); have n2_ := qM (qB (g := g295) (by (with_reducible repeat first | refine qN ?_ _ | refine qD ?_ | refine qA ?_ _); exact B295.out) hb); have n3_ := qM (qB (g := g296) (by (with_reducible repeat first | refine qN ?_ _ | refine qD ?_ | refine qA ?_ _); exact B296.out) hb); have n4_ := qM (eT (by repeat (first | (with_reducible first | exact HB.out | apply eA | apply eN | apply eD | refine eS ?_ GE295.out | refine eS ?_ GE296.out) | exact HB.out)) hb); clear HO_296000; clear HO_296001; clear B295; clear B296; clear HB; have HO_296000 := n0_; have HO_296001 := n1_; have B295 := n2_; have B296 := n3_; have HB := n4_; clear n0_ n1_ n2_ n3_ n4_; (try clear hb); (try clear hb2); (try clear hk); (try clear hi); obtain ⟨z35_0, z35_1, z35_2, z35_3, f35_0, f35_1, f35_2, f35_3⟩ := cells4 B295.out) | ((with_reducible refine gate_callee (f := 40) rfl ?_); refine goesL_ (some 61) rfl rfl Try.func40 (by kernel_rfl) rfl #[.agg #[.slice A0_0 l0_0.length c0_0, .slice A0_1 l0_1.length c0_1, .int .i64 a0_2, .bool a0_3], .int .i64 (wrap64 (a1 + 1)), .string t301] rfl (by (try simp only [List.map_toArray, List.map_cons, List.map_nil]); first | done | rfl | (simp only [List.length_drop, List.length_take]; rfl)) ?_; (with_reducible refine (hogsheadref08_Put.calls kj3 (fun k_ => (((P0_0_ k_ ∨ P0_1_ k_) ∨ w.heap.size ≤ k_) ∧ (k_ ≠ g295 ∧ k_ ≠ g296))) _ _ l0_0 (fun k_ => (((P0_0_ k_ ∨ P0_1_ k_) ∨ w.heap.size ≤ k_) ∧ (k_ ≠ g295 ∧ k_ ≠ g296))) _ _ l0_1 a0_2 a0_3 (wrap64 (a1 + 1)) t301 t303 t306 t309 t310 t311 _ ?side1 ?side2 A30.out).mono ?_); (case side1 => exact HO_296000.out); (case side2 => exact HO_296001.out); rintro e w36 ⟨v304, v307, rfl, ho0, ho1, hb⟩; refine ⟨_, rfl, ?_⟩; have n0_ := qM (Vb (by (with_reducible repeat first | apply VA | apply VN | apply VD); exact HO_296000.out) hb); have n1_ := qM (Vb (by (with_reducible repeat first | apply VA | apply VN | apply VD); exact HO_296001.out) hb); have n2_ := qM (Vl (Vm (ok' := fun k_ => ((P0_0_ k_ ∨ P0_1_ k_) ∨ w.heap.size ≤ k_) ∧ k_ ≠ g295 ∧ k_ ≠ g296) ho0 (fun k_ hk_ => ⟨Or.elim hk_ (fun hs_ => Or.elim hs_ (fun hs_ => hs_.1) (fun hs_ => hs_.1)) (fun hn_ => (.inr (Nat.le_trans (eZ (by repeat (first | (with_reducible first | exact HB.out | apply eA | apply eN | apply eD | refine eS ?_ GE295.out | refine eS ?_ GE296.out) | exact HB.out))) hn_))), Or.elim hk_ (fun hs_ => Or.elim hs_ (fun hs_ => hs_.2.1) (fun hs_ => hs_.2.1)) (fun hn_ => (Fb (g := g295) (by (with_reducible repeat first | refine qN ?_ _ | refine qD ?_ | refine qA ?_ _); exact B295.out) k_ hn_)), Or.elim hk_ (fun hs_ => Or.elim hs_ (fun hs_ => hs_.2.2) (fun hs_ => hs_.2.2)) (fun hn_ => (Fb (g := g296) (by (with_reducible repeat first | refine qN ?_ _ | refine qD ?_ | refine qA ?_ _); exact B296.out) k_ hn_))⟩)) (eZ (by repeat (first | (with_reducible first | exact HB.out | apply eA | apply eN | apply eD | refine eS ?_ GE295.out | refine eS ?_ GE296.out) | exact HB.out)))); have n3_ := qM (Vl (Vm (ok' := fun k_ => ((P0_0_ k_ ∨ P0_1_ k_) ∨ w.heap.size ≤ k_) ∧ k_ ≠ g295 ∧ k_ ≠ g296) ho1 (fun k_ hk_ => ⟨Or.elim hk_ (fun hs_ => Or.elim hs_ (fun hs_ => hs_.1) (fun hs_ => hs_.1)) (fun hn_ => (.inr (Nat.le_trans (eZ (by repeat (first | (with_reducible first | exact HB.out | apply eA | apply eN | apply eD | refine eS ?_ GE295.out | refine eS ?_ GE296.out) | exact HB.out))) hn_))), Or.elim hk_ (fun hs_ => Or.elim hs_ (fun hs_ => hs_.2.1) (fun hs_ => hs_.2.1)) (fun hn_ => (Fb (g := g295) (by (with_reducible repeat first | refine qN ?_ _ | refine qD ?_ | refine qA ?_ _); exact B295.out) k_ hn_)), Or.elim hk_ (fun hs_ => Or.elim hs_ (fun hs_ => hs_.2.2) (fun hs_ => hs_.2.2)) (fun hn_ => (Fb (g := g296) (by (with_reducible repeat first | refine qN ?_ _ | refine qD ?_ | refine qA ?_ _); exact B296.out) k_ hn_))⟩)) (eZ (by repeat (first | (with_reducible first | exact HB.out | apply eA | apply eN | apply eD | refine eS ?_ GE295.out | refine eS ?_ GE296.out) | exact HB.out)))); have n4_ := qM (qB (g := g295) (by (with_reducible repeat first | refine qN ?_ _ | refine qD ?_ | refine qA ?_ _); exact B295.out) hb); have n5_ := qM (qB (g := g296) (by (with_reducible repeat first | refine qN ?_ _ | refine qD ?_ | refine qA ?_ _); exact B296.out) hb); have n6_ := qM (eT (by repeat (first | (with_reducible first | exact HB.out | apply eA | apply eN | apply eD | refine eS ?_ GE295.out | refine eS ?_ GE296.out) | exact HB.out)) hb); clear HO_296000; clear HO_296001; clear B295; clear B296; clear HB; have HO_296000 := n0_; have HO_296001 := n1_; have HO305 := n2_; have HO308 := n3_; have B295 := n4_; have B296 := n5_; have HB := n6_; clear n0_ n1_ n2_ n3_ n4_ n5_ n6_; (try clear hb); (try clear hb2); (try clear hk); (try clear hi); (try clear ho0); (try clear ho1); obtain ⟨Ao37, co37, eo37⟩ := Kd.V_slice HO305.out; subst eo37; obtain ⟨z38_0, z38_1, z38_2, z38_3, f38_0, f38_1, f38_2, f38_3⟩ := cells4 B296.out; obtain ⟨Ao39, co39, eo39⟩ := Kd.V_slice HO308.out; subst eo39))
       refine bodyPost_ret (results_ct rfl _ _ g296 37 #[.slice Ao37 t303.length co37, .slice Ao39 t306.length co39, .int .i64 t309, .bool t310] (0, 0) _ rfl (by (with_reducible repeat first | refine qN ?_ _ | refine qD ?_ | refine qA ?_ _); apply puts4; (with_reducible repeat first | refine qN ?_ _ | refine qD ?_ | refine qA ?_ _); exact B296.out) Try.underlying37 rfl (by kernel_rfl)) rfl ?_
       exact ⟨_, _, by first | rfl | (simp [errW_none, errW_some] <;> rfl) | (simp [*, errW_none, errW_some] <;> rfl), by (with_reducible repeat first | apply VA | apply VN | apply VD); exact Vm (Vf (p := ⟨g296, 3, none⟩) (Vf (p := ⟨g296, 2, none⟩) (Vf (p := ⟨g296, 1, none⟩) (Vf (p := ⟨g296, 0, none⟩) (Vm HO305.out (fun k_ hk => (⟨hk, hk.2.2⟩ : _ ∧ k_ ≠ g296))) (fun _ hk => hk.2) (.slice Ao37 t303.length co37)) (fun _ hk => hk.2) (.slice Ao39 t306.length co39)) (fun _ hk => hk.2) (.int .i64 t309)) (fun _ hk => hk.2) (.bool t310)) (fun _ hk => hk.1.1), by (with_reducible repeat first | apply VA | apply VN | apply VD); exact Vm (Vf (p := ⟨g296, 3, none⟩) (Vf (p := ⟨g296, 2, none⟩) (Vf (p := ⟨g296, 1, none⟩) (Vf (p := ⟨g296, 0, none⟩) (Vm HO308.out (fun k_ hk => (⟨hk, hk.2.2⟩ : _ ∧ k_ ≠ g296))) (fun _ hk => hk.2) (.slice Ao37 t303.length co37)) (fun _ hk => hk.2) (.slice Ao39 t306.length co39)) (fun _ hk => hk.2) (.int .i64 t309)) (fun _ hk => hk.2) (.bool t310)) (fun _ hk => hk.1.1), by repeat (first | (with_reducible first | exact HB.out | apply eA | apply eN | apply eD | refine eS ?_ GE295.out | refine eS ?_ GE296.out) | exact HB.out)⟩
      ·rw [if_neg c29] at H
       have c29b0 : (t297 == a1) = false := beq_eq_false_iff_ne.mpr c29
       have c29b1 : (t297 != a1) = true := bne_iff_ne.mpr c29
       replace H := Option.bind_eq_some_iff.mp H
       obtain ⟨⟨t312, t315, t318, t319, t320⟩, A400, H⟩ := H
       replace H : (some (t312, t315, t318, t319, t320)) = some (r1, r2, r3, r4, r5) := H
       have A40 := qM A400
       clear A400
       simp only [Option.some.injEq, Prod.mk.injEq] at H
       obtain ⟨rfl, rfl, rfl, rfl, rfl⟩ := H
       have hnb41 := NB295_296.out
       have hnc41 := NB296_295.out
       obtain ⟨z42_0, z42_1, z42_2, z42_3, f42_0, f42_1, f42_2, f42_3⟩ := cells4 B295.out
       go_wp2_with (first | ((with_reducible refine gate_callee (f := 38) rfl ?_); refine goesL_ (some 39) rfl rfl Try.func38 (by kernel_rfl) rfl #[.agg #[.slice A0_0 l0_0.length c0_0, .slice A0_1 l0_1.length c0_1, .int .i64 a0_2, .bool a0_3], .int .i64 a1] rfl (by (try simp only [List.map_toArray, List.map_cons, List.map_nil]); first | done | rfl | (simp only [List.length_drop, List.length_take]; rfl)) ?_; (with_reducible refine (hogsheadref09_current.calls kj3 _ _ l0_0 _ _ l0_1 a0_2 a0_3 a1 t297 t298 t299 t300 _ ?side1 ?side2 ?side3 ?side4 A21.out).mono ?_); (case side1 => repeat (first | exact (Kd.V_reads' HO_296000.out).2.2 | (with_reducible refine Kd.C_alloc ?_ _) | (with_reducible refine Kd.C_drewN ?_ _) | (with_reducible refine Kd.C_drew ?_))); (case side2 => exact (Kd.V_reads' HO_296000.out).2.1); (case side3 => repeat (first | exact (Kd.V_reads' HO_296001.out).2.2 | (with_reducible refine Kd.C_alloc ?_ _) | (with_reducible refine Kd.C_drewN ?_ _) | (with_reducible refine Kd.C_drew ?_))); (case side4 => exact (Kd.V_reads' HO_296001.out).2.1); rintro e w43 ⟨rfl, hb⟩; refine ⟨_, rfl, ?_⟩; have n0_ := qM (Vb (by (with_reducible repeat first | apply VA | apply VN | apply VD); exact HO_296000.out) hb); have n1_ := qM (Vb (by (with_reducible repeat first | apply VA | apply VN | apply VD); exact HO_296001.out) hb); have n2_ := qM (qB (g := g295) (by (with_reducible repeat first | refine qN ?_ _ | refine qD ?_ | refine qA ?_ _); exact B295.out) hb); have n3_ := qM (qB (g := g296) (by (with_reducible repeat first | refine qN ?_ _ | refine qD ?_ | refine qA ?_ _); exact B296.out) hb); have n4_ := qM (eT (by repeat (first | (with_reducible first | exact HB.out | apply eA | apply eN | apply eD | refine eS ?_ GE295.out | refine eS ?_ GE296.out) | exact HB.out)) hb); clear HO_296000; clear HO_296001; clear B295; clear B296; clear HB; have HO_296000 := n0_; have HO_296001 := n1_; have B295 := n2_; have B296 := n3_; have HB := n4_; clear n0_ n1_ n2_ n3_ n4_; (try clear hb); (try clear hb2); (try clear hk); (try clear hi)) | ((with_reducible refine gate_callee (f := 12) rfl ?_); refine goesL_ (some 51) rfl rfl Try.func12 (by kernel_rfl) rfl #[.int .u64 (IntKind.u64.wrap (t298 + 1)), .string a2] rfl (by (try simp only [List.map_toArray, List.map_cons, List.map_nil]); first | done | rfl | (simp only [List.length_drop, List.length_take]; rfl)) ?_; (with_reducible refine (hogsheadref09_Record.calls kj3 (IntKind.u64.wrap (t298 + 1)) a2 t301 t302 _ A28.out).mono ?_); rintro e w44 ⟨rfl, hb⟩; refine ⟨_, rfl, ?_⟩; have n0_ := qM (Vb (by (with_reducible repeat first | apply VA | apply VN | apply VD); exact HO_296000.out) hb); have n1_ := qM (Vb (by (with_reducible repeat first | apply VA | apply VN | apply VD); exact HO_296001.out) hb); have n2_ := qM (qB (g := g295) (by (with_reducible repeat first | refine qN ?_ _ | refine qD ?_ | refine qA ?_ _); exact B295.out) hb); have n3_ := qM (qB (g := g296) (by (with_reducible repeat first | refine qN ?_ _ | refine qD ?_ | refine qA ?_ _); exact B296.out) hb); have n4_ := qM (eT (by repeat (first | (with_reducible first | exact HB.out | apply eA | apply eN | apply eD | refine eS ?_ GE295.out | refine eS ?_ GE296.out) | exact HB.out)) hb); clear HO_296000; clear HO_296001; clear B295; clear B296; clear HB; have HO_296000 := n0_; have HO_296001 := n1_; have B295 := n2_; have B296 := n3_; have HB := n4_; clear n0_ n1_ n2_ n3_ n4_; (try clear hb); (try clear hb2); (try clear hk); (try clear hi); obtain ⟨z45_0, z45_1, z45_2, z45_3, f45_0, f45_1, f45_2, f45_3⟩ := cells4 B295.out) | ((with_reducible refine gate_callee (f := 40) rfl ?_); refine goesL_ (some 67) rfl rfl Try.func40 (by kernel_rfl) rfl #[.agg #[.slice A0_0 l0_0.length c0_0, .slice A0_1 l0_1.length c0_1, .int .i64 a0_2, .bool a0_3], .int .i64 a1, .string t301] rfl (by (try simp only [List.map_toArray, List.map_cons, List.map_nil]); first | done | rfl | (simp only [List.length_drop, List.length_take]; rfl)) ?_; (with_reducible refine (hogsheadref08_Put.calls kj3 (fun k_ => (((P0_0_ k_ ∨ P0_1_ k_) ∨ w.heap.size ≤ k_) ∧ (k_ ≠ g295 ∧ k_ ≠ g296))) _ _ l0_0 (fun k_ => (((P0_0_ k_ ∨ P0_1_ k_) ∨ w.heap.size ≤ k_) ∧ (k_ ≠ g295 ∧ k_ ≠ g296))) _ _ l0_1 a0_2 a0_3 a1 t301 t312 t315 t318 t319 t320 _ ?side1 ?side2 A40.out).mono ?_); (case side1 => exact HO_296000.out); (case side2 => exact HO_296001.out); rintro e w46 ⟨v313, v316, rfl, ho0, ho1, hb⟩; refine ⟨_, rfl, ?_⟩; have n0_ := qM (Vb (by (with_reducible repeat first | apply VA | apply VN | apply VD); exact HO_296000.out) hb); have n1_ := qM (Vb (by (with_reducible repeat first | apply VA | apply VN | apply VD); exact HO_296001.out) hb); have n2_ := qM (Vl (Vm (ok' := fun k_ => ((P0_0_ k_ ∨ P0_1_ k_) ∨ w.heap.size ≤ k_) ∧ k_ ≠ g295 ∧ k_ ≠ g296) ho0 (fun k_ hk_ => ⟨Or.elim hk_ (fun hs_ => Or.elim hs_ (fun hs_ => hs_.1) (fun hs_ => hs_.1)) (fun hn_ => (.inr (Nat.le_trans (eZ (by repeat (first | (with_reducible first | exact HB.out | apply eA | apply eN | apply eD | refine eS ?_ GE295.out | refine eS ?_ GE296.out) | exact HB.out))) hn_))), Or.elim hk_ (fun hs_ => Or.elim hs_ (fun hs_ => hs_.2.1) (fun hs_ => hs_.2.1)) (fun hn_ => (Fb (g := g295) (by (with_reducible repeat first | refine qN ?_ _ | refine qD ?_ | refine qA ?_ _); exact B295.out) k_ hn_)), Or.elim hk_ (fun hs_ => Or.elim hs_ (fun hs_ => hs_.2.2) (fun hs_ => hs_.2.2)) (fun hn_ => (Fb (g := g296) (by (with_reducible repeat first | refine qN ?_ _ | refine qD ?_ | refine qA ?_ _); exact B296.out) k_ hn_))⟩)) (eZ (by repeat (first | (with_reducible first | exact HB.out | apply eA | apply eN | apply eD | refine eS ?_ GE295.out | refine eS ?_ GE296.out) | exact HB.out)))); have n3_ := qM (Vl (Vm (ok' := fun k_ => ((P0_0_ k_ ∨ P0_1_ k_) ∨ w.heap.size ≤ k_) ∧ k_ ≠ g295 ∧ k_ ≠ g296) ho1 (fun k_ hk_ => ⟨Or.elim hk_ (fun hs_ => Or.elim hs_ (fun hs_ => hs_.1) (fun hs_ => hs_.1)) (fun hn_ => (.inr (Nat.le_trans (eZ (by repeat (first | (with_reducible first | exact HB.out | apply eA | apply eN | apply eD | refine eS ?_ GE295.out | refine eS ?_ GE296.out) | exact HB.out))) hn_))), Or.elim hk_ (fun hs_ => Or.elim hs_ (fun hs_ => hs_.2.1) (fun hs_ => hs_.2.1)) (fun hn_ => (Fb (g := g295) (by (with_reducible repeat first | refine qN ?_ _ | refine qD ?_ | refine qA ?_ _); exact B295.out) k_ hn_)), Or.elim hk_ (fun hs_ => Or.elim hs_ (fun hs_ => hs_.2.2) (fun hs_ => hs_.2.2)) (fun hn_ => (Fb (g := g296) (by (with_reducible repeat first | refine qN ?_ _ | refine qD ?_ | refine qA ?_ _); exact B296.out) k_ hn_))⟩)) (eZ (by repeat (first | (with_reducible first | exact HB.out | apply eA | apply eN | apply eD | refine eS ?_ GE295.out | refine eS ?_ GE296.out) | exact HB.out)))); have n4_ := qM (qB (g := g295) (by (with_reducible repeat first | refine qN ?_ _ | refine qD ?_ | refine qA ?_ _); exact B295.out) hb); have n5_ := qM (qB (g := g296) (by (with_reducible repeat first | refine qN ?_ _ | refine qD ?_ | refine qA ?_ _); exact B296.out) hb); have n6_ := qM (eT (by repeat (first | (with_reducible first | exact HB.out | apply eA | apply eN | apply eD | refine eS ?_ GE295.out | refine eS ?_ GE296.out) | exact HB.out)) hb); clear HO_296000; clear HO_296001; clear B295; clear B296; clear HB; have HO_296000 := n0_; have HO_296001 := n1_; have HO314 := n2_; have HO317 := n3_; have B295 := n4_; have B296 := n5_; have HB := n6_; clear n0_ n1_ n2_ n3_ n4_ n5_ n6_; (try clear hb); (try clear hb2); (try clear hk); (try clear hi); (try clear ho0); (try clear ho1); obtain ⟨Ao47, co47, eo47⟩ := Kd.V_slice HO314.out; subst eo47; obtain ⟨z48_0, z48_1, z48_2, z48_3, f48_0, f48_1, f48_2, f48_3⟩ := cells4 B296.out; obtain ⟨Ao49, co49, eo49⟩ := Kd.V_slice HO317.out; subst eo49))
       refine bodyPost_ret (results_ct rfl _ _ g296 37 #[.slice Ao47 t312.length co47, .slice Ao49 t315.length co49, .int .i64 t318, .bool t319] (0, 0) _ rfl (by (with_reducible repeat first | refine qN ?_ _ | refine qD ?_ | refine qA ?_ _); apply puts4; (with_reducible repeat first | refine qN ?_ _ | refine qD ?_ | refine qA ?_ _); exact B296.out) Try.underlying37 rfl (by kernel_rfl)) rfl ?_
       exact ⟨_, _, by first | rfl | (simp [errW_none, errW_some] <;> rfl) | (simp [*, errW_none, errW_some] <;> rfl), by (with_reducible repeat first | apply VA | apply VN | apply VD); exact Vm (Vf (p := ⟨g296, 3, none⟩) (Vf (p := ⟨g296, 2, none⟩) (Vf (p := ⟨g296, 1, none⟩) (Vf (p := ⟨g296, 0, none⟩) (Vm HO314.out (fun k_ hk => (⟨hk, hk.2.2⟩ : _ ∧ k_ ≠ g296))) (fun _ hk => hk.2) (.slice Ao47 t312.length co47)) (fun _ hk => hk.2) (.slice Ao49 t315.length co49)) (fun _ hk => hk.2) (.int .i64 t318)) (fun _ hk => hk.2) (.bool t319)) (fun _ hk => hk.1.1), by (with_reducible repeat first | apply VA | apply VN | apply VD); exact Vm (Vf (p := ⟨g296, 3, none⟩) (Vf (p := ⟨g296, 2, none⟩) (Vf (p := ⟨g296, 1, none⟩) (Vf (p := ⟨g296, 0, none⟩) (Vm HO317.out (fun k_ hk => (⟨hk, hk.2.2⟩ : _ ∧ k_ ≠ g296))) (fun _ hk => hk.2) (.slice Ao47 t312.length co47)) (fun _ hk => hk.2) (.slice Ao49 t315.length co49)) (fun _ hk => hk.2) (.int .i64 t318)) (fun _ hk => hk.2) (.bool t319)) (fun _ hk => hk.1.1), by repeat (first | (with_reducible first | exact HB.out | apply eA | apply eN | apply eD | refine eS ?_ GE295.out | refine eS ?_ GE296.out) | exact HB.out)⟩

end Go.Proofs.Ythnhfmmiaknhgaa.PAll
