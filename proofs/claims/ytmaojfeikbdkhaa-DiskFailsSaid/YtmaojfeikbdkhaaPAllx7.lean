/- Functions of the program as plain Lean functions, and that each call comes to what they say. Laid by a program of this session (hprint.py); Lean checks it. -/
import Derived.Test.YtmaojfeikbdkhaaPAllx0
import Derived.Test.YtmaojfeikbdkhaaPAllx6
namespace Go.Proofs.Ytmaojfeikbdkhaa.PAll
open Go.RowKit Go.Proofs.YtmaojfeikbdkhaaW.PrintWords Go.Proofs.YtmaojfeikbdkhaaW.PrintLast Go.Proofs.YtmaojfeikbdkhaaW.PrintMore
attribute [local go_sem] max2_int min2_int max_two min_two max_three min_three max_four min_four   -- for this text's walks alone
set_option linter.unusedVariables false
set_option linter.unusedSimpArgs false

/-! ### hogsheadref08_Crash: function 23 -/
mutual
def hogsheadref08_Crash.j1 : Nat → Int → Int → List ByteArray → List (S47) → Int → Bool → Option (List ByteArray × (List (S47)) × Int × Bool)
 | 0, _, _, _, _, _, _ => none
 | k + 1, x2, x7, x229000, x229001, x229002, x229003 => (hogsheadref08_done.f k x229000 x229001 x229002 x229003 x7).bind fun t230 => (if x7 < (x229001.length : Int) then (hogsheadref08_Crash.j2 k x2 x7 t230 (decide (x2 ≥ 0)) x229000 x229001 x229002 x229003) else (hogsheadref08_Crash.j2 k x2 x7 t230 false x229000 x229001 x229002 x229003))
def hogsheadref08_Crash.j2 : Nat → Int → Int → List ByteArray → Bool → List ByteArray → List (S47) → Int → Bool → Option (List ByteArray × (List (S47)) × Int × Bool)
 | 0, _, _, _, _, _, _, _, _ => none
 | k + 1, x2, x7, x8, x33, x229000, x229001, x229002, x229003 => if x33 = true then (if 0 ≤ x7 then (if x7 < (x229001.length : Int) then (if ((rd_T47 x229001 x7).f0) ≥ 0 then (hogsheadref08_Crash.j3 k x2 x8 (decide (((rd_T47 x229001 x7).f0) < (x8.length : Int))) ((rd_T47 x229001 x7).f0) ((rd_T47 x229001 x7).f1)) else (hogsheadref08_Crash.j3 k x2 x8 false ((rd_T47 x229001 x7).f0) ((rd_T47 x229001 x7).f1))) else (none)) else (none)) else (some (x8, ([] : List (S47)), (-1), false))
def hogsheadref08_Crash.j3 : Nat → Int → List ByteArray → Bool → Int → ByteArray → Option (List ByteArray × (List (S47)) × Int × Bool)
 | 0, _, _, _, _, _ => none
 | k + 1, x2, x8, x48, x235000, x235001 => if x48 = true then (if 0 ≤ x235000 then (if x235000 < (x8.length : Int) then ((some (x8.set (x235000 : Int).toNat x235001 : List ByteArray)).bind fun y235 => (if x2 < (x235001.size : Int) then (if 0 ≤ x2 then (if x2 ≤ (x235001.size : Int) then (some ((y235.set (x235000 : Int).toNat (x235001.extract 0 (x2 : Int).toNat)), ([] : List (S47)), (-1), false)) else (none)) else (none)) else (some (y235, ([] : List (S47)), (-1), false)))) else (none)) else (none)) else (some (x8, ([] : List (S47)), (-1), false))
def hogsheadref08_Crash.l0 : Nat → Int → Int → Int → List ByteArray → List (S47) → Int → Bool → Option (List ByteArray × (List (S47)) × Int × Bool)
 | 0, _, _, _, _, _, _, _ => none
 | k + 1, x1, x2, x7, x229000, x229001, x229002, x229003 => if x7 < (x229001.length : Int) then (if x7 < x1 then (hogsheadref08_Crash.l0 k x1 x2 (wrap64 (x7 + 1)) x229000 x229001 x229002 x229003) else (hogsheadref08_Crash.j1 k x2 x7 x229000 x229001 x229002 x229003)) else (hogsheadref08_Crash.j1 k x2 x7 x229000 x229001 x229002 x229003)
end
def hogsheadref08_Crash.f (k : Nat) (l0_0 : List ByteArray) (l0_1 : List (S47)) (a0_2 : Int) (a0_3 : Bool) (a1 : Int) (a2 : Int) : Option (List ByteArray × (List (S47)) × Int × Bool) := hogsheadref08_Crash.l0 k a1 a2 0 l0_0 l0_1 a0_2 a0_3
theorem hogsheadref08_Crash.mono_l : ∀ k, (∀ y0 y1 y2 y3 y4 y5, LeO (hogsheadref08_Crash.j1 k y0 y1 y2 y3 y4 y5) (hogsheadref08_Crash.j1 (k + 1) y0 y1 y2 y3 y4 y5)) ∧ (∀ y0 y1 y2 y3 y4 y5 y6 y7, LeO (hogsheadref08_Crash.j2 k y0 y1 y2 y3 y4 y5 y6 y7) (hogsheadref08_Crash.j2 (k + 1) y0 y1 y2 y3 y4 y5 y6 y7)) ∧ (∀ y0 y1 y2 y3 y4, LeO (hogsheadref08_Crash.j3 k y0 y1 y2 y3 y4) (hogsheadref08_Crash.j3 (k + 1) y0 y1 y2 y3 y4)) ∧ (∀ y0 y1 y2 y3 y4 y5 y6, LeO (hogsheadref08_Crash.l0 k y0 y1 y2 y3 y4 y5 y6) (hogsheadref08_Crash.l0 (k + 1) y0 y1 y2 y3 y4 y5 y6))
 | 0 => ⟨fun _ _ _ _ _ _ r h => by simp [hogsheadref08_Crash.j1] at h, fun _ _ _ _ _ _ _ _ r h => by simp [hogsheadref08_Crash.j2] at h, fun _ _ _ _ _ r h => by simp [hogsheadref08_Crash.j3] at h, fun _ _ _ _ _ _ _ r h => by simp [hogsheadref08_Crash.l0] at h⟩
 | k + 1 => by
  obtain ⟨ih0, ih1, ih2, ih3⟩ := hogsheadref08_Crash.mono_l k
  refine ⟨?_, ?_, ?_, ?_⟩
  ·intro y0 y1 y2 y3 y4 y5
   unfold hogsheadref08_Crash.j1
   repeat' first
   | (with_reducible exact ih0 _ _ _ _ _ _)
   | (with_reducible exact ih1 _ _ _ _ _ _ _ _)
   | (with_reducible exact ih2 _ _ _ _ _)
   | (with_reducible exact ih3 _ _ _ _ _ _ _)
   | (with_reducible exact hogsheadref08_done.mono _ _ _ _ _ _)
   | (with_reducible exact LeO.refl _)
   | (with_reducible exact LeO.none _)
   | (with_reducible refine LeO.ite ?_ ?_)
   | (with_reducible refine LeO.bind ?_ (fun _ => ?_))
   | exact ih0 _ _ _ _ _ _
   | exact ih1 _ _ _ _ _ _ _ _
   | exact ih2 _ _ _ _ _
   | exact ih3 _ _ _ _ _ _ _
   | exact hogsheadref08_done.mono _ _ _ _ _ _
   | exact LeO.none _
   | refine LeO.ite ?_ ?_
   | refine LeO.bind ?_ (fun _ => ?_)
  ·intro y0 y1 y2 y3 y4 y5 y6 y7
   unfold hogsheadref08_Crash.j2
   repeat' first
   | (with_reducible exact ih0 _ _ _ _ _ _)
   | (with_reducible exact ih1 _ _ _ _ _ _ _ _)
   | (with_reducible exact ih2 _ _ _ _ _)
   | (with_reducible exact ih3 _ _ _ _ _ _ _)
   | (with_reducible exact hogsheadref08_done.mono _ _ _ _ _ _)
   | (with_reducible exact LeO.refl _)
   | (with_reducible exact LeO.none _)
   | (with_reducible refine LeO.ite ?_ ?_)
   | (with_reducible refine LeO.bind ?_ (fun _ => ?_))
   | exact ih0 _ _ _ _ _ _
   | exact ih1 _ _ _ _ _ _ _ _
   | exact ih2 _ _ _ _ _
   | exact ih3 _ _ _ _ _ _ _
   | exact hogsheadref08_done.mono _ _ _ _ _ _
   | exact LeO.none _
   | refine LeO.ite ?_ ?_
   | refine LeO.bind ?_ (fun _ => ?_)
  ·intro y0 y1 y2 y3 y4
   unfold hogsheadref08_Crash.j3
   repeat' first
   | (with_reducible exact ih0 _ _ _ _ _ _)
   | (with_reducible exact ih1 _ _ _ _ _ _ _ _)
   | (with_reducible exact ih2 _ _ _ _ _)
   | (with_reducible exact ih3 _ _ _ _ _ _ _)
   | (with_reducible exact hogsheadref08_done.mono _ _ _ _ _ _)
   | (with_reducible exact LeO.refl _)
   | (with_reducible exact LeO.none _)
   | (with_reducible refine LeO.ite ?_ ?_)
   | (with_reducible refine LeO.bind ?_ (fun _ => ?_))
   | exact ih0 _ _ _ _ _ _
   | exact ih1 _ _ _ _ _ _ _ _
   | exact ih2 _ _ _ _ _
   | exact ih3 _ _ _ _ _ _ _
   | exact hogsheadref08_done.mono _ _ _ _ _ _
   | exact LeO.none _
   | refine LeO.ite ?_ ?_
   | refine LeO.bind ?_ (fun _ => ?_)
  ·intro y0 y1 y2 y3 y4 y5 y6
   unfold hogsheadref08_Crash.l0
   repeat' first
   | (with_reducible exact ih0 _ _ _ _ _ _)
   | (with_reducible exact ih1 _ _ _ _ _ _ _ _)
   | (with_reducible exact ih2 _ _ _ _ _)
   | (with_reducible exact ih3 _ _ _ _ _ _ _)
   | (with_reducible exact hogsheadref08_done.mono _ _ _ _ _ _)
   | (with_reducible exact LeO.refl _)
   | (with_reducible exact LeO.none _)
   | (with_reducible refine LeO.ite ?_ ?_)
   | (with_reducible refine LeO.bind ?_ (fun _ => ?_))
   | exact ih0 _ _ _ _ _ _
   | exact ih1 _ _ _ _ _ _ _ _
   | exact ih2 _ _ _ _ _
   | exact ih3 _ _ _ _ _ _ _
   | exact hogsheadref08_done.mono _ _ _ _ _ _
   | exact LeO.none _
   | refine LeO.ite ?_ ?_
   | refine LeO.bind ?_ (fun _ => ?_)
theorem hogsheadref08_Crash.mono : ∀ a0 a1 a2 a3 a4 a5 k, LeO (hogsheadref08_Crash.f k a0 a1 a2 a3 a4 a5) (hogsheadref08_Crash.f (k + 1) a0 a1 a2 a3 a4 a5) := by
 intro a0 a1 a2 a3 a4 a5 k
 obtain ⟨ih0, ih1, ih2, ih3⟩ := hogsheadref08_Crash.mono_l k
 unfold hogsheadref08_Crash.f
 repeat' first
   | (with_reducible exact ih0 _ _ _ _ _ _)
   | (with_reducible exact ih1 _ _ _ _ _ _ _ _)
   | (with_reducible exact ih2 _ _ _ _ _)
   | (with_reducible exact ih3 _ _ _ _ _ _ _)
   | (with_reducible exact hogsheadref08_done.mono _ _ _ _ _ _)
   | (with_reducible exact LeO.refl _)
   | (with_reducible exact LeO.none _)
   | (with_reducible refine LeO.ite ?_ ?_)
   | (with_reducible refine LeO.bind ?_ (fun _ => ?_))
   | exact ih0 _ _ _ _ _ _
   | exact ih1 _ _ _ _ _ _ _ _
   | exact ih2 _ _ _ _ _
   | exact ih3 _ _ _ _ _ _ _
   | exact hogsheadref08_done.mono _ _ _ _ _ _
   | exact LeO.none _
   | refine LeO.ite ?_ ?_
   | refine LeO.bind ?_ (fun _ => ?_)
def hogsheadref08_Crash.T10 : Bool × List (List Nat × List Nat) := (true, [([], []), ([], []), ([1], [1]), ([], []), ([3], [3]), ([], []), ([4, 5], [4, 5]), ([0, 2, 0, 1, 2, 3, 4, 5, 6], [0, 2]), ([7, 6, 0, 1, 2, 3, 4, 5, 6], [6, 7])])
def hogsheadref08_Crash.B10 : List Nat := [0, 0, 2, 0, 8, 0, 56, 127, 255]
theorem hogsheadref08_Crash.tab10 : rtab .any (opsOf Try.f23 10) = hogsheadref08_Crash.T10 := by kernel_rfl
theorem hogsheadref08_Crash.bits10 : waitsOk hogsheadref08_Crash.T10.2 hogsheadref08_Crash.B10 = true := by kernel_rfl
set_option maxHeartbeats 40000000 in
set_option maxRecDepth 100000 in
theorem hogsheadref08_Crash.calls (k : Nat) (A0_0 : Option Addr) (c0_0 : Nat) (l0_0 : List ByteArray) (A0_1 : Option Addr) (c0_1 : Nat) (l0_1 : List (S47)) (a0_2 : Int) (a0_3 : Bool) (a1 : Int) (a2 : Int) (r1 : List ByteArray) (r2 : List (S47)) (r3 : Int) (r4 : Bool) (w : World) (hr0_0 : Kd.C Kd.string w A0_0 l0_0.length l0_0) (hc0_0 : l0_0.length ≤ c0_0) (hr0_1 : Kd.C k47 w A0_1 l0_1.length l0_1) (hc0_1 : l0_1.length ≤ c0_1) (h : hogsheadref08_Crash.f k l0_0 l0_1 a0_2 a0_3 a1 a2 = some (r1, r2, r3, r4)) :
  Calls Try.prog 23 #[.agg #[.slice A0_0 l0_0.length c0_0, .slice A0_1 l0_1.length c0_1, .int .i64 a0_2, .bool a0_3], .int .i64 a1, .int .i64 a2] w fun e w' => ∃ v0_ v1_ : Value, e = .returned (.agg #[v0_, v1_, .int .i64 r3, .bool r4]) ∧ Kd.R Kd.string 9 w' w.heap.size (fun _ => True) v0_ r1 ∧ Kd.R k47 47 w' w.heap.size (fun _ => True) v1_ r2 ∧ Below w.heap.size w w' := by
 have hu25 := Try.underlying25
 have hu47 := Try.underlying47
 have HR0_0 := qM hr0_0
 have HC0_0 := qM hc0_0
 clear hr0_0 hc0_0
 have HR0_1 := qM hr0_1
 have HC0_1 := qM hc0_1
 clear hr0_1 hc0_1
 have HB := qM (Below.refl w.heap.size w)
 have H : (hogsheadref08_Crash.l0 k a1 a2 0 l0_0 l0_1 a0_2 a0_3) = some (r1, r2, r3, r4) := h
 clear h
 have HC4 := qM H
 clear H
 go_enter Try.func23, Try.ntmps23
 go_upto_block 0 with (first | ((with_reducible refine gate_dst (N := 3) rfl ?_); (try (refine gate_guard (by rfl) ?_; dsimp only)); refine box_event ?hg (N := 3) ?hd (cs := #[.slice A0_0 l0_0.length c0_0, .slice A0_1 l0_1.length c0_1, .int .i64 a0_2, .bool a0_3]) (t := 25) ?hr ?_; (case hd => rfl); (case hg => rfl); (case hr => first | (go_simp; done) | (go_simp; rfl)); intro g228 hg w5 hbox hb; have n0_ := qM (eT (by repeat (first | (with_reducible first | exact HB.out | apply eA | apply eN | apply eD) | exact HB.out)) hb); have n1_ := qM (hbox); have n2_ := qM ((by rw [hg]; exact (eZ (by repeat (first | (with_reducible first | exact HB.out | apply eA | apply eN | apply eD) | exact HB.out))) : w.heap.size ≤ g228)); have n3_ := n2_; clear HB; have HB := n0_; have B228 := n1_; have GW228 := n2_; have GE228 := n3_; clear n0_ n1_ n2_ n3_; clear hb hbox hg) | ((with_reducible refine gate_dst (N := 6) rfl ?_); (try (refine gate_guard (by rfl) ?_; dsimp only)); refine box_event ?hg (N := 6) ?hd (cs := #[.slice none 0 0, .slice none 0 0, .int .i64 0, .bool false]) (t := 25) ?hr ?_; (case hd => rfl); (case hg => rfl); (case hr => first | (go_simp; done) | (go_simp; rfl)); intro g229 hg w6 hbox hb; have n0_ := qM (qB (g := g228) (by (with_reducible repeat first | refine qN ?_ _ | refine qD ?_ | refine qA ?_ _); exact B228.out) hb); have n1_ := qM (eT (by repeat (first | (with_reducible first | exact HB.out | apply eA | apply eN | apply eD | refine eU ?_ (by assumption)) | exact HB.out)) hb); have n2_ := qM (hbox); have n3_ := qM ((by rw [hg]; exact (eZ (by repeat (first | (with_reducible first | exact HB.out | apply eA | apply eN | apply eD | refine eU ?_ (by assumption)) | exact HB.out))) : w.heap.size ≤ g229)); have n4_ := n3_; have n5_ := qM ((by rw [hg]; exact Nat.ne_of_lt (qL (g := g228) (by (with_reducible repeat first | refine qN ?_ _ | refine qD ?_ | refine qA ?_ _); exact B228.out)) : g228 ≠ g229)); have n6_ := qM (Ne.symm n5_.out); clear B228 HB; have B228 := n0_; have HB := n1_; have B229 := n2_; have GW229 := n3_; have GE229 := n4_; have NB228_229 := n5_; have NB229_228 := n6_; clear n0_ n1_ n2_ n3_ n4_ n5_ n6_; clear hb hbox hg))
 (try simp only [Act.put, List.setIfInBounds_toArray, List.set_cons_zero, List.set_cons_succ])
 go_cut [7] (fun v7 wc => ∃ (kq : Nat) (x7_3 : Int), v7 = .int .i64 x7_3 ∧ Aside0 (hogsheadref08_Crash.j1 kq a2 x7_3 l0_0 l0_1 a0_2 a0_3 = some (r1, r2, r3, r4)) ∧ Aside0 (kq ≤ k) ∧ Aside0 (wc.heap[g228]? = some (.cells #[(.slice A0_0 l0_0.length c0_0), (.slice A0_1 l0_1.length c0_1), .int .i64 a0_2, .bool a0_3] 25 (0, 0))) ∧ Aside0 (wc.heap[g229]? = some (.cells #[(.slice none 0 0), (.slice none 0 0), .int .i64 0, .bool false] 25 (0, 0))) ∧ Aside0 (Below w.heap.size w wc))
 case first =>
  have H := HC4.out
  clear HC4
  have H' := qM H
  clear H
  go_wp2
  go_loopg [7] k (fun kq v7 w' => ∃ (x7_1 : Int), v7 = .int .i64 x7_1 ∧ Aside0 (hogsheadref08_Crash.l0 kq a1 a2 x7_1 l0_0 l0_1 a0_2 a0_3 = some (r1, r2, r3, r4)) ∧ Aside0 (kq ≤ k) ∧ Aside0 (w'.heap[g228]? = some (.cells #[(.slice A0_0 l0_0.length c0_0), (.slice A0_1 l0_1.length c0_1), .int .i64 a0_2, .bool a0_3] 25 (0, 0))) ∧ Aside0 (w'.heap[g229]? = some (.cells #[(.slice none 0 0), (.slice none 0 0), .int .i64 0, .bool false] 25 (0, 0))) ∧ Aside0 (Below w.heap.size w w'))
  case atStart => exact ⟨(0), (by first | rfl | (simp; done) | (simp [*]; done)), H', ⟨Nat.le_refl _⟩, ⟨by (with_reducible repeat first | refine qN ?_ _ | refine qD ?_ | refine qA ?_ _); exact B228.out⟩, ⟨by (with_reducible repeat first | refine qN ?_ _ | refine qD ?_ | refine qA ?_ _); exact B229.out⟩, ⟨by repeat (first | (with_reducible first | exact HB.out | apply eA | apply eN | apply eD | refine eS ?_ GE228.out | refine eS ?_ GE229.out) | exact HB.out)⟩⟩
  case round =>
   clear H'
   try clear c2
   try clear p2
   obtain ⟨x7_1, rfl, HA, HK1, B228, B229, HB⟩ := hrel
   cases gk with
   | zero => exact absurd HA.out (by simp [hogsheadref08_Crash.l0])
   | succ k1 =>
    have H := HA.out
    clear HA
    simp only [hogsheadref08_Crash.l0] at H
    by_cases c7 : x7_1 < (l0_1.length : Int)
    ·rw [if_pos c7] at H
     have c7b0 : decide (x7_1 < (l0_1.length : Int)) = true := decide_eq_true c7
     clear c7
     (first | rw [c7b0] | (simp only [i64_w, i32_w]; rw [c7b0]) | skip)
     by_cases c8 : x7_1 < a1
     ·rw [if_pos c8] at H
      have c8b0 : decide (x7_1 < a1) = true := decide_eq_true c8
      clear c8
      have H' := qM H
      clear H
      have hnb9 := NB228_229.out
      have hnc9 := NB229_228.out
      obtain ⟨z10_0, z10_1, z10_2, z10_3, f10_0, f10_1, f10_2, f10_3⟩ := cells4 B228.out
      go_wp2
      go_roundg k1
      case measure => have := HK1.out; omega
      case rel => exact ⟨(wrap64 (x7_1 + 1)), (by first | rfl | (simp; done) | (simp [*]; done)), H', ⟨by have := HK1.out; omega⟩, ⟨by (with_reducible repeat first | refine qN ?_ _ | refine qD ?_ | refine qA ?_ _); exact B228.out⟩, ⟨by (with_reducible repeat first | refine qN ?_ _ | refine qD ?_ | refine qA ?_ _); exact B229.out⟩, ⟨by repeat (first | (with_reducible first | exact HB.out | apply eA | apply eN | apply eD | refine eS ?_ GE228.out | refine eS ?_ GE229.out) | exact HB.out)⟩⟩
     ·rw [if_neg c8] at H
      have c8b0 : decide (x7_1 < a1) = false := decide_eq_false c8
      clear c8
      have H' := qM H
      clear H
      have hnb11 := NB228_229.out
      have hnc11 := NB229_228.out
      obtain ⟨z12_0, z12_1, z12_2, z12_3, f12_0, f12_1, f12_2, f12_3⟩ := cells4 B228.out
      go_wp2
      go_meet
      case rel => exact ⟨_, (x7_1), (by first | rfl | (simp; done) | (simp [*]; done)), H', ⟨by have := HK1.out; first | omega | exact Nat.le_refl _⟩, ⟨by (with_reducible repeat first | refine qN ?_ _ | refine qD ?_ | refine qA ?_ _); exact B228.out⟩, ⟨by (with_reducible repeat first | refine qN ?_ _ | refine qD ?_ | refine qA ?_ _); exact B229.out⟩, ⟨by repeat (first | (with_reducible first | exact HB.out | apply eA | apply eN | apply eD | refine eS ?_ GE228.out | refine eS ?_ GE229.out) | exact HB.out)⟩⟩
    ·rw [if_neg c7] at H
     have c7b0 : decide (x7_1 < (l0_1.length : Int)) = false := decide_eq_false c7
     clear c7
     (first | rw [c7b0] | (simp only [i64_w, i32_w]; rw [c7b0]) | skip)
     have H' := qM H
     clear H
     have hnb13 := NB228_229.out
     have hnc13 := NB229_228.out
     obtain ⟨z14_0, z14_1, z14_2, z14_3, f14_0, f14_1, f14_2, f14_3⟩ := cells4 B228.out
     go_wp2
     go_meet
     case rel => exact ⟨_, (x7_1), (by first | rfl | (simp; done) | (simp [*]; done)), H', ⟨by have := HK1.out; first | omega | exact Nat.le_refl _⟩, ⟨by (with_reducible repeat first | refine qN ?_ _ | refine qD ?_ | refine qA ?_ _); exact B228.out⟩, ⟨by (with_reducible repeat first | refine qN ?_ _ | refine qD ?_ | refine qA ?_ _); exact B229.out⟩, ⟨by repeat (first | (with_reducible first | exact HB.out | apply eA | apply eN | apply eD | refine eS ?_ GE228.out | refine eS ?_ GE229.out) | exact HB.out)⟩⟩
 case rest =>
  clear HC4
  try clear c1
  try clear c2
  try clear p2
  try clear p6
  try clear c7
  try clear c7b0
  try clear c8
  try clear c8b0
  try clear c9
  try clear c11
  try clear c13
  try clear z10_0
  try clear z10_1
  try clear z10_2
  try clear z10_3
  try clear z12_0
  try clear z12_1
  try clear z12_2
  try clear z12_3
  try clear z14_0
  try clear z14_1
  try clear z14_2
  try clear z14_3
  try clear f10_0
  try clear f10_1
  try clear f10_2
  try clear f10_3
  try clear f12_0
  try clear f12_1
  try clear f12_2
  try clear f12_3
  try clear f14_0
  try clear f14_1
  try clear f14_2
  try clear f14_3
  try clear p2
  obtain ⟨kq, x7_3, rfl, HA, HJ3, B228, B229, HB⟩ := hcut
  cases kq with
  | zero => exact absurd HA.out (by simp [hogsheadref08_Crash.j1])
  | succ kj3 =>
   have H := HA.out
   clear HA
   simp only [hogsheadref08_Crash.j1] at H
   replace H := Option.bind_eq_some_iff.mp H
   obtain ⟨t230, A150, H⟩ := H
   replace H : (if x7_3 < (l0_1.length : Int) then (hogsheadref08_Crash.j2 kj3 a2 x7_3 t230 (decide (a2 ≥ 0)) l0_0 l0_1 a0_2 a0_3) else (hogsheadref08_Crash.j2 kj3 a2 x7_3 t230 false l0_0 l0_1 a0_2 a0_3)) = some (r1, r2, r3, r4) := H
   have A15 := qM A150
   clear A150
   have HC16 := qM H
   clear H
   have hnb17 := NB228_229.out
   have hnc17 := NB229_228.out
   obtain ⟨z18_0, z18_1, z18_2, z18_3, f18_0, f18_1, f18_2, f18_3⟩ := cells4 B228.out
   go_upto_region 5 with (first | ((with_reducible refine gate_callee (f := 30) rfl ?_); refine goesL_ (some 24) rfl rfl Try.func30 (by kernel_rfl) rfl #[.agg #[.slice A0_0 l0_0.length c0_0, .slice A0_1 l0_1.length c0_1, .int .i64 a0_2, .bool a0_3], .int .i64 x7_3] rfl (by (try simp only [List.map_toArray, List.map_cons, List.map_nil]); first | done | rfl | (simp only [List.length_drop, List.length_take]; rfl)) ?_; (with_reducible refine (hogsheadref08_done.calls kj3 _ _ l0_0 _ _ l0_1 a0_2 a0_3 x7_3 t230 _ ?side1 ?side2 ?side3 ?side4 A15.out).mono ?_); (case side1 => repeat (first | exact (Kd.C_below HR0_0.out HB.out) | (with_reducible refine Kd.C_alloc ?_ _) | (with_reducible refine Kd.C_drewN ?_ _) | (with_reducible refine Kd.C_drew ?_))); (case side2 => exact HC0_0.out); (case side3 => repeat (first | exact (Kd.C_below HR0_1.out HB.out) | (with_reducible refine Kd.C_alloc ?_ _) | (with_reducible refine Kd.C_drewN ?_ _) | (with_reducible refine Kd.C_drew ?_))); (case side4 => exact HC0_1.out); rintro e w19 ⟨v231, rfl, ho0, hb⟩; refine ⟨_, rfl, ?_⟩; have n0_ := qM (Kd.R_lower ho0 (eZ (by repeat (first | (with_reducible first | exact HB.out | apply eA | apply eN | apply eD | refine eU ?_ (by assumption)) | exact HB.out)))); have n1_ := qM (qB (g := g228) (by (with_reducible repeat first | refine qN ?_ _ | refine qD ?_ | refine qA ?_ _); exact B228.out) hb); have n2_ := qM (qB (g := g229) (by (with_reducible repeat first | refine qN ?_ _ | refine qD ?_ | refine qA ?_ _); exact B229.out) hb); have n3_ := qM (eT (by repeat (first | (with_reducible first | exact HB.out | apply eA | apply eN | apply eD | refine eU ?_ (by assumption)) | exact HB.out)) hb); clear B228 B229 HB; have HO232 := n0_; have B228 := n1_; have B229 := n2_; have HB := n3_; clear n0_ n1_ n2_ n3_; (try clear hb); (try clear hb2); (try clear hk); (try clear hi); (try clear ho0)))
   (try simp only [Act.put, List.setIfInBounds_toArray, List.set_cons_zero, List.set_cons_succ])
   go_cut [33] (fun v33 wc => ∃ (kq : Nat) (x33_15 : Bool), v33 = .bool x33_15 ∧ Aside0 (hogsheadref08_Crash.j2 kq a2 x7_3 t230 x33_15 l0_0 l0_1 a0_2 a0_3 = some (r1, r2, r3, r4)) ∧ Aside0 (kq ≤ kj3) ∧ Aside0 (Kd.R Kd.string 9 wc w.heap.size (fun _ => True) v231 t230) ∧ Aside0 (wc.heap[g228]? = some (.cells #[(.slice A0_0 l0_0.length c0_0), (.slice A0_1 l0_1.length c0_1), .int .i64 a0_2, .bool a0_3] 25 (0, 0))) ∧ Aside0 (wc.heap[g229]? = some (.cells #[(.slice none 0 0), (.slice none 0 0), .int .i64 0, .bool false] 25 (0, 0))) ∧ Aside0 (Below w.heap.size w wc))
   case first =>
    have H := HC16.out
    clear HC16
    by_cases c20 : x7_3 < (l0_1.length : Int)
    ·rw [if_pos c20] at H
     have c20b0 : decide (x7_3 < (l0_1.length : Int)) = true := decide_eq_true c20
     clear c20
     (first | rw [c20b0] | (simp only [i64_w, i32_w]; rw [c20b0]) | skip)
     have H' := qM H
     clear H
     have hnb21 := NB228_229.out
     have hnc21 := NB229_228.out
     obtain ⟨z22_0, z22_1, z22_2, z22_3, f22_0, f22_1, f22_2, f22_3⟩ := cells4 B228.out
     go_wp2
     go_meet
     case rel => exact ⟨_, (decide (a2 ≥ 0)), (by first | rfl | (simp; done) | (simp [*]; done)), H', ⟨by have := HJ3.out; first | omega | exact Nat.le_refl _⟩, ⟨by (with_reducible repeat first | apply RA | apply RN | apply RD); exact HO232.out⟩, ⟨by (with_reducible repeat first | refine qN ?_ _ | refine qD ?_ | refine qA ?_ _); exact B228.out⟩, ⟨by (with_reducible repeat first | refine qN ?_ _ | refine qD ?_ | refine qA ?_ _); exact B229.out⟩, ⟨by repeat (first | (with_reducible first | exact HB.out | apply eA | apply eN | apply eD | refine eS ?_ GE228.out | refine eS ?_ GE229.out) | exact HB.out)⟩⟩
    ·rw [if_neg c20] at H
     have c20b0 : decide (x7_3 < (l0_1.length : Int)) = false := decide_eq_false c20
     clear c20
     (first | rw [c20b0] | (simp only [i64_w, i32_w]; rw [c20b0]) | skip)
     have H' := qM H
     clear H
     have hnb23 := NB228_229.out
     have hnc23 := NB229_228.out
     obtain ⟨z24_0, z24_1, z24_2, z24_3, f24_0, f24_1, f24_2, f24_3⟩ := cells4 B228.out
     go_wp2
     go_meet
     case rel => exact ⟨_, (false), (by first | rfl | (simp; done) | (simp [*]; done)), H', ⟨by have := HJ3.out; first | omega | exact Nat.le_refl _⟩, ⟨by (with_reducible repeat first | apply RA | apply RN | apply RD); exact HO232.out⟩, ⟨by (with_reducible repeat first | refine qN ?_ _ | refine qD ?_ | refine qA ?_ _); exact B228.out⟩, ⟨by (with_reducible repeat first | refine qN ?_ _ | refine qD ?_ | refine qA ?_ _); exact B229.out⟩, ⟨by repeat (first | (with_reducible first | exact HB.out | apply eA | apply eN | apply eD | refine eS ?_ GE228.out | refine eS ?_ GE229.out) | exact HB.out)⟩⟩
   case rest =>
    clear HC16
    try clear c1
    try clear c2
    try clear p2
    try clear c3
    try clear p6
    try clear c7
    try clear c7b0
    try clear c8
    try clear c8b0
    try clear c9
    try clear c11
    try clear c13
    try clear c17
    try clear c20
    try clear c20b0
    try clear c21
    try clear c23
    try clear z10_0
    try clear z10_1
    try clear z10_2
    try clear z10_3
    try clear z12_0
    try clear z12_1
    try clear z12_2
    try clear z12_3
    try clear z14_0
    try clear z14_1
    try clear z14_2
    try clear z14_3
    try clear z18_0
    try clear z18_1
    try clear z18_2
    try clear z18_3
    try clear z22_0
    try clear z22_1
    try clear z22_2
    try clear z22_3
    try clear z24_0
    try clear z24_1
    try clear z24_2
    try clear z24_3
    try clear f10_0
    try clear f10_1
    try clear f10_2
    try clear f10_3
    try clear f12_0
    try clear f12_1
    try clear f12_2
    try clear f12_3
    try clear f14_0
    try clear f14_1
    try clear f14_2
    try clear f14_3
    try clear f18_0
    try clear f18_1
    try clear f18_2
    try clear f18_3
    try clear f22_0
    try clear f22_1
    try clear f22_2
    try clear f22_3
    try clear f24_0
    try clear f24_1
    try clear f24_2
    try clear f24_3
    try clear p2
    try clear p6
    obtain ⟨kq, x33_15, rfl, HA, HJ15, HO_8, B228, B229, HB⟩ := hcut
    cases kq with
    | zero => exact absurd HA.out (by simp [hogsheadref08_Crash.j2])
    | succ kj15 =>
     have H := HA.out
     clear HA
     simp only [hogsheadref08_Crash.j2] at H
     by_cases c25 : x33_15 = true
     ·subst c25
      have H1 : (if 0 ≤ x7_3 then (if x7_3 < (l0_1.length : Int) then (if ((rd_T47 l0_1 x7_3).f0) ≥ 0 then (hogsheadref08_Crash.j3 kj15 a2 t230 (decide (((rd_T47 l0_1 x7_3).f0) < (t230.length : Int))) ((rd_T47 l0_1 x7_3).f0) ((rd_T47 l0_1 x7_3).f1)) else (hogsheadref08_Crash.j3 kj15 a2 t230 false ((rd_T47 l0_1 x7_3).f0) ((rd_T47 l0_1 x7_3).f1))) else (none)) else (none)) = some (r1, r2, r3, r4) := by rw [if_pos rfl] at H; exact H
      clear H
      have H := H1
      clear H1
      by_cases c26 : 0 ≤ x7_3
      ·rw [if_pos c26] at H
       have c26b0 : decide (0 ≤ x7_3) = true := decide_eq_true c26
       clear c26
       by_cases c27 : x7_3 < (l0_1.length : Int)
       ·rw [if_pos c27] at H
        have c27b0 : decide (x7_3 < (l0_1.length : Int)) = true := decide_eq_true c27
        clear c27
        have HC28 := qM H
        clear H
        have hnb29 := NB228_229.out
        have hnc29 := NB229_228.out
        obtain ⟨z30_0, z30_1, z30_2, z30_3, f30_0, f30_1, f30_2, f30_3⟩ := cells4 B228.out
        have p233 : 0 ≤ (x7_3 : Int) := of_decide_eq_true (by first | (with_reducible assumption) | assumption)
        have q233 : x7_3 < (l0_1.length : Int) := of_decide_eq_true (by first | (with_reducible assumption) | assumption)
        obtain ⟨ad233, e233, hx233_0, hx233_1⟩ := at_T47 HR0_1.out x7_3 p233 q233
        cases e233
        replace hx233_0 := (HB.out.cell (World.block_lt_of_cell? w _ hx233_0)).trans hx233_0
        replace hx233_1 := (HB.out.cell (World.block_lt_of_cell? w _ hx233_1)).trans hx233_1
        replace p233 := eq_true p233
        replace q233 := eq_true q233
        go_upto_region 7 with (first | ((with_reducible refine gate_dst (N := 9) rfl ?_); (try (refine gate_guard (by rfl) ?_; dsimp only)); refine box_event ?hg (N := 9) ?hd (cs := #[.int .i64 0, .string (⟨#[]⟩ : ByteArray)]) (t := 47) ?hr ?_; (case hd => rfl); (case hg => rfl); (case hr => first | (go_simp; done) | (go_simp; rfl)); intro g234 hg w31 hbox hb; have n0_ := qM (Kd.R_below (by (with_reducible repeat first | apply RA | apply RN | apply RD); exact HO_8.out) hb); have n1_ := qM (qB (g := g228) (by (with_reducible repeat first | refine qN ?_ _ | refine qD ?_ | refine qA ?_ _); exact B228.out) hb); have n2_ := qM (qB (g := g229) (by (with_reducible repeat first | refine qN ?_ _ | refine qD ?_ | refine qA ?_ _); exact B229.out) hb); have n3_ := qM (eT (by repeat (first | (with_reducible first | exact HB.out | apply eA | apply eN | apply eD | refine eU ?_ (by assumption)) | exact HB.out)) hb); have n4_ := qM (hbox); have n5_ := qM ((by rw [hg]; exact (eZ (by repeat (first | (with_reducible first | exact HB.out | apply eA | apply eN | apply eD | refine eU ?_ (by assumption)) | exact HB.out))) : w.heap.size ≤ g234)); have n6_ := n5_; have n7_ := qM ((by rw [hg]; exact Nat.ne_of_lt (qL (g := g228) (by (with_reducible repeat first | refine qN ?_ _ | refine qD ?_ | refine qA ?_ _); exact B228.out)) : g228 ≠ g234)); have n8_ := qM (Ne.symm n7_.out); have n9_ := qM ((by rw [hg]; exact Nat.ne_of_lt (qL (g := g229) (by (with_reducible repeat first | refine qN ?_ _ | refine qD ?_ | refine qA ?_ _); exact B229.out)) : g229 ≠ g234)); have n10_ := qM (Ne.symm n9_.out); clear HO_8 B228 B229 HB; have HO_8 := n0_; have B228 := n1_; have B229 := n2_; have HB := n3_; have B234 := n4_; have GW234 := n5_; have GE234 := n6_; have NB228_234 := n7_; have NB234_228 := n8_; have NB229_234 := n9_; have NB234_229 := n10_; clear n0_ n1_ n2_ n3_ n4_ n5_ n6_ n7_ n8_ n9_ n10_; clear hb hbox hg; have hnb32 := NB234_228.out; have hnc32 := NB228_234.out; have hnb33 := NB234_229.out; have hnc33 := NB229_234.out; have z34_0 : w31.cell? ⟨g234, 0, none⟩ = some (.int .i64 0) := (qC B234.out 0).trans rfl; have z34_1 : w31.cell? ⟨g234, 1, none⟩ = some (.string (⟨#[]⟩ : ByteArray)) := (qC B234.out 1).trans rfl; have f34_0 := qF B234.out 0; have f34_1 := qF B234.out 1))
        (try simp only [Act.put, List.setIfInBounds_toArray, List.set_cons_zero, List.set_cons_succ])
        go_cut [48] (fun v48 wc => ∃ (kq : Nat) (x48_27 : Bool), v48 = .bool x48_27 ∧ Aside0 (hogsheadref08_Crash.j3 kq a2 t230 x48_27 ((rd_T47 l0_1 x7_3).f0) ((rd_T47 l0_1 x7_3).f1) = some (r1, r2, r3, r4)) ∧ Aside0 (kq ≤ kj15) ∧ Aside0 (Kd.R Kd.string 9 wc w.heap.size (fun _ => True) v231 t230) ∧ Aside0 (wc.heap[g228]? = some (.cells #[(.slice A0_0 l0_0.length c0_0), (.slice (some ad233) l0_1.length c0_1), .int .i64 a0_2, .bool a0_3] 25 (0, 0))) ∧ Aside0 (wc.heap[g229]? = some (.cells #[(.slice none 0 0), (.slice none 0 0), .int .i64 0, .bool false] 25 (0, 0))) ∧ Aside0 (wc.heap[g234]? = some (.cells #[.int .i64 ((rd_T47 l0_1 x7_3).f0), .string ((rd_T47 l0_1 x7_3).f1)] 47 (0, 0))) ∧ Aside0 (Below w.heap.size w wc))
        case first =>
         have H := HC28.out
         clear HC28
         by_cases c35 : ((rd_T47 l0_1 x7_3).f0) ≥ 0
         ·rw [if_pos c35] at H
          have c35b0 : decide (0 ≤ ((rd_T47 l0_1 x7_3).f0)) = true := decide_eq_true c35
          clear c35
          (first | rw [c35b0] | (simp only [i64_w, i32_w]; rw [c35b0]) | skip)
          have H' := qM H
          clear H
          have hnb36 := NB234_228.out
          have hnc36 := NB228_234.out
          have hnb37 := NB234_229.out
          have hnc37 := NB229_234.out
          have z38_0 : w31.cell? ⟨g234, 0, none⟩ = some (.int .i64 0) := (qC B234.out 0).trans rfl
          have z38_1 : w31.cell? ⟨g234, 1, none⟩ = some (.string (⟨#[]⟩ : ByteArray)) := (qC B234.out 1).trans rfl
          have f38_0 := qF B234.out 0
          have f38_1 := qF B234.out 1
          obtain ⟨Ao39, co39, eo39⟩ := Kd.R_slice HO_8.out
          subst eo39
          go_wp2
          go_meet
          case rel => exact ⟨_, (decide (((rd_T47 l0_1 x7_3).f0) < (t230.length : Int))), (by first | rfl | (simp; done) | (simp [*]; done)), H', ⟨by have := HJ3.out; have := HJ15.out; first | omega | exact Nat.le_refl _⟩, ⟨by (with_reducible repeat first | apply RA | apply RN | apply RD); exact Kd.R_mono (Kd.R_far (p := ⟨g234, 1, none⟩) (Kd.R_far (p := ⟨g234, 0, none⟩) (Kd.R_types HO_8.out B234.out (by decide)) (fun _ hk => hk.2) (.int .i64 ((rd_T47 l0_1 x7_3).f0))) (fun _ hk => hk.2) (.string ((rd_T47 l0_1 x7_3).f1))) (fun _ hk => trivial)⟩, ⟨by (with_reducible repeat first | refine qN ?_ _ | refine qD ?_ | refine qA ?_ _); (iterate 2 (refine qR ?_ NB228_234.out _; (with_reducible repeat first | refine qN ?_ _ | refine qD ?_ | refine qA ?_ _))); exact B228.out⟩, ⟨by (with_reducible repeat first | refine qN ?_ _ | refine qD ?_ | refine qA ?_ _); (iterate 2 (refine qR ?_ NB229_234.out _; (with_reducible repeat first | refine qN ?_ _ | refine qD ?_ | refine qA ?_ _))); exact B229.out⟩, ⟨by (with_reducible repeat first | refine qN ?_ _ | refine qD ?_ | refine qA ?_ _); refine qP (cs := #[.int .i64 ((rd_T47 l0_1 x7_3).f0), .string (⟨#[]⟩ : ByteArray)]) ?_ 1 _ rfl; (with_reducible repeat first | refine qN ?_ _ | refine qD ?_ | refine qA ?_ _); refine qP (cs := #[.int .i64 0, .string (⟨#[]⟩ : ByteArray)]) ?_ 0 _ rfl; (with_reducible repeat first | refine qN ?_ _ | refine qD ?_ | refine qA ?_ _); exact B234.out⟩, ⟨by repeat (first | (with_reducible first | exact HB.out | apply eA | apply eN | apply eD | refine eS ?_ GE228.out | refine eS ?_ GE229.out | refine eS ?_ GE234.out) | exact HB.out)⟩⟩
         ·rw [if_neg c35] at H
          have c35b0 : decide (0 ≤ ((rd_T47 l0_1 x7_3).f0)) = false := decide_eq_false c35
          clear c35
          (first | rw [c35b0] | (simp only [i64_w, i32_w]; rw [c35b0]) | skip)
          have H' := qM H
          clear H
          have hnb40 := NB234_228.out
          have hnc40 := NB228_234.out
          have hnb41 := NB234_229.out
          have hnc41 := NB229_234.out
          have z42_0 : w31.cell? ⟨g234, 0, none⟩ = some (.int .i64 0) := (qC B234.out 0).trans rfl
          have z42_1 : w31.cell? ⟨g234, 1, none⟩ = some (.string (⟨#[]⟩ : ByteArray)) := (qC B234.out 1).trans rfl
          have f42_0 := qF B234.out 0
          have f42_1 := qF B234.out 1
          go_wp2
          go_meet
          case rel => exact ⟨_, (false), (by first | rfl | (simp; done) | (simp [*]; done)), H', ⟨by have := HJ3.out; have := HJ15.out; first | omega | exact Nat.le_refl _⟩, ⟨by (with_reducible repeat first | apply RA | apply RN | apply RD); exact Kd.R_mono (Kd.R_far (p := ⟨g234, 1, none⟩) (Kd.R_far (p := ⟨g234, 0, none⟩) (Kd.R_types HO_8.out B234.out (by decide)) (fun _ hk => hk.2) (.int .i64 ((rd_T47 l0_1 x7_3).f0))) (fun _ hk => hk.2) (.string ((rd_T47 l0_1 x7_3).f1))) (fun _ hk => trivial)⟩, ⟨by (with_reducible repeat first | refine qN ?_ _ | refine qD ?_ | refine qA ?_ _); (iterate 2 (refine qR ?_ NB228_234.out _; (with_reducible repeat first | refine qN ?_ _ | refine qD ?_ | refine qA ?_ _))); exact B228.out⟩, ⟨by (with_reducible repeat first | refine qN ?_ _ | refine qD ?_ | refine qA ?_ _); (iterate 2 (refine qR ?_ NB229_234.out _; (with_reducible repeat first | refine qN ?_ _ | refine qD ?_ | refine qA ?_ _))); exact B229.out⟩, ⟨by (with_reducible repeat first | refine qN ?_ _ | refine qD ?_ | refine qA ?_ _); refine qP (cs := #[.int .i64 ((rd_T47 l0_1 x7_3).f0), .string (⟨#[]⟩ : ByteArray)]) ?_ 1 _ rfl; (with_reducible repeat first | refine qN ?_ _ | refine qD ?_ | refine qA ?_ _); refine qP (cs := #[.int .i64 0, .string (⟨#[]⟩ : ByteArray)]) ?_ 0 _ rfl; (with_reducible repeat first | refine qN ?_ _ | refine qD ?_ | refine qA ?_ _); exact B234.out⟩, ⟨by repeat (first | (with_reducible first | exact HB.out | apply eA | apply eN | apply eD | refine eS ?_ GE228.out | refine eS ?_ GE229.out | refine eS ?_ GE234.out) | exact HB.out)⟩⟩
        case rest =>
         clear HC28
         try clear c1
         try clear c2
         try clear p2
         try clear q2
         try clear hx2
         try clear c3
         try clear c4
         try clear p6
         try clear c7
         try clear c7b0
         try clear c8
         try clear c8b0
         try clear c9
         try clear c11
         try clear c13
         try clear c17
         try clear c20
         try clear c20b0
         try clear c21
         try clear c23
         try clear p23
         try clear q23
         try clear hx23
         try clear c25
         try clear c26
         try clear c26b0
         try clear c27
         try clear c27b0
         try clear c29
         try clear c30
         try clear c32
         try clear c33
         try clear c35
         try clear c35b0
         try clear c36
         try clear c37
         try clear c40
         try clear c41
         try clear z10_0
         try clear z10_1
         try clear z10_2
         try clear z10_3
         try clear z12_0
         try clear z12_1
         try clear z12_2
         try clear z12_3
         try clear z14_0
         try clear z14_1
         try clear z14_2
         try clear z14_3
         try clear z18_0
         try clear z18_1
         try clear z18_2
         try clear z18_3
         try clear z22_0
         try clear z22_1
         try clear z22_2
         try clear z22_3
         try clear z24_0
         try clear z24_1
         try clear z24_2
         try clear z24_3
         try clear z30_0
         try clear z30_1
         try clear z30_2
         try clear z30_3
         try clear z34_0
         try clear z34_1
         try clear z38_0
         try clear z38_1
         try clear z42_0
         try clear z42_1
         try clear f10_0
         try clear f10_1
         try clear f10_2
         try clear f10_3
         try clear f12_0
         try clear f12_1
         try clear f12_2
         try clear f12_3
         try clear f14_0
         try clear f14_1
         try clear f14_2
         try clear f14_3
         try clear f18_0
         try clear f18_1
         try clear f18_2
         try clear f18_3
         try clear f22_0
         try clear f22_1
         try clear f22_2
         try clear f22_3
         try clear f24_0
         try clear f24_1
         try clear f24_2
         try clear f24_3
         try clear f30_0
         try clear f30_1
         try clear f30_2
         try clear f30_3
         try clear f34_0
         try clear f34_1
         try clear f38_0
         try clear f38_1
         try clear f42_0
         try clear f42_1
         try clear hx233_0
         try clear hx233_1
         try clear p2
         try clear p233
         try clear p6
         try clear q233
         obtain ⟨kq, x48_27, rfl, HA, HJ27, HO_8, B228, B229, B234, HB⟩ := hcut
         cases kq with
         | zero => exact absurd HA.out (by simp [hogsheadref08_Crash.j3])
         | succ kj27 =>
          have H := HA.out
          clear HA
          simp only [hogsheadref08_Crash.j3] at H
          by_cases c43 : x48_27 = true
          ·subst c43
           have H1 : (if 0 ≤ ((rd_T47 l0_1 x7_3).f0) then (if ((rd_T47 l0_1 x7_3).f0) < (t230.length : Int) then ((some (t230.set (((rd_T47 l0_1 x7_3).f0) : Int).toNat ((rd_T47 l0_1 x7_3).f1) : List ByteArray)).bind fun y235 => (if a2 < (((rd_T47 l0_1 x7_3).f1).size : Int) then (if 0 ≤ a2 then (if a2 ≤ (((rd_T47 l0_1 x7_3).f1).size : Int) then (some ((y235.set (((rd_T47 l0_1 x7_3).f0) : Int).toNat (((rd_T47 l0_1 x7_3).f1).extract 0 (a2 : Int).toNat)), ([] : List (S47)), (-1), false)) else (none)) else (none)) else (some (y235, ([] : List (S47)), (-1), false)))) else (none)) else (none)) = some (r1, r2, r3, r4) := by rw [if_pos rfl] at H; exact H
           clear H
           have H := H1
           clear H1
           by_cases c44 : 0 ≤ ((rd_T47 l0_1 x7_3).f0)
           ·rw [if_pos c44] at H
            have c44b0 : decide (0 ≤ ((rd_T47 l0_1 x7_3).f0)) = true := decide_eq_true c44
            clear c44
            by_cases c45 : ((rd_T47 l0_1 x7_3).f0) < (t230.length : Int)
            ·rw [if_pos c45] at H
             have c45b0 : decide (((rd_T47 l0_1 x7_3).f0) < (t230.length : Int)) = true := decide_eq_true c45
             clear c45
             obtain ⟨y235, hy235⟩ : ∃ y_ : List ByteArray, y_ = (t230.set (((rd_T47 l0_1 x7_3).f0) : Int).toNat ((rd_T47 l0_1 x7_3).f1)) := ⟨_, rfl⟩
             replace H : (if a2 < (((rd_T47 l0_1 x7_3).f1).size : Int) then (if 0 ≤ a2 then (if a2 ≤ (((rd_T47 l0_1 x7_3).f1).size : Int) then (some ((y235.set (((rd_T47 l0_1 x7_3).f0) : Int).toNat (((rd_T47 l0_1 x7_3).f1).extract 0 (a2 : Int).toNat)), ([] : List (S47)), (-1), false)) else (none)) else (none)) else (some (y235, ([] : List (S47)), (-1), false))) = some (r1, r2, r3, r4) := by first | (rw [hy235]; with_reducible exact H) | (have H2_ := (Option.bind_some _ _).symm.trans H; rw [hy235]; with_reducible exact H2_) | (have H2_ := (Option.bind_some _ _).symm.trans H; with_reducible exact H2_) | with_reducible exact H | (rw [hy235]; exact H) | exact H
             have Ny235 := qM hy235
             clear hy235
             by_cases c47 : a2 < (((rd_T47 l0_1 x7_3).f1).size : Int)
             ·rw [if_pos c47] at H
              have c47b0 : decide (a2 < (((rd_T47 l0_1 x7_3).f1).size : Int)) = true := decide_eq_true c47
              clear c47
              by_cases c48 : 0 ≤ a2
              ·rw [if_pos c48] at H
               have c48b0 := eq_true c48
               have c48b1 : decide (0 ≤ a2) = true := decide_eq_true c48
               clear c48
               by_cases c49 : a2 ≤ (((rd_T47 l0_1 x7_3).f1).size : Int)
               ·rw [if_pos c49] at H
                have c49b0 := eq_true c49
                have c49b1 : decide (a2 ≤ (((rd_T47 l0_1 x7_3).f1).size : Int)) = true := decide_eq_true c49
                clear c49
                obtain ⟨y236, hy236⟩ : ∃ y_ : List ByteArray, y_ = (y235.set (((rd_T47 l0_1 x7_3).f0) : Int).toNat (((rd_T47 l0_1 x7_3).f1).extract 0 (a2 : Int).toNat)) := ⟨_, rfl⟩
                replace H : (some (y236, ([] : List (S47)), (-1), false)) = some (r1, r2, r3, r4) := by first | (rw [hy236]; with_reducible exact H) | (have H2_ := (Option.bind_some _ _).symm.trans H; rw [hy236]; with_reducible exact H2_) | (have H2_ := (Option.bind_some _ _).symm.trans H; with_reducible exact H2_) | with_reducible exact H | (rw [hy236]; exact H) | exact H
                have Ny236 := qM hy236
                clear hy236
                simp only [Option.some.injEq, Prod.mk.injEq] at H
                obtain ⟨rfl, rfl, rfl, rfl⟩ := H
                have hnb51 := NB234_228.out
                have hnc51 := NB228_234.out
                have hnb52 := NB234_229.out
                have hnc52 := NB229_234.out
                have z53_0 : wc.cell? ⟨g234, 0, none⟩ = some (.int .i64 ((rd_T47 l0_1 x7_3).f0)) := (qC B234.out 0).trans rfl
                have z53_1 : wc.cell? ⟨g234, 1, none⟩ = some (.string ((rd_T47 l0_1 x7_3).f1)) := (qC B234.out 1).trans rfl
                have f53_0 := qF B234.out 0
                have f53_1 := qF B234.out 1
                have p46 : 0 ≤ (((rd_T47 l0_1 x7_3).f0) : Int) := of_decide_eq_true (by first | (with_reducible assumption) | assumption)
                have q46 : (((rd_T47 l0_1 x7_3).f0) : Int) < ((t230.length : Int) : Int) := of_decide_eq_true (by first | (with_reducible assumption) | assumption)
                obtain ⟨go46, co46, eo46, g46, gl46, cl46, HG46⟩ := Kd.R_form HO_8.out (by omega)
                (first | cases eo46 | (injection eo46 with ea_ en_ ec_; (first | subst ea_ | (injection ea_ with ea_; subst ea_)); subst ec_; clear en_))
                have GB46 := qM g46
                have GG46 := qM HG46
                clear g46 gl46 HG46
                obtain ⟨hx46_0, hf46_0⟩ := Kd.R_celln (⟨#[]⟩ : ByteArray) HO_8.out (((rd_T47 l0_1 x7_3).f0) : Int) p46 q46
                replace p46 := eq_true p46
                replace q46 := eq_true q46
                have HP54 := Kd.R_putg HO_8.out (((rd_T47 l0_1 x7_3).f0) : Int) ((rd_T47 l0_1 x7_3).f1)
                try go_wp2_with (first | ((with_reducible refine gate_store (t := 9) (p := 54) rfl ?_); refine store_event (t := 9) (p := 54) (v := ?vo_w55) (w1 := (wc.setCell ⟨go46, (((rd_T47 l0_1 x7_3).f0) : Int).toNat, none⟩ (.string ((rd_T47 l0_1 x7_3).f1)))) ?hg ?ho ?hn ?hr ?_; (case ho => rfl); (case hg => rfl); (case hn => rfl); (case hr => first | (go_simp; done) | (go_simp; rfl)); intro w55 hw; have hg : wc.grownBy w55 (some go46) := (by rw [hw]; exact HP54.2); have hp_ : Kd.R Kd.string 9 w55 w.heap.size (fun _ => True) (.slice (some ⟨go46, 0, none⟩) t230.length co46) y235 := (by rw [hw, Ny235.out]; exact HP54.1); clear HP54; have n0_ := qM (hp_); have n1_ := qM (blk_grown (g := g228) (o := .cells #[.slice A0_0 l0_0.length c0_0, .slice (some ad233) l0_1.length c0_1, .int .i64 a0_2, .bool a0_3] 25 (0, 0)) (by (with_reducible repeat first | refine qN ?_ _ | refine qD ?_ | refine qA ?_ _); exact B228.out) hg (Kd.R_ne HO_8.out B228.out (by decide))); have n2_ := qM (blk_grown (g := g229) (o := .cells #[.slice none 0 0, .slice none 0 0, .int .i64 0, .bool false] 25 (0, 0)) (by (with_reducible repeat first | refine qN ?_ _ | refine qD ?_ | refine qA ?_ _); exact B229.out) hg (Kd.R_ne HO_8.out B229.out (by decide))); have n3_ := qM (blk_grown (g := g234) (o := .cells #[.int .i64 ((rd_T47 l0_1 x7_3).f0), .string ((rd_T47 l0_1 x7_3).f1)] 47 (0, 0)) (by (with_reducible repeat first | refine qN ?_ _ | refine qD ?_ | refine qA ?_ _); exact B234.out) hg (Kd.R_ne HO_8.out B234.out (by decide))); have n4_ := qM ((by rw [hw]; exact below_set (HB.out) GB46.out : Below w.heap.size w w55)); clear HO_8 B228 B229 B234 HB; have HO_8 := n0_; have B228 := n1_; have B229 := n2_; have B234 := n3_; have HB := n4_; clear n0_ n1_ n2_ n3_ n4_; clear hg hw hp_; have z56_0 : w55.cell? ⟨g234, 0, none⟩ = some (.int .i64 ((rd_T47 l0_1 x7_3).f0)) := (qC B234.out 0).trans rfl; have z56_1 : w55.cell? ⟨g234, 1, none⟩ = some (.string ((rd_T47 l0_1 x7_3).f1)) := (qC B234.out 1).trans rfl; have f56_0 := qF B234.out 0; have f56_1 := qF B234.out 1))
                have n0_ := qM (Kd.R_drew HO_8.out)
                have n1_ := qM (blk_drew B228.out)
                have n2_ := qM (blk_drew B229.out)
                have n3_ := qM (blk_drew B234.out)
                have n4_ := qM (below_drew1 HB.out)
                clear HO_8
                clear B228
                clear B229
                clear B234
                clear HB
                have HO_8 := n0_
                have B228 := n1_
                have B229 := n2_
                have B234 := n3_
                have HB := n4_
                clear n0_ n1_ n2_ n3_ n4_
                have p50 : 0 ≤ (((rd_T47 l0_1 x7_3).f0) : Int) := of_decide_eq_true (by first | (with_reducible assumption) | assumption)
                have q50 : (((rd_T47 l0_1 x7_3).f0) : Int) < ((t230.length : Int) : Int) := of_decide_eq_true (by first | (with_reducible assumption) | assumption)
                obtain ⟨hx50_0, hf50_0⟩ := Kd.R_celln (⟨#[]⟩ : ByteArray) HO_8.out (((rd_T47 l0_1 x7_3).f0) : Int) p50 q50
                replace p50 := eq_true p50
                replace q50 := eq_true q50
                have HP58 := Kd.R_putn HO_8.out (((rd_T47 l0_1 x7_3).f0) : Int) (((rd_T47 l0_1 x7_3).f1).extract 0 (a2 : Int).toNat)
                rw [← Ny236.out] at HP58
                have HQ58 := qM HP58
                clear HP58
                refine start_ (n := 9) (S := fun w' => w'.cell? ⟨g234, 0, none⟩ = some (.int .i64 ((rd_T47 l0_1 x7_3).f0)) ∧ w'.cell? ⟨g234, 1, none⟩ = some (.string ((rd_T47 l0_1 x7_3).f1))) (ds := [8]) #[false, false, false, false, false, false, false, false, false] (by kernel_rfl) rfl rfl ⟨(qC B234.out 0).trans rfl, (qC B234.out 1).trans rfl⟩ (fun hHeld => ?_); refine with_tabW hogsheadref08_Crash.tab10 hogsheadref08_Crash.bits10 (fun HT_ HW_ => ?_)
                generalize w55.drew = w57 at HO_8 B228 B229 B234 HB HQ58 hf50_0 hx50_0 hHeld ⊢
                refine pure_ (i := 0) (N := some 60) (v := ?_) (a' := ?_) #[true, false, false, false, false, false, false, false, false] rfl rfl (any_of HT_.out (by kernel_rfl)) (fun _ _ _ h => h) (Or.inl ⟨by rfl, ?_⟩) ?_ ?_
                rotate_left
                ·intro w'; go_simp; with_reducible rfl
                rotate_left
                ·simp only [Act.put, xA, xZ, xS, i64_w, i32_w]; rfl
                refine pure_ (i := 1) (N := some 61) (v := ?_) (a' := ?_) #[true, true, false, false, false, false, false, false, false] rfl rfl (any_of HT_.out (by kernel_rfl)) (fun _ _ _ h => h) (Or.inl ⟨by rfl, ?_⟩) ?_ ?_
                rotate_left
                ·intro w'; go_simp; with_reducible rfl
                rotate_left
                ·simp only [Act.put, xA, xZ, xS, i64_w, i32_w]; rfl
                refine pure_ (i := 3) (N := some 63) (v := ?_) (a' := ?_) #[true, true, false, true, false, false, false, false, false] rfl rfl (any_of HT_.out (by kernel_rfl)) (fun _ _ _ h => h) (Or.inl ⟨by rfl, ?_⟩) ?_ ?_
                rotate_left
                ·intro w'; go_simp; with_reducible rfl
                rotate_left
                ·simp only [Act.put, xA, xZ, xS, i64_w, i32_w]; rfl
                refine pure_ (i := 5) (N := some 65) (v := ?_) (a' := ?_) #[true, true, false, true, false, true, false, false, false] rfl rfl (any_of HT_.out (by kernel_rfl)) (fun _ _ _ h => h) (Or.inl ⟨by rfl, ?_⟩) ?_ ?_
                rotate_left
                ·intro w'; go_simp; with_reducible rfl
                rotate_left
                ·simp only [Act.put, xA, xZ, xS, i64_w, i32_w]; rfl
                refine take_ (i := 2) (N := some 62) (v := ?_) (a' := ?_) #[true, true, true, true, false, true, false, false, false] rfl rfl (take_ofW HT_.out HW_.out (by kernel_rfl)) (fun _ _ _ h => h) (Or.inl ⟨by rfl, ?_⟩) hHeld ?_ ?_
                rotate_left
                ·rintro w' ⟨s0, s1⟩; go_simp; with_reducible rfl
                rotate_left
                ·simp only [Act.put, xA, xZ, xS, i64_w, i32_w]; rfl
                refine take_ (i := 4) (N := some 64) (v := ?_) (a' := ?_) #[true, true, true, true, true, true, false, false, false] rfl rfl (take_ofW HT_.out HW_.out (by kernel_rfl)) (fun _ _ _ h => h) (Or.inl ⟨by rfl, ?_⟩) hHeld ?_ ?_
                rotate_left
                ·rintro w' ⟨s0, s1⟩; go_simp; with_reducible rfl
                rotate_left
                ·simp only [Act.put, xA, xZ, xS, i64_w, i32_w]; rfl
                refine pure_ (i := 6) (N := some 66) (v := ?_) (a' := ?_) #[true, true, true, true, true, true, true, false, false] rfl rfl (any_of HT_.out (by kernel_rfl)) (fun _ _ _ h => h) (Or.inl ⟨by rfl, ?_⟩) ?_ ?_
                rotate_left
                ·intro w'; go_simp; with_reducible rfl
                rotate_left
                ·simp only [Act.put, xA, xZ, xS, i64_w, i32_w]; rfl
                refine pure_ (i := 7) (N := some 67) (v := ?_) (a' := ?_) #[true, true, true, true, true, true, true, true, false] rfl rfl (any_of HT_.out (by kernel_rfl)) (fun _ _ _ h => h) (Or.inl ⟨by rfl, ?_⟩) ?_ ?_
                rotate_left
                ·intro w'; go_simp; with_reducible rfl
                rotate_left
                ·simp only [Act.put, xA, xZ, xS, i64_w, i32_w]; rfl
                refine last_ (i := 8) (N := none) #[true, true, true, true, true, true, true, true, true] rfl rfl (one_of HT_.out (by kernel_rfl)) (by decide) (fun K hK => ?_)
                refine skip_ (w1 := ?_) (by rfl) rfl ?_ ?_
                rotate_left
                ·go_simp; rfl
                refine hK.out _ _ ?_
                clear hK K
                refine done_ (done_of HT_.out (by kernel_rfl)) ?_
                have n0_ : Aside0 (Kd.R Kd.string 9 (w57.setCell ⟨go46, (((rd_T47 l0_1 x7_3).f0) : Int).toNat, none⟩ (.string (((rd_T47 l0_1 x7_3).f1).extract 0 (a2 : Int).toNat))) w.heap.size (fun _ => True) (.slice (some ⟨go46, 0, none⟩) t230.length co46) y236) := ⟨by (with_reducible repeat first | apply RA | apply RN | apply RD); exact HQ58.out⟩
                have n1_ : Aside0 ((w57.setCell ⟨go46, (((rd_T47 l0_1 x7_3).f0) : Int).toNat, none⟩ (.string (((rd_T47 l0_1 x7_3).f1).extract 0 (a2 : Int).toNat))).heap[g228]? = some (.cells #[.slice A0_0 l0_0.length c0_0, .slice (some ad233) l0_1.length c0_1, .int .i64 a0_2, .bool a0_3] 25 (0, 0))) := ⟨by (with_reducible repeat first | refine qN ?_ _ | refine qD ?_ | refine qA ?_ _); refine qR ?_ (by have h_ := Kd.R_ne HO_8.out B228.out (by decide); intro e_; exact h_ (by rw [e_]; rfl)) _; (with_reducible repeat first | refine qN ?_ _ | refine qD ?_ | refine qA ?_ _); exact B228.out⟩
                have n2_ : Aside0 ((w57.setCell ⟨go46, (((rd_T47 l0_1 x7_3).f0) : Int).toNat, none⟩ (.string (((rd_T47 l0_1 x7_3).f1).extract 0 (a2 : Int).toNat))).heap[g229]? = some (.cells #[.slice none 0 0, .slice none 0 0, .int .i64 0, .bool false] 25 (0, 0))) := ⟨by (with_reducible repeat first | refine qN ?_ _ | refine qD ?_ | refine qA ?_ _); refine qR ?_ (by have h_ := Kd.R_ne HO_8.out B229.out (by decide); intro e_; exact h_ (by rw [e_]; rfl)) _; (with_reducible repeat first | refine qN ?_ _ | refine qD ?_ | refine qA ?_ _); exact B229.out⟩
                have n3_ : Aside0 ((w57.setCell ⟨go46, (((rd_T47 l0_1 x7_3).f0) : Int).toNat, none⟩ (.string (((rd_T47 l0_1 x7_3).f1).extract 0 (a2 : Int).toNat))).heap[g234]? = some (.cells #[.int .i64 ((rd_T47 l0_1 x7_3).f0), .string ((rd_T47 l0_1 x7_3).f1)] 47 (0, 0))) := ⟨by (with_reducible repeat first | refine qN ?_ _ | refine qD ?_ | refine qA ?_ _); refine qR ?_ (by have h_ := Kd.R_ne HO_8.out B234.out (by decide); intro e_; exact h_ (by rw [e_]; rfl)) _; (with_reducible repeat first | refine qN ?_ _ | refine qD ?_ | refine qA ?_ _); exact B234.out⟩
                have n4_ : Aside0 (Below w.heap.size w (w57.setCell ⟨go46, (((rd_T47 l0_1 x7_3).f0) : Int).toNat, none⟩ (.string (((rd_T47 l0_1 x7_3).f1).extract 0 (a2 : Int).toNat)))) := ⟨by repeat (first | (with_reducible first | exact HB.out | apply eA | apply eN | apply eD | refine eS ?_ GB46.out | refine eS ?_ GE228.out | refine eS ?_ GE229.out | refine eS ?_ GE234.out) | exact HB.out)⟩
                (try clear HO_8)
                (try clear B228)
                (try clear B229)
                (try clear B234)
                (try clear HB)
                generalize (w57.setCell ⟨go46, (((rd_T47 l0_1 x7_3).f0) : Int).toNat, none⟩ (.string (((rd_T47 l0_1 x7_3).f1).extract 0 (a2 : Int).toNat))) = w59 at n0_ n1_ n2_ n3_ n4_ ⊢
                have HO_8 := n0_
                have B228 := n1_
                have B229 := n2_
                have B234 := n3_
                have HB := n4_
                clear n0_ n1_ n2_ n3_ n4_
                have hnb60 := NB229_228.out
                have hnc60 := NB228_229.out
                obtain ⟨z61_0, z61_1, z61_2, z61_3, f61_0, f61_1, f61_2, f61_3⟩ := cells4 B229.out
                try go_wp2
                refine bodyPost_ret (results_cell_row rfl _ _ g229 25 #[.slice (some ⟨go46, 0, none⟩) t230.length co46, .slice none 0 0, .int .i64 (-1), .bool false] (0, 0) _ rfl (by (with_reducible repeat first | refine qN ?_ _ | refine qD ?_ | refine qA ?_ _); refine qP (cs := #[.slice (some ⟨go46, 0, none⟩) t230.length co46, .slice none 0 0, .int .i64 (-1), .bool false]) ?_ 3 _ rfl; (with_reducible repeat first | refine qN ?_ _ | refine qD ?_ | refine qA ?_ _); refine qP (cs := #[.slice (some ⟨go46, 0, none⟩) t230.length co46, .slice none 0 0, .int .i64 0, .bool false]) ?_ 2 _ rfl; (with_reducible repeat first | refine qN ?_ _ | refine qD ?_ | refine qA ?_ _); refine qP (cs := #[.slice (some ⟨go46, 0, none⟩) t230.length co46, .slice none 0 0, .int .i64 0, .bool false]) ?_ 1 _ rfl; (with_reducible repeat first | refine qN ?_ _ | refine qD ?_ | refine qA ?_ _); refine qP (cs := #[.slice none 0 0, .slice none 0 0, .int .i64 0, .bool false]) ?_ 0 _ rfl; (with_reducible repeat first | refine qN ?_ _ | refine qD ?_ | refine qA ?_ _); exact B229.out) Try.underlying25 rfl (by kernel_rfl)) rfl ?_
                exact ⟨_, _, by first | rfl | (simp [errW_none, errW_some] <;> rfl) | (simp [*, errW_none, errW_some] <;> rfl), by (with_reducible repeat first | apply RA | apply RN | apply RD); exact Kd.R_mono (Kd.R_far (p := ⟨g229, 3, none⟩) (Kd.R_far (p := ⟨g229, 2, none⟩) (Kd.R_far (p := ⟨g229, 1, none⟩) (Kd.R_far (p := ⟨g229, 0, none⟩) (Kd.R_types HO_8.out B229.out (by decide)) (fun _ hk => hk.2) (.slice (some ⟨go46, 0, none⟩) t230.length co46)) (fun _ hk => hk.2) (.slice none 0 0)) (fun _ hk => hk.2) (.int .i64 (-1))) (fun _ hk => hk.2) (.bool false)) (fun _ hk => trivial), by first | exact Kd.R_nil _ _ _ _ _ | exact Kd.N_nil _ _ _ _ _ | exact Kd.V_nil _ _ _ _ _ | exact Kd.Q_nil _ _ _ _ _ | exact Kd.S_nil _ _ _ _ _, by repeat (first | (with_reducible first | exact HB.out | apply eA | apply eN | apply eD | refine eS ?_ GE228.out | refine eS ?_ GE229.out | refine eS ?_ GE234.out) | exact HB.out)⟩
               ·rw [if_neg c49] at H
                exact absurd H (by simp)
              ·rw [if_neg c48] at H
               exact absurd H (by simp)
             ·rw [if_neg c47] at H
              have c47b0 : decide (a2 < (((rd_T47 l0_1 x7_3).f1).size : Int)) = false := decide_eq_false c47
              clear c47
              simp only [Option.some.injEq, Prod.mk.injEq] at H
              obtain ⟨rfl, rfl, rfl, rfl⟩ := H
              have hnb62 := NB234_228.out
              have hnc62 := NB228_234.out
              have hnb63 := NB234_229.out
              have hnc63 := NB229_234.out
              have z64_0 : wc.cell? ⟨g234, 0, none⟩ = some (.int .i64 ((rd_T47 l0_1 x7_3).f0)) := (qC B234.out 0).trans rfl
              have z64_1 : wc.cell? ⟨g234, 1, none⟩ = some (.string ((rd_T47 l0_1 x7_3).f1)) := (qC B234.out 1).trans rfl
              have f64_0 := qF B234.out 0
              have f64_1 := qF B234.out 1
              have p46 : 0 ≤ (((rd_T47 l0_1 x7_3).f0) : Int) := of_decide_eq_true (by first | (with_reducible assumption) | assumption)
              have q46 : (((rd_T47 l0_1 x7_3).f0) : Int) < ((t230.length : Int) : Int) := of_decide_eq_true (by first | (with_reducible assumption) | assumption)
              obtain ⟨go46, co46, eo46, g46, gl46, cl46, HG46⟩ := Kd.R_form HO_8.out (by omega)
              (first | cases eo46 | (injection eo46 with ea_ en_ ec_; (first | subst ea_ | (injection ea_ with ea_; subst ea_)); subst ec_; clear en_))
              have GB46 := qM g46
              have GG46 := qM HG46
              clear g46 gl46 HG46
              obtain ⟨hx46_0, hf46_0⟩ := Kd.R_celln (⟨#[]⟩ : ByteArray) HO_8.out (((rd_T47 l0_1 x7_3).f0) : Int) p46 q46
              replace p46 := eq_true p46
              replace q46 := eq_true q46
              have HP65 := Kd.R_putg HO_8.out (((rd_T47 l0_1 x7_3).f0) : Int) ((rd_T47 l0_1 x7_3).f1)
              go_wp2_with (first | ((with_reducible refine gate_store (t := 9) (p := 54) rfl ?_); refine store_event (t := 9) (p := 54) (v := ?vo_w66) (w1 := (wc.setCell ⟨go46, (((rd_T47 l0_1 x7_3).f0) : Int).toNat, none⟩ (.string ((rd_T47 l0_1 x7_3).f1)))) ?hg ?ho ?hn ?hr ?_; (case ho => rfl); (case hg => rfl); (case hn => rfl); (case hr => first | (go_simp; done) | (go_simp; rfl)); intro w66 hw; have hg : wc.grownBy w66 (some go46) := (by rw [hw]; exact HP65.2); have hp_ : Kd.R Kd.string 9 w66 w.heap.size (fun _ => True) (.slice (some ⟨go46, 0, none⟩) t230.length co46) y235 := (by rw [hw, Ny235.out]; exact HP65.1); clear HP65; have n0_ := qM (hp_); have n1_ := qM (blk_grown (g := g228) (o := .cells #[.slice A0_0 l0_0.length c0_0, .slice (some ad233) l0_1.length c0_1, .int .i64 a0_2, .bool a0_3] 25 (0, 0)) (by (with_reducible repeat first | refine qN ?_ _ | refine qD ?_ | refine qA ?_ _); exact B228.out) hg (Kd.R_ne HO_8.out B228.out (by decide))); have n2_ := qM (blk_grown (g := g229) (o := .cells #[.slice none 0 0, .slice none 0 0, .int .i64 0, .bool false] 25 (0, 0)) (by (with_reducible repeat first | refine qN ?_ _ | refine qD ?_ | refine qA ?_ _); exact B229.out) hg (Kd.R_ne HO_8.out B229.out (by decide))); have n3_ := qM (blk_grown (g := g234) (o := .cells #[.int .i64 ((rd_T47 l0_1 x7_3).f0), .string ((rd_T47 l0_1 x7_3).f1)] 47 (0, 0)) (by (with_reducible repeat first | refine qN ?_ _ | refine qD ?_ | refine qA ?_ _); exact B234.out) hg (Kd.R_ne HO_8.out B234.out (by decide))); have n4_ := qM ((by rw [hw]; exact below_set (HB.out) GB46.out : Below w.heap.size w w66)); clear HO_8 B228 B229 B234 HB; have HO_8 := n0_; have B228 := n1_; have B229 := n2_; have B234 := n3_; have HB := n4_; clear n0_ n1_ n2_ n3_ n4_; clear hg hw hp_; have z67_0 : w66.cell? ⟨g234, 0, none⟩ = some (.int .i64 ((rd_T47 l0_1 x7_3).f0)) := (qC B234.out 0).trans rfl; have z67_1 : w66.cell? ⟨g234, 1, none⟩ = some (.string ((rd_T47 l0_1 x7_3).f1)) := (qC B234.out 1).trans rfl; have f67_0 := qF B234.out 0; have f67_1 := qF B234.out 1; have hnb68 := NB229_228.out; have hnc68 := NB228_229.out; obtain ⟨z69_0, z69_1, z69_2, z69_3, f69_0, f69_1, f69_2, f69_3⟩ := cells4 B229.out))
              refine bodyPost_ret (results_cell_row rfl _ _ g229 25 #[.slice (some ⟨go46, 0, none⟩) t230.length co46, .slice none 0 0, .int .i64 (-1), .bool false] (0, 0) _ rfl (by (with_reducible repeat first | refine qN ?_ _ | refine qD ?_ | refine qA ?_ _); refine qP (cs := #[.slice (some ⟨go46, 0, none⟩) t230.length co46, .slice none 0 0, .int .i64 (-1), .bool false]) ?_ 3 _ rfl; (with_reducible repeat first | refine qN ?_ _ | refine qD ?_ | refine qA ?_ _); refine qP (cs := #[.slice (some ⟨go46, 0, none⟩) t230.length co46, .slice none 0 0, .int .i64 0, .bool false]) ?_ 2 _ rfl; (with_reducible repeat first | refine qN ?_ _ | refine qD ?_ | refine qA ?_ _); refine qP (cs := #[.slice (some ⟨go46, 0, none⟩) t230.length co46, .slice none 0 0, .int .i64 0, .bool false]) ?_ 1 _ rfl; (with_reducible repeat first | refine qN ?_ _ | refine qD ?_ | refine qA ?_ _); refine qP (cs := #[.slice none 0 0, .slice none 0 0, .int .i64 0, .bool false]) ?_ 0 _ rfl; (with_reducible repeat first | refine qN ?_ _ | refine qD ?_ | refine qA ?_ _); exact B229.out) Try.underlying25 rfl (by kernel_rfl)) rfl ?_
              exact ⟨_, _, by first | rfl | (simp [errW_none, errW_some] <;> rfl) | (simp [*, errW_none, errW_some] <;> rfl), by (with_reducible repeat first | apply RA | apply RN | apply RD); exact Kd.R_mono (Kd.R_far (p := ⟨g229, 3, none⟩) (Kd.R_far (p := ⟨g229, 2, none⟩) (Kd.R_far (p := ⟨g229, 1, none⟩) (Kd.R_far (p := ⟨g229, 0, none⟩) (Kd.R_types HO_8.out B229.out (by decide)) (fun _ hk => hk.2) (.slice (some ⟨go46, 0, none⟩) t230.length co46)) (fun _ hk => hk.2) (.slice none 0 0)) (fun _ hk => hk.2) (.int .i64 (-1))) (fun _ hk => hk.2) (.bool false)) (fun _ hk => trivial), by first | exact Kd.R_nil _ _ _ _ _ | exact Kd.N_nil _ _ _ _ _ | exact Kd.V_nil _ _ _ _ _ | exact Kd.Q_nil _ _ _ _ _ | exact Kd.S_nil _ _ _ _ _, by repeat (first | (with_reducible first | exact HB.out | apply eA | apply eN | apply eD | refine eS ?_ GE228.out | refine eS ?_ GE229.out | refine eS ?_ GE234.out) | exact HB.out)⟩
            ·rw [if_neg c45] at H
             exact absurd H (by simp)
           ·rw [if_neg c44] at H
            exact absurd H (by simp)
          ·replace c43 := Bool.eq_false_iff.mpr c43
           subst c43
           have H1 : (some (t230, ([] : List (S47)), (-1), false)) = some (r1, r2, r3, r4) := by rw [if_neg (show ¬ (false = true) by decide)] at H; exact H
           clear H
           have H := H1
           clear H1
           simp only [Option.some.injEq, Prod.mk.injEq] at H
           obtain ⟨rfl, rfl, rfl, rfl⟩ := H
           obtain ⟨Ao70, co70, eo70⟩ := Kd.R_slice HO_8.out
           subst eo70
           have hnb71 := NB229_228.out
           have hnc71 := NB228_229.out
           have hnb72 := NB229_234.out
           have hnc72 := NB234_229.out
           obtain ⟨z73_0, z73_1, z73_2, z73_3, f73_0, f73_1, f73_2, f73_3⟩ := cells4 B229.out
           go_wp2
           refine bodyPost_ret (results_cell_row rfl _ _ g229 25 #[.slice Ao70 t230.length co70, .slice none 0 0, .int .i64 (-1), .bool false] (0, 0) _ rfl (by (with_reducible repeat first | refine qN ?_ _ | refine qD ?_ | refine qA ?_ _); apply puts4; (with_reducible repeat first | refine qN ?_ _ | refine qD ?_ | refine qA ?_ _); exact B229.out) Try.underlying25 rfl (by kernel_rfl)) rfl ?_
           exact ⟨_, _, by first | rfl | (simp [errW_none, errW_some] <;> rfl) | (simp [*, errW_none, errW_some] <;> rfl), by (with_reducible repeat first | apply RA | apply RN | apply RD); exact Kd.R_mono (Kd.R_far (p := ⟨g229, 3, none⟩) (Kd.R_far (p := ⟨g229, 2, none⟩) (Kd.R_far (p := ⟨g229, 1, none⟩) (Kd.R_far (p := ⟨g229, 0, none⟩) (Kd.R_types HO_8.out B229.out (by decide)) (fun _ hk => hk.2) (.slice Ao70 t230.length co70)) (fun _ hk => hk.2) (.slice none 0 0)) (fun _ hk => hk.2) (.int .i64 (-1))) (fun _ hk => hk.2) (.bool false)) (fun _ hk => trivial), by first | exact Kd.R_nil _ _ _ _ _ | exact Kd.N_nil _ _ _ _ _ | exact Kd.V_nil _ _ _ _ _ | exact Kd.Q_nil _ _ _ _ _ | exact Kd.S_nil _ _ _ _ _, by repeat (first | (with_reducible first | exact HB.out | apply eA | apply eN | apply eD | refine eS ?_ GE228.out | refine eS ?_ GE229.out | refine eS ?_ GE234.out) | exact HB.out)⟩
       ·rw [if_neg c27] at H
        exact absurd H (by simp)
      ·rw [if_neg c26] at H
       exact absurd H (by simp)
     ·replace c25 := Bool.eq_false_iff.mpr c25
      subst c25
      have H1 : (some (t230, ([] : List (S47)), (-1), false)) = some (r1, r2, r3, r4) := by rw [if_neg (show ¬ (false = true) by decide)] at H; exact H
      clear H
      have H := H1
      clear H1
      simp only [Option.some.injEq, Prod.mk.injEq] at H
      obtain ⟨rfl, rfl, rfl, rfl⟩ := H
      obtain ⟨Ao74, co74, eo74⟩ := Kd.R_slice HO_8.out
      subst eo74
      have hnb75 := NB229_228.out
      have hnc75 := NB228_229.out
      obtain ⟨z76_0, z76_1, z76_2, z76_3, f76_0, f76_1, f76_2, f76_3⟩ := cells4 B229.out
      go_wp2
      refine bodyPost_ret (results_cell_row rfl _ _ g229 25 #[.slice Ao74 t230.length co74, .slice none 0 0, .int .i64 (-1), .bool false] (0, 0) _ rfl (by (with_reducible repeat first | refine qN ?_ _ | refine qD ?_ | refine qA ?_ _); apply puts4; (with_reducible repeat first | refine qN ?_ _ | refine qD ?_ | refine qA ?_ _); exact B229.out) Try.underlying25 rfl (by kernel_rfl)) rfl ?_
      exact ⟨_, _, by first | rfl | (simp [errW_none, errW_some] <;> rfl) | (simp [*, errW_none, errW_some] <;> rfl), by (with_reducible repeat first | apply RA | apply RN | apply RD); exact Kd.R_mono (Kd.R_far (p := ⟨g229, 3, none⟩) (Kd.R_far (p := ⟨g229, 2, none⟩) (Kd.R_far (p := ⟨g229, 1, none⟩) (Kd.R_far (p := ⟨g229, 0, none⟩) (Kd.R_types HO_8.out B229.out (by decide)) (fun _ hk => hk.2) (.slice Ao74 t230.length co74)) (fun _ hk => hk.2) (.slice none 0 0)) (fun _ hk => hk.2) (.int .i64 (-1))) (fun _ hk => hk.2) (.bool false)) (fun _ hk => trivial), by first | exact Kd.R_nil _ _ _ _ _ | exact Kd.N_nil _ _ _ _ _ | exact Kd.V_nil _ _ _ _ _ | exact Kd.Q_nil _ _ _ _ _ | exact Kd.S_nil _ _ _ _ _, by repeat (first | (with_reducible first | exact HB.out | apply eA | apply eN | apply eD | refine eS ?_ GE228.out | refine eS ?_ GE229.out) | exact HB.out)⟩

/-! ### hogsheadref08_Arm: function 24 -/
def hogsheadref08_Arm.f (l0_0 : List ByteArray) (l0_1 : List (S47)) (a0_2 : Int) (a0_3 : Bool) (a1 : Int) : Option (List ByteArray × (List (S47)) × Int × Bool) := if a1 < 0 then (some (l0_0, l0_1, (-1), a0_3)) else (some (l0_0, l0_1, a1, a0_3))
set_option maxHeartbeats 40000000 in
set_option maxRecDepth 100000 in
theorem hogsheadref08_Arm.calls (P0_0_ : Nat → Prop) (A0_0 : Option Addr) (c0_0 : Nat) (l0_0 : List ByteArray) (P0_1_ : Nat → Prop) (A0_1 : Option Addr) (c0_1 : Nat) (l0_1 : List (S47)) (a0_2 : Int) (a0_3 : Bool) (a1 : Int) (r1 : List ByteArray) (r2 : List (S47)) (r3 : Int) (r4 : Bool) (w : World) (hs0_0 : Kd.V Kd.string 9 w w.heap.size (fun k_ => P0_0_ k_) (.slice A0_0 l0_0.length c0_0) l0_0) (hs0_1 : Kd.V k47 47 w w.heap.size (fun k_ => P0_1_ k_) (.slice A0_1 l0_1.length c0_1) l0_1) (h : hogsheadref08_Arm.f l0_0 l0_1 a0_2 a0_3 a1 = some (r1, r2, r3, r4)) :
  Calls Try.prog 24 #[.agg #[.slice A0_0 l0_0.length c0_0, .slice A0_1 l0_1.length c0_1, .int .i64 a0_2, .bool a0_3], .int .i64 a1] w fun e w' => ∃ v0_ v1_ : Value, e = .returned (.agg #[v0_, v1_, .int .i64 r3, .bool r4]) ∧ Kd.V Kd.string 9 w' w.heap.size (fun k_ => ((P0_0_ k_ ∨ P0_1_ k_) ∨ w.heap.size ≤ k_)) v0_ r1 ∧ Kd.V k47 47 w' w.heap.size (fun k_ => ((P0_0_ k_ ∨ P0_1_ k_) ∨ w.heap.size ≤ k_)) v1_ r2 ∧ Below w.heap.size w w' := by
 have hu25 := Try.underlying25
 have HO0_0 := qM (show Kd.V Kd.string 9 w w.heap.size (fun k_ => ((P0_0_ k_ ∨ P0_1_ k_) ∨ w.heap.size ≤ k_)) (.slice A0_0 l0_0.length c0_0) l0_0 from Vm hs0_0 (fun k_ hk => .inl (.inl hk)))
 have HO0_1 := qM (show Kd.V k47 47 w w.heap.size (fun k_ => ((P0_0_ k_ ∨ P0_1_ k_) ∨ w.heap.size ≤ k_)) (.slice A0_1 l0_1.length c0_1) l0_1 from Vm hs0_1 (fun k_ hk => .inl (.inr hk)))
 have HB := qM (Below.refl w.heap.size w)
 have H : (if a1 < 0 then (some (l0_0, l0_1, (-1), a0_3)) else (some (l0_0, l0_1, a1, a0_3))) = some (r1, r2, r3, r4) := h
 clear h
 by_cases c3 : a1 < 0
 ·rw [if_pos c3] at H
  have c3b0 : decide (a1 < 0) = true := decide_eq_true c3
  clear c3
  simp only [Option.some.injEq, Prod.mk.injEq] at H
  obtain ⟨rfl, rfl, rfl, rfl⟩ := H
  go_enter Try.func24, Try.ntmps24
  go_wp2_with (first | ((with_reducible refine gate_dst (N := 2) rfl ?_); refine box_event ?hg (N := 2) ?hd (cs := #[.slice A0_0 l0_0.length c0_0, .slice A0_1 l0_1.length c0_1, .int .i64 a0_2, .bool a0_3]) (t := 25) ?hr ?_; (case hd => rfl); (case hg => rfl); (case hr => first | (go_simp; done) | (go_simp; rfl)); intro g237 hg w4 hbox hb; have n0_ := qM (Vb (Kd.V_elderB (by (with_reducible repeat first | apply VA | apply VN | apply VD); exact HO0_0.out) g237 (Nat.le_of_eq hg.symm)) hb); have n1_ := qM (Vb (Kd.V_elderB (by (with_reducible repeat first | apply VA | apply VN | apply VD); exact HO0_1.out) g237 (Nat.le_of_eq hg.symm)) hb); have n2_ := qM (eT (by repeat (first | (with_reducible first | exact HB.out | apply eA | apply eN | apply eD) | exact HB.out)) hb); have n3_ := qM (hbox); have n4_ := qM ((by rw [hg]; exact (eZ (by repeat (first | (with_reducible first | exact HB.out | apply eA | apply eN | apply eD) | exact HB.out))) : w.heap.size ≤ g237)); have n5_ := n4_; clear HO0_0 HO0_1 HB; have HO0_0 := n0_; have HO0_1 := n1_; have HB := n2_; have B237 := n3_; have GW237 := n4_; have GE237 := n5_; clear n0_ n1_ n2_ n3_ n4_ n5_; clear hb hbox hg) | ((with_reducible refine gate_dst (N := 4) rfl ?_); refine box_event ?hg (N := 4) ?hd (cs := #[.slice none 0 0, .slice none 0 0, .int .i64 0, .bool false]) (t := 25) ?hr ?_; (case hd => rfl); (case hg => rfl); (case hr => first | (go_simp; done) | (go_simp; rfl)); intro g238 hg w5 hbox hb; have n0_ := qM (Vb (Kd.V_elderB (by (with_reducible repeat first | apply VA | apply VN | apply VD); exact HO0_0.out) g238 (Nat.le_of_eq hg.symm)) hb); have n1_ := qM (Vb (Kd.V_elderB (by (with_reducible repeat first | apply VA | apply VN | apply VD); exact HO0_1.out) g238 (Nat.le_of_eq hg.symm)) hb); have n2_ := qM (qB (g := g237) (by (with_reducible repeat first | refine qN ?_ _ | refine qD ?_ | refine qA ?_ _); exact B237.out) hb); have n3_ := qM (eT (by repeat (first | (with_reducible first | exact HB.out | apply eA | apply eN | apply eD | refine eU ?_ (by assumption)) | exact HB.out)) hb); have n4_ := qM (hbox); have n5_ := qM ((by rw [hg]; exact (eZ (by repeat (first | (with_reducible first | exact HB.out | apply eA | apply eN | apply eD | refine eU ?_ (by assumption)) | exact HB.out))) : w.heap.size ≤ g238)); have n6_ := n5_; have n7_ := qM ((by rw [hg]; exact Nat.ne_of_lt (qL (g := g237) (by (with_reducible repeat first | refine qN ?_ _ | refine qD ?_ | refine qA ?_ _); exact B237.out)) : g237 ≠ g238)); have n8_ := qM (Ne.symm n7_.out); clear HO0_0 HO0_1 B237 HB; have HO0_0 := n0_; have HO0_1 := n1_; have B237 := n2_; have HB := n3_; have B238 := n4_; have GW238 := n5_; have GE238 := n6_; have NB237_238 := n7_; have NB238_237 := n8_; clear n0_ n1_ n2_ n3_ n4_ n5_ n6_ n7_ n8_; clear hb hbox hg; have hnb6 := NB237_238.out; have hnc6 := NB238_237.out; obtain ⟨z7_0, z7_1, z7_2, z7_3, f7_0, f7_1, f7_2, f7_3⟩ := cells4 B237.out; obtain ⟨z8_0, z8_1, z8_2, z8_3, f8_0, f8_1, f8_2, f8_3⟩ := cells4 B238.out))
  refine bodyPost_ret (results_cell_row rfl _ _ g238 25 #[.slice A0_0 l0_0.length c0_0, .slice A0_1 l0_1.length c0_1, .int .i64 (-1), .bool a0_3] (0, 0) _ rfl (by (with_reducible repeat first | refine qN ?_ _ | refine qD ?_ | refine qA ?_ _); apply puts4; (with_reducible repeat first | refine qN ?_ _ | refine qD ?_ | refine qA ?_ _); (iterate 2 (refine qR ?_ NB238_237.out _; (with_reducible repeat first | refine qN ?_ _ | refine qD ?_ | refine qA ?_ _))); exact B238.out) Try.underlying25 rfl (by kernel_rfl)) rfl ?_
  exact ⟨_, _, by first | rfl | (simp [errW_none, errW_some] <;> rfl) | (simp [*, errW_none, errW_some] <;> rfl), by (with_reducible repeat first | apply VA | apply VN | apply VD); exact Vm (Vf (p := ⟨g238, 3, none⟩) (Vf (p := ⟨g238, 2, none⟩) (Vf (p := ⟨g238, 1, none⟩) (Vf (p := ⟨g238, 0, none⟩) (Vf (p := ⟨g237, 2, none⟩) (Vf (p := ⟨g237, 2, none⟩) (Vm (Vm HO0_0.out (fun k_ hk => (⟨hk, hk.1.2⟩ : _ ∧ k_ ≠ g237))) (fun k_ hk => (⟨hk, hk.1.2⟩ : _ ∧ k_ ≠ g238))) (fun _ hk => hk.1.2) (.int .i64 a1)) (fun _ hk => hk.1.2) (.int .i64 (-1))) (fun _ hk => hk.2) (.slice A0_0 l0_0.length c0_0)) (fun _ hk => hk.2) (.slice A0_1 l0_1.length c0_1)) (fun _ hk => hk.2) (.int .i64 (-1))) (fun _ hk => hk.2) (.bool a0_3)) (fun _ hk => hk.1.1.1.1), by (with_reducible repeat first | apply VA | apply VN | apply VD); exact Vm (Vf (p := ⟨g238, 3, none⟩) (Vf (p := ⟨g238, 2, none⟩) (Vf (p := ⟨g238, 1, none⟩) (Vf (p := ⟨g238, 0, none⟩) (Vf (p := ⟨g237, 2, none⟩) (Vf (p := ⟨g237, 2, none⟩) (Vm (Vm HO0_1.out (fun k_ hk => (⟨hk, hk.1.2⟩ : _ ∧ k_ ≠ g237))) (fun k_ hk => (⟨hk, hk.1.2⟩ : _ ∧ k_ ≠ g238))) (fun _ hk => hk.1.2) (.int .i64 a1)) (fun _ hk => hk.1.2) (.int .i64 (-1))) (fun _ hk => hk.2) (.slice A0_0 l0_0.length c0_0)) (fun _ hk => hk.2) (.slice A0_1 l0_1.length c0_1)) (fun _ hk => hk.2) (.int .i64 (-1))) (fun _ hk => hk.2) (.bool a0_3)) (fun _ hk => hk.1.1.1.1), by repeat (first | (with_reducible first | exact HB.out | apply eA | apply eN | apply eD | refine eS ?_ GE237.out | refine eS ?_ GE238.out) | exact HB.out)⟩
 ·rw [if_neg c3] at H
  have c3b0 : decide (a1 < 0) = false := decide_eq_false c3
  clear c3
  simp only [Option.some.injEq, Prod.mk.injEq] at H
  obtain ⟨rfl, rfl, rfl, rfl⟩ := H
  go_enter Try.func24, Try.ntmps24
  go_wp2_with (first | ((with_reducible refine gate_dst (N := 2) rfl ?_); refine box_event ?hg (N := 2) ?hd (cs := #[.slice A0_0 l0_0.length c0_0, .slice A0_1 l0_1.length c0_1, .int .i64 a0_2, .bool a0_3]) (t := 25) ?hr ?_; (case hd => rfl); (case hg => rfl); (case hr => first | (go_simp; done) | (go_simp; rfl)); intro g237 hg w9 hbox hb; have n0_ := qM (Vb (Kd.V_elderB (by (with_reducible repeat first | apply VA | apply VN | apply VD); exact HO0_0.out) g237 (Nat.le_of_eq hg.symm)) hb); have n1_ := qM (Vb (Kd.V_elderB (by (with_reducible repeat first | apply VA | apply VN | apply VD); exact HO0_1.out) g237 (Nat.le_of_eq hg.symm)) hb); have n2_ := qM (eT (by repeat (first | (with_reducible first | exact HB.out | apply eA | apply eN | apply eD) | exact HB.out)) hb); have n3_ := qM (hbox); have n4_ := qM ((by rw [hg]; exact (eZ (by repeat (first | (with_reducible first | exact HB.out | apply eA | apply eN | apply eD) | exact HB.out))) : w.heap.size ≤ g237)); have n5_ := n4_; clear HO0_0 HO0_1 HB; have HO0_0 := n0_; have HO0_1 := n1_; have HB := n2_; have B237 := n3_; have GW237 := n4_; have GE237 := n5_; clear n0_ n1_ n2_ n3_ n4_ n5_; clear hb hbox hg) | ((with_reducible refine gate_dst (N := 4) rfl ?_); refine box_event ?hg (N := 4) ?hd (cs := #[.slice none 0 0, .slice none 0 0, .int .i64 0, .bool false]) (t := 25) ?hr ?_; (case hd => rfl); (case hg => rfl); (case hr => first | (go_simp; done) | (go_simp; rfl)); intro g238 hg w10 hbox hb; have n0_ := qM (Vb (Kd.V_elderB (by (with_reducible repeat first | apply VA | apply VN | apply VD); exact HO0_0.out) g238 (Nat.le_of_eq hg.symm)) hb); have n1_ := qM (Vb (Kd.V_elderB (by (with_reducible repeat first | apply VA | apply VN | apply VD); exact HO0_1.out) g238 (Nat.le_of_eq hg.symm)) hb); have n2_ := qM (qB (g := g237) (by (with_reducible repeat first | refine qN ?_ _ | refine qD ?_ | refine qA ?_ _); exact B237.out) hb); have n3_ := qM (eT (by repeat (first | (with_reducible first | exact HB.out | apply eA | apply eN | apply eD | refine eU ?_ (by assumption)) | exact HB.out)) hb); have n4_ := qM (hbox); have n5_ := qM ((by rw [hg]; exact (eZ (by repeat (first | (with_reducible first | exact HB.out | apply eA | apply eN | apply eD | refine eU ?_ (by assumption)) | exact HB.out))) : w.heap.size ≤ g238)); have n6_ := n5_; have n7_ := qM ((by rw [hg]; exact Nat.ne_of_lt (qL (g := g237) (by (with_reducible repeat first | refine qN ?_ _ | refine qD ?_ | refine qA ?_ _); exact B237.out)) : g237 ≠ g238)); have n8_ := qM (Ne.symm n7_.out); clear HO0_0 HO0_1 B237 HB; have HO0_0 := n0_; have HO0_1 := n1_; have B237 := n2_; have HB := n3_; have B238 := n4_; have GW238 := n5_; have GE238 := n6_; have NB237_238 := n7_; have NB238_237 := n8_; clear n0_ n1_ n2_ n3_ n4_ n5_ n6_ n7_ n8_; clear hb hbox hg; have hnb11 := NB237_238.out; have hnc11 := NB238_237.out; obtain ⟨z12_0, z12_1, z12_2, z12_3, f12_0, f12_1, f12_2, f12_3⟩ := cells4 B237.out; obtain ⟨z13_0, z13_1, z13_2, z13_3, f13_0, f13_1, f13_2, f13_3⟩ := cells4 B238.out))
  refine bodyPost_ret (results_cell_row rfl _ _ g238 25 #[.slice A0_0 l0_0.length c0_0, .slice A0_1 l0_1.length c0_1, .int .i64 a1, .bool a0_3] (0, 0) _ rfl (by (with_reducible repeat first | refine qN ?_ _ | refine qD ?_ | refine qA ?_ _); apply puts4; (with_reducible repeat first | refine qN ?_ _ | refine qD ?_ | refine qA ?_ _); refine qR ?_ NB238_237.out _; (with_reducible repeat first | refine qN ?_ _ | refine qD ?_ | refine qA ?_ _); exact B238.out) Try.underlying25 rfl (by kernel_rfl)) rfl ?_
  exact ⟨_, _, by first | rfl | (simp [errW_none, errW_some] <;> rfl) | (simp [*, errW_none, errW_some] <;> rfl), by (with_reducible repeat first | apply VA | apply VN | apply VD); exact Vm (Vf (p := ⟨g238, 3, none⟩) (Vf (p := ⟨g238, 2, none⟩) (Vf (p := ⟨g238, 1, none⟩) (Vf (p := ⟨g238, 0, none⟩) (Vf (p := ⟨g237, 2, none⟩) (Vm (Vm HO0_0.out (fun k_ hk => (⟨hk, hk.1.2⟩ : _ ∧ k_ ≠ g237))) (fun k_ hk => (⟨hk, hk.1.2⟩ : _ ∧ k_ ≠ g238))) (fun _ hk => hk.1.2) (.int .i64 a1)) (fun _ hk => hk.2) (.slice A0_0 l0_0.length c0_0)) (fun _ hk => hk.2) (.slice A0_1 l0_1.length c0_1)) (fun _ hk => hk.2) (.int .i64 a1)) (fun _ hk => hk.2) (.bool a0_3)) (fun _ hk => hk.1.1.1.1), by (with_reducible repeat first | apply VA | apply VN | apply VD); exact Vm (Vf (p := ⟨g238, 3, none⟩) (Vf (p := ⟨g238, 2, none⟩) (Vf (p := ⟨g238, 1, none⟩) (Vf (p := ⟨g238, 0, none⟩) (Vf (p := ⟨g237, 2, none⟩) (Vm (Vm HO0_1.out (fun k_ hk => (⟨hk, hk.1.2⟩ : _ ∧ k_ ≠ g237))) (fun k_ hk => (⟨hk, hk.1.2⟩ : _ ∧ k_ ≠ g238))) (fun _ hk => hk.1.2) (.int .i64 a1)) (fun _ hk => hk.2) (.slice A0_0 l0_0.length c0_0)) (fun _ hk => hk.2) (.slice A0_1 l0_1.length c0_1)) (fun _ hk => hk.2) (.int .i64 a1)) (fun _ hk => hk.2) (.bool a0_3)) (fun _ hk => hk.1.1.1.1), by repeat (first | (with_reducible first | exact HB.out | apply eA | apply eN | apply eD | refine eS ?_ GE237.out | refine eS ?_ GE238.out) | exact HB.out)⟩

end Go.Proofs.Ytmaojfeikbdkhaa.PAll
