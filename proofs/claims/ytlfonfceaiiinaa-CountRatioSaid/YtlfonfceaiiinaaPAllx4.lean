/- Functions of the program as plain Lean functions, and that each call comes to what they say. Laid by a program of this session (hprint.py); Lean checks it. -/
import Derived.Test.YtlfonfceaiiinaaPAllx0
import Derived.Test.YtlfonfceaiiinaaPAllx3
namespace Go.Proofs.Ytlfonfceaiiinaa.PAll
open Go.RowKit Go.Proofs.YtlfonfceaiiinaaW.PrintWords Go.Proofs.YtlfonfceaiiinaaW.PrintLast Go.Proofs.YtlfonfceaiiinaaW.PrintMore
attribute [local go_sem] max2_int min2_int max_two min_two max_three min_three max_four min_four   -- for this text's walks alone
set_option linter.unusedVariables false
set_option linter.unusedSimpArgs false

/-! ### count_Due: function 9 -/
mutual
def count_Due.l0 : Nat → List (S45) → Int → Int → Int → Int → Int → Int → Option (Int × Int × Int × Int)
 | 0, _, _, _, _, _, _, _ => none
 | k + 1, x10, x11, x12, x108000, x108001, x108002, x108003 => if x12 < x11 then (if 0 ≤ x12 then (if x12 < (x10.length : Int) then ((count_Sum.f k (([(⟨x108000, x108001, x108002, x108003⟩ : S29), (⟨(((rd_T45 x10 x12).f6).length : Int), wrap64 ((((rd_T45 x10 x12).f6).length : Int) * 16), 0, 0⟩ : S29)] : List (S29)))).bind fun bt113 => (if ((rd_T45 x10 x12).f4) < 1 then (count_Due.j1 k x10 x11 x12 true bt113.1 bt113.2.1 bt113.2.2.1 bt113.2.2.2 ((rd_T45 x10 x12).f0) ((rd_T45 x10 x12).f1) ((rd_T45 x10 x12).f2) ((rd_T45 x10 x12).f3) ((rd_T45 x10 x12).f4) ((rd_T45 x10 x12).f5) ((rd_T45 x10 x12).f6) ((rd_T45 x10 x12).f7) ((rd_T45 x10 x12).f8)) else (count_Due.j1 k x10 x11 x12 (decide (((rd_T45 x10 x12).f4) > 3)) bt113.1 bt113.2.1 bt113.2.2.1 bt113.2.2.2 ((rd_T45 x10 x12).f0) ((rd_T45 x10 x12).f1) ((rd_T45 x10 x12).f2) ((rd_T45 x10 x12).f3) ((rd_T45 x10 x12).f4) ((rd_T45 x10 x12).f5) ((rd_T45 x10 x12).f6) ((rd_T45 x10 x12).f7) ((rd_T45 x10 x12).f8)))) else (none)) else (none)) else (some (x108000, x108001, x108002, x108003))
def count_Due.j1 : Nat → List (S45) → Int → Int → Bool → Int → Int → Int → Int → Int → Int → Int → Int → Int → List (S59) → List (S75) → Int → Int → Option (Int × Int × Int × Int)
 | 0, _, _, _, _, _, _, _, _, _, _, _, _, _, _, _, _, _ => none
 | k + 1, x10, x11, x12, x33, x108000, x108001, x108002, x108003, x110000, x110001, x110002, x110003, x110004, x110005, x110006, x110007, x110008 => if x33 = true then (count_Due.l0 k x10 x11 (wrap64 (x12 + 1)) x108000 x108001 x108002 x108003) else (count_Due.l1 k x10 x11 x12 x110005 (x110005.length : Int) 0 x108000 x108001 x108002 x108003)
def count_Due.l1 : Nat → List (S45) → Int → Int → List (S59) → Int → Int → Int → Int → Int → Int → Option (Int × Int × Int × Int)
 | 0, _, _, _, _, _, _, _, _, _, _ => none
 | k + 1, x10, x11, x12, x35, x36, x37, x108000, x108001, x108002, x108003 => if x37 < x36 then (if 0 ≤ x37 then (if x37 < (x35.length : Int) then ((count_Sum.f k (([(⟨x108000, x108001, x108002, x108003⟩ : S29), (⟨0, 0, 4, wrap64 (4 * ((rd_T59 x35 x37).f1))⟩ : S29)] : List (S29)))).bind fun bt122 => (count_Due.l1 k x10 x11 x12 x35 x36 (wrap64 (x37 + 1)) bt122.1 bt122.2.1 bt122.2.2.1 bt122.2.2.2)) else (none)) else (none)) else (count_Due.l0 k x10 x11 (wrap64 (x12 + 1)) x108000 x108001 x108002 x108003)
end
def count_Due.f (k : Nat) (l0_0 : List (S45)) (l0_1 : List (S92)) (l0_2 : List (S64)) : Option (Int × Int × Int × Int) := count_Due.l0 k l0_0 (l0_0.length : Int) 0 0 0 0 0
theorem count_Due.mono_l : ∀ k, (∀ y0 y1 y2 y3 y4 y5 y6, LeO (count_Due.l0 k y0 y1 y2 y3 y4 y5 y6) (count_Due.l0 (k + 1) y0 y1 y2 y3 y4 y5 y6)) ∧ (∀ y0 y1 y2 y3 y4 y5 y6 y7 y8 y9 y10 y11 y12 y13 y14 y15 y16, LeO (count_Due.j1 k y0 y1 y2 y3 y4 y5 y6 y7 y8 y9 y10 y11 y12 y13 y14 y15 y16) (count_Due.j1 (k + 1) y0 y1 y2 y3 y4 y5 y6 y7 y8 y9 y10 y11 y12 y13 y14 y15 y16)) ∧ (∀ y0 y1 y2 y3 y4 y5 y6 y7 y8 y9, LeO (count_Due.l1 k y0 y1 y2 y3 y4 y5 y6 y7 y8 y9) (count_Due.l1 (k + 1) y0 y1 y2 y3 y4 y5 y6 y7 y8 y9))
 | 0 => ⟨fun _ _ _ _ _ _ _ r h => by simp [count_Due.l0] at h, fun _ _ _ _ _ _ _ _ _ _ _ _ _ _ _ _ _ r h => by simp [count_Due.j1] at h, fun _ _ _ _ _ _ _ _ _ _ r h => by simp [count_Due.l1] at h⟩
 | k + 1 => by
  obtain ⟨ih0, ih1, ih2⟩ := count_Due.mono_l k
  refine ⟨?_, ?_, ?_⟩
  ·intro y0 y1 y2 y3 y4 y5 y6
   unfold count_Due.l0
   repeat' first
   | (with_reducible exact ih0 _ _ _ _ _ _ _)
   | (with_reducible exact ih1 _ _ _ _ _ _ _ _ _ _ _ _ _ _ _ _ _)
   | (with_reducible exact ih2 _ _ _ _ _ _ _ _ _ _)
   | (with_reducible exact count_Sum.mono _ _)
   | (with_reducible exact LeO.refl _)
   | (with_reducible exact LeO.none _)
   | (with_reducible refine LeO.ite ?_ ?_)
   | (with_reducible refine LeO.bind ?_ (fun _ => ?_))
   | exact ih0 _ _ _ _ _ _ _
   | exact ih1 _ _ _ _ _ _ _ _ _ _ _ _ _ _ _ _ _
   | exact ih2 _ _ _ _ _ _ _ _ _ _
   | exact count_Sum.mono _ _
   | exact LeO.none _
   | refine LeO.ite ?_ ?_
   | refine LeO.bind ?_ (fun _ => ?_)
  ·intro y0 y1 y2 y3 y4 y5 y6 y7 y8 y9 y10 y11 y12 y13 y14 y15 y16
   unfold count_Due.j1
   repeat' first
   | (with_reducible exact ih0 _ _ _ _ _ _ _)
   | (with_reducible exact ih1 _ _ _ _ _ _ _ _ _ _ _ _ _ _ _ _ _)
   | (with_reducible exact ih2 _ _ _ _ _ _ _ _ _ _)
   | (with_reducible exact count_Sum.mono _ _)
   | (with_reducible exact LeO.refl _)
   | (with_reducible exact LeO.none _)
   | (with_reducible refine LeO.ite ?_ ?_)
   | (with_reducible refine LeO.bind ?_ (fun _ => ?_))
   | exact ih0 _ _ _ _ _ _ _
   | exact ih1 _ _ _ _ _ _ _ _ _ _ _ _ _ _ _ _ _
   | exact ih2 _ _ _ _ _ _ _ _ _ _
   | exact count_Sum.mono _ _
   | exact LeO.none _
   | refine LeO.ite ?_ ?_
   | refine LeO.bind ?_ (fun _ => ?_)
  ·intro y0 y1 y2 y3 y4 y5 y6 y7 y8 y9
   unfold count_Due.l1
   repeat' first
   | (with_reducible exact ih0 _ _ _ _ _ _ _)
   | (with_reducible exact ih1 _ _ _ _ _ _ _ _ _ _ _ _ _ _ _ _ _)
   | (with_reducible exact ih2 _ _ _ _ _ _ _ _ _ _)
   | (with_reducible exact count_Sum.mono _ _)
   | (with_reducible exact LeO.refl _)
   | (with_reducible exact LeO.none _)
   | (with_reducible refine LeO.ite ?_ ?_)
   | (with_reducible refine LeO.bind ?_ (fun _ => ?_))
   | exact ih0 _ _ _ _ _ _ _
   | exact ih1 _ _ _ _ _ _ _ _ _ _ _ _ _ _ _ _ _
   | exact ih2 _ _ _ _ _ _ _ _ _ _
   | exact count_Sum.mono _ _
   | exact LeO.none _
   | refine LeO.ite ?_ ?_
   | refine LeO.bind ?_ (fun _ => ?_)
theorem count_Due.mono : ∀ a0 a1 a2 k, LeO (count_Due.f k a0 a1 a2) (count_Due.f (k + 1) a0 a1 a2) := by
 intro a0 a1 a2 k
 obtain ⟨ih0, ih1, ih2⟩ := count_Due.mono_l k
 unfold count_Due.f
 repeat' first
   | (with_reducible exact ih0 _ _ _ _ _ _ _)
   | (with_reducible exact ih1 _ _ _ _ _ _ _ _ _ _ _ _ _ _ _ _ _)
   | (with_reducible exact ih2 _ _ _ _ _ _ _ _ _ _)
   | (with_reducible exact count_Sum.mono _ _)
   | (with_reducible exact LeO.refl _)
   | (with_reducible exact LeO.none _)
   | (with_reducible refine LeO.ite ?_ ?_)
   | (with_reducible refine LeO.bind ?_ (fun _ => ?_))
   | exact ih0 _ _ _ _ _ _ _
   | exact ih1 _ _ _ _ _ _ _ _ _ _ _ _ _ _ _ _ _
   | exact ih2 _ _ _ _ _ _ _ _ _ _
   | exact count_Sum.mono _ _
   | exact LeO.none _
   | refine LeO.ite ?_ ?_
   | refine LeO.bind ?_ (fun _ => ?_)
set_option maxHeartbeats 40000000 in
set_option maxRecDepth 100000 in
theorem count_Due.calls (k : Nat) (A0_0 : Option Addr) (c0_0 : Nat) (l0_0 : List (S45)) (A0_1 : Option Addr) (c0_1 : Nat) (l0_1 : List (S92)) (A0_2 : Option Addr) (c0_2 : Nat) (l0_2 : List (S64)) (r1 : Int) (r2 : Int) (r3 : Int) (r4 : Int) (w : World) (hr0_0 : Kd.C k45 w A0_0 l0_0.length l0_0) (hc0_0 : l0_0.length ≤ c0_0) (hr0_1 : Kd.C k92 w A0_1 l0_1.length l0_1) (hc0_1 : l0_1.length ≤ c0_1) (hr0_2 : Kd.C k64 w A0_2 l0_2.length l0_2) (hc0_2 : l0_2.length ≤ c0_2) (h : count_Due.f k l0_0 l0_1 l0_2 = some (r1, r2, r3, r4)) :
  Calls Try.prog 9 #[.agg #[.slice A0_0 l0_0.length c0_0, .slice A0_1 l0_1.length c0_1, .slice A0_2 l0_2.length c0_2]] w fun e w' => e = .returned (.agg #[.int .i64 r1, .int .i64 r2, .int .i64 r3, .int .i64 r4]) ∧ Below w.heap.size w w' := by
 have hu26 := Try.underlying26
 have hu29 := Try.underlying29
 have hu45 := Try.underlying45
 have hu59 := Try.underlying59
 have HR0_0 := qM hr0_0
 have HC0_0 := qM hc0_0
 clear hr0_0 hc0_0
 have HR0_1 := qM hr0_1
 have HC0_1 := qM hc0_1
 clear hr0_1 hc0_1
 have HR0_2 := qM hr0_2
 have HC0_2 := qM hc0_2
 clear hr0_2 hc0_2
 have HB := qM (Below.refl w.heap.size w)
 have H : (count_Due.l0 k l0_0 (l0_0.length : Int) 0 0 0 0 0) = some (r1, r2, r3, r4) := h
 clear h
 have H' := qM H
 clear H
 go_enter Try.func9, Try.ntmps9
 go_wp2_with (first | ((with_reducible refine gate_dst (N := 1) rfl ?_); refine box_event ?hg (N := 1) ?hd (cs := #[.slice A0_0 l0_0.length c0_0, .slice A0_1 l0_1.length c0_1, .slice A0_2 l0_2.length c0_2]) (t := 26) ?hr ?_; (case hd => rfl); (case hg => rfl); (case hr => first | (go_simp; done) | (go_simp; rfl)); intro g105 hg w2 hbox hb; have n0_ := qM (eT (by repeat (first | (with_reducible first | exact HB.out | apply eA | apply eN | apply eD) | exact HB.out)) hb); have n1_ := qM (hbox); have n2_ := qM ((by rw [hg]; exact (eZ (by repeat (first | (with_reducible first | exact HB.out | apply eA | apply eN | apply eD) | exact HB.out))) : w.heap.size ≤ g105)); have n3_ := n2_; clear HB; have HB := n0_; have B105 := n1_; have GW105 := n2_; have GE105 := n3_; clear n0_ n1_ n2_ n3_; clear hb hbox hg) | ((with_reducible refine gate_dst (N := 2) rfl ?_); refine box_event ?hg (N := 2) ?hd (cs := #[.int .i64 0, .int .i64 0, .int .i64 0, .int .i64 0]) (t := 29) ?hr ?_; (case hd => rfl); (case hg => rfl); (case hr => first | (go_simp; done) | (go_simp; rfl)); intro g106 hg w3 hbox hb; have n0_ := qM (qB (g := g105) (by (with_reducible repeat first | refine qN ?_ _ | refine qD ?_ | refine qA ?_ _); exact B105.out) hb); have n1_ := qM (eT (by repeat (first | (with_reducible first | exact HB.out | apply eA | apply eN | apply eD | refine eU ?_ (by assumption)) | exact HB.out)) hb); have n2_ := qM (hbox); have n3_ := qM ((by rw [hg]; exact (eZ (by repeat (first | (with_reducible first | exact HB.out | apply eA | apply eN | apply eD | refine eU ?_ (by assumption)) | exact HB.out))) : w.heap.size ≤ g106)); have n4_ := n3_; have n5_ := qM ((by rw [hg]; exact Nat.ne_of_lt (qL (g := g105) (by (with_reducible repeat first | refine qN ?_ _ | refine qD ?_ | refine qA ?_ _); exact B105.out)) : g105 ≠ g106)); have n6_ := qM (Ne.symm n5_.out); clear B105 HB; have B105 := n0_; have HB := n1_; have B106 := n2_; have GW106 := n3_; have GE106 := n4_; have NB105_106 := n5_; have NB106_105 := n6_; clear n0_ n1_ n2_ n3_ n4_ n5_ n6_; clear hb hbox hg) | ((with_reducible refine gate_dst (N := 3) rfl ?_); refine box_event ?hg (N := 3) ?hd (cs := #[.int .i64 0, .int .i64 0, .int .i64 0, .int .i64 0]) (t := 29) ?hr ?_; (case hd => rfl); (case hg => rfl); (case hr => first | (go_simp; done) | (go_simp; rfl)); intro g107 hg w4 hbox hb; have n0_ := qM (qB (g := g105) (by (with_reducible repeat first | refine qN ?_ _ | refine qD ?_ | refine qA ?_ _); exact B105.out) hb); have n1_ := qM (qB (g := g106) (by (with_reducible repeat first | refine qN ?_ _ | refine qD ?_ | refine qA ?_ _); exact B106.out) hb); have n2_ := qM (eT (by repeat (first | (with_reducible first | exact HB.out | apply eA | apply eN | apply eD | refine eU ?_ (by assumption)) | exact HB.out)) hb); have n3_ := qM (hbox); have n4_ := qM ((by rw [hg]; exact (eZ (by repeat (first | (with_reducible first | exact HB.out | apply eA | apply eN | apply eD | refine eU ?_ (by assumption)) | exact HB.out))) : w.heap.size ≤ g107)); have n5_ := n4_; have n6_ := qM ((by rw [hg]; exact Nat.ne_of_lt (qL (g := g105) (by (with_reducible repeat first | refine qN ?_ _ | refine qD ?_ | refine qA ?_ _); exact B105.out)) : g105 ≠ g107)); have n7_ := qM (Ne.symm n6_.out); have n8_ := qM ((by rw [hg]; exact Nat.ne_of_lt (qL (g := g106) (by (with_reducible repeat first | refine qN ?_ _ | refine qD ?_ | refine qA ?_ _); exact B106.out)) : g106 ≠ g107)); have n9_ := qM (Ne.symm n8_.out); clear B105 B106 HB; have B105 := n0_; have B106 := n1_; have HB := n2_; have B107 := n3_; have GW107 := n4_; have GE107 := n5_; have NB105_107 := n6_; have NB107_105 := n7_; have NB106_107 := n8_; have NB107_106 := n9_; clear n0_ n1_ n2_ n3_ n4_ n5_ n6_ n7_ n8_ n9_; clear hb hbox hg; have hnb5 := NB105_106.out; have hnc5 := NB106_105.out; have hnb6 := NB105_107.out; have hnc6 := NB107_105.out; obtain ⟨z7_0, z7_1, z7_2, f7_0, f7_1, f7_2⟩ := cells3 B105.out))
 go_loopg [12] k (fun kq v12 w' => ∃ (x12_1 : Int) (x108000_1 : Int) (x108001_1 : Int) (x108002_1 : Int) (x108003_1 : Int), v12 = .int .i64 x12_1 ∧ Aside0 (count_Due.l0 kq l0_0 (l0_0.length : Int) x12_1 x108000_1 x108001_1 x108002_1 x108003_1 = some (r1, r2, r3, r4)) ∧ Aside0 (kq ≤ k) ∧ Aside0 (w'.heap[g105]? = some (.cells #[(.slice A0_0 l0_0.length c0_0), (.slice A0_1 l0_1.length c0_1), (.slice A0_2 l0_2.length c0_2)] 26 (0, 0))) ∧ Aside0 (w'.heap[g106]? = some (.cells #[.int .i64 0, .int .i64 0, .int .i64 0, .int .i64 0] 29 (0, 0))) ∧ Aside0 (w'.heap[g107]? = some (.cells #[.int .i64 x108000_1, .int .i64 x108001_1, .int .i64 x108002_1, .int .i64 x108003_1] 29 (0, 0))) ∧ Aside0 (Below w.heap.size w w'))
 case atStart => exact ⟨(0), (0), (0), (0), (0), (by first | rfl | (simp; done) | (simp [*]; done)), H', ⟨Nat.le_refl _⟩, ⟨by (with_reducible repeat first | refine qN ?_ _ | refine qD ?_ | refine qA ?_ _); exact B105.out⟩, ⟨by (with_reducible repeat first | refine qN ?_ _ | refine qD ?_ | refine qA ?_ _); exact B106.out⟩, ⟨by (with_reducible repeat first | refine qN ?_ _ | refine qD ?_ | refine qA ?_ _); exact B107.out⟩, ⟨by repeat (first | (with_reducible first | exact HB.out | apply eA | apply eN | apply eD | refine eS ?_ GE105.out | refine eS ?_ GE106.out | refine eS ?_ GE107.out) | exact HB.out)⟩⟩
 case round =>
  clear H'
  try clear p2
  try clear c5
  try clear c6
  try clear z7_0
  try clear z7_1
  try clear z7_2
  try clear f7_0
  try clear f7_1
  try clear f7_2
  obtain ⟨x12_1, x108000_1, x108001_1, x108002_1, x108003_1, rfl, HA, HK1, B105, B106, B107, HB⟩ := hrel
  cases gk with
  | zero => exact absurd HA.out (by simp [count_Due.l0])
  | succ k1 =>
   have H := HA.out
   clear HA
   simp only [count_Due.l0] at H
   by_cases c8 : x12_1 < (l0_0.length : Int)
   ·rw [if_pos c8] at H
    have c8b0 : decide (x12_1 < (l0_0.length : Int)) = true := decide_eq_true c8
    clear c8
    by_cases c9 : 0 ≤ x12_1
    ·rw [if_pos c9] at H
     have c9b0 : decide (0 ≤ x12_1) = true := decide_eq_true c9
     clear c9
     by_cases c10 : x12_1 < (l0_0.length : Int)
     ·rw [if_pos c10] at H
      have c10b0 : decide (x12_1 < (l0_0.length : Int)) = true := decide_eq_true c10
      clear c10
      obtain ⟨y110, hy110⟩ : ∃ y_ : List (S29), y_ = (([(⟨x108000_1, x108001_1, x108002_1, x108003_1⟩ : S29), (⟨(((rd_T45 l0_0 x12_1).f6).length : Int), wrap64 ((((rd_T45 l0_0 x12_1).f6).length : Int) * 16), 0, 0⟩ : S29)] : List (S29))) := ⟨_, rfl⟩
      replace H : ((count_Sum.f k1 y110).bind fun bt113 => (if ((rd_T45 l0_0 x12_1).f4) < 1 then (count_Due.j1 k1 l0_0 (l0_0.length : Int) x12_1 true bt113.1 bt113.2.1 bt113.2.2.1 bt113.2.2.2 ((rd_T45 l0_0 x12_1).f0) ((rd_T45 l0_0 x12_1).f1) ((rd_T45 l0_0 x12_1).f2) ((rd_T45 l0_0 x12_1).f3) ((rd_T45 l0_0 x12_1).f4) ((rd_T45 l0_0 x12_1).f5) ((rd_T45 l0_0 x12_1).f6) ((rd_T45 l0_0 x12_1).f7) ((rd_T45 l0_0 x12_1).f8)) else (count_Due.j1 k1 l0_0 (l0_0.length : Int) x12_1 (decide (((rd_T45 l0_0 x12_1).f4) > 3)) bt113.1 bt113.2.1 bt113.2.2.1 bt113.2.2.2 ((rd_T45 l0_0 x12_1).f0) ((rd_T45 l0_0 x12_1).f1) ((rd_T45 l0_0 x12_1).f2) ((rd_T45 l0_0 x12_1).f3) ((rd_T45 l0_0 x12_1).f4) ((rd_T45 l0_0 x12_1).f5) ((rd_T45 l0_0 x12_1).f6) ((rd_T45 l0_0 x12_1).f7) ((rd_T45 l0_0 x12_1).f8)))) = some (r1, r2, r3, r4) := by first | (rw [hy110]; with_reducible exact H) | (have H2_ := (Option.bind_some _ _).symm.trans H; rw [hy110]; with_reducible exact H2_) | (have H2_ := (Option.bind_some _ _).symm.trans H; with_reducible exact H2_) | with_reducible exact H | (rw [hy110]; exact H) | exact H
      have Ny110 := qM hy110
      clear hy110
      replace H := Option.bind_eq_some_iff.mp H
      obtain ⟨⟨t113, t114, t115, t116⟩, A110, H⟩ := H
      replace H : (if ((rd_T45 l0_0 x12_1).f4) < 1 then (count_Due.j1 k1 l0_0 (l0_0.length : Int) x12_1 true t113 t114 t115 t116 ((rd_T45 l0_0 x12_1).f0) ((rd_T45 l0_0 x12_1).f1) ((rd_T45 l0_0 x12_1).f2) ((rd_T45 l0_0 x12_1).f3) ((rd_T45 l0_0 x12_1).f4) ((rd_T45 l0_0 x12_1).f5) ((rd_T45 l0_0 x12_1).f6) ((rd_T45 l0_0 x12_1).f7) ((rd_T45 l0_0 x12_1).f8)) else (count_Due.j1 k1 l0_0 (l0_0.length : Int) x12_1 (decide (((rd_T45 l0_0 x12_1).f4) > 3)) t113 t114 t115 t116 ((rd_T45 l0_0 x12_1).f0) ((rd_T45 l0_0 x12_1).f1) ((rd_T45 l0_0 x12_1).f2) ((rd_T45 l0_0 x12_1).f3) ((rd_T45 l0_0 x12_1).f4) ((rd_T45 l0_0 x12_1).f5) ((rd_T45 l0_0 x12_1).f6) ((rd_T45 l0_0 x12_1).f7) ((rd_T45 l0_0 x12_1).f8))) = some (r1, r2, r3, r4) := H
      have A11 := qM A110
      clear A110
      have HC12 := qM H
      clear H
      have p108 : 0 ≤ (x12_1 : Int) := of_decide_eq_true (by first | (with_reducible assumption) | assumption)
      have q108 : x12_1 < (l0_0.length : Int) := of_decide_eq_true (by first | (with_reducible assumption) | assumption)
      obtain ⟨ad108, A108_5, c108_5, A108_6, c108_6, e108, hx108_0, hx108_1, hx108_2, hx108_3, hx108_4, hx108_5, hx108_6, hx108_7, hx108_8, hl108_5, hi108_5, hl108_6, hi108_6⟩ := at_T45 HR0_0.out x12_1 p108 q108
      cases e108
      replace hx108_0 := (HB.out.cell (World.block_lt_of_cell? w _ hx108_0)).trans hx108_0
      replace hx108_1 := (HB.out.cell (World.block_lt_of_cell? w _ hx108_1)).trans hx108_1
      replace hx108_2 := (HB.out.cell (World.block_lt_of_cell? w _ hx108_2)).trans hx108_2
      replace hx108_3 := (HB.out.cell (World.block_lt_of_cell? w _ hx108_3)).trans hx108_3
      replace hx108_4 := (HB.out.cell (World.block_lt_of_cell? w _ hx108_4)).trans hx108_4
      replace hx108_5 := (HB.out.cell (World.block_lt_of_cell? w _ hx108_5)).trans hx108_5
      replace hx108_6 := (HB.out.cell (World.block_lt_of_cell? w _ hx108_6)).trans hx108_6
      replace hx108_7 := (HB.out.cell (World.block_lt_of_cell? w _ hx108_7)).trans hx108_7
      replace hx108_8 := (HB.out.cell (World.block_lt_of_cell? w _ hx108_8)).trans hx108_8
      have HR108_5 := qM hi108_5
      have HC108_5 := qM hl108_5
      clear hi108_5 hl108_5
      have HR108_6 := qM hi108_6
      have HC108_6 := qM hl108_6
      clear hi108_6 hl108_6
      replace p108 := eq_true p108
      replace q108 := eq_true q108
      go_upto_region 7 with (first | ((with_reducible refine gate_dst (N := 5) rfl ?_); refine box_event ?hg (N := 5) ?hd (cs := #[.int .i64 0, .int .i64 0, .int .i64 0, .int .i64 0, .int .i64 0, .slice none 0 0, .slice none 0 0, .int .i64 0, .int .i64 0]) (t := 45) ?hr ?_; (case hd => rfl); (case hg => rfl); (case hr => first | (go_simp; done) | (go_simp; rfl)); intro g109 hg w13 hbox hb; have n0_ := qM (qB (g := g105) (by (with_reducible repeat first | refine qN ?_ _ | refine qD ?_ | refine qA ?_ _); exact B105.out) hb); have n1_ := qM (qB (g := g106) (by (with_reducible repeat first | refine qN ?_ _ | refine qD ?_ | refine qA ?_ _); exact B106.out) hb); have n2_ := qM (qB (g := g107) (by (with_reducible repeat first | refine qN ?_ _ | refine qD ?_ | refine qA ?_ _); exact B107.out) hb); have n3_ := qM (eT (by repeat (first | (with_reducible first | exact HB.out | apply eA | apply eN | apply eD | refine eU ?_ (by assumption)) | exact HB.out)) hb); have n4_ := qM (hbox); have n5_ := qM ((by rw [hg]; exact (eZ (by repeat (first | (with_reducible first | exact HB.out | apply eA | apply eN | apply eD | refine eU ?_ (by assumption)) | exact HB.out))) : w.heap.size ≤ g109)); have n6_ := n5_; have n7_ := qM ((by rw [hg]; exact Nat.ne_of_lt (qL (g := g105) (by (with_reducible repeat first | refine qN ?_ _ | refine qD ?_ | refine qA ?_ _); exact B105.out)) : g105 ≠ g109)); have n8_ := qM (Ne.symm n7_.out); have n9_ := qM ((by rw [hg]; exact Nat.ne_of_lt (qL (g := g106) (by (with_reducible repeat first | refine qN ?_ _ | refine qD ?_ | refine qA ?_ _); exact B106.out)) : g106 ≠ g109)); have n10_ := qM (Ne.symm n9_.out); have n11_ := qM ((by rw [hg]; exact Nat.ne_of_lt (qL (g := g107) (by (with_reducible repeat first | refine qN ?_ _ | refine qD ?_ | refine qA ?_ _); exact B107.out)) : g107 ≠ g109)); have n12_ := qM (Ne.symm n11_.out); clear B105 B106 B107 HB; have B105 := n0_; have B106 := n1_; have B107 := n2_; have HB := n3_; have B109 := n4_; have GW109 := n5_; have GE109 := n6_; have NB105_109 := n7_; have NB109_105 := n8_; have NB106_109 := n9_; have NB109_106 := n10_; have NB107_109 := n11_; have NB109_107 := n12_; clear n0_ n1_ n2_ n3_ n4_ n5_ n6_ n7_ n8_ n9_ n10_ n11_ n12_; clear hb hbox hg; have hnb14 := NB109_105.out; have hnc14 := NB105_109.out; have hnb15 := NB109_106.out; have hnc15 := NB106_109.out; have hnb16 := NB109_107.out; have hnc16 := NB107_109.out; obtain ⟨z17_0, z17_1, z17_2, z17_3, z17_4, z17_5, z17_6, z17_7, z17_8, f17_0, f17_1, f17_2, f17_3, f17_4, f17_5, f17_6, f17_7, f17_8⟩ := cells9 B109.out; have hnb18 := NB107_105.out; have hnc18 := NB105_107.out; have hnb19 := NB107_106.out; have hnc19 := NB106_107.out; obtain ⟨z20_0, z20_1, z20_2, z20_3, f20_0, f20_1, f20_2, f20_3⟩ := cells4 B107.out) | ((with_reducible refine gate_dst (N := 24) rfl ?_); refine Kd.R_lit k29 _ 29 ?hg (N := 24) ?hd (xs := ([(⟨x108000_1, x108001_1, x108002_1, x108003_1⟩ : S29), (⟨(((rd_T45 l0_0 x12_1).f6).length : Int), wrap64 ((((rd_T45 l0_0 x12_1).f6).length : Int) * 16), 0, 0⟩ : S29)] : List (S29))) (inner := [.int .i64 x108000_1, .int .i64 x108001_1, .int .i64 x108002_1, .int .i64 x108003_1, .int .i64 (((rd_T45 l0_0 x12_1).f6).length : Int), .int .i64 (wrap64 ((((rd_T45 l0_0 x12_1).f6).length : Int) * 16)), .int .i64 0, .int .i64 0]) (ok := fun _ => True) (okp := fun _ => True) ?hr ?hp (fun _ hk => hk) trivial (Below.refl _ _) (Nat.le_refl _) (by simp) ?_; (case hd => rfl); (case hg => rfl); (case hr => first | (go_simp; done) | (go_simp; rfl)); (case hp => exact (Reps.c4 (show Kd.M k29 _ _ _ (⟨x108000_1, x108001_1, x108002_1, x108003_1⟩ : S29) [.int .i64 x108000_1, .int .i64 x108001_1, .int .i64 x108002_1, .int .i64 x108003_1] from (k29_mkM _ _ _ (⟨x108000_1, x108001_1, x108002_1, x108003_1⟩ : S29) )) (Reps.c4 (show Kd.M k29 _ _ _ (⟨(((rd_T45 l0_0 x12_1).f6).length : Int), wrap64 ((((rd_T45 l0_0 x12_1).f6).length : Int) * 16), 0, 0⟩ : S29) [.int .i64 (((rd_T45 l0_0 x12_1).f6).length : Int), .int .i64 (wrap64 ((((rd_T45 l0_0 x12_1).f6).length : Int) * 16)), .int .i64 0, .int .i64 0] from (k29_mkM _ _ _ (⟨(((rd_T45 l0_0 x12_1).f6).length : Int), wrap64 ((((rd_T45 l0_0 x12_1).f6).length : Int) * 16), 0, 0⟩ : S29) )) (Reps.none _ _)))); intro v111 w21 ho22 hb hg_ hnew_; clear hg_ hnew_; (first | rw [← Ny110.out] at ho22 | (simp only [Int.reduceToNat] at ho22; rw [← Ny110.out] at ho22)); have n0_ := qM (Kd.R_lower (Kd.R_newB (Kd.R_newB ho22 (g := g106) (o := .cells #[.int .i64 0, .int .i64 0, .int .i64 0, .int .i64 0] 29 (0, 0)) (by (with_reducible repeat first | refine qN ?_ _ | refine qD ?_ | refine qA ?_ _); (iterate 9 (refine qR ?_ NB106_109.out _; (with_reducible repeat first | refine qN ?_ _ | refine qD ?_ | refine qA ?_ _))); exact B106.out)) (g := g107) (o := .cells #[.int .i64 x108000_1, .int .i64 x108001_1, .int .i64 x108002_1, .int .i64 x108003_1] 29 (0, 0)) (by (with_reducible repeat first | refine qN ?_ _ | refine qD ?_ | refine qA ?_ _); (iterate 9 (refine qR ?_ NB107_109.out _; (with_reducible repeat first | refine qN ?_ _ | refine qD ?_ | refine qA ?_ _))); exact B107.out)) (eZ (by repeat (first | (with_reducible first | exact HB.out | apply eA | apply eN | apply eD | refine eU ?_ (by assumption)) | exact HB.out)))); have n1_ := qM (qB (g := g105) (o := .cells #[.slice (some ad108) l0_0.length c0_0, .slice A0_1 l0_1.length c0_1, .slice A0_2 l0_2.length c0_2] 26 (0, 0)) (by (with_reducible repeat first | refine qN ?_ _ | refine qD ?_ | refine qA ?_ _); (iterate 9 (refine qR ?_ NB105_109.out _; (with_reducible repeat first | refine qN ?_ _ | refine qD ?_ | refine qA ?_ _))); exact B105.out) hb); have n2_ := qM (qB (g := g106) (o := .cells #[.int .i64 0, .int .i64 0, .int .i64 0, .int .i64 0] 29 (0, 0)) (by (with_reducible repeat first | refine qN ?_ _ | refine qD ?_ | refine qA ?_ _); (iterate 9 (refine qR ?_ NB106_109.out _; (with_reducible repeat first | refine qN ?_ _ | refine qD ?_ | refine qA ?_ _))); exact B106.out) hb); have n3_ := qM (qB (g := g107) (o := .cells #[.int .i64 x108000_1, .int .i64 x108001_1, .int .i64 x108002_1, .int .i64 x108003_1] 29 (0, 0)) (by (with_reducible repeat first | refine qN ?_ _ | refine qD ?_ | refine qA ?_ _); (iterate 9 (refine qR ?_ NB107_109.out _; (with_reducible repeat first | refine qN ?_ _ | refine qD ?_ | refine qA ?_ _))); exact B107.out) hb); have n4_ := qM (qB (g := g109) (by (with_reducible repeat first | refine qN ?_ _ | refine qD ?_ | refine qA ?_ _); apply puts9; (with_reducible repeat first | refine qN ?_ _ | refine qD ?_ | refine qA ?_ _); exact B109.out) hb); have n5_ := qM (eT (by repeat (first | (with_reducible first | exact HB.out | apply eA | apply eN | apply eD | refine eU ?_ (by assumption)) | exact HB.out)) hb); clear B105 B106 B107 B109 HB; have HO112 := n0_; have B105 := n1_; have B106 := n2_; have B107 := n3_; have B109 := n4_; have HB := n5_; clear n0_ n1_ n2_ n3_ n4_ n5_; clear hb ho22; obtain ⟨Ao23, co23, eo23⟩ := Kd.R_slice HO112.out; subst eo23) | ((with_reducible refine gate_callee (f := 14) rfl ?_); refine goesL_ (some 25) rfl rfl Try.func14 (by kernel_rfl) rfl #[.slice Ao23 y110.length co23] rfl (by (try simp only [List.map_toArray, List.map_cons, List.map_nil]); first | done | rfl | (simp only [List.length_drop, List.length_take]; rfl)) ?_; (with_reducible refine (count_Sum.calls k1 _ _ y110 t113 t114 t115 t116 _ ?side1 ?side2 A11.out).mono ?_); (case side1 => repeat (first | exact (Kd.R_reads' HO112.out).2.2 | (with_reducible refine Kd.C_alloc ?_ _) | (with_reducible refine Kd.C_drewN ?_ _) | (with_reducible refine Kd.C_drew ?_))); (case side2 => exact (Kd.R_reads' HO112.out).2.1); rintro e w24 ⟨rfl, hb⟩; refine ⟨_, rfl, ?_⟩; have n0_ := qM (Kd.R_below (by (with_reducible repeat first | apply RA | apply RN | apply RD); exact HO112.out) hb); have n1_ := qM (qB (g := g105) (by (with_reducible repeat first | refine qN ?_ _ | refine qD ?_ | refine qA ?_ _); exact B105.out) hb); have n2_ := qM (qB (g := g106) (by (with_reducible repeat first | refine qN ?_ _ | refine qD ?_ | refine qA ?_ _); exact B106.out) hb); have n3_ := qM (qB (g := g107) (by (with_reducible repeat first | refine qN ?_ _ | refine qD ?_ | refine qA ?_ _); exact B107.out) hb); have n4_ := qM (qB (g := g109) (by (with_reducible repeat first | refine qN ?_ _ | refine qD ?_ | refine qA ?_ _); exact B109.out) hb); have n5_ := qM (eT (by repeat (first | (with_reducible first | exact HB.out | apply eA | apply eN | apply eD | refine eU ?_ (by assumption)) | exact HB.out)) hb); clear HO112 B105 B106 B107 B109 HB; have HO112 := n0_; have B105 := n1_; have B106 := n2_; have B107 := n3_; have B109 := n4_; have HB := n5_; clear n0_ n1_ n2_ n3_ n4_ n5_; (try clear hb); (try clear hb2); (try clear hk); (try clear hi); obtain ⟨z25_0, z25_1, z25_2, z25_3, f25_0, f25_1, f25_2, f25_3⟩ := cells4 B107.out))
      (try simp only [Act.put, List.setIfInBounds_toArray, List.set_cons_zero, List.set_cons_succ])
      go_cut [33] (fun v33 wc => ∃ (kq : Nat) (x33_11 : Bool), v33 = .bool x33_11 ∧ Aside0 (count_Due.j1 kq l0_0 (l0_0.length : Int) x12_1 x33_11 t113 t114 t115 t116 ((rd_T45 l0_0 x12_1).f0) ((rd_T45 l0_0 x12_1).f1) ((rd_T45 l0_0 x12_1).f2) ((rd_T45 l0_0 x12_1).f3) ((rd_T45 l0_0 x12_1).f4) ((rd_T45 l0_0 x12_1).f5) ((rd_T45 l0_0 x12_1).f6) ((rd_T45 l0_0 x12_1).f7) ((rd_T45 l0_0 x12_1).f8) = some (r1, r2, r3, r4)) ∧ Aside0 (kq ≤ k1) ∧ Aside0 (wc.heap[g105]? = some (.cells #[(.slice (some ad108) l0_0.length c0_0), (.slice A0_1 l0_1.length c0_1), (.slice A0_2 l0_2.length c0_2)] 26 (0, 0))) ∧ Aside0 (wc.heap[g106]? = some (.cells #[.int .i64 0, .int .i64 0, .int .i64 0, .int .i64 0] 29 (0, 0))) ∧ Aside0 (wc.heap[g107]? = some (.cells #[.int .i64 t113, .int .i64 t114, .int .i64 t115, .int .i64 t116] 29 (0, 0))) ∧ Aside0 (wc.heap[g109]? = some (.cells #[.int .i64 ((rd_T45 l0_0 x12_1).f0), .int .i64 ((rd_T45 l0_0 x12_1).f1), .int .i64 ((rd_T45 l0_0 x12_1).f2), .int .i64 ((rd_T45 l0_0 x12_1).f3), .int .i64 ((rd_T45 l0_0 x12_1).f4), (.slice A108_5 ((rd_T45 l0_0 x12_1).f5).length c108_5), (.slice A108_6 ((rd_T45 l0_0 x12_1).f6).length c108_6), .int .i64 ((rd_T45 l0_0 x12_1).f7), .int .i64 ((rd_T45 l0_0 x12_1).f8)] 45 (0, 0))) ∧ Aside0 (Below w.heap.size w wc))
      case first =>
       have H := HC12.out
       clear HC12
       by_cases c26 : ((rd_T45 l0_0 x12_1).f4) < 1
       ·rw [if_pos c26] at H
        have c26b0 : decide (((rd_T45 l0_0 x12_1).f4) < 1) = true := decide_eq_true c26
        clear c26
        (first | rw [c26b0] | (simp only [i64_w, i32_w]; rw [c26b0]) | skip)
        have H' := qM H
        clear H
        have hnb27 := NB109_105.out
        have hnc27 := NB105_109.out
        have hnb28 := NB109_106.out
        have hnc28 := NB106_109.out
        have hnb29 := NB109_107.out
        have hnc29 := NB107_109.out
        obtain ⟨z30_0, z30_1, z30_2, z30_3, z30_4, z30_5, z30_6, z30_7, z30_8, f30_0, f30_1, f30_2, f30_3, f30_4, f30_5, f30_6, f30_7, f30_8⟩ := cells9 B109.out
        go_wp2
        go_meet
        case rel => exact ⟨_, (true), (by first | rfl | (simp; done) | (simp [*]; done)), H', ⟨by have := HK1.out; first | omega | exact Nat.le_refl _⟩, ⟨by (with_reducible repeat first | refine qN ?_ _ | refine qD ?_ | refine qA ?_ _); (iterate 4 (refine qR ?_ NB105_107.out _; (with_reducible repeat first | refine qN ?_ _ | refine qD ?_ | refine qA ?_ _))); exact B105.out⟩, ⟨by (with_reducible repeat first | refine qN ?_ _ | refine qD ?_ | refine qA ?_ _); (iterate 4 (refine qR ?_ NB106_107.out _; (with_reducible repeat first | refine qN ?_ _ | refine qD ?_ | refine qA ?_ _))); exact B106.out⟩, ⟨by (with_reducible repeat first | refine qN ?_ _ | refine qD ?_ | refine qA ?_ _); apply puts4; (with_reducible repeat first | refine qN ?_ _ | refine qD ?_ | refine qA ?_ _); exact B107.out⟩, ⟨by (with_reducible repeat first | refine qN ?_ _ | refine qD ?_ | refine qA ?_ _); (iterate 4 (refine qR ?_ NB109_107.out _; (with_reducible repeat first | refine qN ?_ _ | refine qD ?_ | refine qA ?_ _))); exact B109.out⟩, ⟨by repeat (first | (with_reducible first | exact HB.out | apply eA | apply eN | apply eD | refine eS ?_ GE105.out | refine eS ?_ GE106.out | refine eS ?_ GE107.out | refine eS ?_ GE109.out) | exact HB.out)⟩⟩
       ·rw [if_neg c26] at H
        have c26b0 : decide (((rd_T45 l0_0 x12_1).f4) < 1) = false := decide_eq_false c26
        clear c26
        (first | rw [c26b0] | (simp only [i64_w, i32_w]; rw [c26b0]) | skip)
        have H' := qM H
        clear H
        have hnb31 := NB109_105.out
        have hnc31 := NB105_109.out
        have hnb32 := NB109_106.out
        have hnc32 := NB106_109.out
        have hnb33 := NB109_107.out
        have hnc33 := NB107_109.out
        obtain ⟨z34_0, z34_1, z34_2, z34_3, z34_4, z34_5, z34_6, z34_7, z34_8, f34_0, f34_1, f34_2, f34_3, f34_4, f34_5, f34_6, f34_7, f34_8⟩ := cells9 B109.out
        go_wp2
        go_meet
        case rel => exact ⟨_, (decide (((rd_T45 l0_0 x12_1).f4) > 3)), (by first | rfl | (simp; done) | (simp [*]; done)), H', ⟨by have := HK1.out; first | omega | exact Nat.le_refl _⟩, ⟨by (with_reducible repeat first | refine qN ?_ _ | refine qD ?_ | refine qA ?_ _); (iterate 4 (refine qR ?_ NB105_107.out _; (with_reducible repeat first | refine qN ?_ _ | refine qD ?_ | refine qA ?_ _))); exact B105.out⟩, ⟨by (with_reducible repeat first | refine qN ?_ _ | refine qD ?_ | refine qA ?_ _); (iterate 4 (refine qR ?_ NB106_107.out _; (with_reducible repeat first | refine qN ?_ _ | refine qD ?_ | refine qA ?_ _))); exact B106.out⟩, ⟨by (with_reducible repeat first | refine qN ?_ _ | refine qD ?_ | refine qA ?_ _); apply puts4; (with_reducible repeat first | refine qN ?_ _ | refine qD ?_ | refine qA ?_ _); exact B107.out⟩, ⟨by (with_reducible repeat first | refine qN ?_ _ | refine qD ?_ | refine qA ?_ _); (iterate 4 (refine qR ?_ NB109_107.out _; (with_reducible repeat first | refine qN ?_ _ | refine qD ?_ | refine qA ?_ _))); exact B109.out⟩, ⟨by repeat (first | (with_reducible first | exact HB.out | apply eA | apply eN | apply eD | refine eS ?_ GE105.out | refine eS ?_ GE106.out | refine eS ?_ GE107.out | refine eS ?_ GE109.out) | exact HB.out)⟩⟩
      case rest =>
       clear HC12
       try clear c1
       try clear p1
       try clear q1
       try clear hx1
       try clear c2
       try clear p2
       try clear c3
       try clear c4
       try clear c5
       try clear c6
       try clear p6
       try clear c8
       try clear c8b0
       try clear c9
       try clear c9b0
       try clear c10
       try clear c10b0
       try clear p10
       try clear q10
       try clear hx10
       try clear c14
       try clear c15
       try clear c16
       try clear c18
       try clear c19
       try clear c26
       try clear c26b0
       try clear c27
       try clear c28
       try clear c29
       try clear c31
       try clear c32
       try clear c33
       try clear z17_0
       try clear z17_1
       try clear z17_2
       try clear z17_3
       try clear z17_4
       try clear z17_5
       try clear z17_6
       try clear z17_7
       try clear z17_8
       try clear z20_0
       try clear z20_1
       try clear z20_2
       try clear z20_3
       try clear z25_0
       try clear z25_1
       try clear z25_2
       try clear z25_3
       try clear z30_0
       try clear z30_1
       try clear z30_2
       try clear z30_3
       try clear z30_4
       try clear z30_5
       try clear z30_6
       try clear z30_7
       try clear z30_8
       try clear z34_0
       try clear z34_1
       try clear z34_2
       try clear z34_3
       try clear z34_4
       try clear z34_5
       try clear z34_6
       try clear z34_7
       try clear z34_8
       try clear z7_0
       try clear z7_1
       try clear z7_2
       try clear f17_0
       try clear f17_1
       try clear f17_2
       try clear f17_3
       try clear f17_4
       try clear f17_5
       try clear f17_6
       try clear f17_7
       try clear f17_8
       try clear f20_0
       try clear f20_1
       try clear f20_2
       try clear f20_3
       try clear f25_0
       try clear f25_1
       try clear f25_2
       try clear f25_3
       try clear f30_0
       try clear f30_1
       try clear f30_2
       try clear f30_3
       try clear f30_4
       try clear f30_5
       try clear f30_6
       try clear f30_7
       try clear f30_8
       try clear f34_0
       try clear f34_1
       try clear f34_2
       try clear f34_3
       try clear f34_4
       try clear f34_5
       try clear f34_6
       try clear f34_7
       try clear f34_8
       try clear f7_0
       try clear f7_1
       try clear f7_2
       try clear hx108_0
       try clear hx108_1
       try clear hx108_2
       try clear hx108_3
       try clear hx108_4
       try clear hx108_5
       try clear hx108_6
       try clear hx108_7
       try clear hx108_8
       try clear p108
       try clear p2
       try clear q108
       obtain ⟨kq, x33_11, rfl, HA, HJ11, B105, B106, B107, B109, HB⟩ := hcut
       cases kq with
       | zero => exact absurd HA.out (by simp [count_Due.j1])
       | succ kj11 =>
        have H := HA.out
        clear HA
        simp only [count_Due.j1] at H
        by_cases c35 : x33_11 = true
        ·subst c35
         have H1 : (count_Due.l0 kj11 l0_0 (l0_0.length : Int) (wrap64 (x12_1 + 1)) t113 t114 t115 t116) = some (r1, r2, r3, r4) := by rw [if_pos rfl] at H; exact H
         clear H
         have H := H1
         clear H1
         have H' := qM H
         clear H
         go_wp2
         go_roundg kj11
         case measure => have := HK1.out; have := HJ11.out; omega
         case rel => exact ⟨(wrap64 (x12_1 + 1)), (t113), (t114), (t115), (t116), (by first | rfl | (simp; done) | (simp [*]; done)), H', ⟨by have := HK1.out; have := HJ11.out; omega⟩, ⟨by (with_reducible repeat first | refine qN ?_ _ | refine qD ?_ | refine qA ?_ _); exact B105.out⟩, ⟨by (with_reducible repeat first | refine qN ?_ _ | refine qD ?_ | refine qA ?_ _); exact B106.out⟩, ⟨by (with_reducible repeat first | refine qN ?_ _ | refine qD ?_ | refine qA ?_ _); exact B107.out⟩, ⟨by repeat (first | (with_reducible first | exact HB.out | apply eA | apply eN | apply eD | refine eS ?_ GE105.out | refine eS ?_ GE106.out | refine eS ?_ GE107.out | refine eS ?_ GE109.out) | exact HB.out)⟩⟩
        ·replace c35 := Bool.eq_false_iff.mpr c35
         subst c35
         have H1 : (count_Due.l1 kj11 l0_0 (l0_0.length : Int) x12_1 ((rd_T45 l0_0 x12_1).f5) (((rd_T45 l0_0 x12_1).f5).length : Int) 0 t113 t114 t115 t116) = some (r1, r2, r3, r4) := by rw [if_neg (show ¬ (false = true) by decide)] at H; exact H
         clear H
         have H := H1
         clear H1
         have H' := qM H
         clear H
         have hnb36 := NB109_105.out
         have hnc36 := NB105_109.out
         have hnb37 := NB109_106.out
         have hnc37 := NB106_109.out
         have hnb38 := NB109_107.out
         have hnc38 := NB107_109.out
         obtain ⟨z39_0, z39_1, z39_2, z39_3, z39_4, z39_5, z39_6, z39_7, z39_8, f39_0, f39_1, f39_2, f39_3, f39_4, f39_5, f39_6, f39_7, f39_8⟩ := cells9 B109.out
         go_wp2
         go_loopg [37] kj11 (fun kq v37 w' => ∃ (x37_3 : Int) (x108000_3 : Int) (x108001_3 : Int) (x108002_3 : Int) (x108003_3 : Int), v37 = .int .i64 x37_3 ∧ Aside0 (count_Due.l1 kq l0_0 (l0_0.length : Int) x12_1 ((rd_T45 l0_0 x12_1).f5) (((rd_T45 l0_0 x12_1).f5).length : Int) x37_3 x108000_3 x108001_3 x108002_3 x108003_3 = some (r1, r2, r3, r4)) ∧ Aside0 (kq ≤ kj11) ∧ Aside0 (w'.heap[g105]? = some (.cells #[(.slice (some ad108) l0_0.length c0_0), (.slice A0_1 l0_1.length c0_1), (.slice A0_2 l0_2.length c0_2)] 26 (0, 0))) ∧ Aside0 (w'.heap[g106]? = some (.cells #[.int .i64 0, .int .i64 0, .int .i64 0, .int .i64 0] 29 (0, 0))) ∧ Aside0 (w'.heap[g107]? = some (.cells #[.int .i64 x108000_3, .int .i64 x108001_3, .int .i64 x108002_3, .int .i64 x108003_3] 29 (0, 0))) ∧ Aside0 (w'.heap[g109]? = some (.cells #[.int .i64 ((rd_T45 l0_0 x12_1).f0), .int .i64 ((rd_T45 l0_0 x12_1).f1), .int .i64 ((rd_T45 l0_0 x12_1).f2), .int .i64 ((rd_T45 l0_0 x12_1).f3), .int .i64 ((rd_T45 l0_0 x12_1).f4), (.slice A108_5 ((rd_T45 l0_0 x12_1).f5).length c108_5), (.slice A108_6 ((rd_T45 l0_0 x12_1).f6).length c108_6), .int .i64 ((rd_T45 l0_0 x12_1).f7), .int .i64 ((rd_T45 l0_0 x12_1).f8)] 45 (0, 0))) ∧ Aside0 (Below w.heap.size w w'))
         case atStart => exact ⟨(0), (t113), (t114), (t115), (t116), (by first | rfl | (simp; done) | (simp [*]; done)), H', ⟨Nat.le_refl _⟩, ⟨by (with_reducible repeat first | refine qN ?_ _ | refine qD ?_ | refine qA ?_ _); exact B105.out⟩, ⟨by (with_reducible repeat first | refine qN ?_ _ | refine qD ?_ | refine qA ?_ _); exact B106.out⟩, ⟨by (with_reducible repeat first | refine qN ?_ _ | refine qD ?_ | refine qA ?_ _); exact B107.out⟩, ⟨by (with_reducible repeat first | refine qN ?_ _ | refine qD ?_ | refine qA ?_ _); exact B109.out⟩, ⟨by repeat (first | (with_reducible first | exact HB.out | apply eA | apply eN | apply eD | refine eS ?_ GE105.out | refine eS ?_ GE106.out | refine eS ?_ GE107.out | refine eS ?_ GE109.out) | exact HB.out)⟩⟩
         case round =>
          clear H'
          try clear c1
          try clear p1
          try clear q1
          try clear hx1
          try clear c2
          try clear p2
          try clear c3
          try clear c4
          try clear c5
          try clear c6
          try clear p6
          try clear c8
          try clear c8b0
          try clear c9
          try clear c9b0
          try clear c10
          try clear c10b0
          try clear p10
          try clear q10
          try clear hx10
          try clear c14
          try clear c15
          try clear c16
          try clear c18
          try clear c19
          try clear c26
          try clear c26b0
          try clear c27
          try clear c28
          try clear c29
          try clear c31
          try clear c32
          try clear c33
          try clear c35
          try clear c36
          try clear c37
          try clear c38
          try clear z17_0
          try clear z17_1
          try clear z17_2
          try clear z17_3
          try clear z17_4
          try clear z17_5
          try clear z17_6
          try clear z17_7
          try clear z17_8
          try clear z20_0
          try clear z20_1
          try clear z20_2
          try clear z20_3
          try clear z25_0
          try clear z25_1
          try clear z25_2
          try clear z25_3
          try clear z30_0
          try clear z30_1
          try clear z30_2
          try clear z30_3
          try clear z30_4
          try clear z30_5
          try clear z30_6
          try clear z30_7
          try clear z30_8
          try clear z34_0
          try clear z34_1
          try clear z34_2
          try clear z34_3
          try clear z34_4
          try clear z34_5
          try clear z34_6
          try clear z34_7
          try clear z34_8
          try clear z39_0
          try clear z39_1
          try clear z39_2
          try clear z39_3
          try clear z39_4
          try clear z39_5
          try clear z39_6
          try clear z39_7
          try clear z39_8
          try clear z7_0
          try clear z7_1
          try clear z7_2
          try clear f17_0
          try clear f17_1
          try clear f17_2
          try clear f17_3
          try clear f17_4
          try clear f17_5
          try clear f17_6
          try clear f17_7
          try clear f17_8
          try clear f20_0
          try clear f20_1
          try clear f20_2
          try clear f20_3
          try clear f25_0
          try clear f25_1
          try clear f25_2
          try clear f25_3
          try clear f30_0
          try clear f30_1
          try clear f30_2
          try clear f30_3
          try clear f30_4
          try clear f30_5
          try clear f30_6
          try clear f30_7
          try clear f30_8
          try clear f34_0
          try clear f34_1
          try clear f34_2
          try clear f34_3
          try clear f34_4
          try clear f34_5
          try clear f34_6
          try clear f34_7
          try clear f34_8
          try clear f39_0
          try clear f39_1
          try clear f39_2
          try clear f39_3
          try clear f39_4
          try clear f39_5
          try clear f39_6
          try clear f39_7
          try clear f39_8
          try clear f7_0
          try clear f7_1
          try clear f7_2
          try clear hx108_0
          try clear hx108_1
          try clear hx108_2
          try clear hx108_3
          try clear hx108_4
          try clear hx108_5
          try clear hx108_6
          try clear hx108_7
          try clear hx108_8
          try clear p1
          try clear p10
          try clear p108
          try clear p2
          try clear p6
          try clear q1
          try clear q10
          try clear q108
          obtain ⟨x37_3, x108000_3, x108001_3, x108002_3, x108003_3, rfl, HA, HK3, B105, B106, B107, B109, HB⟩ := hrel
          cases gk with
          | zero => exact absurd HA.out (by simp [count_Due.l1])
          | succ k3 =>
           have H := HA.out
           clear HA
           simp only [count_Due.l1] at H
           by_cases c40 : x37_3 < (((rd_T45 l0_0 x12_1).f5).length : Int)
           ·rw [if_pos c40] at H
            have c40b0 : decide (x37_3 < (((rd_T45 l0_0 x12_1).f5).length : Int)) = true := decide_eq_true c40
            clear c40
            by_cases c41 : 0 ≤ x37_3
            ·rw [if_pos c41] at H
             have c41b0 : decide (0 ≤ x37_3) = true := decide_eq_true c41
             clear c41
             by_cases c42 : x37_3 < (((rd_T45 l0_0 x12_1).f5).length : Int)
             ·rw [if_pos c42] at H
              have c42b0 : decide (x37_3 < (((rd_T45 l0_0 x12_1).f5).length : Int)) = true := decide_eq_true c42
              clear c42
              obtain ⟨y119, hy119⟩ : ∃ y_ : List (S29), y_ = (([(⟨x108000_3, x108001_3, x108002_3, x108003_3⟩ : S29), (⟨0, 0, 4, wrap64 (4 * ((rd_T59 ((rd_T45 l0_0 x12_1).f5) x37_3).f1))⟩ : S29)] : List (S29))) := ⟨_, rfl⟩
              replace H : ((count_Sum.f k3 y119).bind fun bt122 => (count_Due.l1 k3 l0_0 (l0_0.length : Int) x12_1 ((rd_T45 l0_0 x12_1).f5) (((rd_T45 l0_0 x12_1).f5).length : Int) (wrap64 (x37_3 + 1)) bt122.1 bt122.2.1 bt122.2.2.1 bt122.2.2.2)) = some (r1, r2, r3, r4) := by first | (rw [hy119]; with_reducible exact H) | (have H2_ := (Option.bind_some _ _).symm.trans H; rw [hy119]; with_reducible exact H2_) | (have H2_ := (Option.bind_some _ _).symm.trans H; with_reducible exact H2_) | with_reducible exact H | (rw [hy119]; exact H) | exact H
              have Ny119 := qM hy119
              clear hy119
              replace H := Option.bind_eq_some_iff.mp H
              obtain ⟨⟨t122, t123, t124, t125⟩, A430, H⟩ := H
              replace H : (count_Due.l1 k3 l0_0 (l0_0.length : Int) x12_1 ((rd_T45 l0_0 x12_1).f5) (((rd_T45 l0_0 x12_1).f5).length : Int) (wrap64 (x37_3 + 1)) t122 t123 t124 t125) = some (r1, r2, r3, r4) := H
              have A43 := qM A430
              clear A430
              have H' := qM H
              clear H
              have p117 : 0 ≤ (x37_3 : Int) := of_decide_eq_true (by first | (with_reducible assumption) | assumption)
              have q117 : x37_3 < (((rd_T45 l0_0 x12_1).f5).length : Int) := of_decide_eq_true (by first | (with_reducible assumption) | assumption)
              obtain ⟨ad117, e117, hx117_0, hx117_1⟩ := at_T59 HR108_5.out x37_3 p117 q117
              cases e117
              replace hx117_0 := (HB.out.cell (World.block_lt_of_cell? w _ hx117_0)).trans hx117_0
              replace hx117_1 := (HB.out.cell (World.block_lt_of_cell? w _ hx117_1)).trans hx117_1
              replace p117 := eq_true p117
              replace q117 := eq_true q117
              go_wp2_with (first | ((with_reducible refine gate_dst (N := 8) rfl ?_); refine box_event ?hg (N := 8) ?hd (cs := #[.int .i64 0, .int .i64 0]) (t := 59) ?hr ?_; (case hd => rfl); (case hg => rfl); (case hr => first | (go_simp; done) | (go_simp; rfl)); intro g118 hg w44 hbox hb; have n0_ := qM (qB (g := g105) (by (with_reducible repeat first | refine qN ?_ _ | refine qD ?_ | refine qA ?_ _); exact B105.out) hb); have n1_ := qM (qB (g := g106) (by (with_reducible repeat first | refine qN ?_ _ | refine qD ?_ | refine qA ?_ _); exact B106.out) hb); have n2_ := qM (qB (g := g107) (by (with_reducible repeat first | refine qN ?_ _ | refine qD ?_ | refine qA ?_ _); exact B107.out) hb); have n3_ := qM (qB (g := g109) (by (with_reducible repeat first | refine qN ?_ _ | refine qD ?_ | refine qA ?_ _); exact B109.out) hb); have n4_ := qM (eT (by repeat (first | (with_reducible first | exact HB.out | apply eA | apply eN | apply eD | refine eU ?_ (by assumption)) | exact HB.out)) hb); have n5_ := qM (hbox); have n6_ := qM ((by rw [hg]; exact (eZ (by repeat (first | (with_reducible first | exact HB.out | apply eA | apply eN | apply eD | refine eU ?_ (by assumption)) | exact HB.out))) : w.heap.size ≤ g118)); have n7_ := n6_; have n8_ := qM ((by rw [hg]; exact Nat.ne_of_lt (qL (g := g105) (by (with_reducible repeat first | refine qN ?_ _ | refine qD ?_ | refine qA ?_ _); exact B105.out)) : g105 ≠ g118)); have n9_ := qM (Ne.symm n8_.out); have n10_ := qM ((by rw [hg]; exact Nat.ne_of_lt (qL (g := g106) (by (with_reducible repeat first | refine qN ?_ _ | refine qD ?_ | refine qA ?_ _); exact B106.out)) : g106 ≠ g118)); have n11_ := qM (Ne.symm n10_.out); have n12_ := qM ((by rw [hg]; exact Nat.ne_of_lt (qL (g := g107) (by (with_reducible repeat first | refine qN ?_ _ | refine qD ?_ | refine qA ?_ _); exact B107.out)) : g107 ≠ g118)); have n13_ := qM (Ne.symm n12_.out); have n14_ := qM ((by rw [hg]; exact Nat.ne_of_lt (qL (g := g109) (by (with_reducible repeat first | refine qN ?_ _ | refine qD ?_ | refine qA ?_ _); exact B109.out)) : g109 ≠ g118)); have n15_ := qM (Ne.symm n14_.out); clear B105 B106 B107 B109 HB; have B105 := n0_; have B106 := n1_; have B107 := n2_; have B109 := n3_; have HB := n4_; have B118 := n5_; have GW118 := n6_; have GE118 := n7_; have NB105_118 := n8_; have NB118_105 := n9_; have NB106_118 := n10_; have NB118_106 := n11_; have NB107_118 := n12_; have NB118_107 := n13_; have NB109_118 := n14_; have NB118_109 := n15_; clear n0_ n1_ n2_ n3_ n4_ n5_ n6_ n7_ n8_ n9_ n10_ n11_ n12_ n13_ n14_ n15_; clear hb hbox hg; have hnb45 := NB118_105.out; have hnc45 := NB105_118.out; have hnb46 := NB118_106.out; have hnc46 := NB106_118.out; have hnb47 := NB118_107.out; have hnc47 := NB107_118.out; have hnb48 := NB118_109.out; have hnc48 := NB109_118.out; have z49_0 : w44.cell? ⟨g118, 0, none⟩ = some (.int .i64 0) := (qC B118.out 0).trans rfl; have z49_1 : w44.cell? ⟨g118, 1, none⟩ = some (.int .i64 0) := (qC B118.out 1).trans rfl; have f49_0 := qF B118.out 0; have f49_1 := qF B118.out 1; have hnb50 := NB107_105.out; have hnc50 := NB105_107.out; have hnb51 := NB107_106.out; have hnc51 := NB106_107.out; have hnb52 := NB107_109.out; have hnc52 := NB109_107.out; obtain ⟨z53_0, z53_1, z53_2, z53_3, f53_0, f53_1, f53_2, f53_3⟩ := cells4 B107.out) | ((with_reducible refine gate_dst (N := 46) rfl ?_); refine Kd.R_lit k29 _ 29 ?hg (N := 46) ?hd (xs := ([(⟨x108000_3, x108001_3, x108002_3, x108003_3⟩ : S29), (⟨0, 0, 4, wrap64 (4 * ((rd_T59 ((rd_T45 l0_0 x12_1).f5) x37_3).f1))⟩ : S29)] : List (S29))) (inner := [.int .i64 x108000_3, .int .i64 x108001_3, .int .i64 x108002_3, .int .i64 x108003_3, .int .i64 0, .int .i64 0, .int .i64 4, .int .i64 (wrap64 (4 * ((rd_T59 ((rd_T45 l0_0 x12_1).f5) x37_3).f1)))]) (ok := fun _ => True) (okp := fun _ => True) ?hr ?hp (fun _ hk => hk) trivial (Below.refl _ _) (Nat.le_refl _) (by simp) ?_; (case hd => rfl); (case hg => rfl); (case hr => first | (go_simp; done) | (go_simp; rfl)); (case hp => exact (Reps.c4 (show Kd.M k29 _ _ _ (⟨x108000_3, x108001_3, x108002_3, x108003_3⟩ : S29) [.int .i64 x108000_3, .int .i64 x108001_3, .int .i64 x108002_3, .int .i64 x108003_3] from (k29_mkM _ _ _ (⟨x108000_3, x108001_3, x108002_3, x108003_3⟩ : S29) )) (Reps.c4 (show Kd.M k29 _ _ _ (⟨0, 0, 4, wrap64 (4 * ((rd_T59 ((rd_T45 l0_0 x12_1).f5) x37_3).f1))⟩ : S29) [.int .i64 0, .int .i64 0, .int .i64 4, .int .i64 (wrap64 (4 * ((rd_T59 ((rd_T45 l0_0 x12_1).f5) x37_3).f1)))] from (k29_mkM _ _ _ (⟨0, 0, 4, wrap64 (4 * ((rd_T59 ((rd_T45 l0_0 x12_1).f5) x37_3).f1))⟩ : S29) )) (Reps.none _ _)))); intro v120 w54 ho55 hb hg_ hnew_; clear hg_ hnew_; (first | rw [← Ny119.out] at ho55 | (simp only [Int.reduceToNat] at ho55; rw [← Ny119.out] at ho55)); have n0_ := qM (Kd.R_lower (Kd.R_newB (Kd.R_newB ho55 (g := g106) (o := .cells #[.int .i64 0, .int .i64 0, .int .i64 0, .int .i64 0] 29 (0, 0)) (by (with_reducible repeat first | refine qN ?_ _ | refine qD ?_ | refine qA ?_ _); (iterate 2 (refine qR ?_ NB106_118.out _; (with_reducible repeat first | refine qN ?_ _ | refine qD ?_ | refine qA ?_ _))); exact B106.out)) (g := g107) (o := .cells #[.int .i64 x108000_3, .int .i64 x108001_3, .int .i64 x108002_3, .int .i64 x108003_3] 29 (0, 0)) (by (with_reducible repeat first | refine qN ?_ _ | refine qD ?_ | refine qA ?_ _); (iterate 2 (refine qR ?_ NB107_118.out _; (with_reducible repeat first | refine qN ?_ _ | refine qD ?_ | refine qA ?_ _))); exact B107.out)) (eZ (by repeat (first | (with_reducible first | exact HB.out | apply eA | apply eN | apply eD | refine eU ?_ (by assumption)) | exact HB.out)))); have n1_ := qM (qB (g := g105) (o := .cells #[.slice (some ad108) l0_0.length c0_0, .slice A0_1 l0_1.length c0_1, .slice A0_2 l0_2.length c0_2] 26 (0, 0)) (by (with_reducible repeat first | refine qN ?_ _ | refine qD ?_ | refine qA ?_ _); (iterate 2 (refine qR ?_ NB105_118.out _; (with_reducible repeat first | refine qN ?_ _ | refine qD ?_ | refine qA ?_ _))); exact B105.out) hb); have n2_ := qM (qB (g := g106) (o := .cells #[.int .i64 0, .int .i64 0, .int .i64 0, .int .i64 0] 29 (0, 0)) (by (with_reducible repeat first | refine qN ?_ _ | refine qD ?_ | refine qA ?_ _); (iterate 2 (refine qR ?_ NB106_118.out _; (with_reducible repeat first | refine qN ?_ _ | refine qD ?_ | refine qA ?_ _))); exact B106.out) hb); have n3_ := qM (qB (g := g107) (o := .cells #[.int .i64 x108000_3, .int .i64 x108001_3, .int .i64 x108002_3, .int .i64 x108003_3] 29 (0, 0)) (by (with_reducible repeat first | refine qN ?_ _ | refine qD ?_ | refine qA ?_ _); (iterate 2 (refine qR ?_ NB107_118.out _; (with_reducible repeat first | refine qN ?_ _ | refine qD ?_ | refine qA ?_ _))); exact B107.out) hb); have n4_ := qM (qB (g := g109) (o := .cells #[.int .i64 ((rd_T45 l0_0 x12_1).f0), .int .i64 ((rd_T45 l0_0 x12_1).f1), .int .i64 ((rd_T45 l0_0 x12_1).f2), .int .i64 ((rd_T45 l0_0 x12_1).f3), .int .i64 ((rd_T45 l0_0 x12_1).f4), .slice (some ad117) ((rd_T45 l0_0 x12_1).f5).length c108_5, .slice A108_6 ((rd_T45 l0_0 x12_1).f6).length c108_6, .int .i64 ((rd_T45 l0_0 x12_1).f7), .int .i64 ((rd_T45 l0_0 x12_1).f8)] 45 (0, 0)) (by (with_reducible repeat first | refine qN ?_ _ | refine qD ?_ | refine qA ?_ _); (iterate 2 (refine qR ?_ NB109_118.out _; (with_reducible repeat first | refine qN ?_ _ | refine qD ?_ | refine qA ?_ _))); exact B109.out) hb); have n5_ := qM (qB (g := g118) (o := .cells #[.int .i64 ((rd_T59 ((rd_T45 l0_0 x12_1).f5) x37_3).f0), .int .i64 ((rd_T59 ((rd_T45 l0_0 x12_1).f5) x37_3).f1)] 59 (0, 0)) (by (with_reducible repeat first | refine qN ?_ _ | refine qD ?_ | refine qA ?_ _); refine qP (cs := #[.int .i64 ((rd_T59 ((rd_T45 l0_0 x12_1).f5) x37_3).f0), .int .i64 0]) ?_ 1 _ rfl; (with_reducible repeat first | refine qN ?_ _ | refine qD ?_ | refine qA ?_ _); refine qP (cs := #[.int .i64 0, .int .i64 0]) ?_ 0 _ rfl; (with_reducible repeat first | refine qN ?_ _ | refine qD ?_ | refine qA ?_ _); exact B118.out) hb); have n6_ := qM (eT (by repeat (first | (with_reducible first | exact HB.out | apply eA | apply eN | apply eD | refine eU ?_ (by assumption)) | exact HB.out)) hb); clear B105 B106 B107 B109 B118 HB; have HO121 := n0_; have B105 := n1_; have B106 := n2_; have B107 := n3_; have B109 := n4_; have B118 := n5_; have HB := n6_; clear n0_ n1_ n2_ n3_ n4_ n5_ n6_; clear hb ho55; obtain ⟨Ao56, co56, eo56⟩ := Kd.R_slice HO121.out; subst eo56) | ((with_reducible refine gate_callee (f := 14) rfl ?_); refine goesL_ (some 47) rfl rfl Try.func14 (by kernel_rfl) rfl #[.slice Ao56 y119.length co56] rfl (by (try simp only [List.map_toArray, List.map_cons, List.map_nil]); first | done | rfl | (simp only [List.length_drop, List.length_take]; rfl)) ?_; (with_reducible refine (count_Sum.calls k3 _ _ y119 t122 t123 t124 t125 _ ?side1 ?side2 A43.out).mono ?_); (case side1 => repeat (first | exact (Kd.R_reads' HO121.out).2.2 | (with_reducible refine Kd.C_alloc ?_ _) | (with_reducible refine Kd.C_drewN ?_ _) | (with_reducible refine Kd.C_drew ?_))); (case side2 => exact (Kd.R_reads' HO121.out).2.1); rintro e w57 ⟨rfl, hb⟩; refine ⟨_, rfl, ?_⟩; have n0_ := qM (Kd.R_below (by (with_reducible repeat first | apply RA | apply RN | apply RD); exact HO121.out) hb); have n1_ := qM (qB (g := g105) (by (with_reducible repeat first | refine qN ?_ _ | refine qD ?_ | refine qA ?_ _); exact B105.out) hb); have n2_ := qM (qB (g := g106) (by (with_reducible repeat first | refine qN ?_ _ | refine qD ?_ | refine qA ?_ _); exact B106.out) hb); have n3_ := qM (qB (g := g107) (by (with_reducible repeat first | refine qN ?_ _ | refine qD ?_ | refine qA ?_ _); exact B107.out) hb); have n4_ := qM (qB (g := g109) (by (with_reducible repeat first | refine qN ?_ _ | refine qD ?_ | refine qA ?_ _); exact B109.out) hb); have n5_ := qM (qB (g := g118) (by (with_reducible repeat first | refine qN ?_ _ | refine qD ?_ | refine qA ?_ _); exact B118.out) hb); have n6_ := qM (eT (by repeat (first | (with_reducible first | exact HB.out | apply eA | apply eN | apply eD | refine eU ?_ (by assumption)) | exact HB.out)) hb); clear HO121 B105 B106 B107 B109 B118 HB; have HO121 := n0_; have B105 := n1_; have B106 := n2_; have B107 := n3_; have B109 := n4_; have B118 := n5_; have HB := n6_; clear n0_ n1_ n2_ n3_ n4_ n5_ n6_; (try clear hb); (try clear hb2); (try clear hk); (try clear hi); obtain ⟨z58_0, z58_1, z58_2, z58_3, f58_0, f58_1, f58_2, f58_3⟩ := cells4 B107.out))
              go_roundg k3
              case measure => have := HK1.out; have := HJ11.out; have := HK3.out; omega
              case rel => exact ⟨(wrap64 (x37_3 + 1)), (t122), (t123), (t124), (t125), (by first | rfl | (simp; done) | (simp [*]; done)), H', ⟨by have := HK1.out; have := HJ11.out; have := HK3.out; omega⟩, ⟨by (with_reducible repeat first | refine qN ?_ _ | refine qD ?_ | refine qA ?_ _); (iterate 4 (refine qR ?_ NB105_107.out _; (with_reducible repeat first | refine qN ?_ _ | refine qD ?_ | refine qA ?_ _))); exact B105.out⟩, ⟨by (with_reducible repeat first | refine qN ?_ _ | refine qD ?_ | refine qA ?_ _); (iterate 4 (refine qR ?_ NB106_107.out _; (with_reducible repeat first | refine qN ?_ _ | refine qD ?_ | refine qA ?_ _))); exact B106.out⟩, ⟨by (with_reducible repeat first | refine qN ?_ _ | refine qD ?_ | refine qA ?_ _); apply puts4; (with_reducible repeat first | refine qN ?_ _ | refine qD ?_ | refine qA ?_ _); exact B107.out⟩, ⟨by (with_reducible repeat first | refine qN ?_ _ | refine qD ?_ | refine qA ?_ _); (iterate 4 (refine qR ?_ NB109_107.out _; (with_reducible repeat first | refine qN ?_ _ | refine qD ?_ | refine qA ?_ _))); exact B109.out⟩, ⟨by repeat (first | (with_reducible first | exact HB.out | apply eA | apply eN | apply eD | refine eS ?_ GE105.out | refine eS ?_ GE106.out | refine eS ?_ GE107.out | refine eS ?_ GE109.out | refine eS ?_ GE118.out) | exact HB.out)⟩⟩
             ·rw [if_neg c42] at H
              exact absurd H (by simp)
            ·rw [if_neg c41] at H
             exact absurd H (by simp)
           ·rw [if_neg c40] at H
            have c40b0 : decide (x37_3 < (((rd_T45 l0_0 x12_1).f5).length : Int)) = false := decide_eq_false c40
            clear c40
            have H' := qM H
            clear H
            go_wp2
            go_roundg k3
            case measure => have := HK1.out; have := HJ11.out; have := HK3.out; omega
            case rel => exact ⟨(wrap64 (x12_1 + 1)), (x108000_3), (x108001_3), (x108002_3), (x108003_3), (by first | rfl | (simp; done) | (simp [*]; done)), H', ⟨by have := HK1.out; have := HJ11.out; have := HK3.out; omega⟩, ⟨by (with_reducible repeat first | refine qN ?_ _ | refine qD ?_ | refine qA ?_ _); exact B105.out⟩, ⟨by (with_reducible repeat first | refine qN ?_ _ | refine qD ?_ | refine qA ?_ _); exact B106.out⟩, ⟨by (with_reducible repeat first | refine qN ?_ _ | refine qD ?_ | refine qA ?_ _); exact B107.out⟩, ⟨by repeat (first | (with_reducible first | exact HB.out | apply eA | apply eN | apply eD | refine eS ?_ GE105.out | refine eS ?_ GE106.out | refine eS ?_ GE107.out | refine eS ?_ GE109.out) | exact HB.out)⟩⟩
     ·rw [if_neg c10] at H
      exact absurd H (by simp)
    ·rw [if_neg c9] at H
     exact absurd H (by simp)
   ·rw [if_neg c8] at H
    have c8b0 : decide (x12_1 < (l0_0.length : Int)) = false := decide_eq_false c8
    clear c8
    simp only [Option.some.injEq, Prod.mk.injEq] at H
    obtain ⟨rfl, rfl, rfl, rfl⟩ := H
    have hnb59 := NB107_105.out
    have hnc59 := NB105_107.out
    have hnb60 := NB107_106.out
    have hnc60 := NB106_107.out
    obtain ⟨z61_0, z61_1, z61_2, z61_3, f61_0, f61_1, f61_2, f61_3⟩ := cells4 B107.out
    have hnb62 := NB106_105.out
    have hnc62 := NB105_106.out
    obtain ⟨z63_0, z63_1, z63_2, z63_3, f63_0, f63_1, f63_2, f63_3⟩ := cells4 B106.out
    go_wp2
    refine bodyPost_ret (results_cell_row rfl _ _ g106 29 #[.int .i64 x108000_1, .int .i64 x108001_1, .int .i64 x108002_1, .int .i64 x108003_1] (0, 0) _ rfl (by (with_reducible repeat first | refine qN ?_ _ | refine qD ?_ | refine qA ?_ _); apply puts4; (with_reducible repeat first | refine qN ?_ _ | refine qD ?_ | refine qA ?_ _); exact B106.out) Try.underlying29 rfl (by kernel_rfl)) rfl ?_
    exact ⟨by first | rfl | (simp [errW_none, errW_some] <;> rfl) | (simp [*, errW_none, errW_some] <;> rfl), by repeat (first | (with_reducible first | exact HB.out | apply eA | apply eN | apply eD | refine eS ?_ GE105.out | refine eS ?_ GE106.out | refine eS ?_ GE107.out) | exact HB.out)⟩

end Go.Proofs.Ytlfonfceaiiinaa.PAll
