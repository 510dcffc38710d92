/- Functions of the program as plain Lean functions, and that each call comes to what they say. Laid by a program of this session (hprint.py); Lean checks it. -/
import Derived.Test.YtabegniabilcpaaPAllx0
namespace Go.Proofs.Ytabegniabilcpaa.PAll
open Go.RowKit Go.Proofs.YtabegniabilcpaaW.PrintWords Go.Proofs.YtabegniabilcpaaW.PrintLast Go.Proofs.YtabegniabilcpaaW.PrintMore
attribute [local go_sem] max2_int min2_int max_two min_two max_three min_three max_four min_four   -- for this text's walks alone
set_option linter.unusedVariables false
set_option linter.unusedSimpArgs false

/-! ### hogsheadref02_Step: function 14 -/
def hogsheadref02_Step.l0 : Nat → Int → Int → Int → Option (Int)
 | 0, _, _, _ => none
 | k + 1, x0, x1, x5 => if x5 < 8 then (if (Go.bits .xor .u32 ((Int.tdiv x0 2147483648) % 4294967296) ((Int.tdiv x1 128) % 256)) = 1 then (hogsheadref02_Step.l0 k (Go.bits .xor .u32 (((Int.tmod x0 2147483648) * 2) % 4294967296) 79764919) (((Int.tmod x1 128) * 2) % 256) (wrap64 (x5 + 1))) else (hogsheadref02_Step.l0 k (((Int.tmod x0 2147483648) * 2) % 4294967296) (((Int.tmod x1 128) * 2) % 256) (wrap64 (x5 + 1)))) else (some x0)
def hogsheadref02_Step.f (k : Nat) (a0 : Int) (a1 : Int) : Option (Int) := hogsheadref02_Step.l0 k a0 a1 0
theorem hogsheadref02_Step.mono_l : ∀ k, (∀ y0 y1 y2, LeO (hogsheadref02_Step.l0 k y0 y1 y2) (hogsheadref02_Step.l0 (k + 1) y0 y1 y2))
 | 0 => fun _ _ _ r h => by simp [hogsheadref02_Step.l0] at h
 | k + 1 => by
  have ih0 := hogsheadref02_Step.mono_l k
  ·intro y0 y1 y2
   unfold hogsheadref02_Step.l0
   repeat' first
   | (with_reducible exact ih0 _ _ _)
   | (with_reducible exact LeO.refl _)
   | (with_reducible exact LeO.none _)
   | (with_reducible refine LeO.ite ?_ ?_)
   | (with_reducible refine LeO.bind ?_ (fun _ => ?_))
   | exact ih0 _ _ _
   | exact LeO.none _
   | refine LeO.ite ?_ ?_
   | refine LeO.bind ?_ (fun _ => ?_)
theorem hogsheadref02_Step.mono : ∀ a0 a1 k, LeO (hogsheadref02_Step.f k a0 a1) (hogsheadref02_Step.f (k + 1) a0 a1) := by
 intro a0 a1 k
 have ih0 := hogsheadref02_Step.mono_l k
 unfold hogsheadref02_Step.f
 repeat' first
   | (with_reducible exact ih0 _ _ _)
   | (with_reducible exact LeO.refl _)
   | (with_reducible exact LeO.none _)
   | (with_reducible refine LeO.ite ?_ ?_)
   | (with_reducible refine LeO.bind ?_ (fun _ => ?_))
   | exact ih0 _ _ _
   | exact LeO.none _
   | refine LeO.ite ?_ ?_
   | refine LeO.bind ?_ (fun _ => ?_)
set_option maxHeartbeats 40000000 in
set_option maxRecDepth 100000 in
theorem hogsheadref02_Step.calls (k : Nat) (a0 : Int) (a1 : Int) (r : Int) (w : World) (h : hogsheadref02_Step.f k a0 a1 = some r) :
  Calls Try.prog 14 #[.int .u32 a0, .int .u8 a1] w fun e w' => e = .returned (.int .u32 r) ∧ Drawn0 w w' := by
 have H : (hogsheadref02_Step.l0 k a0 a1 0) = some r := h
 clear h
 have H' := qM H
 clear H
 go_enter Try.func14, Try.ntmps14
 go_wp2
 go_loopg [0, 1, 5] k (fun kq v0 v1 v5 w' => ∃ (x0_1 : Int) (x1_1 : Int) (x5_1 : Int), v0 = .int .u32 x0_1 ∧ v1 = .int .u8 x1_1 ∧ v5 = .int .i64 x5_1 ∧ Aside0 (hogsheadref02_Step.l0 kq x0_1 x1_1 x5_1 = some r) ∧ Aside0 (kq ≤ k) ∧ Drawn0 w w')
 case atStart => exact ⟨(a0), (a1), (0), (by first | rfl | (simp; done) | (simp [*]; done)), (by first | rfl | (simp; done) | (simp [*]; done)), (by first | rfl | (simp; done) | (simp [*]; done)), H', ⟨Nat.le_refl _⟩, by repeat (first | exact Drawn0.refl _ | apply Drawn0.step)⟩
 case round =>
  clear H'
  try clear c1
  try clear p2
  obtain ⟨x0_1, x1_1, x5_1, rfl, rfl, rfl, HA, HK1, ⟨m1, rfl⟩⟩ := hrel
  cases gk with
  | zero => exact absurd HA.out (by simp [hogsheadref02_Step.l0])
  | succ k1 =>
   have H := HA.out
   clear HA
   simp only [hogsheadref02_Step.l0] at H
   by_cases c3 : x5_1 < 8
   ·rw [if_pos c3] at H
    have c3b0 : decide (x5_1 < 8) = true := decide_eq_true c3
    clear c3
    by_cases c4 : (Go.bits .xor .u32 ((Int.tdiv x0_1 2147483648) % 4294967296) ((Int.tdiv x1_1 128) % 256)) = 1
    ·rw [if_pos c4] at H
     have c4b0 : ((Go.bits .xor .u32 ((Int.tdiv x0_1 2147483648) % 4294967296) ((Int.tdiv x1_1 128) % 256)) == 1) = true := beq_iff_eq.mpr c4
     have c4b1 : ((Go.bits .xor .u32 ((Int.tdiv x0_1 2147483648) % 4294967296) ((Int.tdiv x1_1 128) % 256)) != 1) = false := bne_eq_false_iff_eq.mpr c4
     clear c4
     have H' := qM H
     clear H
     go_wp2
     go_roundg k1
     case measure => have := HK1.out; omega
     case rel => exact ⟨(Go.bits .xor .u32 (((Int.tmod x0_1 2147483648) * 2) % 4294967296) 79764919), (((Int.tmod x1_1 128) * 2) % 256), (wrap64 (x5_1 + 1)), (by first | rfl | (simp; done) | (simp [*]; done)), (by first | rfl | (simp; done) | (simp [*]; done)), (by first | rfl | (simp; done) | (simp [*]; done)), H', ⟨by have := HK1.out; omega⟩, by repeat (first | exact Drawn0.refl _ | apply Drawn0.step)⟩
    ·rw [if_neg c4] at H
     have c4b0 : ((Go.bits .xor .u32 ((Int.tdiv x0_1 2147483648) % 4294967296) ((Int.tdiv x1_1 128) % 256)) == 1) = false := beq_eq_false_iff_ne.mpr c4
     have c4b1 : ((Go.bits .xor .u32 ((Int.tdiv x0_1 2147483648) % 4294967296) ((Int.tdiv x1_1 128) % 256)) != 1) = true := bne_iff_ne.mpr c4
     have H' := qM H
     clear H
     go_wp2
     go_roundg k1
     case measure => have := HK1.out; omega
     case rel => exact ⟨(((Int.tmod x0_1 2147483648) * 2) % 4294967296), (((Int.tmod x1_1 128) * 2) % 256), (wrap64 (x5_1 + 1)), (by first | rfl | (simp; done) | (simp [*]; done)), (by first | rfl | (simp; done) | (simp [*]; done)), (by first | rfl | (simp; done) | (simp [*]; done)), H', ⟨by have := HK1.out; omega⟩, by repeat (first | exact Drawn0.refl _ | apply Drawn0.step)⟩
   ·rw [if_neg c3] at H
    have c3b0 : decide (x5_1 < 8) = false := decide_eq_false c3
    clear c3
    obtain rfl := Option.some.inj H
    go_wp2
    go_ret
    exact ⟨by first | rfl | (simp; done) | (simp [*]; done), by repeat (first | exact Drawn0.refl _ | apply Drawn0.step)⟩

/-! ### hogsheadref02_Sum: function 16 -/
def hogsheadref02_Sum.l0 : Nat → ByteArray → Int → Int → Option (Int)
 | 0, _, _, _ => none
 | k + 1, x0, x3, x4 => if x4 < (x0.size : Int) then (if 0 ≤ x4 then ((hogsheadref02_Step.f k x3 (bt x0 x4)).bind fun t107 => (hogsheadref02_Sum.l0 k x0 t107 (wrap64 (x4 + 1)))) else (none)) else (some (Go.bits .xor .u32 x3 4294967295))
def hogsheadref02_Sum.f (k : Nat) (a0 : ByteArray) : Option (Int) := hogsheadref02_Sum.l0 k a0 4294967295 0
theorem hogsheadref02_Sum.mono_l : ∀ k, (∀ y0 y1 y2, LeO (hogsheadref02_Sum.l0 k y0 y1 y2) (hogsheadref02_Sum.l0 (k + 1) y0 y1 y2))
 | 0 => fun _ _ _ r h => by simp [hogsheadref02_Sum.l0] at h
 | k + 1 => by
  have ih0 := hogsheadref02_Sum.mono_l k
  ·intro y0 y1 y2
   unfold hogsheadref02_Sum.l0
   repeat' first
   | (with_reducible exact ih0 _ _ _)
   | (with_reducible exact hogsheadref02_Step.mono _ _ _)
   | (with_reducible exact LeO.refl _)
   | (with_reducible exact LeO.none _)
   | (with_reducible refine LeO.ite ?_ ?_)
   | (with_reducible refine LeO.bind ?_ (fun _ => ?_))
   | exact ih0 _ _ _
   | exact hogsheadref02_Step.mono _ _ _
   | exact LeO.none _
   | refine LeO.ite ?_ ?_
   | refine LeO.bind ?_ (fun _ => ?_)
theorem hogsheadref02_Sum.mono : ∀ a0 k, LeO (hogsheadref02_Sum.f k a0) (hogsheadref02_Sum.f (k + 1) a0) := by
 intro a0 k
 have ih0 := hogsheadref02_Sum.mono_l k
 unfold hogsheadref02_Sum.f
 repeat' first
   | (with_reducible exact ih0 _ _ _)
   | (with_reducible exact hogsheadref02_Step.mono _ _ _)
   | (with_reducible exact LeO.refl _)
   | (with_reducible exact LeO.none _)
   | (with_reducible refine LeO.ite ?_ ?_)
   | (with_reducible refine LeO.bind ?_ (fun _ => ?_))
   | exact ih0 _ _ _
   | exact hogsheadref02_Step.mono _ _ _
   | exact LeO.none _
   | refine LeO.ite ?_ ?_
   | refine LeO.bind ?_ (fun _ => ?_)
set_option maxHeartbeats 40000000 in
set_option maxRecDepth 100000 in
theorem hogsheadref02_Sum.calls (k : Nat) (a0 : ByteArray) (r : Int) (w : World) (h : hogsheadref02_Sum.f k a0 = some r) :
  Calls Try.prog 16 #[.string a0] w fun e w' => e = .returned (.int .u32 r) ∧ Drawn0 w w' := by
 have H : (hogsheadref02_Sum.l0 k a0 4294967295 0) = some r := h
 clear h
 have H' := qM H
 clear H
 go_enter Try.func16, Try.ntmps16
 go_wp2
 go_loopg [3, 4] k (fun kq v3 v4 w' => ∃ (x3_1 : Int) (x4_1 : Int), v3 = .int .u32 x3_1 ∧ v4 = .int .i64 x4_1 ∧ Aside0 (hogsheadref02_Sum.l0 kq a0 x3_1 x4_1 = some r) ∧ Aside0 (kq ≤ k) ∧ Drawn0 w w')
 case atStart => exact ⟨(4294967295), (0), (by first | rfl | (simp; done) | (simp [*]; done)), (by first | rfl | (simp; done) | (simp [*]; done)), H', ⟨Nat.le_refl _⟩, by repeat (first | exact Drawn0.refl _ | apply Drawn0.step)⟩
 case round =>
  clear H'
  try clear c1
  obtain ⟨x3_1, x4_1, rfl, rfl, HA, HK1, ⟨m1, rfl⟩⟩ := hrel
  cases gk with
  | zero => exact absurd HA.out (by simp [hogsheadref02_Sum.l0])
  | succ k1 =>
   have H := HA.out
   clear HA
   simp only [hogsheadref02_Sum.l0] at H
   by_cases c2 : x4_1 < (a0.size : Int)
   ·rw [if_pos c2] at H
    have c2b0 : decide (x4_1 < (a0.size : Int)) = true := decide_eq_true c2
    clear c2
    by_cases c3 : 0 ≤ x4_1
    ·rw [if_pos c3] at H
     have c3b0 : decide (0 ≤ x4_1) = true := decide_eq_true c3
     clear c3
     replace H := Option.bind_eq_some_iff.mp H
     obtain ⟨t107, A50, H⟩ := H
     replace H : (hogsheadref02_Sum.l0 k1 a0 t107 (wrap64 (x4_1 + 1))) = some r := H
     have A5 := qM A50
     clear A50
     have H' := qM H
     clear H
     have p4 : 0 ≤ (x4_1 : Int) := of_decide_eq_true (by first | (with_reducible assumption) | assumption)
     have q4 : x4_1 < (a0.size : Int) := of_decide_eq_true (by first | (with_reducible assumption) | assumption)
     have hx4 := bt_at a0 x4_1
     replace p4 := eq_true p4
     replace q4 := eq_true q4
     go_wp2_with (first | ((with_reducible refine gate_callee (f := 14) rfl ?_); refine goesL_ (some 15) rfl rfl Try.func14 (by kernel_rfl) rfl #[.int .u32 x3_1, .int .u8 (bt a0 x4_1)] rfl (by (try simp only [List.map_toArray, List.map_cons, List.map_nil]); first | done | rfl | (simp only [List.length_drop, List.length_take]; rfl)) ?_; (with_reducible refine (hogsheadref02_Step.calls k1 x3_1 (bt a0 x4_1) t107 _ A5.out).mono ?_); rintro e w' ⟨rfl, ⟨nd, rfl⟩⟩; refine ⟨_, rfl, ?_⟩))
     go_roundg k1
     case measure => have := HK1.out; omega
     case rel => exact ⟨(t107), (wrap64 (x4_1 + 1)), (by first | rfl | (simp; done) | (simp [*]; done)), (by first | rfl | (simp; done) | (simp [*]; done)), H', ⟨by have := HK1.out; omega⟩, by repeat (first | exact Drawn0.refl _ | apply Drawn0.step)⟩
    ·rw [if_neg c3] at H
     exact absurd H (by simp)
   ·rw [if_neg c2] at H
    have c2b0 : decide (x4_1 < (a0.size : Int)) = false := decide_eq_false c2
    clear c2
    obtain rfl := Option.some.inj H
    go_wp2
    go_ret
    exact ⟨by first | rfl | (simp; done) | (simp [*]; done), by repeat (first | exact Drawn0.refl _ | apply Drawn0.step)⟩

/-! ### hogsheadref02_Seal: function 18 -/
def hogsheadref02_Seal.f (k : Nat) (a0 : ByteArray) : Option (ByteArray) := (hogsheadref02_Sum.f k a0).bind fun t108 => ((some (([((Int.tdiv t108 16777216) % 4294967296) % 256, ((Int.tdiv t108 65536) % 4294967296) % 256, ((Int.tdiv t108 256) % 4294967296) % 256, (Int.tmod t108 256) % 256] : List Int) : List Int)).bind fun y109 => (if a0.size + (strOfNums y109).size ≤ 9223372036854775807 then (some (a0 ++ (strOfNums y109))) else (none)))
theorem hogsheadref02_Seal.mono : ∀ a0 k, LeO (hogsheadref02_Seal.f k a0) (hogsheadref02_Seal.f (k + 1) a0) := by
 intro a0 k
 unfold hogsheadref02_Seal.f
 repeat' first
   | (with_reducible exact hogsheadref02_Sum.mono _ _)
   | (with_reducible exact LeO.refl _)
   | (with_reducible exact LeO.none _)
   | (with_reducible refine LeO.ite ?_ ?_)
   | (with_reducible refine LeO.bind ?_ (fun _ => ?_))
   | exact hogsheadref02_Sum.mono _ _
   | exact LeO.none _
   | refine LeO.ite ?_ ?_
   | refine LeO.bind ?_ (fun _ => ?_)
set_option maxHeartbeats 40000000 in
set_option maxRecDepth 100000 in
theorem hogsheadref02_Seal.calls (k : Nat) (a0 : ByteArray) (r : ByteArray) (w : World) (h : hogsheadref02_Seal.f k a0 = some r) :
  Calls Try.prog 18 #[.string a0] w fun e w' => e = .returned (.string r) ∧ Below w.heap.size w w' := by
 have HB := qM (Below.refl w.heap.size w)
 have H : ((hogsheadref02_Sum.f k a0).bind fun t108 => ((some (([((Int.tdiv t108 16777216) % 4294967296) % 256, ((Int.tdiv t108 65536) % 4294967296) % 256, ((Int.tdiv t108 256) % 4294967296) % 256, (Int.tmod t108 256) % 256] : List Int) : List Int)).bind fun y109 => (if a0.size + (strOfNums y109).size ≤ 9223372036854775807 then (some (a0 ++ (strOfNums y109))) else (none)))) = some r := h
 clear h
 replace H := Option.bind_eq_some_iff.mp H
 obtain ⟨t108, A20, H⟩ := H
 replace H : ((some (([((Int.tdiv t108 16777216) % 4294967296) % 256, ((Int.tdiv t108 65536) % 4294967296) % 256, ((Int.tdiv t108 256) % 4294967296) % 256, (Int.tmod t108 256) % 256] : List Int) : List Int)).bind fun y109 => (if a0.size + (strOfNums y109).size ≤ 9223372036854775807 then (some (a0 ++ (strOfNums y109))) else (none))) = some r := H
 have A2 := qM A20
 clear A20
 obtain ⟨y109, hy109⟩ : ∃ y_ : List Int, y_ = (([((Int.tdiv t108 16777216) % 4294967296) % 256, ((Int.tdiv t108 65536) % 4294967296) % 256, ((Int.tdiv t108 256) % 4294967296) % 256, (Int.tmod t108 256) % 256] : List Int)) := ⟨_, rfl⟩
 replace H : (if a0.size + (strOfNums y109).size ≤ 9223372036854775807 then (some (a0 ++ (strOfNums y109))) else (none)) = some r := by first | (rw [hy109]; with_reducible exact H) | (have H2_ := (Option.bind_some _ _).symm.trans H; rw [hy109]; with_reducible exact H2_) | (have H2_ := (Option.bind_some _ _).symm.trans H; with_reducible exact H2_) | with_reducible exact H | (rw [hy109]; exact H) | exact H
 have Ny109 := qM hy109
 clear hy109
 by_cases c3 : a0.size + (strOfNums y109).size ≤ 9223372036854775807
 ·rw [if_pos c3] at H
  have c3b0 := eq_true c3
  have c3b1 : decide (a0.size + (strOfNums y109).size ≤ 9223372036854775807) = true := decide_eq_true c3
  try have c3b2 : (9223372036854775807 < a0.size + (strOfNums y109).size) = False := eq_false (Nat.not_lt.2 c3)
  obtain rfl := Option.some.inj H
  go_enter Try.func18, Try.ntmps18
  go_wp2_with (first | ((with_reducible refine gate_callee (f := 16) rfl ?_); refine goesL_ (some 5) rfl rfl Try.func16 (by kernel_rfl) rfl #[.string a0] rfl (by (try simp only [List.map_toArray, List.map_cons, List.map_nil]); first | done | rfl | (simp only [List.length_drop, List.length_take]; rfl)) ?_; (with_reducible refine (hogsheadref02_Sum.calls k a0 t108 _ A2.out).mono ?_); rintro e w' ⟨rfl, ⟨nd, rfl⟩⟩; refine ⟨_, rfl, ?_⟩) | ((with_reducible refine gate_dst (N := 21) rfl ?_); refine Kd.R_lit (Kd.int .u8) _ 5 ?hg (N := 21) ?hd (xs := ([((Int.tdiv t108 16777216) % 4294967296) % 256, ((Int.tdiv t108 65536) % 4294967296) % 256, ((Int.tdiv t108 256) % 4294967296) % 256, (Int.tmod t108 256) % 256] : List Int)) (inner := [.int .u8 (((Int.tdiv t108 16777216) % 4294967296) % 256), .int .u8 (((Int.tdiv t108 65536) % 4294967296) % 256), .int .u8 (((Int.tdiv t108 256) % 4294967296) % 256), .int .u8 ((Int.tmod t108 256) % 256)]) (ok := fun _ => True) (okp := fun _ => True) ?hr ?hp (fun _ hk => hk) trivial (Below.refl _ _) (Nat.le_refl _) (by simp) ?_; (case hd => rfl); (case hg => rfl); (case hr => first | (go_simp; done) | (go_simp; rfl)); (case hp => exact (Reps.one (show Kd.M (Kd.int .u8) _ _ _ (((Int.tdiv t108 16777216) % 4294967296) % 256) [.int .u8 (((Int.tdiv t108 16777216) % 4294967296) % 256)] from rfl) (Reps.one (show Kd.M (Kd.int .u8) _ _ _ (((Int.tdiv t108 65536) % 4294967296) % 256) [.int .u8 (((Int.tdiv t108 65536) % 4294967296) % 256)] from rfl) (Reps.one (show Kd.M (Kd.int .u8) _ _ _ (((Int.tdiv t108 256) % 4294967296) % 256) [.int .u8 (((Int.tdiv t108 256) % 4294967296) % 256)] from rfl) (Reps.one (show Kd.M (Kd.int .u8) _ _ _ ((Int.tmod t108 256) % 256) [.int .u8 ((Int.tmod t108 256) % 256)] from rfl) (Reps.none _ _)))))); intro v110 w4 ho5 hb hg_ hnew_; clear hg_ hnew_; (first | rw [← Ny109.out] at ho5 | (simp only [Int.reduceToNat] at ho5; rw [← Ny109.out] at ho5)); have n0_ := qM (Kd.R_lower ho5 (eZ (by repeat (first | (with_reducible first | exact HB.out | apply eA | apply eN | apply eD) | exact HB.out)))); have n1_ := qM (eT (by repeat (first | (with_reducible first | exact HB.out | apply eA | apply eN | apply eD) | exact HB.out)) hb); clear HB; have HO111 := n0_; have HB := n1_; clear n0_ n1_; clear hb ho5; have hcv6 := own_string (P := Try.prog) Try.underlying39 Try.underlying5 Try.underlying9 (Kd.own_of_R HO111.out)))
  go_ret
  exact ⟨by first | rfl | (simp [errW_none, errW_some] <;> rfl) | (simp [*, errW_none, errW_some] <;> rfl), by repeat (first | (with_reducible first | exact HB.out | apply eA | apply eN | apply eD) | exact HB.out)⟩
 ·rw [if_neg c3] at H
  exact absurd H (by simp)

end Go.Proofs.Ytabegniabilcpaa.PAll
