/- Functions of the program as plain Lean functions, and that each call comes to what they say. Laid by a program of this session (hprint.py); Lean checks it. -/
import Derived.Test.YtabegniabilcpaaPAllx0
namespace Go.Proofs.Ytabegniabilcpaa.PAll
open Go.RowKit Go.Proofs.YtabegniabilcpaaW.PrintWords Go.Proofs.YtabegniabilcpaaW.PrintLast Go.Proofs.YtabegniabilcpaaW.PrintMore
attribute [local go_sem] max2_int min2_int max_two min_two max_three min_three max_four min_four   -- for this text's walks alone
set_option linter.unusedVariables false
set_option linter.unusedSimpArgs false

/-! ### crc_Step: function 13 -/
def crc_Step.l0 : Nat → Int → Int → Option (Int)
 | 0, _, _ => none
 | k + 1, x0, x11 => if x11 < 8 then (if (x0 / 2147483648) = 1 then (crc_Step.l0 k (Go.bits .xor .u32 ((x0 * 2) % 4294967296) 79764919) (wrap64 (x11 + 1))) else (crc_Step.l0 k ((x0 * 2) % 4294967296) (wrap64 (x11 + 1)))) else (some x0)
def crc_Step.f (k : Nat) (a0 : Int) (a1 : Int) : Option (Int) := crc_Step.l0 k (Go.bits .xor .u32 a0 ((((a1) % 4294967296) * 16777216) % 4294967296)) 0
theorem crc_Step.mono_l : ∀ k, (∀ y0 y1, LeO (crc_Step.l0 k y0 y1) (crc_Step.l0 (k + 1) y0 y1))
 | 0 => fun _ _ r h => by simp [crc_Step.l0] at h
 | k + 1 => by
  have ih0 := crc_Step.mono_l k
  ·intro y0 y1
   unfold crc_Step.l0
   repeat' first
   | (with_reducible exact ih0 _ _)
   | (with_reducible exact LeO.refl _)
   | (with_reducible exact LeO.none _)
   | (with_reducible refine LeO.ite ?_ ?_)
   | (with_reducible refine LeO.bind ?_ (fun _ => ?_))
   | exact ih0 _ _
   | exact LeO.none _
   | refine LeO.ite ?_ ?_
   | refine LeO.bind ?_ (fun _ => ?_)
theorem crc_Step.mono : ∀ a0 a1 k, LeO (crc_Step.f k a0 a1) (crc_Step.f (k + 1) a0 a1) := by
 intro a0 a1 k
 have ih0 := crc_Step.mono_l k
 unfold crc_Step.f
 repeat' first
   | (with_reducible exact ih0 _ _)
   | (with_reducible exact LeO.refl _)
   | (with_reducible exact LeO.none _)
   | (with_reducible refine LeO.ite ?_ ?_)
   | (with_reducible refine LeO.bind ?_ (fun _ => ?_))
   | exact ih0 _ _
   | exact LeO.none _
   | refine LeO.ite ?_ ?_
   | refine LeO.bind ?_ (fun _ => ?_)
set_option maxHeartbeats 40000000 in
set_option maxRecDepth 100000 in
theorem crc_Step.calls (k : Nat) (a0 : Int) (a1 : Int) (r : Int) (w : World) (h : crc_Step.f k a0 a1 = some r) :
  Calls Try.prog 13 #[.int .u32 a0, .int .u8 a1] w fun e w' => e = .returned (.int .u32 r) ∧ Drawn0 w w' := by
 have H : (crc_Step.l0 k (Go.bits .xor .u32 a0 ((((a1) % 4294967296) * 16777216) % 4294967296)) 0) = some r := h
 clear h
 have H' := qM H
 clear H
 go_enter Try.func13, Try.ntmps13
 go_wp2
 go_loopg [0, 11] k (fun kq v0 v11 w' => ∃ (x0_1 : Int) (x11_1 : Int), v0 = .int .u32 x0_1 ∧ v11 = .int .i64 x11_1 ∧ Aside0 (crc_Step.l0 kq x0_1 x11_1 = some r) ∧ Aside0 (kq ≤ k) ∧ Drawn0 w w')
 case atStart => exact ⟨(Go.bits .xor .u32 a0 ((((a1) % 4294967296) * 16777216) % 4294967296)), (0), (by first | rfl | (simp; done) | (simp [*]; done)), (by first | rfl | (simp; done) | (simp [*]; done)), H', ⟨Nat.le_refl _⟩, by repeat (first | exact Drawn0.refl _ | apply Drawn0.step)⟩
 case round =>
  clear H'
  try clear c1
  try clear p2
  obtain ⟨x0_1, x11_1, rfl, rfl, HA, HK1, ⟨m1, rfl⟩⟩ := hrel
  cases gk with
  | zero => exact absurd HA.out (by simp [crc_Step.l0])
  | succ k1 =>
   have H := HA.out
   clear HA
   simp only [crc_Step.l0] at H
   by_cases c3 : x11_1 < 8
   ·rw [if_pos c3] at H
    have c3b0 : decide (x11_1 < 8) = true := decide_eq_true c3
    clear c3
    by_cases c4 : (x0_1 / 2147483648) = 1
    ·rw [if_pos c4] at H
     have c4b0 : ((x0_1 / 2147483648) == 1) = true := beq_iff_eq.mpr c4
     have c4b1 : ((x0_1 / 2147483648) != 1) = false := bne_eq_false_iff_eq.mpr c4
     clear c4
     have H' := qM H
     clear H
     go_wp2
     go_roundg k1
     case measure => have := HK1.out; omega
     case rel => exact ⟨(Go.bits .xor .u32 ((x0_1 * 2) % 4294967296) 79764919), (wrap64 (x11_1 + 1)), (by first | rfl | (simp; done) | (simp [*]; done)), (by first | rfl | (simp; done) | (simp [*]; done)), H', ⟨by have := HK1.out; omega⟩, by repeat (first | exact Drawn0.refl _ | apply Drawn0.step)⟩
    ·rw [if_neg c4] at H
     have c4b0 : ((x0_1 / 2147483648) == 1) = false := beq_eq_false_iff_ne.mpr c4
     have c4b1 : ((x0_1 / 2147483648) != 1) = true := bne_iff_ne.mpr c4
     have H' := qM H
     clear H
     go_wp2
     go_roundg k1
     case measure => have := HK1.out; omega
     case rel => exact ⟨((x0_1 * 2) % 4294967296), (wrap64 (x11_1 + 1)), (by first | rfl | (simp; done) | (simp [*]; done)), (by first | rfl | (simp; done) | (simp [*]; done)), H', ⟨by have := HK1.out; omega⟩, by repeat (first | exact Drawn0.refl _ | apply Drawn0.step)⟩
   ·rw [if_neg c3] at H
    have c3b0 : decide (x11_1 < 8) = false := decide_eq_false c3
    clear c3
    obtain rfl := Option.some.inj H
    go_wp2
    go_ret
    exact ⟨by first | rfl | (simp; done) | (simp [*]; done), by repeat (first | exact Drawn0.refl _ | apply Drawn0.step)⟩

-- NOT PRINTED: function 21 (crc_table)

-- NOT PRINTED: function 22 (crc_Sum_1)

/-! ### crc_Sum: function 15 -/
/-- The register behind byte i, of the register 0. -/
def crc_tabAt (i : Nat) : Int := (crc_Step.f 10 0 (i : Int)).getD 0
theorem crc_tab_steps : ∀ i : Nat, i < 256 → crc_Step.f 10 0 (i : Int) = some (crc_tabAt i) := by
  have h : ∀ i : Nat, i < 256 → (crc_Step.f 10 0 (i : Int)).isSome = true := by decide +kernel
  intro i hi
  obtain ⟨x, hx⟩ := Option.isSome_iff_exists.1 (h i hi)
  unfold crc_tabAt
  rw [hx]
  rfl
/-- A table of n places when j of them are filled. -/
def crc_midN (n j : Nat) : Array Value := ((List.range n).map fun i => if i < j then Value.int .u32 (crc_tabAt i) else .int .u32 0).toArray
theorem crc_midN_size (n j : Nat) : (crc_midN n j).size = n := by simp [crc_midN]
theorem crc_midN_get (n j i : Nat) (hi : i < n) : (crc_midN n j)[i]? = some (if i < j then Value.int .u32 (crc_tabAt i) else .int .u32 0) := by
  simp [crc_midN, hi]
theorem crc_midN_set (n j : Nat) (hj : j < n) : (crc_midN n j).setIfInBounds j (.int .u32 (crc_tabAt j)) = crc_midN n (j + 1) := by
  apply Array.ext_getElem?
  intro i
  rw [Array.getElem?_setIfInBounds]
  by_cases hi : i < n
  · rw [crc_midN_get _ _ _ hi, crc_midN_get _ _ _ hi, crc_midN_size]
    by_cases hij : j = i
    · subst hij
      simp [hj]
    · rw [if_neg hij]
      by_cases hlt : i < j
      · rw [if_pos hlt, if_pos (by omega)]
      · rw [if_neg hlt, if_neg (by omega)]
  · have h1 := crc_midN_size n j
    have h2 := crc_midN_size n (j + 1)
    rw [Array.getElem?_eq_none (by omega), Array.getElem?_eq_none (by omega), if_neg (by omega)]
theorem crc_midN_one (n j : Nat) : (crc_midN n j).all (·.oneCell') = true := by
  rw [Array.all_eq_true_iff_forall_mem]
  intro v hv
  simp only [crc_midN, List.mem_toArray, List.mem_map] at hv
  obtain ⟨i, _, rfl⟩ := hv
  split <;> rfl
def crc_mid (j : Nat) : Array Value := crc_midN 256 j

set_option maxRecDepth 100000 in
set_option maxHeartbeats 1000000 in
theorem crc_table.calls (w : World) :
    Calls Try.prog 21 #[] w fun e w' => e = .returned (.agg (crc_mid 256)) ∧ Below w.heap.size w w' := by
  go_enter Try.func21, Try.ntmps21
  go_wp2_with (first | ((with_reducible refine gate_dst (N := 0) rfl ?_); refine box_event ?hg (N := 0) ?hd (cs := crc_mid 0) (t := 42) ?hr ?_; (case hd => rfl); (case hg => rfl); (case hr => kernel_rfl); intro g0 hg0 w1 hb0 hB0; have HG0 := Aside0.mk hg0; have HK0 := Aside0.mk hb0; have HB0 := Aside0.mk hB0; clear hg0 hb0 hB0) | ((with_reducible refine gate_dst (N := 1) rfl ?_); refine box_event ?hg (N := 1) ?hd (cs := crc_mid 0) (t := 42) ?hr ?_; (case hd => rfl); (case hg => rfl); (case hr => kernel_rfl); intro g1 hg1 w2 hb1 hB1; have HG1 := Aside0.mk hg1; have HK1 := Aside0.mk hb1; have HB1 := Aside0.mk hB1; clear hg1 hb1 hB1))
  have hlt : w.heap.size < g1 := by
    rw [HG1.out]
    have := blk_lt HK0.out
    have := HG0.out
    omega
  have HB : Aside0 (Below w.heap.size w w2) := ⟨below_step HB0.out HB1.out⟩
  have HK0' : Aside0 (w2.heap[g0]? = some (.cells (crc_mid 0) 42 (0, 0))) := ⟨(HB1.out.block g0 (blk_lt HK0.out)).trans HK0.out⟩
  have hle : w.heap.size ≤ g0 := by rw [HG0.out]; exact Nat.le_refl _
  have hne : g0 ≠ g1 := by
    have := blk_lt HK0.out
    have := HG1.out
    omega
  clear HB0 HB1 HK0 HG0 HG1
  go_loopw [2, 3] (fun t2 t3 wr => ∃ j : Nat, j ≤ 256 ∧ t3 = .int .i64 j ∧ Aside0 (wr.heap[g1]? = some (.cells (crc_mid j) 42 (0, 0))) ∧ Aside0 (wr.heap[g0]? = some (.cells (crc_mid 0) 42 (0, 0))) ∧ Aside0 (Below w.heap.size w wr)) (fun _ t3 _ => 256 - (intOf t3).toNat)
  case atStart => exact ⟨0, by omega, rfl, HK1, HK0', HB⟩
  case round =>
    clear HK1 HK0' HB
    obtain ⟨j, hj, rfl, HK1, HK0, HB⟩ := hrel
    by_cases hlt2 : j < 256
    · have hstep := Aside0.mk (crc_tab_steps j hlt2)
      have hcell : ∀ W : World, W.heap = wr.heap → W.cell? ⟨g1, j, none⟩ = some (.int .u32 0) := fun W hW => by
        rw [blk_cell (by rw [hW]; exact HK1.out) j, show crc_mid j = crc_midN 256 j from rfl, crc_midN_get _ _ _ hlt2, if_neg (by omega)]
      have hfz : ∀ W : World, W.heap = wr.heap → W.frozen? ⟨g1, j, none⟩ = false := fun W hW => blk_frozen (by rw [hW]; exact HK1.out) j
      have HC := Aside0.mk hcell
      have HF := Aside0.mk hfz
      clear hcell hfz
      go_wp2_with (go_at_call 13; refine (crc_Step.calls 10 _ _ (crc_tabAt j) _ hstep.out).mono ?_; rintro e w' ⟨rfl, hd⟩; obtain ⟨n, hd⟩ := hd.out; subst hd; have hc1 := HC.out (wr.drewN n) rfl; have hf1 := HF.out (wr.drewN n) rfl)
      go_roundw
      case rel =>
        refine ⟨j + 1, by omega, by go_num, ⟨?_⟩, ⟨?_⟩, ⟨below_set (pw_below_drewN HB.out n) (by omega)⟩⟩
        · exact (blk_set (w := wr.drewN n) HK1.out j _).trans (by rw [show crc_mid j = crc_midN 256 j from rfl, crc_midN_set _ _ hlt2]; rfl)
        · exact blk_far (w := wr.drewN n) HK0.out hne _
      case measure => simp [intOf]; omega
    · have hj2 : j = 256 := by omega
      subst hj2
      go_wp2_with (first | ((with_reducible refine gate_dst (N := 12) rfl ?_); refine wpList_load_row rfl 42 (.tmp 1) rfl g1 rfl 42 _ (0, 0) _ HK1.out Try.underlying42 rfl (by rw [show (crc_mid 256).size = 256 from crc_midN_size _ _]; kernel_rfl) ?_) | ((with_reducible refine gate_ (.store 42 (.tmp 0) (.tmp 12)) rfl ?_); refine wpList_store_row rfl 42 (.tmp 0) (.tmp 12) rfl g0 (crc_mid 256) rfl rfl 42 (crc_mid 0) HK0.out (by rw [show (crc_mid 256).size = 256 from crc_midN_size _ _]; kernel_rfl) (by rw [show (crc_mid 256).size = 256 from crc_midN_size _ _, show (crc_mid 0).size = 256 from crc_midN_size _ _]) (crc_midN_one _ _) ?_))
      refine bodyPost_ret (v := .agg (crc_mid 256)) (results_cell_row (P := Try.prog) (fn := Try.f21) (p := 0) (ty := 42) rfl _ _ g0 42 (crc_mid 256) (0, 0) _ rfl (setRow_heap wr g0 (crc_mid 0) (crc_mid 256) 42 (0, 0) HK0.out) Try.underlying42 rfl (by rw [show (crc_mid 256).size = 256 from crc_midN_size _ _]; kernel_rfl)) rfl ⟨rfl, ?_⟩
      exact HB.out.trans ⟨rfl, rfl, rfl, by simp [World.setRow], fun k hk => setRow_other wr g0 k _ (by omega)⟩

def crc_idx (r b : Int) : Int := Go.bits .xor .u8 (r / 16777216 % 256) b
def crc_one (r b : Int) : Int := Go.bits .xor .u32 (r * 256 % 4294967296) (crc_tabAt (crc_idx r b).toNat)
theorem crc_idx_range (r b : Int) : 0 ≤ crc_idx r b ∧ crc_idx r b < 256 := by
  have h := wf_bits .xor .u8 (r / 16777216 % 256) b
  have hx : 0 ≤ Go.bits .xor .u8 (r / 16777216 % 256) b ∧ Go.bits .xor .u8 (r / 16777216 % 256) b ≤ 255 := by simpa [Lit.wf, IntKind.min, IntKind.max, IntKind.signed, IntKind.bits] using h
  unfold crc_idx
  omega
set_option maxRecDepth 100000 in
set_option maxHeartbeats 400000 in
theorem crc_Sum1.calls (r b : Int) (g : Nat) (w : World) (hc : w.heap[g]? = some (.cells (crc_mid 256) 42 (0, 0))) :
    Calls Try.prog 22 #[.int .u32 r, .int .u8 b, .pointer (some ⟨g, 0, none⟩)] w fun e w' => e = .returned (.int .u32 (crc_one r b)) ∧ w = w' := by
  obtain ⟨h0, h1⟩ := crc_idx_range r b
  have hc : w.cell? ⟨g, (crc_idx r b).toNat, none⟩ = some (.int .u32 (crc_tabAt (crc_idx r b).toNat)) := by
    rw [blk_cell hc, show crc_mid 256 = crc_midN 256 256 from rfl, crc_midN_get _ _ _ (by omega), if_pos (by omega)]
  unfold crc_one
  unfold crc_idx at *
  go_enter Try.func22, Try.ntmps22
  go_wp2
  go_ret
  exact ⟨rfl, rfl⟩

/-- The register behind bytes. -/
def crc_fold (r : Int) (l : List UInt8) : Int := l.foldl (fun r c => crc_one r (c.toNat : Int)) r
def crc_Sum.f (s : ByteArray) : Option Int := if s.size ≤ 9223372036854775807 then some (Go.bits .xor .u32 4294967295 (crc_fold 4294967295 s.data.toList)) else none
theorem crc_fold_snoc (r : Int) (s : ByteArray) (j : Nat) (h : j < s.size) : crc_fold r (s.data.toList.take (j + 1)) = crc_one (crc_fold r (s.data.toList.take j)) (s[j].toNat : Int) := by
  have hl : j < s.data.toList.length := by rw [data_length]; exact h
  rw [List.take_succ_eq_append_getElem hl]
  unfold crc_fold
  rw [List.foldl_append]
  rfl

set_option maxRecDepth 100000 in
set_option maxHeartbeats 1000000 in
theorem crc_Sum.calls (s : ByteArray) (r : Int) (w : World) (h : crc_Sum.f s = some r) :
    Calls Try.prog 15 #[.string s] w fun e w' => e = .returned (.int .u32 r) ∧ Below w.heap.size w w' := by
  unfold crc_Sum.f at h
  split at h
  case isFalse => cases h
  rename_i hs
  obtain rfl := Option.some.inj h
  clear h
  go_enter Try.func15, Try.ntmps15
  go_wp2_with (first | (go_at_call 21; (with_reducible refine (crc_table.calls _).mono ?_); rintro e w1 ⟨rfl, hb⟩; have HB1 := Aside0.mk hb; clear hb) | ((with_reducible refine gate_dst (N := 3) rfl ?_); refine box_event ?hg (N := 3) ?hd (cs := crc_mid 0) (t := 42) ?hr ?_; (case hd => rfl); (case hg => rfl); (case hr => kernel_rfl); intro g1 hg1 w2 hb1 hB1; have HG1 := Aside0.mk hg1; have HK1 := Aside0.mk hb1; have HB2 := Aside0.mk hB1; clear hg1 hb1 hB1) | ((with_reducible refine gate_ (.store 42 (.tmp 3) (.tmp 7)) rfl ?_); refine wpList_store_row rfl 42 (.tmp 3) (.tmp 7) rfl g1 (crc_mid 256) rfl rfl 42 (crc_mid 0) HK1.out (by rw [show (crc_mid 256).size = 256 from crc_midN_size _ _]; kernel_rfl) (by rw [show (crc_mid 256).size = 256 from crc_midN_size _ _, show (crc_mid 0).size = 256 from crc_midN_size _ _]) (crc_midN_one _ _) ?_))
  have HB : Aside0 (Below w.heap.size w (w2.setRow g1 (crc_mid 256))) := ⟨(below_step HB1.out HB2.out).trans ⟨rfl, rfl, rfl, by simp [World.setRow], fun k hk => setRow_other w2 g1 k _ (by have := HG1.out; have := HB1.out.size; omega)⟩⟩
  have HK : Aside0 ((w2.setRow g1 (crc_mid 256)).heap[g1]? = some (.cells (crc_mid 256) 42 (0, 0))) := ⟨setRow_heap w2 g1 (crc_mid 0) (crc_mid 256) 42 (0, 0) HK1.out⟩
  generalize w2.setRow g1 (crc_mid 256) = w3 at *
  clear HB1 HB2 HK1 HG1
  go_loop [5, 6, 11] (fun t5 t6 t11 => ∃ j : Nat, j ≤ s.size ∧ t11 = .int .i64 j ∧ t5 = .int .u32 (crc_fold 4294967295 (s.data.toList.take j))) (fun _ _ t11 => s.size - (intOf t11).toNat)
  case atStart => exact ⟨0, by omega, rfl, rfl⟩
  case round =>
    obtain ⟨j, hj, rfl, rfl⟩ := hrel
    by_cases hlt : j < s.size
    · have hb := bt_at s (j : Int)
      have hsn := Aside0.mk (crc_fold_snoc 4294967295 s j hlt)
      go_wp2_with (go_at_call 22; (with_reducible refine (crc_Sum1.calls _ _ _ _ HK.out).mono ?_); rintro e w' ⟨rfl, rfl⟩)
      go_round
      case rel => exact ⟨j + 1, by omega, by go_num, by rw [hsn.out]⟩
      case measure => simp [intOf]; omega
    · go_wp2
      go_ret
      refine ⟨?_, HB.out⟩
      rw [List.take_of_length_le (by rw [data_length]; omega)]
      rfl

/-! ### crc_laid: function 23 -/
def crc_laid.f (v : Int) : Option ByteArray := some (strOfNums [v / 16777216 % 256, v / 65536 % 256, v / 256 % 256, v % 256])
theorem crc_laid.conv (b0 b1 b2 b3 : Int) (w : World) :
    (convert 39 9 (.slice (some ⟨w.heap.size, 0, none⟩) 4 4)).run Try.prog (w.alloc (.cells #[.int .u8 b0, .int .u8 b1, .int .u8 b2, .int .u8 b3] 45)) = .ok (.string (strOfNums [b0, b1, b2, b3])) (w.alloc (.cells #[.int .u8 b0, .int .u8 b1, .int .u8 b2, .int .u8 b3] 45)) := by
  refine string_of_reads (c := 4) Try.underlying39 Try.underlying5 Try.underlying9 ⟨rfl, by omega, fun _ => ⟨_, rfl, fun j hj => ?_⟩⟩
  rw [add_plain, cell_of_row _ _ _ _ _ _ (heap_alloc_new w _)]
  match j, hj with
  | 0, _ => rfl
  | 1, _ => rfl
  | 2, _ => rfl
  | 3, _ => rfl
set_option maxHeartbeats 400000 in
theorem crc_laid.calls (v : Int) (r : ByteArray) (w : World) (h : crc_laid.f v = some r) :
    Calls Try.prog 23 #[.int .u32 v] w fun e w' => e = .returned (.string r) ∧ Below w.heap.size w w' := by
  obtain rfl := Option.some.inj h
  have hc := crc_laid.conv (v / 16777216 % 256) (v / 65536 % 256) (v / 256 % 256) (v % 256) w
  go_enter Try.func23, Try.ntmps23
  go_wp2
  go_rounds 5
  go_ret
  exact ⟨rfl, (Below.refl _ _).alloc (Nat.le_refl _) _⟩


/-! ### crc_Seal: function 17 -/
def crc_Seal.f (a0 : ByteArray) : Option (ByteArray) := (crc_Sum.f a0).bind fun t101 => ((crc_laid.f t101).bind fun t102 => (if a0.size + t102.size ≤ 9223372036854775807 then (some (a0 ++ t102)) else (none)))
set_option maxHeartbeats 40000000 in
set_option maxRecDepth 100000 in
theorem crc_Seal.calls (a0 : ByteArray) (r : ByteArray) (w : World) (h : crc_Seal.f a0 = some r) :
  Calls Try.prog 17 #[.string a0] w fun e w' => e = .returned (.string r) ∧ Below w.heap.size w w' := by
 have HB := qM (Below.refl w.heap.size w)
 have H : ((crc_Sum.f a0).bind fun t101 => ((crc_laid.f t101).bind fun t102 => (if a0.size + t102.size ≤ 9223372036854775807 then (some (a0 ++ t102)) else (none)))) = some r := h
 clear h
 replace H := Option.bind_eq_some_iff.mp H
 obtain ⟨t101, A20, H⟩ := H
 replace H : ((crc_laid.f t101).bind fun t102 => (if a0.size + t102.size ≤ 9223372036854775807 then (some (a0 ++ t102)) else (none))) = some r := H
 have A2 := qM A20
 clear A20
 replace H := Option.bind_eq_some_iff.mp H
 obtain ⟨t102, A30, H⟩ := H
 replace H : (if a0.size + t102.size ≤ 9223372036854775807 then (some (a0 ++ t102)) else (none)) = some r := H
 have A3 := qM A30
 clear A30
 by_cases c4 : a0.size + t102.size ≤ 9223372036854775807
 ·rw [if_pos c4] at H
  have c4b0 := eq_true c4
  have c4b1 : decide (a0.size + t102.size ≤ 9223372036854775807) = true := decide_eq_true c4
  try have c4b2 : (9223372036854775807 < a0.size + t102.size) = False := eq_false (Nat.not_lt.2 c4)
  obtain rfl := Option.some.inj H
  go_enter Try.func17, Try.ntmps17
  go_wp2_with (first | ((with_reducible refine gate_callee (f := 15) rfl ?_); refine goesL_ (some 5) rfl rfl Try.func15 (by kernel_rfl) rfl #[.string a0] rfl (by (try simp only [List.map_toArray, List.map_cons, List.map_nil]); first | done | rfl | (simp only [List.length_drop, List.length_take]; rfl)) ?_; (with_reducible refine (crc_Sum.calls a0 t101 _ A2.out).mono ?_); rintro e w5 ⟨rfl, hb⟩; refine ⟨_, rfl, ?_⟩; have n0_ := qM (eT (by repeat (first | (with_reducible first | exact HB.out | apply eA | apply eN | apply eD) | exact HB.out)) hb); clear HB; have HB := n0_; clear n0_; (try clear hb); (try clear hb2); (try clear hk); (try clear hi)) | ((with_reducible refine gate_callee (f := 23) rfl ?_); refine goesL_ (some 6) rfl rfl Try.func23 (by kernel_rfl) rfl #[.int .u32 t101] rfl (by (try simp only [List.map_toArray, List.map_cons, List.map_nil]); first | done | rfl | (simp only [List.length_drop, List.length_take]; rfl)) ?_; (with_reducible refine (crc_laid.calls t101 t102 _ A3.out).mono ?_); rintro e w6 ⟨rfl, hb⟩; refine ⟨_, rfl, ?_⟩; have n0_ := qM (eT (by repeat (first | (with_reducible first | exact HB.out | apply eA | apply eN | apply eD) | exact HB.out)) hb); clear HB; have HB := n0_; clear n0_; (try clear hb); (try clear hb2); (try clear hk); (try clear hi)))
  go_ret
  exact ⟨by first | rfl | (simp [errW_none, errW_some] <;> rfl) | (simp [*, errW_none, errW_some] <;> rfl), by repeat (first | (with_reducible first | exact HB.out | apply eA | apply eN | apply eD) | exact HB.out)⟩
 ·rw [if_neg c4] at H
  exact absurd H (by simp)

end Go.Proofs.Ytabegniabilcpaa.PAll
