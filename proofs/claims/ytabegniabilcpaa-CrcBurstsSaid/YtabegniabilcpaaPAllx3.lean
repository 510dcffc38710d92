/- Functions of the program as plain Lean functions, and that each call comes to what they say. Laid by a program of this session (hprint.py); Lean checks it. -/
import Derived.Test.YtabegniabilcpaaPAllx0
import Derived.Test.YtabegniabilcpaaPAllx1
import Derived.Test.YtabegniabilcpaaPAllx2
import Derived.Test.YtabegniabilcpaaFlip
namespace Go.Proofs.Ytabegniabilcpaa.PAll
open Go.RowKit Go.Proofs.YtabegniabilcpaaW.PrintWords Go.Proofs.YtabegniabilcpaaW.PrintLast Go.Proofs.YtabegniabilcpaaW.PrintMore
attribute [local go_sem] max2_int min2_int max_two min_two max_three min_three max_four min_four   -- for this text's walks alone
set_option linter.unusedVariables false
set_option linter.unusedSimpArgs false

/-! ### hogsheadlaw02_CrcBursts: function 10 -/
-- IMPORT Derived.Test.YtabegniabilcpaaFlip
def hogsheadlaw02_CrcBursts.f (a0 : ByteArray) (a1 a2 : Int) : Option Bool := hogsheadlaw02_shown.f.bind fun up => (crc_Seal.f a0).bind fun q => if q.size ≤ 1152921504606846975 ∧ 0 ≤ a2 ∧ a2 < 4294967296 then (if a2 = 0 then some up else if a1 < 0 then some up else if a1 > 8 * (q.size : Int) - 32 then some up else (crc_Open.f ⟨(Mark.turnL 32 q.data.toList a1.toNat a2.toNat).toArray⟩).bind fun t => if up = true then (if t.1.toList = [] then some (t.2 == 13) else some false) else some false) else none
set_option maxHeartbeats 8000000 in
set_option maxRecDepth 100000 in
theorem hogsheadlaw02_CrcBursts.calls (a0 : ByteArray) (a1 a2 : Int) (r : Bool) (w : World) (h : hogsheadlaw02_CrcBursts.f a0 a1 a2 = some r) :
    Calls Try.prog 10 #[.string a0, .int .i64 a1, .int .u32 a2] w fun e w' => e = .returned (.bool r) ∧ Below w.heap.size w w' := by
  unfold hogsheadlaw02_CrcBursts.f at h
  obtain ⟨up, hup, h2⟩ := Option.bind_eq_some_iff.mp h
  clear h
  obtain ⟨q, hq, h⟩ := Option.bind_eq_some_iff.mp h2
  clear h2
  have hg : q.size ≤ 1152921504606846975 ∧ 0 ≤ a2 ∧ a2 < 4294967296 := Decidable.byContradiction fun hg => by
    rw [if_neg hg] at h
    cases h
  rw [if_pos hg] at h
  obtain ⟨hq1, h0, h1⟩ := hg
  obtain ⟨b, rfl⟩ := Int.eq_ofNat_of_zero_le h0
  have HU := qM hup
  have HQ := qM hq
  have HS := qM hq1
  have hw1 : wrap64 (8 * (q.size : Int)) = 8 * (q.size : Int) := by unfold wrap64; omega
  have hw2 : wrap64 (8 * (q.size : Int) - 32) = 8 * (q.size : Int) - 32 := by unfold wrap64; omega
  have Hb := qM h1
  clear hup hq hq1 h0 h1
  by_cases c1 : (b : Int) = 0
  · rw [if_pos c1] at h
    obtain rfl := Option.some.inj h
    clear h
    have c1b : ((b : Int) == 0) = true := beq_iff_eq.mpr c1
    clear c1
    go_enter Try.func10, Try.ntmps10
    go_wp2_with (first | (go_at_call 12; refine (hogsheadlaw02_shown.calls up _ HU.out).mono ?_; rintro e w2 ⟨rfl, hb⟩; have HB2 := qM hb; clear hb) | (go_at_call 17; refine (crc_Seal.calls a0 q _ HQ.out).mono ?_; rintro e w3 ⟨rfl, hb⟩; have HB3 := qM (below_step HB2.out hb); clear hb HB2) | ((with_reducible refine gate_dst (N := 18) rfl ?_); refine Mark.wpList_bytes _ rfl 9 39 5 (.tmp 17) rfl Try.underlying9 Try.underlying39 Try.underlying5 q rfl ?_; intro g c z w4 hgw hcz hcm hk hb; have HK := qM hk; have HB := qM (below_step HB3.out hb); have HG := qM (show w.heap.size ≤ g by rw [hgw]; exact HB3.out.size); have HC := qM hcz; have HM := qM hcm; clear hk hb hgw hcz hcm HB3))
    go_ret
    exact ⟨rfl, HB.out⟩
  · rw [if_neg c1] at h
    have c1b : ((b : Int) == 0) = false := beq_eq_false_iff_ne.mpr c1
    clear c1
    by_cases c2 : a1 < 0
    · rw [if_pos c2] at h
      obtain rfl := Option.some.inj h
      clear h
      have c2b : decide (a1 < 0) = true := decide_eq_true c2
      clear c2
      go_enter Try.func10, Try.ntmps10
      go_wp2_with (first | (go_at_call 12; refine (hogsheadlaw02_shown.calls up _ HU.out).mono ?_; rintro e w2 ⟨rfl, hb⟩; have HB2 := qM hb; clear hb) | (go_at_call 17; refine (crc_Seal.calls a0 q _ HQ.out).mono ?_; rintro e w3 ⟨rfl, hb⟩; have HB3 := qM (below_step HB2.out hb); clear hb HB2) | ((with_reducible refine gate_dst (N := 18) rfl ?_); refine Mark.wpList_bytes _ rfl 9 39 5 (.tmp 17) rfl Try.underlying9 Try.underlying39 Try.underlying5 q rfl ?_; intro g c z w4 hgw hcz hcm hk hb; have HK := qM hk; have HB := qM (below_step HB3.out hb); have HG := qM (show w.heap.size ≤ g by rw [hgw]; exact HB3.out.size); have HC := qM hcz; have HM := qM hcm; clear hk hb hgw hcz hcm HB3))
      go_ret
      exact ⟨rfl, HB.out⟩
    · rw [if_neg c2] at h
      have c2b : decide (a1 < 0) = false := decide_eq_false c2
      obtain ⟨a, rfl⟩ := Int.eq_ofNat_of_zero_le (Int.not_lt.mp c2)
      clear c2
      by_cases c3 : (a : Int) > 8 * (q.size : Int) - 32
      · rw [if_pos c3] at h
        obtain rfl := Option.some.inj h
        clear h
        have c3b : decide ((a : Int) > 8 * (q.size : Int) - 32) = true := decide_eq_true c3
        have c3c : decide (8 * (q.size : Int) - 32 < (a : Int)) = true := decide_eq_true c3
        clear c3
        go_enter Try.func10, Try.ntmps10
        go_wp2_with (first | (go_at_call 12; refine (hogsheadlaw02_shown.calls up _ HU.out).mono ?_; rintro e w2 ⟨rfl, hb⟩; have HB2 := qM hb; clear hb) | (go_at_call 17; refine (crc_Seal.calls a0 q _ HQ.out).mono ?_; rintro e w3 ⟨rfl, hb⟩; have HB3 := qM (below_step HB2.out hb); clear hb HB2) | ((with_reducible refine gate_dst (N := 18) rfl ?_); refine Mark.wpList_bytes _ rfl 9 39 5 (.tmp 17) rfl Try.underlying9 Try.underlying39 Try.underlying5 q rfl ?_; intro g c z w4 hgw hcz hcm hk hb; have HK := qM hk; have HB := qM (below_step HB3.out hb); have HG := qM (show w.heap.size ≤ g by rw [hgw]; exact HB3.out.size); have HC := qM hcz; have HM := qM hcm; clear hk hb hgw hcz hcm HB3))
        go_ret
        exact ⟨rfl, HB.out⟩
      · rw [if_neg c3] at h
        have c3b : decide ((a : Int) > 8 * (q.size : Int) - 32) = false := decide_eq_false c3
        have c3c : decide (8 * (q.size : Int) - 32 < (a : Int)) = false := decide_eq_false c3
        have HA := qM (show a + 32 ≤ 8 * q.size by omega)
        clear c3
        simp only [Int.toNat_natCast] at h
        obtain ⟨⟨t, e⟩, ht, h2⟩ := Option.bind_eq_some_iff.mp h
        clear h
        have HT := qM ht
        have HE := qM h2
        clear ht h2
        go_enter Try.func10, Try.ntmps10
        go_wp2_with (first | (go_at_call 12; refine (hogsheadlaw02_shown.calls up _ HU.out).mono ?_; rintro e w2 ⟨rfl, hb⟩; have HB2 := qM hb; clear hb) | (go_at_call 17; refine (crc_Seal.calls a0 q _ HQ.out).mono ?_; rintro e w3 ⟨rfl, hb⟩; have HB3 := qM (below_step HB2.out hb); clear hb HB2) | ((with_reducible refine gate_dst (N := 18) rfl ?_); refine Mark.wpList_bytes _ rfl 9 39 5 (.tmp 17) rfl Try.underlying9 Try.underlying39 Try.underlying5 q rfl ?_; intro g c z w4 hgw hcz hcm hk hb; have HK := qM hk; have HB := qM (below_step HB3.out hb); have HG := qM (show w.heap.size ≤ g by rw [hgw]; exact HB3.out.size); have HC := qM hcz; have HM := qM hcm; clear hk hb hgw hcz hcm HB3))
        clear hw1 hw2 c1b c2b c3b c3c HU HQ
        have HL := qM (show q.data.toList.length = q.size from data_length q)
        go_loopg [2, 9] 32 (fun kq v2 v9 w' => ∃ (i b' : Nat) (l : List UInt8), v9 = .int .i64 (i : Int) ∧ v2 = .int .u32 (b' : Int) ∧ Aside0 (i + kq = 32) ∧ Aside0 (b' < 4294967296) ∧ Aside0 (l.length = q.size) ∧ Aside0 (Mark.turnL kq l (a + i) b' = Mark.turnL 32 q.data.toList a b) ∧ Aside0 (w'.heap[g]? = some (.cells (Mark.mcells l z) 5 (c, c + 1))) ∧ Aside0 (Below w.heap.size w w'))
        case atStart => exact ⟨0, b, q.data.toList, rfl, rfl, ⟨rfl⟩, ⟨by have := Hb.out; omega⟩, HL, ⟨rfl⟩, HK, HB⟩
        case round =>
          clear HK HB HL Hb
          obtain ⟨i, b', l, rfl, rfl, HI, Hb, HL, HF, HK, HB⟩ := hrel
          cases gk with
          | zero =>
            have hi : i = 32 := HI.out
            subst hi
            have hl : Mark.Bts wr w.heap.size 5 (.slice (some ⟨g, 0, none⟩) q.size c) l := by
              have h1 := HL.out
              have h2 := HC.out
              have hz := Mark.mcells_size l z
              exact ⟨g, c, _, _, by rw [h1], HG.out, HK.out, .inr (by rw [hz]; show l.length + z ≤ c; omega), by omega, HM.out (by have := HS.out; unfold maxLen; omega), by omega, Mark.mcells_take l z⟩
            have hcv := Mark.bts_text (P := Try.prog) Try.underlying39 Try.underlying5 Try.underlying9 hl
            clear hl
            have HT2 : Aside0 (crc_Open.f ⟨l.toArray⟩ = some (t, e)) := ⟨by have := HF.out; rw [Mark.turnL] at this; rw [this]; exact HT.out⟩
            clear HT HF
            have HE2 := HE.out
            clear HE
            by_cases g1 : up = true
            · subst g1
              rw [if_pos rfl] at HE2
              by_cases g2 : t.toList = []
              · rw [if_pos g2] at HE2
                obtain rfl := Option.some.inj HE2
                clear HE2
                have g3 : (t.toList == []) = true := beq_iff_eq.mpr g2
                clear g2
                go_wp2_with (go_at_call 19; refine (crc_Open.calls _ t e _ HT2.out).mono ?_; rintro e w5 ⟨rfl, hb⟩; have HB5 := qM (below_step HB.out hb); clear hb)
                go_ret
                exact ⟨rfl, HB5.out⟩
              · rw [if_neg g2] at HE2
                obtain rfl := Option.some.inj HE2
                clear HE2
                have g3 : (t.toList == []) = false := beq_eq_false_iff_ne.mpr g2
                clear g2
                go_wp2_with (go_at_call 19; refine (crc_Open.calls _ t e _ HT2.out).mono ?_; rintro e w5 ⟨rfl, hb⟩; have HB5 := qM (below_step HB.out hb); clear hb)
                go_ret
                exact ⟨rfl, HB5.out⟩
            · rw [if_neg g1] at HE2
              obtain rfl := Option.some.inj HE2
              obtain rfl : up = false := by simpa using g1
              clear HE2 g1
              go_wp2_with (go_at_call 19; refine (crc_Open.calls _ t e _ HT2.out).mono ?_; rintro e w5 ⟨rfl, hb⟩; have HB5 := qM (below_step HB.out hb); clear hb)
              go_ret
              exact ⟨rfl, HB5.out⟩
          | succ k2 =>
            have d9 : decide ((i : Int) < 32) = true := decide_eq_true (by have := HI.out; omega)
            obtain ⟨k, hk⟩ : ∃ k : Nat, k = a + i := ⟨_, rfl⟩
            obtain ⟨m, hm⟩ : ∃ m : Nat, m = k / 8 := ⟨_, rfl⟩
            obtain ⟨s, hs⟩ : ∃ s : Nat, s = k % 8 := ⟨_, rfl⟩
            have hks : k < 8 * q.size := by have := HA.out; have := HI.out; omega
            have e1 : wrap64 ((a : Int) + (i : Int)) = (k : Int) := by have := HS.out; unfold wrap64; omega
            have e2 : wrap64 (Int.tdiv (k : Int) 8) = (m : Int) := by have := HS.out; rw [Int.tdiv_eq_ediv_of_nonneg (by omega)]; unfold wrap64; omega
            have e2b : wrap64 ((k : Int) / 8) = (m : Int) := by have := HS.out; unfold wrap64; omega
            have e3b : (k : Int) % 8 = (s : Int) := by omega
            have e3 : Int.tmod (k : Int) 8 = (s : Int) := by rw [Int.tmod_eq_emod_of_nonneg (by omega)]; omega
            have e4 : decide ((m : Int) ≥ (q.size : Int)) = false := decide_eq_false (by omega)
            have e5 : decide ((q.size : Int) ≤ (m : Int)) = false := decide_eq_false (by omega)
            have e6 : ¬ (q.size ≤ m) := by omega
            have p0 : (0 ≤ (m : Int)) = True := eq_true (by omega)
            have q0 : ((m : Int) < (q.size : Int)) = True := eq_true (by omega)
            have HKK := qM hk
            have HKM := qM hm
            have HKS := qM hs
            have HMQ := qM (show m < q.size by omega)
            clear hk hm hs hks
            by_cases c4 : b' / 2147483648 = 1
            · have d4 : ((b' : Int) / 2147483648 % 4294967296 == 1) = true := beq_iff_eq.mpr (by omega)
              have d5 : ((b' : Int) / 2147483648 == 1) = true := beq_iff_eq.mpr (by omega)
              have HF2 : Aside0 (Mark.turnL k2 (Mark.flipL l k) (a + (i + 1)) (b' % 2147483648 * 2) = Mark.turnL 32 q.data.toList a b) := ⟨by have h1 := HF.out; have h2 := HKK.out; rw [Mark.turnL, if_pos c4, ← h2] at h1; rw [← h1, h2]; rfl⟩
              clear c4 HF
              go_wp2
              go_loop [11, 12] (fun v11 v12 => ∃ (j x : Nat), v12 = .int .i64 (j : Int) ∧ v11 = .int .u8 (x : Int) ∧ Aside0 (x = 128 / 2 ^ j) ∧ j ≤ s) (fun _ v12 => s - (intOf v12).toNat)
              case atStart => exact ⟨0, 128, rfl, rfl, ⟨rfl⟩, Nat.zero_le _⟩
              case round =>
                obtain ⟨j, x, rfl, rfl, HX, hj⟩ := hrel
                by_cases hjs : j < s
                · have f1 : decide ((j : Int) < (s : Int)) = true := decide_eq_true (by omega)
                  go_wp2
                  go_round
                  case rel => exact ⟨j + 1, x / 2, by go_num, by refine congrArg (Value.int .u8) ?_; have := HX.out; have := Nat.div_le_self 128 (2 ^ j); omega, ⟨by rw [HX.out]; exact Mark.half_bit j⟩, by omega⟩
                  case measure => simp [intOf]; omega
                · have f1 : decide ((j : Int) < (s : Int)) = false := decide_eq_false (by omega)
                  obtain rfl : j = s := by omega
                  clear hj hjs
                  obtain ⟨y, hy⟩ : ∃ y : Nat, y = (l.getD m 0).toNat := ⟨_, rfl⟩
                  have hc1 : wr.cell? ⟨g, m, none⟩ = some (.int .u8 (y : Int)) := by
                    have h1 := HMQ.out
                    have h2 := HL.out
                    rw [cell_of_row wr g m _ _ _ HK.out, Mark.mcells_get l z m (by omega), hy, List.getD_eq_getElem?_getD, List.getElem?_eq_getElem (by omega)]
                    rfl
                  have hf1 : wr.frozen? ⟨g, m, none⟩ = false := Mark.frozen_behind HK.out (.inr (by rw [Mark.mcells_size, HL.out, HC.out]; exact Nat.le_refl _)) (by rw [Mark.mcells_size]; have := HMQ.out; have := HL.out; omega)
                  have HK5 := qM (Mark.blk_setF HK.out m (.int .u8 (Go.bits .xor .u8 (y : Int) (x : Int))))
                  have HFL := qM (Mark.flip_cells l z k m j x y HKM.out HKS.out HX.out hy (by have := HMQ.out; have := HL.out; omega))
                  have HB5 := qM (below_set (j := m) (v := .int .u8 (Go.bits .xor .u8 (y : Int) (x : Int))) HB.out HG.out)
                  clear hy
                  go_wp2
                  go_roundg k2
                  case measure => omega
                  case rel => exact ⟨i + 1, b' % 2147483648 * 2, Mark.flipL l k, by have := HI.out; refine congrArg (Value.int .i64) ?_; unfold wrap64; omega, by refine congrArg (Value.int .u32) ?_; omega, ⟨by have := HI.out; omega⟩, ⟨by have := Hb.out; omega⟩, ⟨by rw [Mark.flipL_length]; exact HL.out⟩, HF2, ⟨by rw [← HFL.out]; exact HK5.out⟩, HB5⟩
            · have d4 : ((b' : Int) / 2147483648 % 4294967296 == 1) = false := beq_eq_false_iff_ne.mpr (by have := Hb.out; omega)
              have d5 : ((b' : Int) / 2147483648 == 1) = false := beq_eq_false_iff_ne.mpr (by omega)
              have HF2 : Aside0 (Mark.turnL k2 l (a + (i + 1)) (b' % 2147483648 * 2) = Mark.turnL 32 q.data.toList a b) := ⟨by have h1 := HF.out; rw [Mark.turnL, if_neg c4] at h1; exact h1⟩
              clear c4 HF
              go_wp2
              go_roundg k2
              case measure => omega
              case rel => exact ⟨i + 1, b' % 2147483648 * 2, l, by have := HI.out; refine congrArg (Value.int .i64) ?_; unfold wrap64; omega, by refine congrArg (Value.int .u32) ?_; omega, ⟨by have := HI.out; omega⟩, ⟨by have := Hb.out; omega⟩, HL, HF2, HK, HB⟩

end Go.Proofs.Ytabegniabilcpaa.PAll
