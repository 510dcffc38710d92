/- A number's bytes are as many as it has groups of seven bits, one at least; all but the last one are 128 or above. -/
import Derived.Test.YtbmgglgacgkffaaStVlqSizes
import Derived.Test.YtbmgglgacgkffaaVlqLaws
namespace Go.Proofs.Ytbmgglgacgkffaa.Pure
open Go.RowKit Go.Proofs.YtbmgglgacgkffaaW.PrintWords Go.Proofs.YtbmgglgacgkffaaW.PrintLast Go.Proofs.Ytbmgglgacgkffaa.PAll Go.Proofs.Ytbmgglgacgkffaa.Open Go.Proofs.Ytbmgglgacgkffaa.PB Go.Proofs.Ytbmgglgacgkffaa.VP

theorem hiG_high : ∀ (n x : Nat) (c : UInt8), c ∈ hiG n x → 128 ≤ c.toNat
  | 0, _, _, h => by simp [hiG] at h
  | n + 1, x, c, h => by
    unfold hiG at h
    split at h
    · cases h
    · rcases List.mem_append.1 h with h | h
      · exact hiG_high n (x / 128) c h
      · rw [List.mem_singleton.1 h, ofNat_toNat' _ (by omega)]
        omega
theorem sizes_l0 (b : Bool) (s : ByteArray) : ∀ (m x n k : Nat), x < 128 ^ m → x < 18446744073709551616 → n + m ≤ 1000 →
    ∃ q, k ≤ q ∧ hogsheadlaw01_VlqSizes.l0 (k + m + 1) b s n x = if s.size = n + (hiG m x).length then hogsheadlaw01_VlqSizes.l1 q b s ((n + (hiG m x).length : Nat) : Int) 0 else some false
  | 0, x, n, k, h, _, _ => by
    have : x = 0 := by simpa using h
    subst this
    refine ⟨k, Nat.le_refl _, ?_⟩
    simp only [hogsheadlaw01_VlqSizes.l0]
    rw [if_neg (by omega)]
    by_cases hc : s.size = n
    · rw [if_pos (by omega), if_pos (by simpa [hiG] using hc)]
      rfl
    · rw [if_neg (by omega), if_neg (by simpa [hiG] using hc)]
  | m + 1, x, n, k, h, hx, hn => by
    rw [Nat.pow_succ] at h
    by_cases h0 : x = 0
    · subst h0
      refine ⟨k + m + 1, by omega, ?_⟩
      rw [show k + (m + 1) + 1 = (k + m + 1) + 1 from by omega]
      simp only [hogsheadlaw01_VlqSizes.l0]
      rw [if_neg (by omega)]
      by_cases hc : s.size = n
      · rw [if_pos (by omega), if_pos (by simpa [hiG] using hc)]
        rfl
      · rw [if_neg (by omega), if_neg (by simpa [hiG] using hc)]
    · obtain ⟨q, hq, ih⟩ := sizes_l0 b s m (x / 128) (n + 1) k (by omega) (by omega) (by omega)
      refine ⟨q, hq, ?_⟩
      have hl : n + 1 + (hiG m (x / 128)).length = n + (hiG (m + 1) x).length := by
        conv => rhs; rw [hiG]
        rw [if_neg h0, List.length_append]
        simp
        omega
      rw [hl] at ih
      rw [← ih, show k + (m + 1) + 1 = (k + m + 1) + 1 from by omega]
      simp only [hogsheadlaw01_VlqSizes.l0]
      have e1 : Int.tdiv (x : Int) 128 = ((x / 128 : Nat) : Int) := by rw [Int.tdiv_eq_ediv_of_nonneg (by omega)]; omega
      have e2 : wrap64 ((n : Int) + 1) = ((n + 1 : Nat) : Int) := by rw [wrap_in (by unfold InR; omega)]; omega
      rw [if_pos (by omega), e1, e2, u64_in (by omega)]
theorem sizes_l1 (b : Bool) (s : ByteArray) (hs : s.size ≤ 9223372036854775807) (hb : ∀ j (h : j < (L s).length), (128 ≤ ((L s)[j]).toNat) ↔ j + 1 < s.size) : ∀ (d j : Nat), j ≤ s.size → s.size - j = d → ∀ k, d < k → hogsheadlaw01_VlqSizes.l1 k b s (s.size : Int) j = some b := by
  intro d
  induction d with
  | zero =>
    intro j hj hd k hk
    obtain ⟨k, rfl⟩ := succ_of hk
    simp only [hogsheadlaw01_VlqSizes.l1]
    rw [if_neg (by omega)]
  | succ d ih =>
    intro j hj hd k hk
    have hlt : j < s.size := by omega
    obtain ⟨k, rfl⟩ := succ_of hk
    have h := hb j (by rw [L_length]; exact hlt)
    simp only [hogsheadlaw01_VlqSizes.l1]
    rw [if_pos (by omega), if_pos (by omega), if_pos (by omega), bt_L s j hlt, wrap_succ hlt hs, if_neg, ih (j + 1) (by omega) (by omega) k (by omega)]
    by_cases hc : j + 1 < s.size
    · have h1 := h.2 hc
      have d1 : decide (((L s)[j]'(by rw [L_length]; exact hlt)).toNat ≥ (128 : Int)) = true := decide_eq_true (by omega)
      have d2 : decide (((j + 1 : Nat) : Int) < (s.size : Int)) = true := decide_eq_true (by omega)
      rw [d1, d2]
      decide
    · have h1 := fun h' => hc (h.1 h')
      have d1 : decide (((L s)[j]'(by rw [L_length]; exact hlt)).toNat ≥ (128 : Int)) = false := decide_eq_false (by omega)
      have d2 : decide (((j + 1 : Nat) : Int) < (s.size : Int)) = false := decide_eq_false (by omega)
      rw [d1, d2]
      decide
theorem VlqSizes : hogsheadlaw01_VlqSizes.Pure := by
  intro v hv
  obtain ⟨h0, h1⟩ := wf_u64 hv
  obtain ⟨v, rfl⟩ := Int.eq_ofNat_of_zero_le h0
  have hl := numL_length_le v
  have hlen : (numL v).length = 1 + (hiG 10 (v / 128)).length := by unfold numL; rw [List.length_append]; simp; omega
  obtain ⟨q, hq, h2⟩ := sizes_l0 true (B (numL v)) 10 (v / 128) 1 40 (by omega) (by omega) (by omega)
  rw [B_size, if_pos hlen, ← hlen, ← B_size] at h2
  refine ⟨51, ?_⟩
  unfold hogsheadlaw01_VlqSizes.f
  have e1 : Int.tdiv (v : Int) 128 = ((v / 128 : Nat) : Int) := by rw [Int.tdiv_eq_ediv_of_nonneg (by omega)]; omega
  rw [shown_true _ (by omega), num_num v (by omega), e1, u64_in (by omega)]
  simp only [Option.bind_some]
  refine Eq.trans h2 ?_
  refine sizes_l1 true (B (numL v)) (by rw [B_size]; omega) (fun j hj => ?_) (B (numL v)).size 0 (by omega) (by omega) q (by rw [B_size]; omega)
  simp only [L_B] at hj ⊢
  rw [B_size]
  unfold numL at hj ⊢
  rw [List.length_append] at hj ⊢
  simp only [List.length_singleton] at hj ⊢
  by_cases hc : j < (hiG 10 (v / 128)).length
  · rw [List.getElem_append_left hc]
    have := hiG_high 10 (v / 128) _ (List.getElem_mem hc)
    omega
  · have hj2 : j = (hiG 10 (v / 128)).length := by omega
    subst hj2
    rw [List.getElem_append_right (by omega)]
    simp only [Nat.sub_self, List.getElem_cons_zero]
    rw [ofNat_toNat' _ (by omega)]
    omega
end Go.Proofs.Ytbmgglgacgkffaa.Pure
