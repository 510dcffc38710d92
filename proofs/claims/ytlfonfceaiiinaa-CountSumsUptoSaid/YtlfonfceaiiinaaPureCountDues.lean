/- What an index asks for: the program's sums and the reference's are the same fold over the volumes. -/
import Derived.Test.YtlfonfceaiiinaaStCountDues
import Derived.Test.YtlfonfceaiiinaaPSum
namespace Go.Proofs.Ytlfonfceaiiinaa.Pure
open Go.RowKit Go.Proofs.YtlfonfceaiiinaaW.PrintWords Go.Proofs.YtlfonfceaiiinaaW.PrintLast Go.Proofs.Ytlfonfceaiiinaa.PAll Go.Proofs.Ytlfonfceaiiinaa.Open Go.Proofs.Ytlfonfceaiiinaa.PB

/-- One part more. -/
def partV (t : Int × Int × Int × Int) (s : S59) : Int × Int × Int × Int := (t.1, t.2.1, wrap64 (t.2.2.1 + 4), wrap64 (t.2.2.2 + wrap64 (4 * s.f1)))
/-- One volume more. -/
def volV (t : Int × Int × Int × Int) (v : S45) : Int × Int × Int × Int :=
  let t' := (wrap64 (t.1 + (v.f6.length : Int)), wrap64 (t.2.1 + wrap64 (16 * (v.f6.length : Int))), t.2.2.1, t.2.2.2)
  if 1 ≤ v.f4 ∧ v.f4 ≤ 3 then v.f5.foldl partV t' else t'
def In4 (t : Int × Int × Int × Int) : Prop := InR t.1 ∧ InR t.2.1 ∧ InR t.2.2.1 ∧ InR t.2.2.2
theorem in_part {t : Int × Int × Int × Int} (h : In4 t) (s : S59) : In4 (partV t s) := ⟨h.1, h.2.1, in_wrap _, in_wrap _⟩

theorem due_l0_end (k : Nat) (l : List S45) (n : Nat) (t : Int × Int × Int × Int) (j : Nat) (hj : ¬ j < n) :
    count_Due.l0 (k + 1) l n j t.1 t.2.1 t.2.2.1 t.2.2.2 = some t := by
  simp only [count_Due.l0]
  rw [if_neg (by omega)]

/-- The parts of one volume. -/
theorem due_l1 (l : List S45) (n i : Nat) (ps : List S59) (hps : ps.length ≤ 9223372036854775807) : ∀ (d k : Nat) (j : Nat) (t : Int × Int × Int × Int), In4 t → j ≤ ps.length → ps.length - j = d →
    count_Due.l1 (k + 4 + d) l n i ps ps.length j t.1 t.2.1 t.2.2.1 t.2.2.2 = count_Due.l0 (k + 3) l n (wrap64 ((i : Int) + 1)) ((ps.drop j).foldl partV t).1 ((ps.drop j).foldl partV t).2.1 ((ps.drop j).foldl partV t).2.2.1 ((ps.drop j).foldl partV t).2.2.2 := by
  intro d
  induction d with
  | zero =>
    intro k j t ht hj hd
    have : j = ps.length := by omega
    subst this
    simp only [count_Due.l1]
    rw [if_neg (by omega), List.drop_length]
    rfl
  | succ d ih =>
    intro k j t ht hj hd
    have hlt : j < ps.length := by omega
    rw [show k + 4 + (d + 1) = (k + 4 + d) + 1 from by omega]
    simp only [count_Due.l1]
    rw [if_pos (by omega), if_pos (by omega), if_pos (by omega), sum_two _ _ _ (by omega)]
    simp only [Option.bind_some]
    rw [wrap_succ hlt hps, drop_getD z59 hlt, List.foldl_cons]
    have h2 := ih k (j + 1) (partV t (ps.getD j z59)) (in_part ht _) (by omega) (by omega)
    have e : rd_T59 ps (j : Int) = ps.getD j z59 := by unfold rd_T59; rw [toNat_cast]
    rw [e, wrap_add_zero ht.1, wrap_add_zero ht.2.1]
    exact h2

theorem in_foldl_part {t : Int × Int × Int × Int} (h : In4 t) (ps : List S59) : In4 (ps.foldl partV t) := by
  induction ps generalizing t with
  | nil => exact h
  | cons p ps ih => exact ih (in_part h p)
theorem in_vol {t : Int × Int × Int × Int} (h : In4 t) (v : S45) : In4 (volV t v) := by
  unfold volV
  have h' : In4 (wrap64 (t.1 + (v.f6.length : Int)), wrap64 (t.2.1 + wrap64 (16 * (v.f6.length : Int))), t.2.2.1, t.2.2.2) := ⟨in_wrap _, in_wrap _, h.2.2.1, h.2.2.2⟩
  dsimp only
  split
  · exact in_foldl_part h' _
  · exact h'

/-- The rounds that the volumes want. -/
def rounds (l : List S45) : Nat := (l.map fun v => v.f5.length + 7).sum

theorem due_l0 (l : List S45) (hl : l.length ≤ 9223372036854775807) (hw : ∀ v ∈ l, v.f5.length ≤ 9223372036854775807) : ∀ (d j : Nat), j ≤ l.length → l.length - j = d → ∀ (k : Nat) (t : Int × Int × Int × Int), In4 t → rounds (l.drop j) + 4 ≤ k →
    count_Due.l0 k l l.length j t.1 t.2.1 t.2.2.1 t.2.2.2 = some ((l.drop j).foldl volV t) := by
  intro d
  induction d with
  | zero =>
    intro j hj hd k t ht hk
    have : j = l.length := by omega
    subst this
    obtain ⟨k, rfl⟩ := succ_of (show 0 < k by omega)
    rw [due_l0_end _ _ _ _ _ (by omega), List.drop_length]
    rfl
  | succ d ih =>
    intro j hj hd k t ht hk
    have hlt : j < l.length := by omega
    have hv := hw _ (getD_mem z45 hlt)
    rw [drop_getD z45 hlt] at hk ⊢
    have e : rd_T45 l (j : Int) = l.getD j z45 := by unfold rd_T45; rw [toNat_cast]
    generalize l.getD j z45 = v at *
    have hr : rounds (v :: l.drop (j + 1)) = v.f5.length + 7 + rounds (l.drop (j + 1)) := by simp [rounds]
    rw [hr] at hk
    rw [List.foldl_cons]
    obtain ⟨k, rfl⟩ := succ_of (show 0 < k by omega)
    obtain ⟨k, rfl⟩ := succ_of (show 0 < k by omega)
    simp only [count_Due.l0]
    rw [if_pos (by omega), if_pos (by omega), if_pos (by omega), e, sum_two _ _ _ (by omega)]
    simp only [Option.bind_some, count_Due.j1]
    have hm : wrap64 ((v.f6.length : Int) * 16) = wrap64 (16 * (v.f6.length : Int)) := by rw [Int.mul_comm]
    rw [wrap_add_zero ht.2.2.1, wrap_add_zero ht.2.2.2, hm]
    have h' : In4 (wrap64 (t.1 + (v.f6.length : Int)), wrap64 (t.2.1 + wrap64 (16 * (v.f6.length : Int))), t.2.2.1, t.2.2.2) := ⟨in_wrap _, in_wrap _, ht.2.2.1, ht.2.2.2⟩
    have next := ih (j + 1) (by omega) (by omega)
    have go : ∀ q : Nat, rounds (l.drop (j + 1)) + 4 ≤ q → ∀ t' : Int × Int × Int × Int, In4 t' → count_Due.l0 q l l.length (wrap64 ((j : Int) + 1)) t'.1 t'.2.1 t'.2.2.1 t'.2.2.2 = some ((l.drop (j + 1)).foldl volV t') := fun q hq t' ht' => by
      rw [wrap_succ hlt hl]
      exact next q t' ht' hq
    have parts := due_l1 l l.length j v.f5 hv v.f5.length (k - 4 - v.f5.length) 0 _ h' (by omega) (by omega)
    rw [show k - 4 - v.f5.length + 4 + v.f5.length = k from by omega, List.drop_zero] at parts
    by_cases c1 : v.f4 < 1
    · rw [if_pos c1, if_pos trivial]
      have ev : volV t v = (wrap64 (t.1 + (v.f6.length : Int)), wrap64 (t.2.1 + wrap64 (16 * (v.f6.length : Int))), t.2.2.1, t.2.2.2) := by unfold volV; exact if_neg (by omega)
      rw [ev]
      exact go k (by omega) _ h'
    · rw [if_neg c1]
      by_cases c2 : v.f4 > 3
      · rw [if_pos (decide_eq_true c2)]
        have ev : volV t v = (wrap64 (t.1 + (v.f6.length : Int)), wrap64 (t.2.1 + wrap64 (16 * (v.f6.length : Int))), t.2.2.1, t.2.2.2) := by unfold volV; exact if_neg (by omega)
        rw [ev]
        exact go k (by omega) _ h'
      · rw [if_neg (by simpa using c2)]
        have ev : volV t v = v.f5.foldl partV (wrap64 (t.1 + (v.f6.length : Int)), wrap64 (t.2.1 + wrap64 (16 * (v.f6.length : Int))), t.2.2.1, t.2.2.2) := by unfold volV; exact if_pos (by omega)
        rw [ev]
        exact parts.trans (go _ (by omega) _ (in_foldl_part h' _))

/-! the reference -/
theorem ref_l1 (l : List S45) (a : List S92) (b : List S64) (i : Nat) (y0 y1 y2 y3 ph : Int) (y6 : List S75) (y7 y8 : Int) (ps : List S59) (hps : ps.length ≤ 9223372036854775807) : ∀ (d : Nat) (j : Nat), j ≤ ps.length → ps.length - j = d → ∀ (k : Nat) (t : Int × Int × Int × Int),
    ∃ q, k ≤ q ∧ hogsheadref19_Due.l1 (k + 1 + d) i j l a b t.1 t.2.1 t.2.2.1 t.2.2.2 y0 y1 y2 y3 ph ps y6 y7 y8 =
      hogsheadref19_Due.l0 q (wrap64 ((i : Int) + 1)) l a b (if 1 ≤ ph ∧ ph ≤ 3 then (ps.drop j).foldl partV t else t).1 (if 1 ≤ ph ∧ ph ≤ 3 then (ps.drop j).foldl partV t else t).2.1 (if 1 ≤ ph ∧ ph ≤ 3 then (ps.drop j).foldl partV t else t).2.2.1 (if 1 ≤ ph ∧ ph ≤ 3 then (ps.drop j).foldl partV t else t).2.2.2 := by
  intro d
  induction d with
  | zero =>
    intro j hj hd k t
    have : j = ps.length := by omega
    subst this
    refine ⟨k, Nat.le_refl _, ?_⟩
    simp only [hogsheadref19_Due.l1]
    rw [if_neg (by omega), List.drop_length, List.foldl_nil]
    simp
  | succ d ih =>
    intro j hj hd k t
    have hlt : j < ps.length := by omega
    rw [show k + 1 + (d + 1) = (k + 1 + d) + 1 from by omega]
    simp only [hogsheadref19_Due.l1]
    rw [if_pos (by omega)]
    by_cases c1 : ph ≥ 1
    · by_cases c2 : ph ≤ 3
      · rw [if_pos c1, if_pos c2, if_pos (by omega), wrap_succ hlt hps]
        have e : rd_T59 ps (j : Int) = ps.getD j z59 := by unfold rd_T59; rw [toNat_cast]
        obtain ⟨q, hq, h2⟩ := ih (j + 1) (by omega) (by omega) k (partV t (ps.getD j z59))
        refine ⟨q, hq, ?_⟩
        rw [e]
        rw [if_pos ⟨c1, c2⟩] at h2 ⊢
        rw [drop_getD z59 hlt, List.foldl_cons]
        exact h2
      · rw [if_pos c1, if_neg c2, if_neg (by omega)]
        exact ⟨k + 1 + d, by omega, rfl⟩
    · rw [if_neg c1, if_neg (by omega)]
      exact ⟨k + 1 + d, by omega, rfl⟩

theorem ref_l0 (l : List S45) (a : List S92) (b : List S64) (hl : l.length ≤ 9223372036854775807) (hw : ∀ v ∈ l, v.f5.length ≤ 9223372036854775807) : ∀ (d j : Nat), j ≤ l.length → l.length - j = d → ∀ (k : Nat) (t : Int × Int × Int × Int), rounds (l.drop j) + 4 ≤ k →
    hogsheadref19_Due.l0 k j l a b t.1 t.2.1 t.2.2.1 t.2.2.2 = some ((l.drop j).foldl volV t) := by
  intro d
  induction d with
  | zero =>
    intro j hj hd k t hk
    have : j = l.length := by omega
    subst this
    obtain ⟨k, rfl⟩ := succ_of (show 0 < k by omega)
    simp only [hogsheadref19_Due.l0]
    rw [if_neg (by omega), List.drop_length]
    rfl
  | succ d ih =>
    intro j hj hd k t hk
    have hlt : j < l.length := by omega
    have hv := hw _ (getD_mem z45 hlt)
    rw [drop_getD z45 hlt] at hk ⊢
    have e : rd_T45 l (j : Int) = l.getD j z45 := by unfold rd_T45; rw [toNat_cast]
    generalize l.getD j z45 = v at *
    have hr : rounds (v :: l.drop (j + 1)) = v.f5.length + 7 + rounds (l.drop (j + 1)) := by simp [rounds]
    rw [hr] at hk
    rw [List.foldl_cons]
    obtain ⟨k, rfl⟩ := succ_of (show 0 < k by omega)
    simp only [hogsheadref19_Due.l0]
    rw [if_pos (by omega), if_pos (by omega), e]
    obtain ⟨q, hq, h2⟩ := ref_l1 l a b j v.f0 v.f1 v.f2 v.f3 v.f4 v.f6 v.f7 v.f8 v.f5 hv v.f5.length 0 (by omega) (by omega) (k - 1 - v.f5.length) (wrap64 (t.1 + (v.f6.length : Int)), wrap64 (t.2.1 + wrap64 (16 * (v.f6.length : Int))), t.2.2.1, t.2.2.2)
    rw [show k - 1 - v.f5.length + 1 + v.f5.length = k from by omega, List.drop_zero] at h2
    refine Eq.trans h2 ?_
    rw [wrap_succ hlt hl]
    exact ih (j + 1) (by omega) (by omega) q (volV t v) (by omega)

/-! how many bytes are paired -/
def logV (t : Int) (v : S45) : Int := if v.f4 = 4 then wrap64 (t + 160) else t
theorem log_l0 (l : List S45) (hl : l.length ≤ 9223372036854775807) : ∀ (d j : Nat), j ≤ l.length → l.length - j = d → ∀ (k : Nat) (t : Int), d < k → count_Logical.l0 k t l l.length j = some ((l.drop j).foldl logV t) := by
  intro d
  induction d with
  | zero =>
    intro j hj hd k t hk
    have : j = l.length := by omega
    subst this
    obtain ⟨k, rfl⟩ := succ_of hk
    simp only [count_Logical.l0]
    rw [if_neg (by omega), List.drop_length]
    rfl
  | succ d ih =>
    intro j hj hd k t hk
    have hlt : j < l.length := by omega
    obtain ⟨k, rfl⟩ := succ_of hk
    have e : rd_T45 l (j : Int) = l.getD j z45 := by unfold rd_T45; rw [toNat_cast]
    simp only [count_Logical.l0]
    rw [if_pos (by omega), if_pos (by omega), if_pos (by omega), e, drop_getD z45 hlt, wrap_succ hlt hl, List.foldl_cons]
    have h1 := ih (j + 1) (by omega) (by omega) k (wrap64 (t + 160)) (by omega)
    have h2 := ih (j + 1) (by omega) (by omega) k t (by omega)
    unfold logV
    split
    · exact h1
    · exact h2
theorem rlog_l0 (l : List S45) (a : List S92) (b : List S64) (hl : l.length ≤ 9223372036854775807) : ∀ (d j : Nat), j ≤ l.length → l.length - j = d → ∀ (k : Nat) (t : Int), d < k → hogsheadref19_Logical.l0 k t j l a b = some ((l.drop j).foldl logV t) := by
  intro d
  induction d with
  | zero =>
    intro j hj hd k t hk
    have : j = l.length := by omega
    subst this
    obtain ⟨k, rfl⟩ := succ_of hk
    simp only [hogsheadref19_Logical.l0]
    rw [if_neg (by omega), List.drop_length]
    rfl
  | succ d ih =>
    intro j hj hd k t hk
    have hlt : j < l.length := by omega
    obtain ⟨k, rfl⟩ := succ_of hk
    have e : rd_T45 l (j : Int) = l.getD j z45 := by unfold rd_T45; rw [toNat_cast]
    simp only [hogsheadref19_Logical.l0]
    rw [if_pos (by omega), if_pos (by omega), e, drop_getD z45 hlt, wrap_succ hlt hl, List.foldl_cons]
    have h1 := ih (j + 1) (by omega) (by omega) k (wrap64 (t + 160)) (by omega)
    have h2 := ih (j + 1) (by omega) (by omega) k t (by omega)
    unfold logV
    split
    · exact h1
    · exact h2

theorem in4_zero : In4 (0, 0, 0, 0) := ⟨in_zero, in_zero, in_zero, in_zero⟩
theorem due_all (l : List S45) (a : List S92) (b : List S64) (hl : l.length ≤ 9223372036854775807) (hw : ∀ v ∈ l, v.f5.length ≤ 9223372036854775807) (k : Nat) (hk : rounds l + 4 ≤ k) : count_Due.f k l a b = some (l.foldl volV (0, 0, 0, 0)) := by
  have h := due_l0 l hl hw l.length 0 (by omega) (by omega) k (0, 0, 0, 0) in4_zero (by rw [List.drop_zero]; exact hk)
  rw [List.drop_zero] at h
  exact h
theorem ref_all (l : List S45) (a : List S92) (b : List S64) (hl : l.length ≤ 9223372036854775807) (hw : ∀ v ∈ l, v.f5.length ≤ 9223372036854775807) (k : Nat) (hk : rounds l + 4 ≤ k) : hogsheadref19_Due.f k l a b = some (l.foldl volV (0, 0, 0, 0)) := by
  have h := ref_l0 l a b hl hw l.length 0 (by omega) (by omega) k (0, 0, 0, 0) (by rw [List.drop_zero]; exact hk)
  rw [List.drop_zero] at h
  exact h
theorem log_all (l : List S45) (a : List S92) (b : List S64) (hl : l.length ≤ 9223372036854775807) (k : Nat) (hk : l.length < k) : count_Logical.f k l a b = some (l.foldl logV 0) := by
  have h := log_l0 l hl l.length 0 (by omega) (by omega) k 0 (by omega)
  rw [List.drop_zero] at h
  exact h
theorem rlog_all (l : List S45) (a : List S92) (b : List S64) (hl : l.length ≤ 9223372036854775807) (k : Nat) (hk : l.length < k) : hogsheadref19_Logical.f k l a b = some (l.foldl logV 0) := by
  have h := rlog_l0 l a b hl l.length 0 (by omega) (by omega) k 0 (by omega)
  rw [List.drop_zero] at h
  exact h

theorem shown_all (k : Nat) (hk : 40 ≤ k) : hogsheadlaw19_shown.f k = some true := by
  unfold hogsheadlaw19_shown.f
  rw [if_pos (by omega)]
  simp only [Option.bind_some]
  rw [due_all _ _ _ (by simp) (by simp) k (by simp [rounds]; omega)]
  simp only [Option.bind_some]
  rw [log_all _ _ _ (by simp) k (by simp; omega)]
  simp [volV, logV, wrap64]

theorem CountDues : hogsheadlaw19_CountDues.Pure := by
  intro x hw _
  have hl : x.f0.length ≤ 9223372036854775807 := hw.1.1
  have hp : ∀ v ∈ x.f0, v.f5.length ≤ 9223372036854775807 := fun v hv => (hw.1.2 v hv).2.2.2.2.2.1.1
  refine ⟨40 + rounds x.f0 + 4 + x.f0.length, ?_⟩
  unfold hogsheadlaw19_CountDues.f
  rw [shown_all _ (by omega), due_all _ _ _ hl hp _ (by omega), ref_all _ _ _ hl hp _ (by omega), log_all _ _ _ hl _ (by omega), rlog_all _ _ _ hl _ (by omega)]
  simp

theorem CountDuesUpto : hogsheadlaw19_CountDues.PureUpto := by
  intro x hw _
  have hl : x.f0.length ≤ 9223372036854775807 := hw.1.1
  have hp : ∀ v ∈ x.f0, v.f5.length ≤ 9223372036854775807 := fun v hv => (hw.1.2 v hv).2.2.2.2.2.1.1
  refine ⟨40 + rounds x.f0 + 4 + x.f0.length, ?_⟩
  unfold hogsheadlaw19_CountDues.f
  rw [shown_all _ (by omega), due_all _ _ _ hl hp _ (by omega), ref_all _ _ _ hl hp _ (by omega), log_all _ _ _ hl _ (by omega), rlog_all _ _ _ hl _ (by omega)]
  simp
end Go.Proofs.Ytlfonfceaiiinaa.Pure
