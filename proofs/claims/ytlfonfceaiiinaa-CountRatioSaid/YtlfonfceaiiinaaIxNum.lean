/- What an index asks for, over lists alone; where all that is sealed is paired, 21 bytes are due for 10. -/
import Derived.Test.YtlfonfceaiiinaaPAllx4
import Derived.Test.YtlfonfceaiiinaaPAllx5
import Derived.Test.YtlfonfceaiiinaaPAllx6
import Derived.Test.YtlfonfceaiiinaaCountSumP
import Derived.Test.YtlfonfceaiiinaaIxInv
namespace Go.Proofs.Ytlfonfceaiiinaa.Pure
open Go.RowKit Go.Proofs.YtlfonfceaiiinaaW.PrintWords Go.Proofs.YtlfonfceaiiinaaW.PrintLast Go.Proofs.Ytlfonfceaiiinaa.PAll Go.Proofs.Ytlfonfceaiiinaa.PB

/-- One part more. -/
def partV (t : Int × Int × Int × Int) (s : S59) : Int × Int × Int × Int := (t.1, t.2.1, wrap64 (t.2.2.1 + 4), wrap64 (t.2.2.2 + wrap64 (4 * s.f1)))
/-- One volume more. -/
def volV (t : Int × Int × Int × Int) (v : S45) : Int × Int × Int × Int :=
  let t' := (wrap64 (t.1 + (v.f6.length : Int)), wrap64 (t.2.1 + wrap64 (16 * (v.f6.length : Int))), t.2.2.1, t.2.2.2)
  if 1 ≤ v.f4 ∧ v.f4 ≤ 3 then v.f5.foldl partV t' else t'
def In4 (t : Int × Int × Int × Int) : Prop := InR t.1 ∧ InR t.2.1 ∧ InR t.2.2.1 ∧ InR t.2.2.2
theorem in_part {t : Int × Int × Int × Int} (h : In4 t) (s : S59) : In4 (partV t s) := ⟨h.1, h.2.1, in_wrap _, in_wrap _⟩

theorem due_l0_end (k : Nat) (l : List S45) (n : Nat) (t : Int × Int × Int × Int) (j : Nat) (hj : ¬ j < n) :
    count_Due.l0 (k + 1) l n j t.1 t.2.1 t.2.2.1 t.2.2.2 = some t := by
  simp only [count_Due.l0]
  rw [if_neg (by omega)]

/-- The parts of one volume. -/
theorem due_l1 (l : List S45) (n i : Nat) (ps : List S59) (hps : ps.length ≤ 9223372036854775807) : ∀ (d k : Nat) (j : Nat) (t : Int × Int × Int × Int), In4 t → j ≤ ps.length → ps.length - j = d →
    count_Due.l1 (k + 4 + d) l n i ps ps.length j t.1 t.2.1 t.2.2.1 t.2.2.2 = count_Due.l0 (k + 3) l n (wrap64 ((i : Int) + 1)) ((ps.drop j).foldl partV t).1 ((ps.drop j).foldl partV t).2.1 ((ps.drop j).foldl partV t).2.2.1 ((ps.drop j).foldl partV t).2.2.2 := by
  intro d
  induction d with
  | zero =>
    intro k j t ht hj hd
    have : j = ps.length := by omega
    subst this
    simp only [count_Due.l1]
    rw [if_neg (by omega), List.drop_length]
    rfl
  | succ d ih =>
    intro k j t ht hj hd
    have hlt : j < ps.length := by omega
    rw [show k + 4 + (d + 1) = (k + 4 + d) + 1 from by omega]
    simp only [count_Due.l1]
    rw [if_pos (by omega), if_pos (by omega), if_pos (by omega), sum_two _ _ _ (by omega)]
    simp only [Option.bind_some]
    rw [wrap_succ hlt hps, drop_getD z59 hlt, List.foldl_cons]
    have h2 := ih k (j + 1) (partV t (ps.getD j z59)) (in_part ht _) (by omega) (by omega)
    have e : rd_T59 ps (j : Int) = ps.getD j z59 := by unfold rd_T59; rw [toNat_cast]
    rw [e, wrap_add_zero ht.1, wrap_add_zero ht.2.1]
    exact h2

theorem in_foldl_part {t : Int × Int × Int × Int} (h : In4 t) (ps : List S59) : In4 (ps.foldl partV t) := by
  induction ps generalizing t with
  | nil => exact h
  | cons p ps ih => exact ih (in_part h p)
theorem in_vol {t : Int × Int × Int × Int} (h : In4 t) (v : S45) : In4 (volV t v) := by
  unfold volV
  have h' : In4 (wrap64 (t.1 + (v.f6.length : Int)), wrap64 (t.2.1 + wrap64 (16 * (v.f6.length : Int))), t.2.2.1, t.2.2.2) := ⟨in_wrap _, in_wrap _, h.2.2.1, h.2.2.2⟩
  dsimp only
  split
  · exact in_foldl_part h' _
  · exact h'

/-- The rounds that the volumes want. -/
def rounds (l : List S45) : Nat := (l.map fun v => v.f5.length + 7).sum

theorem due_l0 (l : List S45) (hl : l.length ≤ 9223372036854775807) (hw : ∀ v ∈ l, v.f5.length ≤ 9223372036854775807) : ∀ (d j : Nat), j ≤ l.length → l.length - j = d → ∀ (k : Nat) (t : Int × Int × Int × Int), In4 t → rounds (l.drop j) + 4 ≤ k →
    count_Due.l0 k l l.length j t.1 t.2.1 t.2.2.1 t.2.2.2 = some ((l.drop j).foldl volV t) := by
  intro d
  induction d with
  | zero =>
    intro j hj hd k t ht hk
    have : j = l.length := by omega
    subst this
    obtain ⟨k, rfl⟩ := succ_of (show 0 < k by omega)
    rw [due_l0_end _ _ _ _ _ (by omega), List.drop_length]
    rfl
  | succ d ih =>
    intro j hj hd k t ht hk
    have hlt : j < l.length := by omega
    have hv := hw _ (getD_mem z45 hlt)
    rw [drop_getD z45 hlt] at hk ⊢
    have e : rd_T45 l (j : Int) = l.getD j z45 := by unfold rd_T45; rw [toNat_cast]
    generalize l.getD j z45 = v at *
    have hr : rounds (v :: l.drop (j + 1)) = v.f5.length + 7 + rounds (l.drop (j + 1)) := by simp [rounds]
    rw [hr] at hk
    rw [List.foldl_cons]
    obtain ⟨k, rfl⟩ := succ_of (show 0 < k by omega)
    obtain ⟨k, rfl⟩ := succ_of (show 0 < k by omega)
    simp only [count_Due.l0]
    rw [if_pos (by omega), if_pos (by omega), if_pos (by omega), e, sum_two _ _ _ (by omega)]
    simp only [Option.bind_some, count_Due.j1]
    have hm : wrap64 ((v.f6.length : Int) * 16) = wrap64 (16 * (v.f6.length : Int)) := by rw [Int.mul_comm]
    rw [wrap_add_zero ht.2.2.1, wrap_add_zero ht.2.2.2, hm]
    have h' : In4 (wrap64 (t.1 + (v.f6.length : Int)), wrap64 (t.2.1 + wrap64 (16 * (v.f6.length : Int))), t.2.2.1, t.2.2.2) := ⟨in_wrap _, in_wrap _, ht.2.2.1, ht.2.2.2⟩
    have next := ih (j + 1) (by omega) (by omega)
    have go : ∀ q : Nat, rounds (l.drop (j + 1)) + 4 ≤ q → ∀ t' : Int × Int × Int × Int, In4 t' → count_Due.l0 q l l.length (wrap64 ((j : Int) + 1)) t'.1 t'.2.1 t'.2.2.1 t'.2.2.2 = some ((l.drop (j + 1)).foldl volV t') := fun q hq t' ht' => by
      rw [wrap_succ hlt hl]
      exact next q t' ht' hq
    have parts := due_l1 l l.length j v.f5 hv v.f5.length (k - 4 - v.f5.length) 0 _ h' (by omega) (by omega)
    rw [show k - 4 - v.f5.length + 4 + v.f5.length = k from by omega, List.drop_zero] at parts
    by_cases c1 : v.f4 < 1
    · rw [if_pos c1, if_pos trivial]
      have ev : volV t v = (wrap64 (t.1 + (v.f6.length : Int)), wrap64 (t.2.1 + wrap64 (16 * (v.f6.length : Int))), t.2.2.1, t.2.2.2) := by unfold volV; exact if_neg (by omega)
      rw [ev]
      exact go k (by omega) _ h'
    · rw [if_neg c1]
      by_cases c2 : v.f4 > 3
      · rw [if_pos (decide_eq_true c2)]
        have ev : volV t v = (wrap64 (t.1 + (v.f6.length : Int)), wrap64 (t.2.1 + wrap64 (16 * (v.f6.length : Int))), t.2.2.1, t.2.2.2) := by unfold volV; exact if_neg (by omega)
        rw [ev]
        exact go k (by omega) _ h'
      · rw [if_neg (by simpa using c2)]
        have ev : volV t v = v.f5.foldl partV (wrap64 (t.1 + (v.f6.length : Int)), wrap64 (t.2.1 + wrap64 (16 * (v.f6.length : Int))), t.2.2.1, t.2.2.2) := by unfold volV; exact if_pos (by omega)
        rw [ev]
        exact parts.trans (go _ (by omega) _ (in_foldl_part h' _))

/-! how many bytes are paired -/
def logV (t : Int) (v : S45) : Int := if v.f4 = 4 then wrap64 (t + 160) else t
theorem log_l0 (l : List S45) (hl : l.length ≤ 9223372036854775807) : ∀ (d j : Nat), j ≤ l.length → l.length - j = d → ∀ (k : Nat) (t : Int), d < k → count_Logical.l0 k t l l.length j = some ((l.drop j).foldl logV t) := by
  intro d
  induction d with
  | zero =>
    intro j hj hd k t hk
    have : j = l.length := by omega
    subst this
    obtain ⟨k, rfl⟩ := succ_of hk
    simp only [count_Logical.l0]
    rw [if_neg (by omega), List.drop_length]
    rfl
  | succ d ih =>
    intro j hj hd k t hk
    have hlt : j < l.length := by omega
    obtain ⟨k, rfl⟩ := succ_of hk
    have e : rd_T45 l (j : Int) = l.getD j z45 := by unfold rd_T45; rw [toNat_cast]
    simp only [count_Logical.l0]
    rw [if_pos (by omega), if_pos (by omega), if_pos (by omega), e, drop_getD z45 hlt, wrap_succ hlt hl, List.foldl_cons]
    have h1 := ih (j + 1) (by omega) (by omega) k (wrap64 (t + 160)) (by omega)
    have h2 := ih (j + 1) (by omega) (by omega) k t (by omega)
    unfold logV
    split
    · exact h1
    · exact h2
theorem in4_zero : In4 (0, 0, 0, 0) := ⟨in_zero, in_zero, in_zero, in_zero⟩
theorem due_all (l : List S45) (a : List S92) (b : List S64) (hl : l.length ≤ 9223372036854775807) (hw : ∀ v ∈ l, v.f5.length ≤ 9223372036854775807) (k : Nat) (hk : rounds l + 4 ≤ k) : count_Due.f k l a b = some (l.foldl volV (0, 0, 0, 0)) := by
  have h := due_l0 l hl hw l.length 0 (by omega) (by omega) k (0, 0, 0, 0) in4_zero (by rw [List.drop_zero]; exact hk)
  rw [List.drop_zero] at h
  exact h
theorem log_all (l : List S45) (a : List S92) (b : List S64) (hl : l.length ≤ 9223372036854775807) (k : Nat) (hk : l.length < k) : count_Logical.f k l a b = some (l.foldl logV 0) := by
  have h := log_l0 l hl l.length 0 (by omega) (by omega) k 0 (by omega)
  rw [List.drop_zero] at h
  exact h

theorem shown_all (k : Nat) (hk : 40 ≤ k) : hogsheadlaw19_shown.f k = some true := by
  unfold hogsheadlaw19_shown.f
  rw [if_pos (by omega)]
  simp only [Option.bind_some]
  rw [due_all _ _ _ (by simp) (by simp) k (by simp [rounds]; omega)]
  simp only [Option.bind_some]
  rw [log_all _ _ _ (by simp) k (by simp; omega)]
  obtain ⟨k, rfl⟩ := succ_of (show 0 < k by omega)
  simp [volV, logV, wrap64, hogsheadlaw19_shown.j0]

theorem part_keeps (ps : List S59) : ∀ t : Int × Int × Int × Int, (ps.foldl partV t).1 = t.1 ∧ (ps.foldl partV t).2.1 = t.2.1 := by
  induction ps with
  | nil => exact fun t => ⟨rfl, rfl⟩
  | cons p ps ih =>
    intro t
    rw [List.foldl_cons]
    have h := ih (partV t p)
    exact ⟨h.1, h.2⟩
theorem vol_num (v : S45) (t : Int × Int × Int × Int) (hv : VolOk v) (h3 : v.f4 ≠ 3) (h1 : 0 ≤ t.1) (h2 : 0 ≤ t.2.1) (b1 : t.1 ≤ 100000) (b2 : t.2.1 ≤ 1000000) :
    (volV t v).1 = t.1 + 14 * ((cnt 4 [v] + cnt 5 [v] : Nat) : Int) ∧ (volV t v).2.1 = t.2.1 + 224 * ((cnt 4 [v] + cnt 5 [v] : Nat) : Int) := by
  have e : (volV t v).1 = wrap64 (t.1 + (v.f6.length : Int)) ∧ (volV t v).2.1 = wrap64 (t.2.1 + wrap64 (16 * (v.f6.length : Int))) := by
    unfold volV
    dsimp only
    split
    · have h := part_keeps v.f5 (wrap64 (t.1 + (v.f6.length : Int)), wrap64 (t.2.1 + wrap64 (16 * (v.f6.length : Int))), t.2.2.1, t.2.2.2)
      exact h
    · exact ⟨rfl, rfl⟩
  rw [e.1, e.2]
  clear e
  rcases hv with ⟨a, b⟩ | ⟨a, b⟩
  · rw [b]
    have c4 : cnt 4 [v] = 0 := by rw [cnt, cnt, if_neg (by omega)]
    have c5 : cnt 5 [v] = 0 := by rw [cnt, cnt, if_neg (by omega)]
    rw [c4, c5]
    unfold wrap64
    simp only [List.length_nil]
    omega
  · have c : cnt 4 [v] + cnt 5 [v] = 1 := by
      rcases a with a | a | a
      · exact absurd a h3
      · rw [cnt, cnt, cnt, cnt, if_pos a, if_neg (by omega)]
      · rw [cnt, cnt, cnt, cnt, if_neg (by omega), if_pos a]
    rw [c, b]
    unfold wrap64
    omega
theorem log_num (v : S45) (s : Int) (h0 : 0 ≤ s) (hb : s ≤ 1000000) : logV s v = s + 160 * ((cnt 4 [v] : Nat) : Int) := by
  unfold logV
  by_cases c : v.f4 = 4
  · have c4 : cnt 4 [v] = 1 := by rw [cnt, cnt, if_pos c]
    rw [if_pos c, c4]
    unfold wrap64
    omega
  · have c4 : cnt 4 [v] = 0 := by rw [cnt, cnt, if_neg c]
    rw [if_neg c, c4]
    omega
theorem cnt_cons (p : Int) (v : S45) (l : List S45) : cnt p (v :: l) = cnt p [v] + cnt p l := by
  rw [cnt, cnt, cnt]
  omega
theorem cnt_le (p : Int) (l : List S45) : cnt p l ≤ l.length := by
  induction l with
  | nil => exact Nat.le_refl _
  | cons v l ih =>
    rw [cnt, List.length_cons]
    split <;> omega
theorem num_all : ∀ (l : List S45) (t : Int × Int × Int × Int) (s : Int), (∀ v ∈ l, VolOk v ∧ v.f4 ≠ 3) → 0 ≤ t.1 → 0 ≤ t.2.1 → 0 ≤ s → t.1 + 28 * (l.length : Int) ≤ 100000 → t.2.1 + 448 * (l.length : Int) ≤ 1000000 → s + 160 * (l.length : Int) ≤ 1000000 →
    (l.foldl volV t).1 = t.1 + 14 * ((cnt 4 l + cnt 5 l : Nat) : Int) ∧ (l.foldl volV t).2.1 = t.2.1 + 224 * ((cnt 4 l + cnt 5 l : Nat) : Int) ∧ l.foldl logV s = s + 160 * ((cnt 4 l : Nat) : Int)
  | [], t, s, _, _, _, _, _, _, _ => by simp [cnt]
  | v :: l, t, s, hv, h1, h2, h3, b1, b2, b3 => by
    have hv0 := hv v List.mem_cons_self
    rw [List.length_cons] at b1 b2 b3
    have e := vol_num v t hv0.1 hv0.2 h1 h2 (by omega) (by omega)
    have g := log_num v s h3 (by omega)
    have m4 := cnt_le 4 [v]
    have m5 := cnt_le 5 [v]
    rw [List.length_singleton] at m4 m5
    rw [List.foldl_cons, List.foldl_cons]
    have ih := num_all l (volV t v) (logV s v) (fun x hx => hv x (List.mem_cons_of_mem _ hx)) (by rw [e.1]; omega) (by rw [e.2]; omega) (by rw [g]; omega) (by rw [e.1]; omega) (by rw [e.2]; omega) (by rw [g]; omega)
    rw [ih.1, ih.2.1, ih.2.2, e.1, e.2, g, cnt_cons 4 v l, cnt_cons 5 v l]
    omega
/-- Where no volume is sealed and not paired. -/
theorem ratio_num {n : Nat} {l : List S45} {l1 : List S92} (l2 : List S64) (h : Go.Proofs.Ytlfonfceaiiinaa.PAll.Good n l l1) (hn : n ≤ 1000) (h3 : ∀ v ∈ l, v.f4 ≠ 3) : ∃ a b x y g : Int, count_Due.f 100000 l l1 l2 = some (a, b, x, y) ∧ count_Logical.f 100000 l l1 l2 = some g ∧ (wrap64 (10 * b) == wrap64 (21 * g)) = true ∧ (wrap64 (a * 160) == wrap64 (21 * g)) = true := by
  have hl := h.2.2.1
  have hr : rounds l + 4 ≤ 100000 := by
    have : ∀ m : List S45, (∀ v ∈ m, v.f5.length ≤ n) → rounds m ≤ (n + 7) * m.length := by
      intro m
      induction m with
      | nil => exact fun _ => Nat.zero_le _
      | cons v m ih =>
        intro hm
        have h1 := hm v List.mem_cons_self
        have h2 := ih (fun x hx => hm x (List.mem_cons_of_mem _ hx))
        rw [List.length_cons, Nat.mul_succ]
        unfold rounds at h2 ⊢
        rw [List.map_cons, List.sum_cons]
        omega
    have h1 := this l h.2.2.2.2
    have h2 : (n + 7) * l.length ≤ 1007 * 48 := Nat.mul_le_mul (by omega) hl
    omega
  refine ⟨_, _, _, _, _, due_all l l1 l2 (by omega) (fun v hv => by have := h.2.2.2.2 v hv; omega) 100000 hr, log_all l l1 l2 (by omega) 100000 (by omega), ?_⟩
  have e := num_all l (0, 0, 0, 0) 0 (fun v hv => ⟨h.1 v hv, h3 v hv⟩) (Int.le_refl _) (Int.le_refl _) (Int.le_refl _) (by dsimp only; omega) (by dsimp only; omega) (by omega)
  dsimp only at e
  have h45 := h.2.1
  have m4 := cnt_le 4 l
  rw [e.1, e.2.1, e.2.2]
  constructor
  · exact beq_iff_eq.mpr (by rw [h45]; congr 1; omega)
  · exact beq_iff_eq.mpr (by rw [h45]; congr 1; omega)
end Go.Proofs.Ytlfonfceaiiinaa.Pure
