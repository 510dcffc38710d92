/- A disk over lists alone. -/
import Derived.Test.YtffjbbedjddpmaaBase
import Derived.Test.YtffjbbedjddpmaaPAllx10
namespace Go.Proofs.Ytffjbbedjddpmaa.DP
open Go.RowKit Go.Proofs.YtffjbbedjddpmaaW.PrintWords Go.Proofs.YtffjbbedjddpmaaW.PrintLast Go.Proofs.Ytffjbbedjddpmaa.PAll Go.Proofs.Ytffjbbedjddpmaa.PB
abbrev W := S94
/-- One write that is done, and all of a list. -/
def wr1 (s : List ByteArray) (x : W) : List ByteArray := if 0 ≤ x.f0 ∧ x.f0 < (s.length : Int) then s.set x.f0.toNat x.f1 else s
def wrs (l : List W) (s : List ByteArray) : List ByteArray := l.foldl wr1 s
theorem wr1_length (s : List ByteArray) (x : W) : (wr1 s x).length = s.length := by
  unfold wr1
  split
  · simp
  · rfl
theorem wrs_length (l : List W) : ∀ s : List ByteArray, (wrs l s).length = s.length := by
  induction l with
  | nil => intro s; rfl
  | cons x l ih =>
    intro s
    show (wrs l (wr1 s x)).length = _
    rw [ih, wr1_length]
theorem wrs_append (l r : List W) (s : List ByteArray) : wrs (l ++ r) s = wrs r (wrs l s) := by
  unfold wrs
  rw [List.foldl_append]

/-- What Put comes to. -/
def putD (l0 : List ByteArray) (l1 : List W) (a2 : Int) (a3 : Bool) (slot : Int) (s : ByteArray) : List ByteArray × List W × Int × Bool × Int :=
  if a3 = true then (l0, l1, a2, a3, 6) else if 0 ≤ slot ∧ slot < (l0.length : Int) then
    if (s.size : Int) > 1024 then (l0, l1, a2, a3, 4) else
      if a2 = 0 then (l0, l1 ++ [⟨slot, s⟩], a2, true, 6) else if a2 > 0 then (l0, l1 ++ [⟨slot, s⟩], wrap64 (a2 - 1), a3, 0) else (l0, l1 ++ [⟨slot, s⟩], a2, a3, 0)
    else (l0, l1, a2, a3, 1)
/-- What Get comes to. -/
def getD (l0 : List ByteArray) (l1 : List W) (slot : Int) : ByteArray × Int := if 0 ≤ slot ∧ slot < (l0.length : Int) then (disk_last l1 slot (l0.getD slot.toNat ⟨#[]⟩), 0) else (⟨#[]⟩, 1)
/-- How many writes a crash keeps, and what it makes of the next one. -/
def keptN (l1 : List W) (keep : Int) : Nat := min keep.toNat l1.length
def tornW (x : W) (tear : Int) : W := ⟨x.f0, x.f1.extract 0 (min tear.toNat x.f1.size)⟩
def crashS (l0 : List ByteArray) (l1 : List W) (keep tear : Int) : List ByteArray :=
  if 0 ≤ tear then wrs ((l1.drop (keptN l1 keep)).take 1 |>.map (tornW · tear)) (wrs (l1.take (keptN l1 keep)) l0) else wrs (l1.take (keptN l1 keep)) l0
theorem put_ok {l0 : List ByteArray} {l1 : List W} {a2 : Int} {a3 : Bool} {slot : Int} {s : ByteArray} (h : (putD l0 l1 a2 a3 slot s).2.2.2.2 = 0) :
    a3 = false ∧ (0 ≤ slot ∧ slot < (l0.length : Int)) ∧ s.size ≤ 1024 ∧ a2 ≠ 0 ∧ (putD l0 l1 a2 a3 slot s).1 = l0 ∧ (putD l0 l1 a2 a3 slot s).2.1 = l1 ++ [⟨slot, s⟩] ∧ (putD l0 l1 a2 a3 slot s).2.2.2.1 = false ∧ (putD l0 l1 a2 a3 slot s).2.2.1 = (if a2 > 0 then wrap64 (a2 - 1) else a2) := by
  unfold putD at h ⊢
  by_cases c1 : a3 = true
  · rw [if_pos c1] at h
    exact absurd (show (6 : Int) = 0 from h) (by decide)
  · rw [if_neg c1] at h ⊢
    replace c1 := Bool.eq_false_iff.mpr c1
    by_cases c2 : 0 ≤ slot ∧ slot < (l0.length : Int)
    · rw [if_pos c2] at h ⊢
      by_cases c3 : (s.size : Int) > 1024
      · rw [if_pos c3] at h
        exact absurd (show (4 : Int) = 0 from h) (by decide)
      · rw [if_neg c3] at h ⊢
        by_cases c4 : a2 = 0
        · rw [if_pos c4] at h
          exact absurd (show (6 : Int) = 0 from h) (by decide)
        · rw [if_neg c4]
          by_cases c5 : a2 > 0
          · rw [if_pos c5, if_pos c5]
            exact ⟨c1, c2, by omega, c4, rfl, rfl, c1, rfl⟩
          · rw [if_neg c5, if_neg c5]
            exact ⟨c1, c2, by omega, c4, rfl, rfl, c1, rfl⟩
    · rw [if_neg c2] at h
      exact absurd (show (1 : Int) = 0 from h) (by decide)
/-- Whatever Put answers, its slots stay, and at most one write more waits. -/
theorem put_any (l0 : List ByteArray) (l1 : List W) (a2 : Int) (a3 : Bool) (slot : Int) (s : ByteArray) :
    (putD l0 l1 a2 a3 slot s).1 = l0 ∧ ((putD l0 l1 a2 a3 slot s).2.1 = l1 ∨ (putD l0 l1 a2 a3 slot s).2.1 = l1 ++ [⟨slot, s⟩]) := by
  unfold putD
  split
  · exact ⟨rfl, .inl rfl⟩
  · split
    · split
      · exact ⟨rfl, .inl rfl⟩
      · split
        · exact ⟨rfl, .inr rfl⟩
        · split
          · exact ⟨rfl, .inr rfl⟩
          · exact ⟨rfl, .inr rfl⟩
    · exact ⟨rfl, .inl rfl⟩
theorem last_snoc (l : List W) (x : W) (slot : Int) (d : ByteArray) : disk_last (l ++ [x]) slot d = if x.f0 = slot then x.f1 else disk_last l slot d := by
  unfold disk_last
  rw [List.foldl_append]
  rfl
theorem wr1_get (s : List ByteArray) (x : W) (slot : Int) (h : 0 ≤ slot ∧ slot < (s.length : Int)) (d : ByteArray) : (wr1 s x).getD slot.toNat d = if x.f0 = slot then x.f1 else s.getD slot.toNat d := by
  unfold wr1
  rw [List.getD_eq_getElem?_getD, List.getD_eq_getElem?_getD]
  by_cases c : 0 ≤ x.f0 ∧ x.f0 < (s.length : Int)
  · rw [if_pos c, List.getElem?_set]
    by_cases e : x.f0 = slot
    · rw [if_pos (by rw [e]), if_pos (by omega), if_pos e]
      rfl
    · rw [if_neg (by omega), if_neg e]
  · rw [if_neg c, if_neg (fun e => c (by omega))]
theorem wrs_get (l : List W) (slot : Int) (d : ByteArray) : ∀ s : List ByteArray, 0 ≤ slot ∧ slot < (s.length : Int) → (wrs l s).getD slot.toNat d = disk_last l slot (s.getD slot.toNat d) := by
  induction l with
  | nil => intro s _; rfl
  | cons x l ih =>
    intro s h
    show (wrs l (wr1 s x)).getD _ _ = disk_last l slot (if x.f0 = slot then x.f1 else s.getD slot.toNat d)
    rw [ih _ (by rw [wr1_length]; exact h), wr1_get s x slot h]
theorem get_flushed (l0 : List ByteArray) (l1 : List W) (slot : Int) : getD (wrs l1 l0) [] slot = getD l0 l1 slot := by
  unfold getD
  rw [wrs_length]
  by_cases c : 0 ≤ slot ∧ slot < (l0.length : Int)
  · rw [if_pos c, if_pos c, wrs_get l1 slot _ l0 c]
    rfl
  · rw [if_neg c, if_neg c]
theorem get_snoc (l0 : List ByteArray) (l1 : List W) (x : W) (slot : Int) (hs : 0 ≤ slot ∧ slot < (l0.length : Int)) : getD l0 (l1 ++ [x]) slot = if x.f0 = slot then (x.f1, 0) else getD l0 l1 slot := by
  unfold getD
  rw [if_pos hs, if_pos hs, last_snoc]
  split <;> rfl
theorem get_out (l0 : List ByteArray) (l1 : List W) (slot : Int) (hs : ¬ (0 ≤ slot ∧ slot < (l0.length : Int))) : getD l0 l1 slot = (⟨#[]⟩, 1) := by
  unfold getD
  rw [if_neg hs]
/-- Writes to other slots change nothing. -/
theorem last_others (l : List W) (slot : Int) (h : ∀ x ∈ l, x.f0 ≠ slot) : ∀ d, disk_last l slot d = d := by
  induction l with
  | nil => intro d; rfl
  | cons x l ih =>
    intro d
    show disk_last l slot (if x.f0 = slot then x.f1 else d) = d
    rw [if_neg (h x (by simp)), ih (fun y hy => h y (by simp [hy]))]
theorem crash_length (l0 : List ByteArray) (l1 : List W) (keep tear : Int) : (crashS l0 l1 keep tear).length = l0.length := by
  unfold crashS
  split
  · rw [wrs_length, wrs_length]
  · rw [wrs_length]
theorem crash_others (l0 : List ByteArray) (l1 : List W) (keep tear slot : Int) (h : ∀ x ∈ l1, x.f0 ≠ slot) : getD (crashS l0 l1 keep tear) [] slot = getD l0 [] slot := by
  have h1 : ∀ x ∈ l1.take (keptN l1 keep), x.f0 ≠ slot := fun x hx => h x (List.mem_of_mem_take hx)
  have h2 : ∀ x ∈ ((l1.drop (keptN l1 keep)).take 1).map (tornW · tear), x.f0 ≠ slot := by
    intro x hx
    obtain ⟨y, hy, rfl⟩ := List.mem_map.1 hx
    exact h y (List.mem_of_mem_drop (List.mem_of_mem_take hy))
  unfold crashS
  split
  · rw [get_flushed]
    unfold getD
    rw [wrs_length]
    split
    · rename_i c
      rw [wrs_get _ slot _ l0 c, last_others _ slot h2, last_others _ slot h1]
      rfl
    · rfl
  · rw [get_flushed]
    unfold getD
    split
    · rw [last_others _ slot h1]
      rfl
    · rfl
end Go.Proofs.Ytffjbbedjddpmaa.DP
