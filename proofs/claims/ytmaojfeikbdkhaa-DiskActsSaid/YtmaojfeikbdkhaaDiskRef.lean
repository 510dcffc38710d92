/- What the document's functions of a disk come to, over lists alone. -/
import Derived.Test.YtmaojfeikbdkhaaDiskLaws
import Derived.Test.YtmaojfeikbdkhaaPAllx4
import Derived.Test.YtmaojfeikbdkhaaPAllx4
import Derived.Test.YtmaojfeikbdkhaaPAllx5
import Derived.Test.YtmaojfeikbdkhaaPAllx5
import Derived.Test.YtmaojfeikbdkhaaPAllx6
namespace Go.Proofs.Ytmaojfeikbdkhaa.DP
open Go.RowKit Go.Proofs.YtmaojfeikbdkhaaW.PrintWords Go.Proofs.YtmaojfeikbdkhaaW.PrintLast Go.Proofs.Ytmaojfeikbdkhaa.PAll Go.Proofs.Ytmaojfeikbdkhaa.PB

theorem rput_is (l0 : List ByteArray) (l1 : List W) (a2 : Int) (a3 : Bool) (slot : Int) (s : ByteArray) (h1 : l1.length < 5864062014805) (k : Nat) (hk : 0 < k) : hogsheadref08_Put.f k l0 l1 a2 a3 slot s = some (putD l0 l1 a2 a3 slot s) := by
  obtain ⟨k, rfl⟩ := succ_of hk
  unfold hogsheadref08_Put.f putD
  by_cases c1 : a3 = true
  · rw [if_pos c1, if_pos c1]
  · rw [if_neg c1, if_neg c1]
    by_cases c2 : 0 ≤ slot ∧ slot < (l0.length : Int)
    · rw [if_neg (by omega), decide_eq_false (by omega), hogsheadref08_Put.j0, if_neg (by decide), if_pos c2]
      by_cases c3 : (s.size : Int) > 1024
      · rw [if_pos c3, if_pos c3]
      · rw [if_neg c3, if_neg c3]
        simp only [Option.bind_some, List.nil_append, List.length_nil, Nat.zero_add]
        rw [if_pos h1, if_pos h1]
        by_cases c4 : a2 = 0
        · rw [if_pos c4, if_pos c4]
        · rw [if_neg c4, if_neg c4]
          by_cases c5 : a2 > 0
          · rw [if_pos c5, if_pos c5]
          · rw [if_neg c5, if_neg c5]
    · rw [if_neg c2]
      by_cases c0 : slot < 0
      · rw [if_pos c0, hogsheadref08_Put.j0, if_pos rfl]
      · rw [if_neg c0, decide_eq_true (by omega), hogsheadref08_Put.j0, if_pos rfl]

theorem rget_loop (l0 : List ByteArray) (l1 : List W) (a2 : Int) (a3 : Bool) (slot : Int) (hl : l1.length ≤ 9223372036854775807) :
    ∀ (m i k : Nat) (s : ByteArray), i + m = l1.length → m < k → hogsheadref08_Get.l0 k slot s i l0 l1 a2 a3 = some (disk_last (l1.drop i) slot s, 0)
  | 0, i, k, s, hi, hk => by
    obtain ⟨k, rfl⟩ := succ_of hk
    rw [hogsheadref08_Get.l0, if_neg (by omega), List.drop_eq_nil_of_le (by omega)]
    rfl
  | m + 1, i, k, s, hi, hk => by
    obtain ⟨k, rfl⟩ := succ_of (show 0 < k by omega)
    have hx : l1.drop i = rd_T47 l1 (i : Int) :: l1.drop (i + 1) := by
      rw [List.drop_eq_getElem_cons (by omega)]
      unfold rd_T47
      rw [Int.toNat_natCast, List.getD_eq_getElem?_getD, List.getElem?_eq_getElem (by omega)]
      rfl
    rw [hogsheadref08_Get.l0, if_pos (by omega), if_pos (by omega), hx, wrap_succ (n := l1.length) (by omega) hl]
    generalize rd_T47 l1 (i : Int) = x
    show _ = some (disk_last (l1.drop (i + 1)) slot (if x.f0 = slot then x.f1 else s), 0)
    by_cases e : x.f0 = slot
    · rw [if_pos e, if_pos e]
      exact rget_loop l0 l1 a2 a3 slot hl m (i + 1) k _ (by omega) (by omega)
    · rw [if_neg e, if_neg e]
      exact rget_loop l0 l1 a2 a3 slot hl m (i + 1) k _ (by omega) (by omega)
theorem rget_is (l0 : List ByteArray) (l1 : List W) (a2 : Int) (a3 : Bool) (slot : Int) (hl : l1.length ≤ 9223372036854775807) (k : Nat) (hk : l1.length + 1 < k) : hogsheadref08_Get.f k l0 l1 a2 a3 slot = some (getD l0 l1 slot) := by
  obtain ⟨k, rfl⟩ := succ_of (show 0 < k by omega)
  unfold hogsheadref08_Get.f getD
  by_cases c2 : 0 ≤ slot ∧ slot < (l0.length : Int)
  · rw [if_neg (by omega), decide_eq_false (by omega), hogsheadref08_Get.j0, if_neg (by decide), if_pos c2.1, if_pos c2.2, if_pos c2]
    have := rget_loop l0 l1 a2 a3 slot hl l1.length 0 k (l0.getD slot.toNat ⟨#[]⟩) (by omega) (by omega)
    rw [List.drop_zero] at this
    exact this
  · rw [if_neg c2]
    by_cases c0 : slot < 0
    · rw [if_pos c0, hogsheadref08_Get.j0, if_pos rfl]
    · rw [if_neg c0, decide_eq_true (by omega), hogsheadref08_Get.j0, if_pos rfl]

theorem rdone_loop (l0 : List ByteArray) (l1 : List W) (a2 : Int) (a3 : Bool) (n : Nat) (hn : n ≤ l1.length) (hl : l1.length ≤ 9223372036854775807) :
    ∀ (m i : Nat) (s : List ByteArray) (k : Nat), i + m = n → m < k → hogsheadref08_done.l0 k n s i l0 l1 a2 a3 = some (wrs ((l1.take n).drop i) s)
  | 0, i, s, k, hi, hk => by
    obtain ⟨k, rfl⟩ := succ_of hk
    rw [hogsheadref08_done.l0, if_neg (by omega), List.drop_eq_nil_of_le (by rw [List.length_take]; omega)]
    rfl
  | m + 1, i, s, k, hi, hk => by
    obtain ⟨k, rfl⟩ := succ_of (show 0 < k by omega)
    have hx : (l1.take n).drop i = rd_T47 l1 (i : Int) :: (l1.take n).drop (i + 1) := by
      rw [List.drop_eq_getElem_cons (by rw [List.length_take]; omega), List.getElem_take]
      unfold rd_T47
      rw [Int.toNat_natCast, List.getD_eq_getElem?_getD, List.getElem?_eq_getElem (by omega)]
      rfl
    rw [hogsheadref08_done.l0, if_pos (by omega), if_pos (by omega), if_pos (by omega), hx]
    rw [wrap_succ (n := n) (by omega) (by omega)]
    generalize rd_T47 l1 (i : Int) = x
    show _ = some (wrs _ (wr1 s x))
    unfold wr1
    by_cases h0 : x.f0 ≥ 0
    · rw [if_pos h0]
      by_cases h1 : x.f0 < (s.length : Int)
      · rw [if_pos h1, if_pos h0, if_pos ⟨h0, h1⟩]
        exact rdone_loop l0 l1 a2 a3 n hn hl m (i + 1) _ k (by omega) (by omega)
      · rw [if_neg h1, if_neg (by omega)]
        exact rdone_loop l0 l1 a2 a3 n hn hl m (i + 1) _ k (by omega) (by omega)
    · rw [if_neg h0, if_neg (by omega)]
      exact rdone_loop l0 l1 a2 a3 n hn hl m (i + 1) _ k (by omega) (by omega)
theorem rdone_is (l0 : List ByteArray) (l1 : List W) (a2 : Int) (a3 : Bool) (n : Nat) (hn : n ≤ l1.length) (hl : l1.length ≤ 9223372036854775807) (h0 : l0.length < 8796093022208) (k : Nat) (hk : n < k) :
    hogsheadref08_done.f k l0 l1 a2 a3 n = some (wrs (l1.take n) l0) := by
  unfold hogsheadref08_done.f
  rw [Option.bind_some, List.nil_append, List.length_nil, Nat.zero_add, if_pos h0]
  exact rdone_loop l0 l1 a2 a3 n hn hl n 0 l0 k (by omega) hk
theorem rflush_is (l0 : List ByteArray) (l1 : List W) (a2 : Int) (a3 : Bool) (hl : l1.length ≤ 9223372036854775807) (h0 : l0.length < 8796093022208) (k : Nat) (hk : l1.length < k) :
    hogsheadref08_Flush.f k l0 l1 a2 a3 = some (if a3 = true then (l0, l1, a2, a3, 6) else (wrs l1 l0, [], a2, false, 0)) := by
  unfold hogsheadref08_Flush.f
  rw [rdone_is l0 l1 a2 a3 l1.length (Nat.le_refl _) hl h0 k hk, List.take_length, Option.bind_some]
  split <;> rfl

/-- Are two lists of texts the same? -/
theorem rsame_loop (a b : List ByteArray) (hl : a.length = b.length) (hm : a.length ≤ 9223372036854775807) :
    ∀ (m i k : Nat), i + m = a.length → m < k → hogsheadref01_Same.l0 k a b i = some (decide (a.drop i = b.drop i))
  | 0, i, k, hi, hk => by
    obtain ⟨k, rfl⟩ := succ_of hk
    rw [hogsheadref01_Same.l0, if_neg (by omega), List.drop_eq_nil_of_le (by omega), List.drop_eq_nil_of_le (by omega)]
    rfl
  | m + 1, i, k, hi, hk => by
    obtain ⟨k, rfl⟩ := succ_of (show 0 < k by omega)
    rw [hogsheadref01_Same.l0, if_pos (by omega), if_pos (by omega), if_pos (by omega), wrap_succ (n := a.length) (by omega) hm, rsame_loop a b hl hm m (i + 1) k (by omega) (by omega)]
    rw [drop_getD (l := a) (j := i) ByteArray.empty (by omega), drop_getD (l := b) (j := i) ByteArray.empty (by omega)]
    show (if (a.getD i ByteArray.empty).toList = (b.getD i ByteArray.empty).toList then _ else _) = _
    by_cases e : a.getD i ByteArray.empty = b.getD i ByteArray.empty
    · rw [if_pos (by rw [e]), e]
      simp
    · rw [if_neg (fun h => e (L_inj (by rw [← L_toList, ← L_toList]; exact h)))]
      symm
      rw [Option.some_inj, decide_eq_false_iff_not]
      intro h
      injection h with h1 h2
      exact e h1
theorem rsame_is (a b : List ByteArray) (hm : a.length ≤ 9223372036854775807) (k : Nat) (hk : a.length < k) : hogsheadref01_Same.f k a b = some (decide (a = b)) := by
  unfold hogsheadref01_Same.f
  by_cases c : (a.length : Int) = (b.length : Int)
  · rw [if_pos c, show (0 : Int) = ((0 : Nat) : Int) from rfl, rsame_loop a b (by omega) hm a.length 0 k (by omega) hk]
    simp
  · rw [if_neg c, decide_eq_false]
    intro e
    exact c (by rw [e])

noncomputable instance decW : DecidableEq W := fun _ _ => Classical.propDecidable _
theorem w_eq {x y : W} : (!(x.f0 == y.f0) || (!(x.f1.toList == y.f1.toList))) = true ↔ x ≠ y := by
  cases x with
  | mk a b =>
    cases y with
    | mk c d =>
      simp only [Bool.or_eq_true, Bool.not_eq_true', beq_eq_false_iff_ne, ne_eq, L_toList]
      constructor
      · rintro h e
        injection e with e1 e2
        rcases h with h | h
        · exact h e1
        · exact h (by rw [e2])
      · intro h
        by_cases e : a = c
        · exact .inr (fun h2 => h (by rw [e, L_inj h2]))
        · exact .inl e
theorem wsame_loop (l0 : List ByteArray) (l1 : List W) (a2 : Int) (a3 : Bool) (m0 : List ByteArray) (m1 : List W) (b2 : Int) (b3 : Bool) (hl : l1.length = m1.length) (hm : l1.length ≤ 9223372036854775807) :
    ∀ (m i k : Nat), i + m = l1.length → m < k → hogsheadref08_Same.l0 k i l0 l1 a2 a3 m0 m1 b2 b3 = some (decide (l1.drop i = m1.drop i))
  | 0, i, k, hi, hk => by
    obtain ⟨k, rfl⟩ := succ_of hk
    rw [hogsheadref08_Same.l0, if_neg (by omega), List.drop_eq_nil_of_le (by omega), List.drop_eq_nil_of_le (by omega)]
    simp
  | m + 1, i, k, hi, hk => by
    obtain ⟨k, rfl⟩ := succ_of (show 0 < k by omega)
    rw [hogsheadref08_Same.l0, if_pos (by omega), if_pos (by omega), if_pos (by omega), wrap_succ (n := l1.length) (by omega) hm, wsame_loop l0 l1 a2 a3 m0 m1 b2 b3 hl hm m (i + 1) k (by omega) (by omega)]
    rw [drop_getD (l := l1) (j := i) z47 (by omega), drop_getD (l := m1) (j := i) z47 (by omega)]
    have e1 : rd_T47 l1 (i : Int) = l1.getD i z47 := rfl
    have e2 : rd_T47 m1 (i : Int) = m1.getD i z47 := rfl
    rw [e1, e2]
    by_cases e : l1.getD i z47 = m1.getD i z47
    · rw [if_neg (fun h => (w_eq.1 h) e), e]
      simp
    · rw [if_pos (w_eq.2 e)]
      symm
      rw [Option.some_inj, decide_eq_false_iff_not]
      intro h
      injection h with h1 h2
      exact e h1
/-- Are two disks the same? -/
theorem dsame_is (l0 : List ByteArray) (l1 : List W) (a2 : Int) (a3 : Bool) (m0 : List ByteArray) (m1 : List W) (b2 : Int) (b3 : Bool) (h0 : l0.length ≤ 9223372036854775807) (h1 : l1.length ≤ 9223372036854775807) (k : Nat) (hk : l0.length + l1.length + 2 < k) :
    hogsheadref08_Same.f k l0 l1 a2 a3 m0 m1 b2 b3 = some (decide (l0 = m0 ∧ l1 = m1 ∧ a2 = b2 ∧ a3 = b3)) := by
  unfold hogsheadref08_Same.f
  rw [rsame_is l0 m0 h0 k (by omega), Option.bind_some]
  obtain ⟨k, rfl⟩ := succ_of (show 0 < k by omega)
  by_cases c0 : l0 = m0
  · rw [if_pos (decide_eq_true c0)]
    by_cases c1 : (l1.length : Int) = (m1.length : Int)
    · rw [if_pos c1]
      by_cases c2 : a2 = b2
      · rw [if_pos c2, hogsheadref08_Same.j0]
        by_cases c3 : a3 = b3
        · rw [if_neg (by rw [c3]; simp), show (0 : Int) = ((0 : Nat) : Int) from rfl, wsame_loop _ _ _ _ _ _ _ _ (by omega) h1 l1.length 0 k (by omega) (by omega)]
          simp [c0, c2, c3]
        · rw [if_pos (by simpa using c3)]
          simp [c3]
      · rw [if_neg c2, hogsheadref08_Same.j0, if_pos rfl]
        simp [c2]
    · rw [if_neg c1, hogsheadref08_Same.j0, if_pos rfl]
      symm
      rw [Option.some_inj, decide_eq_false_iff_not]
      rintro ⟨_, e, _⟩
      exact c1 (by rw [e])
  · rw [if_neg (by simpa using c0), hogsheadref08_Same.j0, if_pos rfl]
    simp [c0]
theorem dsame_refl (l0 : List ByteArray) (l1 : List W) (a2 : Int) (a3 : Bool) (h0 : l0.length ≤ 9223372036854775807) (h1 : l1.length ≤ 9223372036854775807) (k : Nat) (hk : l0.length + l1.length + 2 < k) :
    hogsheadref08_Same.f k l0 l1 a2 a3 l0 l1 a2 a3 = some true := by
  rw [dsame_is _ _ _ _ _ _ _ _ h0 h1 k hk]
  simp
/-- What New comes to. -/
theorem new_is (n : Int) : disk_New.f n = some (if 1 ≤ n ∧ n ≤ 256 then (List.replicate n.toNat ⟨#[]⟩, [], -1, false, 0) else ([], [], 0, false, 1)) := by
  unfold disk_New.f
  by_cases c1 : n < 1
  · rw [if_pos c1, if_neg (by omega)]
  · rw [if_neg c1]
    by_cases c2 : n > 256
    · rw [if_pos c2, if_neg (by omega)]
    · rw [if_neg c2, if_pos (by omega), if_pos (by omega), if_pos (by omega)]
theorem rnew_is (n : Int) : hogsheadref08_New.f n = some (if 1 ≤ n ∧ n ≤ 256 then (List.replicate n.toNat ⟨#[]⟩, [], -1, false, 0) else ([], [], 0, false, 1)) := by
  unfold hogsheadref08_New.f
  by_cases c1 : n < 1
  · rw [if_pos c1, if_neg (by omega)]
  · rw [if_neg c1]
    by_cases c2 : n > 256
    · rw [if_pos c2, if_neg (by omega)]
    · rw [if_neg c2, if_pos (by omega), if_pos (by omega), if_pos (by omega)]
end Go.Proofs.Ytmaojfeikbdkhaa.DP
