/- A register of 32 bits, stepped bit by bit and byte by byte: it is linear, two unlike registers stay unlike, a byte may be stepped by a table. A register that is stepped bit by bit: 32 bits that stand together, turned round, are told. Bits turned round twice, and what is turned round by a number: the number is 0 where nothing changes. What a disk's functions come to, over lists alone. What the laws of the disks need, over lists alone. What the document's functions of a disk come to, over lists alone. What bursts and crashes come to, over lists alone. -/
import Derived.Test.YtmaojfeikbdkhaaBase
import Derived.Laws.BitsAllLaws
import Derived.Test.YtmaojfeikbdkhaaFlip
import Derived.Test.YtmaojfeikbdkhaaPAllx2
import Derived.Test.YtmaojfeikbdkhaaPAllx3
import Derived.Test.YtmaojfeikbdkhaaPAllx4
import Derived.Test.YtmaojfeikbdkhaaPAllx8
import Derived.Test.YtmaojfeikbdkhaaPAllx7
namespace Go.Proofs.Ytmaojfeikbdkhaa.CM
open Go.Proofs.Ytmaojfeikbdkhaa.PB

/-- The register's highest byte. -/
def hi (r : BitVec 32) : BitVec 8 := BitVec.ofNat 8 (r.toNat / 16777216)
end Go.Proofs.Ytmaojfeikbdkhaa.CM
namespace Go.Proofs.Ytmaojfeikbdkhaa.DP
open Go.RowKit Go.Proofs.YtmaojfeikbdkhaaW.PrintWords Go.Proofs.YtmaojfeikbdkhaaW.PrintLast Go.Proofs.Ytmaojfeikbdkhaa.PAll Go.Proofs.Ytmaojfeikbdkhaa.PB

abbrev W := S47
/-- One write that is done, and all of a list. -/
def wr1 (s : List ByteArray) (x : W) : List ByteArray := if 0 ≤ x.f0 ∧ x.f0 < (s.length : Int) then s.set x.f0.toNat x.f1 else s
def wrs (l : List W) (s : List ByteArray) : List ByteArray := l.foldl wr1 s
theorem wr1_length (s : List ByteArray) (x : W) : (wr1 s x).length = s.length := by
  unfold wr1
  split
  · simp
  · rfl
theorem wrs_length (l : List W) : ∀ s : List ByteArray, (wrs l s).length = s.length := by
  induction l with
  | nil => intro s; rfl
  | cons x l ih =>
    intro s
    show (wrs l (wr1 s x)).length = _
    rw [ih, wr1_length]
theorem done_loop (l0 : List ByteArray) (l1 : List W) (a2 : Int) (a3 : Bool) (n : Nat) (hn : n ≤ l1.length) (hl : l1.length ≤ 9223372036854775807) :
    ∀ (m i : Nat) (s : List ByteArray) (k : Nat), i + m = n → m < k → s.length = l0.length → disk_done.l0 k s n i l0 l1 a2 a3 = some (wrs ((l1.take n).drop i) s)
  | 0, i, s, k, hi, hk, _ => by
    obtain ⟨k, rfl⟩ := succ_of hk
    rw [disk_done.l0, if_neg (by omega), List.drop_eq_nil_of_le (by rw [List.length_take]; omega)]
    rfl
  | m + 1, i, s, k, hi, hk, hs => by
    obtain ⟨k, rfl⟩ := succ_of hk
    have hx : (l1.take n).drop i = rd_T47 l1 (i : Int) :: (l1.take n).drop (i + 1) := by
      rw [List.drop_eq_getElem_cons (by rw [List.length_take]; omega), List.getElem_take]
      unfold rd_T47
      rw [Int.toNat_natCast, List.getD_eq_getElem?_getD, List.getElem?_eq_getElem (by omega)]
      rfl
    rw [disk_done.l0, if_pos (by omega), if_pos (by omega), if_pos (by omega), hx]
    rw [wrap_succ (n := n) (by omega) (by omega)]
    generalize rd_T47 l1 (i : Int) = x
    show _ = some (wrs _ (wr1 s x))
    unfold disk_has.f wr1
    by_cases h0 : x.f0 ≥ 0
    · rw [if_pos h0, Option.bind_some]
      by_cases h1 : x.f0 < (l0.length : Int)
      · rw [if_pos (decide_eq_true h1), if_pos h0, if_pos (by omega), if_pos ⟨h0, by omega⟩]
        exact done_loop l0 l1 a2 a3 n hn hl m (i + 1) _ k (by omega) (by omega) (by rw [List.length_set, hs])
      · rw [if_neg (by simpa using h1), if_neg (by omega)]
        exact done_loop l0 l1 a2 a3 n hn hl m (i + 1) _ k (by omega) (by omega) hs
    · rw [if_neg h0, Option.bind_some, if_neg (by decide), if_neg (by omega)]
      exact done_loop l0 l1 a2 a3 n hn hl m (i + 1) _ k (by omega) (by omega) hs
theorem done_is (l0 : List ByteArray) (l1 : List W) (a2 : Int) (a3 : Bool) (n : Nat) (hn : n ≤ l1.length) (hl : l1.length ≤ 9223372036854775807) (h0 : l0.length ≤ 8796093022208) (k : Nat) (hk : n < k) :
    disk_done.f k l0 l1 a2 a3 n = some (wrs (l1.take n) l0) := by
  unfold disk_done.f slices_Clone_string_string.f
  rw [if_pos h0, Option.bind_some]
  exact done_loop l0 l1 a2 a3 n hn hl n 0 l0 k (by omega) hk rfl

theorem has_is (l0 : List ByteArray) (l1 : List W) (a2 : Int) (a3 : Bool) (i : Int) : disk_has.f l0 l1 a2 a3 i = some (decide (0 ≤ i ∧ i < (l0.length : Int))) := by
  unfold disk_has.f
  by_cases h0 : i ≥ 0
  · rw [if_pos h0]
    simp [h0]
  · rw [if_neg h0]
    simp [h0]
/-- What Put comes to. -/
def putD (l0 : List ByteArray) (l1 : List W) (a2 : Int) (a3 : Bool) (slot : Int) (s : ByteArray) : List ByteArray × List W × Int × Bool × Int :=
  if a3 = true then (l0, l1, a2, a3, 6) else if 0 ≤ slot ∧ slot < (l0.length : Int) then
    if (s.size : Int) > 1024 then (l0, l1, a2, a3, 4) else
      if a2 = 0 then (l0, l1 ++ [⟨slot, s⟩], a2, true, 6) else if a2 > 0 then (l0, l1 ++ [⟨slot, s⟩], wrap64 (a2 - 1), a3, 0) else (l0, l1 ++ [⟨slot, s⟩], a2, a3, 0)
    else (l0, l1, a2, a3, 1)
theorem put_is (l0 : List ByteArray) (l1 : List W) (a2 : Int) (a3 : Bool) (slot : Int) (s : ByteArray) (h1 : l1.length < 5864062014805) : disk_Put.f l0 l1 a2 a3 slot s = some (putD l0 l1 a2 a3 slot s) := by
  unfold disk_Put.f putD
  rw [has_is, Option.bind_some]
  have hc : api_Write_28.f l1 = some l1 := by
    unfold api_Write_28.f
    rw [if_pos (by omega)]
  rw [hc]
  simp only [Option.bind_some, if_pos h1]
  by_cases c1 : a3 = true
  · simp [c1]
  · by_cases c2 : 0 ≤ slot ∧ slot < (l0.length : Int)
    · simp only [if_neg c1, if_pos c2, decide_eq_true c2, if_true]
      by_cases c3 : (s.size : Int) > 1024
      · simp only [if_pos c3]
      · simp only [if_neg c3]
        by_cases c4 : a2 = 0
        · simp only [if_pos c4]
        · simp only [if_neg c4]
          by_cases c5 : a2 > 0
          · simp only [if_pos c5]
          · simp only [if_neg c5]
    · simp only [if_neg c1, if_neg c2, decide_eq_false c2]
      rfl
theorem flush_is (l0 : List ByteArray) (l1 : List W) (a2 : Int) (a3 : Bool) (hl : l1.length ≤ 9223372036854775807) (h0 : l0.length ≤ 8796093022208) (k : Nat) (hk : l1.length < k) :
    disk_Flush.f k l0 l1 a2 a3 = some (if a3 = true then (l0, l1, a2, a3, 6) else (wrs l1 l0, [], a2, a3, 0)) := by
  unfold disk_Flush.f
  rw [done_is l0 l1 a2 a3 l1.length (Nat.le_refl _) hl h0 k hk, List.take_length, Option.bind_some]
  split <;> rfl
/-- What Get comes to. -/
def getD (l0 : List ByteArray) (l1 : List W) (slot : Int) : ByteArray × Int := if 0 ≤ slot ∧ slot < (l0.length : Int) then (disk_last l1 slot (l0.getD slot.toNat ⟨#[]⟩), 0) else (⟨#[]⟩, 1)
theorem get_is (l0 : List ByteArray) (l1 : List W) (a2 : Int) (a3 : Bool) (slot : Int) : disk_Get.f l0 l1 a2 a3 slot = some (getD l0 l1 slot) := by
  unfold disk_Get.f getD
  split <;> rfl
/-- How many writes a crash keeps, and what it makes of the next one. -/
def keptN (l1 : List W) (keep : Int) : Nat := min keep.toNat l1.length
def tornW (x : W) (tear : Int) : W := ⟨x.f0, x.f1.extract 0 (min tear.toNat x.f1.size)⟩
def crashS (l0 : List ByteArray) (l1 : List W) (keep tear : Int) : List ByteArray :=
  if 0 ≤ tear then wrs ((l1.drop (keptN l1 keep)).take 1 |>.map (tornW · tear)) (wrs (l1.take (keptN l1 keep)) l0) else wrs (l1.take (keptN l1 keep)) l0
theorem crash_is (l0 : List ByteArray) (l1 : List W) (a2 : Int) (a3 : Bool) (keep tear : Int) (hl : l1.length ≤ 9223372036854775807) (h0 : l0.length ≤ 8796093022208) (k : Nat) (hk : l1.length < k) :
    disk_Crash.f k l0 l1 a2 a3 keep tear = some (crashS l0 l1 keep tear, [], -1, false) := by
  have hm : mn (mx keep 0) (l1.length : Int) = (keptN l1 keep : Int) := by
    unfold mn mx keptN
    omega
  have hle : keptN l1 keep ≤ l1.length := Nat.min_le_right _ _
  unfold disk_Crash.f crashS
  rw [hm, done_is l0 l1 a2 a3 _ hle hl h0 k (by omega), Option.bind_some]
  obtain ⟨k, rfl⟩ := succ_of (show 0 < k by omega)
  by_cases c : keptN l1 keep < l1.length
  · rw [if_pos (by omega), List.drop_eq_getElem_cons c, List.take_succ_cons, List.take_zero, List.map_cons, List.map_nil]
    have hx : rd_T47 l1 ((keptN l1 keep : Nat) : Int) = l1[keptN l1 keep] := by
      unfold rd_T47
      rw [Int.toNat_natCast, List.getD_eq_getElem?_getD, List.getElem?_eq_getElem c]
      rfl
    rw [disk_Crash.j0, hx]
    generalize l1[keptN l1 keep] = x
    by_cases c2 : 0 ≤ tear
    · rw [if_pos (decide_eq_true c2), if_pos (by omega), if_pos (by omega), has_is, Option.bind_some, if_pos c2]
      show _ = some (wr1 _ (tornW x tear), _)
      have hw : (wrs (l1.take (keptN l1 keep)) l0).length = l0.length := wrs_length _ _
      unfold wr1 tornW
      rw [hw]
      by_cases c3 : 0 ≤ x.f0 ∧ x.f0 < (l0.length : Int)
      · have ht : mn tear (x.f1.size : Int) = ((min tear.toNat x.f1.size : Nat) : Int) := by
          unfold mn
          omega
        rw [if_pos (decide_eq_true c3), ht, if_pos (by omega), if_pos (by omega), if_pos c3.1, if_pos (by omega), if_pos c3, Int.toNat_natCast]
      · rw [if_neg (by simpa using c3), if_neg c3]
    · rw [if_neg (by simpa using c2), if_neg c2]
  · have hd : List.drop (keptN l1 keep) l1 = [] := List.drop_eq_nil_of_le (by omega)
    rw [if_neg (by omega), disk_Crash.j0, if_neg (by decide), hd]
    split <;> rfl

/-- The document's example. -/
theorem shown_is (k : Nat) (hk : 10 ≤ k) : hogsheadlaw08_shown.f k = some true := by
  have hn : disk_New.f 2 = some ([⟨#[]⟩, ⟨#[]⟩], [], -1, false, 0) := rfl
  have h1 : putD [⟨#[]⟩, ⟨#[]⟩] [] (-1) false 0 ⟨#[97]⟩ = ([⟨#[]⟩, ⟨#[]⟩], [⟨0, ⟨#[97]⟩⟩], -1, false, 0) := rfl
  have h2 : wrs [(⟨0, ⟨#[97]⟩⟩ : W)] [⟨#[]⟩, ⟨#[]⟩] = [⟨#[97]⟩, ⟨#[]⟩] := rfl
  have h3 : putD [⟨#[97]⟩, ⟨#[]⟩] [] (-1) false 0 ⟨#[98, 99]⟩ = ([⟨#[97]⟩, ⟨#[]⟩], [⟨0, ⟨#[98, 99]⟩⟩], -1, false, 0) := rfl
  have h4 : crashS [⟨#[97]⟩, ⟨#[]⟩] [⟨0, ⟨#[98, 99]⟩⟩] 0 1 = [⟨#[98]⟩, ⟨#[]⟩] := by
    have e : (⟨#[98, 99]⟩ : ByteArray).extract 0 1 = ⟨#[98]⟩ := by decide
    show [(⟨#[98, 99]⟩ : ByteArray).extract 0 1, ⟨#[]⟩] = _
    rw [e]
  have h5 : getD [⟨#[98]⟩, ⟨#[]⟩] [] 0 = (⟨#[98]⟩, 0) := rfl
  unfold hogsheadlaw08_shown.f
  rw [hn]
  simp only [Option.bind_some]
  rw [put_is _ _ _ _ _ _ (by decide), h1]
  simp only [Option.bind_some]
  rw [flush_is _ _ _ _ (by decide) (by decide) k (by simp only [List.length_cons, List.length_nil]; omega), h2]
  simp only [Option.bind_some, Bool.false_eq_true, if_false]
  rw [put_is _ _ _ _ _ _ (by decide), h3]
  simp only [Option.bind_some]
  rw [crash_is _ _ _ _ _ _ (by decide) (by decide) k (by simp only [List.length_cons, List.length_nil]; omega), h4]
  simp only [Option.bind_some]
  rw [get_is, h5]
  simp only [Option.bind_some]
  obtain ⟨k, rfl⟩ := succ_of (show 0 < k by omega)
  simp only [if_true, L_toList]
  rfl
end Go.Proofs.Ytmaojfeikbdkhaa.DP
namespace Go.Proofs.Ytmaojfeikbdkhaa.DP
open Go.RowKit Go.Proofs.YtmaojfeikbdkhaaW.PrintWords Go.Proofs.YtmaojfeikbdkhaaW.PrintLast Go.Proofs.Ytmaojfeikbdkhaa.PAll Go.Proofs.Ytmaojfeikbdkhaa.PB

theorem crash_length (l0 : List ByteArray) (l1 : List W) (keep tear : Int) : (crashS l0 l1 keep tear).length = l0.length := by
  unfold crashS
  split
  · rw [wrs_length, wrs_length]
  · rw [wrs_length]
end Go.Proofs.Ytmaojfeikbdkhaa.DP
namespace Go.Proofs.Ytmaojfeikbdkhaa.DP
open Go.RowKit Go.Proofs.YtmaojfeikbdkhaaW.PrintWords Go.Proofs.YtmaojfeikbdkhaaW.PrintLast Go.Proofs.Ytmaojfeikbdkhaa.PAll Go.Proofs.Ytmaojfeikbdkhaa.PB

theorem rdone_loop (l0 : List ByteArray) (l1 : List W) (a2 : Int) (a3 : Bool) (n : Nat) (hn : n ≤ l1.length) (hl : l1.length ≤ 9223372036854775807) :
    ∀ (m i : Nat) (s : List ByteArray) (k : Nat), i + m = n → m < k → hogsheadref08_done.l0 k n s i l0 l1 a2 a3 = some (wrs ((l1.take n).drop i) s)
  | 0, i, s, k, hi, hk => by
    obtain ⟨k, rfl⟩ := succ_of hk
    rw [hogsheadref08_done.l0, if_neg (by omega), List.drop_eq_nil_of_le (by rw [List.length_take]; omega)]
    rfl
  | m + 1, i, s, k, hi, hk => by
    obtain ⟨k, rfl⟩ := succ_of (show 0 < k by omega)
    have hx : (l1.take n).drop i = rd_T47 l1 (i : Int) :: (l1.take n).drop (i + 1) := by
      rw [List.drop_eq_getElem_cons (by rw [List.length_take]; omega), List.getElem_take]
      unfold rd_T47
      rw [Int.toNat_natCast, List.getD_eq_getElem?_getD, List.getElem?_eq_getElem (by omega)]
      rfl
    rw [hogsheadref08_done.l0, if_pos (by omega), if_pos (by omega), if_pos (by omega), hx]
    rw [wrap_succ (n := n) (by omega) (by omega)]
    generalize rd_T47 l1 (i : Int) = x
    show _ = some (wrs _ (wr1 s x))
    unfold wr1
    by_cases h0 : x.f0 ≥ 0
    · rw [if_pos h0]
      by_cases h1 : x.f0 < (s.length : Int)
      · rw [if_pos h1, if_pos h0, if_pos ⟨h0, h1⟩]
        exact rdone_loop l0 l1 a2 a3 n hn hl m (i + 1) _ k (by omega) (by omega)
      · rw [if_neg h1, if_neg (by omega)]
        exact rdone_loop l0 l1 a2 a3 n hn hl m (i + 1) _ k (by omega) (by omega)
    · rw [if_neg h0, if_neg (by omega)]
      exact rdone_loop l0 l1 a2 a3 n hn hl m (i + 1) _ k (by omega) (by omega)
theorem rdone_is (l0 : List ByteArray) (l1 : List W) (a2 : Int) (a3 : Bool) (n : Nat) (hn : n ≤ l1.length) (hl : l1.length ≤ 9223372036854775807) (h0 : l0.length < 8796093022208) (k : Nat) (hk : n < k) :
    hogsheadref08_done.f k l0 l1 a2 a3 n = some (wrs (l1.take n) l0) := by
  unfold hogsheadref08_done.f
  rw [Option.bind_some, List.nil_append, List.length_nil, Nat.zero_add, if_pos h0]
  exact rdone_loop l0 l1 a2 a3 n hn hl n 0 l0 k (by omega) hk
/-- Are two lists of texts the same? -/
theorem rsame_loop (a b : List ByteArray) (hl : a.length = b.length) (hm : a.length ≤ 9223372036854775807) :
    ∀ (m i k : Nat), i + m = a.length → m < k → hogsheadref01_Same.l0 k a b i = some (decide (a.drop i = b.drop i))
  | 0, i, k, hi, hk => by
    obtain ⟨k, rfl⟩ := succ_of hk
    rw [hogsheadref01_Same.l0, if_neg (by omega), List.drop_eq_nil_of_le (by omega), List.drop_eq_nil_of_le (by omega)]
    rfl
  | m + 1, i, k, hi, hk => by
    obtain ⟨k, rfl⟩ := succ_of (show 0 < k by omega)
    rw [hogsheadref01_Same.l0, if_pos (by omega), if_pos (by omega), if_pos (by omega), wrap_succ (n := a.length) (by omega) hm, rsame_loop a b hl hm m (i + 1) k (by omega) (by omega)]
    rw [drop_getD (l := a) (j := i) ByteArray.empty (by omega), drop_getD (l := b) (j := i) ByteArray.empty (by omega)]
    show (if (a.getD i ByteArray.empty).toList = (b.getD i ByteArray.empty).toList then _ else _) = _
    by_cases e : a.getD i ByteArray.empty = b.getD i ByteArray.empty
    · rw [if_pos (by rw [e]), e]
      simp
    · rw [if_neg (fun h => e (L_inj (by rw [← L_toList, ← L_toList]; exact h)))]
      symm
      rw [Option.some_inj, decide_eq_false_iff_not]
      intro h
      injection h with h1 h2
      exact e h1
theorem rsame_is (a b : List ByteArray) (hm : a.length ≤ 9223372036854775807) (k : Nat) (hk : a.length < k) : hogsheadref01_Same.f k a b = some (decide (a = b)) := by
  unfold hogsheadref01_Same.f
  by_cases c : (a.length : Int) = (b.length : Int)
  · rw [if_pos c, show (0 : Int) = ((0 : Nat) : Int) from rfl, rsame_loop a b (by omega) hm a.length 0 k (by omega) hk]
    simp
  · rw [if_neg c, decide_eq_false]
    intro e
    exact c (by rw [e])

noncomputable instance decW : DecidableEq W := fun _ _ => Classical.propDecidable _
theorem w_eq {x y : W} : (!(x.f0 == y.f0) || (!(x.f1.toList == y.f1.toList))) = true ↔ x ≠ y := by
  cases x with
  | mk a b =>
    cases y with
    | mk c d =>
      simp only [Bool.or_eq_true, Bool.not_eq_true', beq_eq_false_iff_ne, ne_eq, L_toList]
      constructor
      · rintro h e
        injection e with e1 e2
        rcases h with h | h
        · exact h e1
        · exact h (by rw [e2])
      · intro h
        by_cases e : a = c
        · exact .inr (fun h2 => h (by rw [e, L_inj h2]))
        · exact .inl e
theorem wsame_loop (l0 : List ByteArray) (l1 : List W) (a2 : Int) (a3 : Bool) (m0 : List ByteArray) (m1 : List W) (b2 : Int) (b3 : Bool) (hl : l1.length = m1.length) (hm : l1.length ≤ 9223372036854775807) :
    ∀ (m i k : Nat), i + m = l1.length → m < k → hogsheadref08_Same.l0 k i l0 l1 a2 a3 m0 m1 b2 b3 = some (decide (l1.drop i = m1.drop i))
  | 0, i, k, hi, hk => by
    obtain ⟨k, rfl⟩ := succ_of hk
    rw [hogsheadref08_Same.l0, if_neg (by omega), List.drop_eq_nil_of_le (by omega), List.drop_eq_nil_of_le (by omega)]
    simp
  | m + 1, i, k, hi, hk => by
    obtain ⟨k, rfl⟩ := succ_of (show 0 < k by omega)
    rw [hogsheadref08_Same.l0, if_pos (by omega), if_pos (by omega), if_pos (by omega), wrap_succ (n := l1.length) (by omega) hm, wsame_loop l0 l1 a2 a3 m0 m1 b2 b3 hl hm m (i + 1) k (by omega) (by omega)]
    rw [drop_getD (l := l1) (j := i) z47 (by omega), drop_getD (l := m1) (j := i) z47 (by omega)]
    have e1 : rd_T47 l1 (i : Int) = l1.getD i z47 := rfl
    have e2 : rd_T47 m1 (i : Int) = m1.getD i z47 := rfl
    rw [e1, e2]
    by_cases e : l1.getD i z47 = m1.getD i z47
    · rw [if_neg (fun h => (w_eq.1 h) e), e]
      simp
    · rw [if_pos (w_eq.2 e)]
      symm
      rw [Option.some_inj, decide_eq_false_iff_not]
      intro h
      injection h with h1 h2
      exact e h1
/-- Are two disks the same? -/
theorem dsame_is (l0 : List ByteArray) (l1 : List W) (a2 : Int) (a3 : Bool) (m0 : List ByteArray) (m1 : List W) (b2 : Int) (b3 : Bool) (h0 : l0.length ≤ 9223372036854775807) (h1 : l1.length ≤ 9223372036854775807) (k : Nat) (hk : l0.length + l1.length + 2 < k) :
    hogsheadref08_Same.f k l0 l1 a2 a3 m0 m1 b2 b3 = some (decide (l0 = m0 ∧ l1 = m1 ∧ a2 = b2 ∧ a3 = b3)) := by
  unfold hogsheadref08_Same.f
  rw [rsame_is l0 m0 h0 k (by omega), Option.bind_some]
  obtain ⟨k, rfl⟩ := succ_of (show 0 < k by omega)
  by_cases c0 : l0 = m0
  · rw [if_pos (decide_eq_true c0)]
    by_cases c1 : (l1.length : Int) = (m1.length : Int)
    · rw [if_pos c1]
      by_cases c2 : a2 = b2
      · rw [if_pos c2, hogsheadref08_Same.j0]
        by_cases c3 : a3 = b3
        · rw [if_neg (by rw [c3]; simp), show (0 : Int) = ((0 : Nat) : Int) from rfl, wsame_loop _ _ _ _ _ _ _ _ (by omega) h1 l1.length 0 k (by omega) (by omega)]
          simp [c0, c2, c3]
        · rw [if_pos (by simpa using c3)]
          simp [c3]
      · rw [if_neg c2, hogsheadref08_Same.j0, if_pos rfl]
        simp [c2]
    · rw [if_neg c1, hogsheadref08_Same.j0, if_pos rfl]
      symm
      rw [Option.some_inj, decide_eq_false_iff_not]
      rintro ⟨_, e, _⟩
      exact c1 (by rw [e])
  · rw [if_neg (by simpa using c0), hogsheadref08_Same.j0, if_pos rfl]
    simp [c0]
theorem dsame_refl (l0 : List ByteArray) (l1 : List W) (a2 : Int) (a3 : Bool) (h0 : l0.length ≤ 9223372036854775807) (h1 : l1.length ≤ 9223372036854775807) (k : Nat) (hk : l0.length + l1.length + 2 < k) :
    hogsheadref08_Same.f k l0 l1 a2 a3 l0 l1 a2 a3 = some true := by
  rw [dsame_is _ _ _ _ _ _ _ _ h0 h1 k hk]
  simp
end Go.Proofs.Ytmaojfeikbdkhaa.DP
namespace Go.Proofs.Ytmaojfeikbdkhaa.DP
open Go.RowKit Go.Proofs.YtmaojfeikbdkhaaW.PrintWords Go.Proofs.YtmaojfeikbdkhaaW.PrintLast Go.Proofs.Ytmaojfeikbdkhaa.PAll Go.Proofs.Ytmaojfeikbdkhaa.PB

/-- What a burst comes to. -/
def burstD (l0 : List ByteArray) (l1 : List W) (a2 : Int) (a3 : Bool) (slot at_ : Int) (b : Nat) : List ByteArray × List W × Int × Bool × Int :=
  if 0 ≤ slot ∧ slot < (l0.length : Int) then if at_ < 0 then (l0, l1, a2, a3, 1) else if at_ > 8 * ((rdOf ByteArray.empty l0 slot).size : Int) - 32 then (l0, l1, a2, a3, 1) else (l0.set slot.toNat ⟨(Mark.turnL 32 (rdOf ByteArray.empty l0 slot).data.toList at_.toNat b).toArray⟩, l1, a2, a3, 0) else (l0, l1, a2, a3, 1)
theorem rd_small {l0 : List ByteArray} (h : ∀ x ∈ l0, x.size ≤ 140737488351232) (slot : Int) : (rdOf ByteArray.empty l0 slot).size ≤ 140737488351232 := by
  unfold rdOf
  rw [List.getD_eq_getElem?_getD]
  cases hc : l0[slot.toNat]? with
  | none => exact Nat.zero_le _
  | some x => exact h x (List.mem_of_getElem? hc)
theorem burst_is (l0 : List ByteArray) (l1 : List W) (a2 : Int) (a3 : Bool) (slot at_ : Int) (b : Nat) (hl : l0.length < 8796093022208) (hs : (rdOf ByteArray.empty l0 slot).size ≤ 140737488351232) (hb : b < 4294967296) : disk_Burst.f l0 l1 a2 a3 slot at_ b = some (burstD l0 l1 a2 a3 slot at_ b) := by
  unfold disk_Burst.f Mark.burst_f burstD
  rw [if_pos ⟨hl, by omega, by omega, by omega⟩, Int.toNat_natCast]
  by_cases c : 0 ≤ slot ∧ slot < (l0.length : Int)
  · rw [if_pos c, if_pos c]
    by_cases c2 : at_ < 0
    · rw [if_pos c2, if_pos c2]
    · rw [if_neg c2, if_neg c2]
      by_cases c3 : at_ > 8 * ((rdOf ByteArray.empty l0 slot).size : Int) - 32
      · rw [if_pos c3, if_pos c3]
      · rw [if_neg c3, if_neg c3]
  · rw [if_neg c, if_neg c]
theorem rburst_is (l0 : List ByteArray) (l1 : List W) (a2 : Int) (a3 : Bool) (slot at_ : Int) (b : Nat) (hl : l0.length < 8796093022208) (hs : (rdOf ByteArray.empty l0 slot).size ≤ 140737488351232) (hb : b < 4294967296) : hogsheadref08_Burst.f l0 l1 a2 a3 slot at_ b = some (burstD l0 l1 a2 a3 slot at_ b) := by
  unfold hogsheadref08_Burst.f Mark.burst_f burstD
  rw [if_pos ⟨hl, by omega, by omega, by omega⟩, Int.toNat_natCast]
  by_cases c : 0 ≤ slot ∧ slot < (l0.length : Int)
  · rw [if_pos c, if_pos c]
    by_cases c2 : at_ < 0
    · rw [if_pos c2, if_pos c2]
    · rw [if_neg c2, if_neg c2]
      by_cases c3 : at_ > 8 * ((rdOf ByteArray.empty l0 slot).size : Int) - 32
      · rw [if_pos c3, if_pos c3]
      · rw [if_neg c3, if_neg c3]
  · rw [if_neg c, if_neg c]
/-! ### the document's crash -/
theorem rcrash_end (l0 : List ByteArray) (l1 : List W) (a2 : Int) (a3 : Bool) (keep tear : Int) (hl : l1.length ≤ 9223372036854775807) (h0 : l0.length < 8796093022208) (k : Nat) (hk : l1.length + 3 < k) :
    hogsheadref08_Crash.j1 k tear (keptN l1 keep : Nat) l0 l1 a2 a3 = some (crashS l0 l1 keep tear, [], -1, false) := by
  have hle : keptN l1 keep ≤ l1.length := Nat.min_le_right _ _
  obtain ⟨k, rfl⟩ := succ_of (show 0 < k by omega)
  obtain ⟨k, rfl⟩ := succ_of (show 0 < k by omega)
  obtain ⟨k, rfl⟩ := succ_of (show 0 < k by omega)
  unfold crashS
  rw [hogsheadref08_Crash.j1, rdone_is l0 l1 a2 a3 _ hle hl h0 _ (by omega), Option.bind_some]
  by_cases c : keptN l1 keep < l1.length
  · rw [if_pos (by omega), List.drop_eq_getElem_cons c, List.take_succ_cons, List.take_zero, List.map_cons, List.map_nil]
    have hx : rd_T47 l1 ((keptN l1 keep : Nat) : Int) = l1[keptN l1 keep] := by
      unfold rd_T47
      rw [Int.toNat_natCast, List.getD_eq_getElem?_getD, List.getElem?_eq_getElem c]
      rfl
    rw [hogsheadref08_Crash.j2, hx]
    generalize l1[keptN l1 keep] = x
    by_cases c2 : 0 ≤ tear
    · rw [if_pos (decide_eq_true c2), if_pos (by omega), if_pos (by omega), if_pos c2]
      show _ = some (wr1 _ (tornW x tear), _)
      generalize wrs (l1.take (keptN l1 keep)) l0 = o
      unfold wr1 tornW
      dsimp only
      by_cases c3 : x.f0 ≥ 0
      · rw [if_pos c3, hogsheadref08_Crash.j3]
        by_cases c4 : x.f0 < (o.length : Int)
        · rw [if_pos (decide_eq_true c4), if_pos c3, if_pos c4, if_pos ⟨c3, c4⟩, Option.bind_some]
          by_cases c5 : tear < (x.f1.size : Int)
          · have hm : min tear.toNat x.f1.size = tear.toNat := by omega
            rw [if_pos c5, if_pos c2, if_pos (by omega), hm, List.set_set]
          · have hm : min tear.toNat x.f1.size = x.f1.size := by omega
            have he : x.f1.extract 0 x.f1.size = x.f1 := L_inj (by rw [L_upto, List.take_of_length_le (by rw [L_length]; exact Nat.le_refl _)])
            rw [if_neg c5, hm, he]
        · rw [if_neg (by simpa using c4), if_neg (fun h => c4 h.2)]
      · rw [if_neg c3, hogsheadref08_Crash.j3, if_neg (by decide), if_neg (fun h => c3 h.1)]
    · rw [if_neg (by simpa using c2), if_neg c2]
  · have hd : List.drop (keptN l1 keep) l1 = [] := List.drop_eq_nil_of_le (by omega)
    rw [if_neg (by omega), hogsheadref08_Crash.j2, if_neg (by decide), hd]
    split <;> rfl
theorem rcrash_loop (l0 : List ByteArray) (l1 : List W) (a2 : Int) (a3 : Bool) (keep tear : Int) (hl : l1.length ≤ 9223372036854775807) (h0 : l0.length < 8796093022208) : ∀ (d i k : Nat), i + d = keptN l1 keep → l1.length + 4 + d < k → hogsheadref08_Crash.l0 k keep tear i l0 l1 a2 a3 = some (crashS l0 l1 keep tear, [], -1, false)
  | 0, i, k, hi, hk => by
    have hi2 : i = keptN l1 keep := by omega
    obtain ⟨k, rfl⟩ := succ_of hk
    have he := rcrash_end l0 l1 a2 a3 keep tear hl h0 k (by omega)
    rw [← hi2] at he
    rw [hogsheadref08_Crash.l0]
    have hn : keptN l1 keep = min keep.toNat l1.length := rfl
    by_cases c : (i : Int) < (l1.length : Int)
    · rw [if_pos c, if_neg (by omega)]
      exact he
    · rw [if_neg c]
      exact he
  | d + 1, i, k, hi, hk => by
    obtain ⟨k, rfl⟩ := succ_of hk
    have hn : keptN l1 keep = min keep.toNat l1.length := rfl
    rw [hogsheadref08_Crash.l0, if_pos (by omega), if_pos (by omega), wrap_succ (n := l1.length) (by omega) hl]
    exact rcrash_loop l0 l1 a2 a3 keep tear hl h0 d (i + 1) k (by omega) (by omega)
theorem rcrash_is (l0 : List ByteArray) (l1 : List W) (a2 : Int) (a3 : Bool) (keep tear : Int) (hl : l1.length ≤ 9223372036854775807) (h0 : l0.length < 8796093022208) (k : Nat) (hk : 2 * l1.length + 4 < k) : hogsheadref08_Crash.f k l0 l1 a2 a3 keep tear = some (crashS l0 l1 keep tear, [], -1, false) := by
  unfold hogsheadref08_Crash.f
  have hn : keptN l1 keep = min keep.toNat l1.length := rfl
  exact rcrash_loop l0 l1 a2 a3 keep tear hl h0 (keptN l1 keep) 0 k (by omega) (by omega)

/-! ### which disks are the same -/
theorem equal_loop (a b : List ByteArray) (hl : a.length = b.length) (hm : a.length ≤ 9223372036854775807) :
    ∀ (m i k : Nat), i + m = a.length → m < k → slices_Equal_string_string.l0 k a b a.length i = some (decide (a.drop i = b.drop i))
  | 0, i, k, hi, hk => by
    obtain ⟨k, rfl⟩ := succ_of hk
    rw [slices_Equal_string_string.l0, if_neg (by omega), List.drop_eq_nil_of_le (by omega), List.drop_eq_nil_of_le (by omega)]
    rfl
  | m + 1, i, k, hi, hk => by
    obtain ⟨k, rfl⟩ := succ_of (show 0 < k by omega)
    rw [slices_Equal_string_string.l0, if_pos (by omega), if_pos (by omega), if_pos (by omega), if_pos (by omega), wrap_succ (n := a.length) (by omega) hm, equal_loop a b hl hm m (i + 1) k (by omega) (by omega)]
    rw [drop_getD (l := a) (j := i) ByteArray.empty (by omega), drop_getD (l := b) (j := i) ByteArray.empty (by omega)]
    show (if (a.getD i ByteArray.empty).toList = (b.getD i ByteArray.empty).toList then _ else _) = _
    by_cases e : a.getD i ByteArray.empty = b.getD i ByteArray.empty
    · rw [if_pos (by rw [e]), e]
      simp
    · rw [if_neg (fun h => e (L_inj (by rw [← L_toList, ← L_toList]; exact h)))]
      symm
      rw [Option.some_inj, decide_eq_false_iff_not]
      intro h
      injection h with h1 h2
      exact e h1
theorem equal_is (a b : List ByteArray) (hm : a.length ≤ 9223372036854775807) (k : Nat) (hk : a.length < k) : slices_Equal_string_string.f k a b = some (decide (a = b)) := by
  unfold slices_Equal_string_string.f
  by_cases c : (a.length : Int) = (b.length : Int)
  · rw [if_pos c, show (0 : Int) = ((0 : Nat) : Int) from rfl, equal_loop a b (by omega) hm a.length 0 k (by omega) hk]
    simp
  · rw [if_neg c, decide_eq_false]
    intro e
    exact c (by rw [e])
theorem wequal_loop (l1 m1 : List W) (hl : l1.length = m1.length) (hm : l1.length ≤ 9223372036854775807) :
    ∀ (m i k : Nat), i + m = l1.length → m < k → api_Write_34.l0 k l1 m1 l1.length i = some (decide (l1.drop i = m1.drop i))
  | 0, i, k, hi, hk => by
    obtain ⟨k, rfl⟩ := succ_of hk
    rw [api_Write_34.l0, if_neg (by omega), List.drop_eq_nil_of_le (by omega), List.drop_eq_nil_of_le (by omega)]
    simp
  | m + 1, i, k, hi, hk => by
    obtain ⟨k, rfl⟩ := succ_of (show 0 < k by omega)
    rw [api_Write_34.l0, if_pos (by omega), if_pos (by omega), if_pos (by omega), if_pos (by omega), wrap_succ (n := l1.length) (by omega) hm, wequal_loop l1 m1 hl hm m (i + 1) k (by omega) (by omega)]
    rw [drop_getD (l := l1) (j := i) z47 (by omega), drop_getD (l := m1) (j := i) z47 (by omega)]
    have e1 : rd_T47 l1 (i : Int) = l1.getD i z47 := rfl
    have e2 : rd_T47 m1 (i : Int) = m1.getD i z47 := rfl
    rw [e1, e2]
    by_cases e : l1.getD i z47 = m1.getD i z47
    · rw [if_neg (fun h => (w_eq.1 h) e), e]
      simp
    · rw [if_pos (w_eq.2 e)]
      symm
      rw [Option.some_inj, decide_eq_false_iff_not]
      intro h
      injection h with h1 h2
      exact e h1
theorem wequal_is (l1 m1 : List W) (hm : l1.length ≤ 9223372036854775807) (k : Nat) (hk : l1.length < k) : api_Write_34.f k l1 m1 = some (decide (l1 = m1)) := by
  unfold api_Write_34.f
  by_cases c : (l1.length : Int) = (m1.length : Int)
  · rw [if_pos c, show (0 : Int) = ((0 : Nat) : Int) from rfl, wequal_loop l1 m1 (by omega) hm l1.length 0 k (by omega) hk]
    simp
  · rw [if_neg c]
    symm
    rw [Option.some_inj, decide_eq_false_iff_not]
    intro e
    exact c (by rw [e])
theorem psame_is (l0 : List ByteArray) (l1 : List W) (a2 : Int) (a3 : Bool) (m0 : List ByteArray) (m1 : List W) (b2 : Int) (b3 : Bool) (h0 : l0.length ≤ 9223372036854775807) (h1 : l1.length ≤ 9223372036854775807) (k : Nat) (hk : l0.length + l1.length + 2 < k) :
    disk_Same.f k l0 l1 a2 a3 m0 m1 b2 b3 = some (decide (l0 = m0 ∧ l1 = m1 ∧ a2 = b2 ∧ a3 = b3)) := by
  unfold disk_Same.f
  by_cases c2 : a2 = b2
  · rw [if_pos c2]
    by_cases c3 : a3 = b3
    · rw [if_pos (by rw [c3]; simp), equal_is l0 m0 h0 k (by omega), Option.bind_some]
      by_cases c0 : l0 = m0
      · rw [if_pos (decide_eq_true c0), wequal_is l1 m1 h1 k (by omega), Option.bind_some]
        simp [c0, c2, c3]
      · rw [if_neg (by simpa using c0)]
        simp [c0]
    · rw [if_neg (by simpa using c3)]
      simp [c3]
  · rw [if_neg c2]
    simp [c2]
end Go.Proofs.Ytmaojfeikbdkhaa.DP
