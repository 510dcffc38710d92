/- What a disk's functions come to, over lists alone. -/
import Derived.Test.YtmaojfeikbdkhaaBase
import Derived.Test.YtmaojfeikbdkhaaPAllx2
import Derived.Test.YtmaojfeikbdkhaaPAllx3
namespace Go.Proofs.Ytmaojfeikbdkhaa.DP
open Go.RowKit Go.Proofs.YtmaojfeikbdkhaaW.PrintWords Go.Proofs.YtmaojfeikbdkhaaW.PrintLast Go.Proofs.Ytmaojfeikbdkhaa.PAll Go.Proofs.Ytmaojfeikbdkhaa.PB

abbrev W := S47
/-- One write that is done, and all of a list. -/
def wr1 (s : List ByteArray) (x : W) : List ByteArray := if 0 ≤ x.f0 ∧ x.f0 < (s.length : Int) then s.set x.f0.toNat x.f1 else s
def wrs (l : List W) (s : List ByteArray) : List ByteArray := l.foldl wr1 s
theorem wr1_length (s : List ByteArray) (x : W) : (wr1 s x).length = s.length := by
  unfold wr1
  split
  · simp
  · rfl
theorem wrs_length (l : List W) : ∀ s : List ByteArray, (wrs l s).length = s.length := by
  induction l with
  | nil => intro s; rfl
  | cons x l ih =>
    intro s
    show (wrs l (wr1 s x)).length = _
    rw [ih, wr1_length]
theorem wrs_append (l r : List W) (s : List ByteArray) : wrs (l ++ r) s = wrs r (wrs l s) := by
  unfold wrs
  rw [List.foldl_append]

theorem done_loop (l0 : List ByteArray) (l1 : List W) (a2 : Int) (a3 : Bool) (n : Nat) (hn : n ≤ l1.length) (hl : l1.length ≤ 9223372036854775807) :
    ∀ (m i : Nat) (s : List ByteArray) (k : Nat), i + m = n → m < k → s.length = l0.length → disk_done.l0 k s n i l0 l1 a2 a3 = some (wrs ((l1.take n).drop i) s)
  | 0, i, s, k, hi, hk, _ => by
    obtain ⟨k, rfl⟩ := succ_of hk
    rw [disk_done.l0, if_neg (by omega), List.drop_eq_nil_of_le (by rw [List.length_take]; omega)]
    rfl
  | m + 1, i, s, k, hi, hk, hs => by
    obtain ⟨k, rfl⟩ := succ_of hk
    have hx : (l1.take n).drop i = rd_T47 l1 (i : Int) :: (l1.take n).drop (i + 1) := by
      rw [List.drop_eq_getElem_cons (by rw [List.length_take]; omega), List.getElem_take]
      unfold rd_T47
      rw [Int.toNat_natCast, List.getD_eq_getElem?_getD, List.getElem?_eq_getElem (by omega)]
      rfl
    rw [disk_done.l0, if_pos (by omega), if_pos (by omega), if_pos (by omega), hx]
    rw [wrap_succ (n := n) (by omega) (by omega)]
    generalize rd_T47 l1 (i : Int) = x
    show _ = some (wrs _ (wr1 s x))
    unfold disk_has.f wr1
    by_cases h0 : x.f0 ≥ 0
    · rw [if_pos h0, Option.bind_some]
      by_cases h1 : x.f0 < (l0.length : Int)
      · rw [if_pos (decide_eq_true h1), if_pos h0, if_pos (by omega), if_pos ⟨h0, by omega⟩]
        exact done_loop l0 l1 a2 a3 n hn hl m (i + 1) _ k (by omega) (by omega) (by rw [List.length_set, hs])
      · rw [if_neg (by simpa using h1), if_neg (by omega)]
        exact done_loop l0 l1 a2 a3 n hn hl m (i + 1) _ k (by omega) (by omega) hs
    · rw [if_neg h0, Option.bind_some, if_neg (by decide), if_neg (by omega)]
      exact done_loop l0 l1 a2 a3 n hn hl m (i + 1) _ k (by omega) (by omega) hs
theorem done_is (l0 : List ByteArray) (l1 : List W) (a2 : Int) (a3 : Bool) (n : Nat) (hn : n ≤ l1.length) (hl : l1.length ≤ 9223372036854775807) (h0 : l0.length ≤ 8796093022208) (k : Nat) (hk : n < k) :
    disk_done.f k l0 l1 a2 a3 n = some (wrs (l1.take n) l0) := by
  unfold disk_done.f slices_Clone_string_string.f
  rw [if_pos h0, Option.bind_some]
  exact done_loop l0 l1 a2 a3 n hn hl n 0 l0 k (by omega) hk rfl

theorem has_is (l0 : List ByteArray) (l1 : List W) (a2 : Int) (a3 : Bool) (i : Int) : disk_has.f l0 l1 a2 a3 i = some (decide (0 ≤ i ∧ i < (l0.length : Int))) := by
  unfold disk_has.f
  by_cases h0 : i ≥ 0
  · rw [if_pos h0]
    simp [h0]
  · rw [if_neg h0]
    simp [h0]
/-- What Put comes to. -/
def putD (l0 : List ByteArray) (l1 : List W) (a2 : Int) (a3 : Bool) (slot : Int) (s : ByteArray) : List ByteArray × List W × Int × Bool × Int :=
  if a3 = true then (l0, l1, a2, a3, 6) else if 0 ≤ slot ∧ slot < (l0.length : Int) then
    if (s.size : Int) > 1024 then (l0, l1, a2, a3, 4) else
      if a2 = 0 then (l0, l1 ++ [⟨slot, s⟩], a2, true, 6) else if a2 > 0 then (l0, l1 ++ [⟨slot, s⟩], wrap64 (a2 - 1), a3, 0) else (l0, l1 ++ [⟨slot, s⟩], a2, a3, 0)
    else (l0, l1, a2, a3, 1)
theorem put_is (l0 : List ByteArray) (l1 : List W) (a2 : Int) (a3 : Bool) (slot : Int) (s : ByteArray) (h1 : l1.length < 5864062014805) : disk_Put.f l0 l1 a2 a3 slot s = some (putD l0 l1 a2 a3 slot s) := by
  unfold disk_Put.f putD
  rw [has_is, Option.bind_some]
  have hc : api_Write.f l1 = some l1 := by
    unfold api_Write.f
    rw [if_pos (by omega)]
  rw [hc]
  simp only [Option.bind_some, if_pos h1]
  by_cases c1 : a3 = true
  · simp [c1]
  · by_cases c2 : 0 ≤ slot ∧ slot < (l0.length : Int)
    · simp only [if_neg c1, if_pos c2, decide_eq_true c2, if_true]
      by_cases c3 : (s.size : Int) > 1024
      · simp only [if_pos c3]
      · simp only [if_neg c3]
        by_cases c4 : a2 = 0
        · simp only [if_pos c4]
        · simp only [if_neg c4]
          by_cases c5 : a2 > 0
          · simp only [if_pos c5]
          · simp only [if_neg c5]
    · simp only [if_neg c1, if_neg c2, decide_eq_false c2]
      rfl
theorem flush_is (l0 : List ByteArray) (l1 : List W) (a2 : Int) (a3 : Bool) (hl : l1.length ≤ 9223372036854775807) (h0 : l0.length ≤ 8796093022208) (k : Nat) (hk : l1.length < k) :
    disk_Flush.f k l0 l1 a2 a3 = some (if a3 = true then (l0, l1, a2, a3, 6) else (wrs l1 l0, [], a2, a3, 0)) := by
  unfold disk_Flush.f
  rw [done_is l0 l1 a2 a3 l1.length (Nat.le_refl _) hl h0 k hk, List.take_length, Option.bind_some]
  split <;> rfl
/-- What Get comes to. -/
def getD (l0 : List ByteArray) (l1 : List W) (slot : Int) : ByteArray × Int := if 0 ≤ slot ∧ slot < (l0.length : Int) then (disk_last l1 slot (l0.getD slot.toNat ⟨#[]⟩), 0) else (⟨#[]⟩, 1)
theorem get_is (l0 : List ByteArray) (l1 : List W) (a2 : Int) (a3 : Bool) (slot : Int) : disk_Get.f l0 l1 a2 a3 slot = some (getD l0 l1 slot) := by
  unfold disk_Get.f getD
  split <;> rfl
/-- How many writes a crash keeps, and what it makes of the next one. -/
def keptN (l1 : List W) (keep : Int) : Nat := min keep.toNat l1.length
def tornW (x : W) (tear : Int) : W := ⟨x.f0, x.f1.extract 0 (min tear.toNat x.f1.size)⟩
def crashS (l0 : List ByteArray) (l1 : List W) (keep tear : Int) : List ByteArray :=
  if 0 ≤ tear then wrs ((l1.drop (keptN l1 keep)).take 1 |>.map (tornW · tear)) (wrs (l1.take (keptN l1 keep)) l0) else wrs (l1.take (keptN l1 keep)) l0
theorem crash_is (l0 : List ByteArray) (l1 : List W) (a2 : Int) (a3 : Bool) (keep tear : Int) (hl : l1.length ≤ 9223372036854775807) (h0 : l0.length ≤ 8796093022208) (k : Nat) (hk : l1.length < k) :
    disk_Crash.f k l0 l1 a2 a3 keep tear = some (crashS l0 l1 keep tear, [], -1, false) := by
  have hm : mn (mx keep 0) (l1.length : Int) = (keptN l1 keep : Int) := by
    unfold mn mx keptN
    omega
  have hle : keptN l1 keep ≤ l1.length := Nat.min_le_right _ _
  unfold disk_Crash.f crashS
  rw [hm, done_is l0 l1 a2 a3 _ hle hl h0 k (by omega), Option.bind_some]
  obtain ⟨k, rfl⟩ := succ_of (show 0 < k by omega)
  by_cases c : keptN l1 keep < l1.length
  · rw [if_pos (by omega), List.drop_eq_getElem_cons c, List.take_succ_cons, List.take_zero, List.map_cons, List.map_nil]
    have hx : rd_T47 l1 ((keptN l1 keep : Nat) : Int) = l1[keptN l1 keep] := by
      unfold rd_T47
      rw [Int.toNat_natCast, List.getD_eq_getElem?_getD, List.getElem?_eq_getElem c]
      rfl
    rw [disk_Crash.j0, hx]
    generalize l1[keptN l1 keep] = x
    by_cases c2 : 0 ≤ tear
    · rw [if_pos (decide_eq_true c2), if_pos (by omega), if_pos (by omega), has_is, Option.bind_some, if_pos c2]
      show _ = some (wr1 _ (tornW x tear), _)
      have hw : (wrs (l1.take (keptN l1 keep)) l0).length = l0.length := wrs_length _ _
      unfold wr1 tornW
      rw [hw]
      by_cases c3 : 0 ≤ x.f0 ∧ x.f0 < (l0.length : Int)
      · have ht : mn tear (x.f1.size : Int) = ((min tear.toNat x.f1.size : Nat) : Int) := by
          unfold mn
          omega
        rw [if_pos (decide_eq_true c3), ht, if_pos (by omega), if_pos (by omega), if_pos c3.1, if_pos (by omega), if_pos c3, Int.toNat_natCast]
      · rw [if_neg (by simpa using c3), if_neg c3]
    · rw [if_neg (by simpa using c2), if_neg c2]
  · have hd : List.drop (keptN l1 keep) l1 = [] := List.drop_eq_nil_of_le (by omega)
    rw [if_neg (by omega), disk_Crash.j0, if_neg (by decide), hd]
    split <;> rfl

/-- The document's example. -/
theorem shown_is (k : Nat) (hk : 10 ≤ k) : hogsheadlaw08_shown.f k = some true := by
  have hn : disk_New.f 2 = some ([⟨#[]⟩, ⟨#[]⟩], [], -1, false, 0) := rfl
  have h1 : putD [⟨#[]⟩, ⟨#[]⟩] [] (-1) false 0 ⟨#[97]⟩ = ([⟨#[]⟩, ⟨#[]⟩], [⟨0, ⟨#[97]⟩⟩], -1, false, 0) := rfl
  have h2 : wrs [(⟨0, ⟨#[97]⟩⟩ : W)] [⟨#[]⟩, ⟨#[]⟩] = [⟨#[97]⟩, ⟨#[]⟩] := rfl
  have h3 : putD [⟨#[97]⟩, ⟨#[]⟩] [] (-1) false 0 ⟨#[98, 99]⟩ = ([⟨#[97]⟩, ⟨#[]⟩], [⟨0, ⟨#[98, 99]⟩⟩], -1, false, 0) := rfl
  have h4 : crashS [⟨#[97]⟩, ⟨#[]⟩] [⟨0, ⟨#[98, 99]⟩⟩] 0 1 = [⟨#[98]⟩, ⟨#[]⟩] := by
    have e : (⟨#[98, 99]⟩ : ByteArray).extract 0 1 = ⟨#[98]⟩ := by decide
    show [(⟨#[98, 99]⟩ : ByteArray).extract 0 1, ⟨#[]⟩] = _
    rw [e]
  have h5 : getD [⟨#[98]⟩, ⟨#[]⟩] [] 0 = (⟨#[98]⟩, 0) := rfl
  unfold hogsheadlaw08_shown.f
  rw [hn]
  simp only [Option.bind_some]
  rw [put_is _ _ _ _ _ _ (by decide), h1]
  simp only [Option.bind_some]
  rw [flush_is _ _ _ _ (by decide) (by decide) k (by simp only [List.length_cons, List.length_nil]; omega), h2]
  simp only [Option.bind_some, Bool.false_eq_true, if_false]
  rw [put_is _ _ _ _ _ _ (by decide), h3]
  simp only [Option.bind_some]
  rw [crash_is _ _ _ _ _ _ (by decide) (by decide) k (by simp only [List.length_cons, List.length_nil]; omega), h4]
  simp only [Option.bind_some]
  rw [get_is, h5]
  simp only [Option.bind_some]
  obtain ⟨k, rfl⟩ := succ_of (show 0 < k by omega)
  simp only [if_true, L_toList]
  rfl
end Go.Proofs.Ytmaojfeikbdkhaa.DP
