/- How a call begins, and the document's example. -/
import Derived.Test.YtmjmmgefkebggaaBase
import Derived.Test.YtmjmmgefkebggaaPAllx3
import Derived.Test.YtmjmmgefkebggaaPAllx11
namespace Go.Proofs.Ytmjmmgefkebggaa.DD
open Go.RowKit Go.Proofs.YtmjmmgefkebggaaW.PrintWords Go.Proofs.YtmjmmgefkebggaaW.PrintLast Go.Proofs.Ytmjmmgefkebggaa.PAll Go.Proofs.Ytmjmmgefkebggaa.PB

abbrev D := Int × Int × ByteArray × ByteArray × Int × Int × Int × Int × Int × Int × Int × Int × ByteArray × Bool
/-- What New comes to. -/
def newS (client kind : Int) (name bytes : ByteArray) (seq : Int) : Int × Int × ByteArray × ByteArray × Int × Int × Int × Int × Int × Int × Int × Int × ByteArray × Bool × Int :=
  let no (e : Int) : Int × Int × ByteArray × ByteArray × Int × Int × Int × Int × Int × Int × Int × Int × ByteArray × Bool × Int := (0, 0, (⟨#[]⟩ : ByteArray), (⟨#[]⟩ : ByteArray), 0, 0, 0, 0, 0, 0, 0, 0, (⟨#[]⟩ : ByteArray), false, e)
  let yes (phase : Int) : Int × Int × ByteArray × ByteArray × Int × Int × Int × Int × Int × Int × Int × Int × ByteArray × Bool × Int := (client, kind, name, bytes, seq, phase, 0, 0, (bytes.size : Int), 0, 0, 0, (⟨#[]⟩ : ByteArray), false, 0)
  if 1 ≤ client ∧ client ≤ 16 ∧ 1 ≤ name.size ∧ name.size ≤ 16 ∧ 0 ≤ seq ∧ seq ≤ 1073741822 then
    if kind = 1 then if 1 ≤ bytes.size ∧ bytes.size ≤ 32 then yes 1 else no 4
    else if kind = 2 then if bytes.size = 0 then yes 5 else no 1
    else if kind = 3 then if bytes.size = 0 then yes 7 else no 1
    else no 1
  else no 1
theorem empty_iff (s : ByteArray) : s.toList = ([] : List UInt8) ↔ s.size = 0 := by
  rw [L_toList, ← L_length, List.length_eq_zero_iff]
theorem new_is (client kind : Int) (name bytes : ByteArray) (seq : Int) (k : Nat) (hk : 2 ≤ k) : deed_New.f k client kind name bytes seq = some (newS client kind name bytes seq) := by
  obtain ⟨k, rfl⟩ := succ_of (show 1 < k by omega)
  obtain ⟨k, rfl⟩ := succ_of (show 0 < k by omega)
  unfold deed_New.f newS
  simp only [deed_New.j0, deed_New.j1, empty_iff]
  by_cases c : 1 ≤ client ∧ client ≤ 16 ∧ 1 ≤ name.size ∧ name.size ≤ 16 ∧ 0 ≤ seq ∧ seq ≤ 1073741822
  · rw [if_neg (by omega), if_neg (by omega), if_neg (by omega), if_neg (by omega), if_neg (by omega), if_neg (by simp; omega), if_pos c]
    by_cases k1 : kind = 1
    · rw [if_pos k1, if_pos k1]
      by_cases s1 : (bytes.size : Int) < 1
      · rw [if_pos s1, if_pos trivial, if_neg (by omega)]
      · rw [if_neg s1]
        by_cases s2 : (bytes.size : Int) > 32
        · rw [if_pos (by simpa using s2), if_neg (by omega)]
        · rw [if_neg (by simpa using s2), if_pos (by omega)]
    · rw [if_neg k1, if_neg k1]
      by_cases k2 : kind = 2
      · rw [if_pos k2, if_pos k2]
        split <;> rfl
      · rw [if_neg k2, if_neg k2]
        by_cases k3 : kind = 3
        · rw [if_pos k3, if_pos k3]
          split <;> rfl
        · rw [if_neg k3, if_neg k3]
  · rw [if_neg c]
    by_cases d1 : client < 1
    · rw [if_pos d1, if_pos trivial]
    · rw [if_neg d1]
      by_cases d2 : client > 16
      · rw [if_pos d2, if_pos trivial]
      · rw [if_neg d2]
        by_cases d3 : (name.size : Int) < 1
        · rw [if_pos d3, if_pos trivial]
        · rw [if_neg d3]
          by_cases d4 : (name.size : Int) > 16
          · rw [if_pos d4, if_pos trivial]
          · rw [if_neg d4]
            by_cases d5 : seq < 0
            · rw [if_pos d5, if_pos trivial]
            · rw [if_neg d5, if_pos (by simp; omega)]

theorem shown_is (k : Nat) (hk : 2 ≤ k) : hogsheadlaw17_shown.f k = some true := by
  have hn : newS 1 2 ⟨#[97]⟩ ⟨#[]⟩ 5 = (1, 2, ⟨#[97]⟩, ⟨#[]⟩, 5, 5, 0, 0, 0, 0, 0, 0, ⟨#[]⟩, false, 0) := rfl
  unfold hogsheadlaw17_shown.f
  rw [new_is _ _ _ _ _ k hk, hn]
  simp only [Option.bind_some, deed_Want.f, deed_Heard.f, deed_call_ends.f]
  obtain ⟨k, rfl⟩ := succ_of (show 0 < k by omega)
  rfl
end Go.Proofs.Ytmjmmgefkebggaa.DD
