/- What comes to a call, over numbers and texts alone. -/
import Derived.Test.YtmjmmgefkebggaaDeedPure
import Derived.Test.YtmjmmgefkebggaaCrcSumP
import Derived.Test.YtmjmmgefkebggaaPAllx20
import Derived.Test.YtmjmmgefkebggaaPAllx24
import Derived.Test.YtmjmmgefkebggaaPAllx26
import Derived.Test.YtmjmmgefkebggaaPAllx28
namespace Go.Proofs.Ytmjmmgefkebggaa.DD
open Go.RowKit Go.Proofs.YtmjmmgefkebggaaW.PrintWords Go.Proofs.YtmjmmgefkebggaaW.PrintLast Go.Proofs.Ytmjmmgefkebggaa.PAll Go.Proofs.Ytmjmmgefkebggaa.PB Go.Proofs.Ytmjmmgefkebggaa.CP
set_option linter.unusedVariables false

def endsS (a0 : Int) (a1 : Int) (a2 : ByteArray) (a3 : ByteArray) (a4 : Int) (a5 : Int) (a6 : Int) (a7 : Int) (a8 : Int) (a9 : Int) (a10 : Int) (a11 : Int) (a12 : ByteArray) (a13 : Bool) (e : Int) : D := (a0, a1, a2, a3, a4, 8, a6, a7, a8, a9, a10, e, a12, a13)
def pickedS (a0 : Int) (a1 : Int) (a2 : ByteArray) (a3 : ByteArray) (a4 : Int) (a5 : Int) (a6 : Int) (a7 : Int) (a8 : Int) (a9 : Int) (a10 : Int) (a11 : Int) (a12 : ByteArray) (a13 : Bool) (vol e : Int) : D := if a5 = 1 then if e = 0 then (a0, a1, a2, a3, a4, 2, vol, a7, a8, a9, a10, a11, a12, a13) else endsS a0 a1 a2 a3 a4 a5 a6 a7 a8 a9 a10 a11 a12 a13 e else (a0, a1, a2, a3, a4, a5, a6, a7, a8, a9, a10, a11, a12, a13)
def wantsB (a5 : Int) : Bool := decide (a5 = 2 ∨ a5 = 4 ∨ a5 = 5 ∨ a5 = 7)
def heardS (a0 : Int) (a1 : Int) (a2 : ByteArray) (a3 : ByteArray) (a4 : Int) (a5 : Int) (a6 : Int) (a7 : Int) (a8 : Int) (a9 : Int) (a10 : Int) (a11 : Int) (a12 : ByteArray) (a13 : Bool) (err vol off n sum : Int) (found : Bool) : D :=
  if wantsB a5 = true then
    if err = 0 then
      if a5 = 2 then (a0, a1, a2, a3, wrap64 (a4 + 1), 3, a6, off, a8, a9, 0, a11, a12, a13)
      else if a5 = 5 then if found = true then (a0, a1, a2, a3, a4, 6, vol, off, n, sum, a10, a11, a12, true) else endsS a0 a1 a2 a3 a4 a5 a6 a7 a8 a9 a10 a11 a12 a13 7
      else endsS a0 a1 a2 a3 a4 a5 a6 a7 a8 a9 a10 a11 a12 found 0
    else endsS a0 a1 a2 a3 a4 a5 a6 a7 a8 a9 a10 a11 a12 a13 err
  else (a0, a1, a2, a3, a4, a5, a6, a7, a8, a9, a10, a11, a12, a13)
def wroteS (a0 : Int) (a1 : Int) (a2 : ByteArray) (a3 : ByteArray) (a4 : Int) (a5 : Int) (a6 : Int) (a7 : Int) (a8 : Int) (a9 : Int) (a10 : Int) (a11 : Int) (a12 : ByteArray) (a13 : Bool) (e : Int) : D := if a5 = 3 then if e = 0 then if wrap64 (a10 + 1) = 4 then (a0, a1, a2, a3, a4, 4, a6, a7, a8, a9, wrap64 (a10 + 1), a11, a12, a13) else (a0, a1, a2, a3, a4, a5, a6, a7, a8, a9, wrap64 (a10 + 1), a11, a12, a13) else endsS a0 a1 a2 a3 a4 a5 a6 a7 a8 a9 a10 a11 a12 a13 e else (a0, a1, a2, a3, a4, a5, a6, a7, a8, a9, a10, a11, a12, a13)
def gotS (a0 : Int) (a1 : Int) (a2 : ByteArray) (a3 : ByteArray) (a4 : Int) (a5 : Int) (a6 : Int) (a7 : Int) (a8 : Int) (a9 : Int) (a10 : Int) (a11 : Int) (a12 : ByteArray) (a13 : Bool) (b : ByteArray) (e : Int) : D :=
  if a5 = 6 then if e = 0 then if (b.size : Int) = a8 ∧ ((sumB (L b)).toNat : Int) = a9 then endsS a0 a1 a2 a3 a4 a5 a6 a7 a8 a9 a10 a11 b a13 0 else endsS a0 a1 a2 a3 a4 a5 a6 a7 a8 a9 a10 a11 a12 a13 13 else endsS a0 a1 a2 a3 a4 a5 a6 a7 a8 a9 a10 a11 a12 a13 e else (a0, a1, a2, a3, a4, a5, a6, a7, a8, a9, a10, a11, a12, a13)
def lateS (a0 : Int) (a1 : Int) (a2 : ByteArray) (a3 : ByteArray) (a4 : Int) (a5 : Int) (a6 : Int) (a7 : Int) (a8 : Int) (a9 : Int) (a10 : Int) (a11 : Int) (a12 : ByteArray) (a13 : Bool) : D := if a5 = 8 then (a0, a1, a2, a3, a4, a5, a6, a7, a8, a9, a10, a11, a12, a13) else endsS a0 a1 a2 a3 a4 a5 a6 a7 a8 a9 a10 a11 a12 a13 12

theorem ends_is (a0 : Int) (a1 : Int) (a2 : ByteArray) (a3 : ByteArray) (a4 : Int) (a5 : Int) (a6 : Int) (a7 : Int) (a8 : Int) (a9 : Int) (a10 : Int) (a11 : Int) (a12 : ByteArray) (a13 : Bool) (e : Int) : deed_call_ends.f a0 a1 a2 a3 a4 a5 a6 a7 a8 a9 a10 a11 a12 a13 e = some (endsS a0 a1 a2 a3 a4 a5 a6 a7 a8 a9 a10 a11 a12 a13 e) := rfl
theorem picked_is (a0 : Int) (a1 : Int) (a2 : ByteArray) (a3 : ByteArray) (a4 : Int) (a5 : Int) (a6 : Int) (a7 : Int) (a8 : Int) (a9 : Int) (a10 : Int) (a11 : Int) (a12 : ByteArray) (a13 : Bool) (vol e : Int) : deed_Picked.f a0 a1 a2 a3 a4 a5 a6 a7 a8 a9 a10 a11 a12 a13 vol e = some (pickedS a0 a1 a2 a3 a4 a5 a6 a7 a8 a9 a10 a11 a12 a13 vol e) := by
  unfold deed_Picked.f pickedS
  split
  · split
    · rfl
    · rfl
  · rfl
theorem want_some (a0 : Int) (a1 : Int) (a2 : ByteArray) (a3 : ByteArray) (a4 : Int) (a5 : Int) (a6 : Int) (a7 : Int) (a8 : Int) (a9 : Int) (a10 : Int) (a11 : Int) (a12 : ByteArray) (a13 : Bool) (hb : a3.size ≤ 9223372036854775807) : ∃ c, deed_Want.f a0 a1 a2 a3 a4 a5 a6 a7 a8 a9 a10 a11 a12 a13 = some c ∧ c.2.2.2.2.2.2.2.2.2.2.2.2 = wantsB a5 := by
  unfold deed_Want.f wantsB
  rw [sum_num _ hb]
  by_cases c4 : a5 = 4
  · exact ⟨_, by rw [if_pos c4]; rfl, by simp [c4]⟩
  · by_cases c2 : a5 = 2
    · exact ⟨_, by rw [if_neg c4, if_pos c2]; rfl, by simp [c2]⟩
    · by_cases c5 : a5 = 5
      · exact ⟨_, by rw [if_neg c4, if_neg c2, if_pos c5], by simp [c5]⟩
      · by_cases c7 : a5 = 7
        · exact ⟨_, by rw [if_neg c4, if_neg c2, if_neg c5, if_pos c7], by simp [c7]⟩
        · exact ⟨_, by rw [if_neg c4, if_neg c2, if_neg c5, if_neg c7], by simp [c4, c2, c5, c7]⟩
theorem heard_is (a0 : Int) (a1 : Int) (a2 : ByteArray) (a3 : ByteArray) (a4 : Int) (a5 : Int) (a6 : Int) (a7 : Int) (a8 : Int) (a9 : Int) (a10 : Int) (a11 : Int) (a12 : ByteArray) (a13 : Bool) (err vol off n sum : Int) (found : Bool) (hb : a3.size ≤ 9223372036854775807) : deed_Heard.f a0 a1 a2 a3 a4 a5 a6 a7 a8 a9 a10 a11 a12 a13 err vol off n sum found = some (heardS a0 a1 a2 a3 a4 a5 a6 a7 a8 a9 a10 a11 a12 a13 err vol off n sum found) := by
  obtain ⟨c, h1, h2⟩ := want_some a0 a1 a2 a3 a4 a5 a6 a7 a8 a9 a10 a11 a12 a13 hb
  unfold deed_Heard.f heardS
  rw [h1, Option.bind_some, h2]
  by_cases cw : wantsB a5 = true
  · rw [if_pos cw, if_pos cw]
    by_cases ce : err = 0
    · rw [if_pos ce, if_pos ce]
      by_cases c2 : a5 = 2
      · rw [if_pos c2, if_pos c2]
      · rw [if_neg c2, if_neg c2]
        by_cases c5 : a5 = 5
        · rw [if_pos c5, if_pos c5]
          cases found <;> rfl
        · rw [if_neg c5, if_neg c5]
          rfl
    · rw [if_neg ce, if_neg ce]
      rfl
  · rw [if_neg cw, if_neg cw]
theorem wrote_is (a0 : Int) (a1 : Int) (a2 : ByteArray) (a3 : ByteArray) (a4 : Int) (a5 : Int) (a6 : Int) (a7 : Int) (a8 : Int) (a9 : Int) (a10 : Int) (a11 : Int) (a12 : ByteArray) (a13 : Bool) (e : Int) : deed_Wrote.f a0 a1 a2 a3 a4 a5 a6 a7 a8 a9 a10 a11 a12 a13 e = some (wroteS a0 a1 a2 a3 a4 a5 a6 a7 a8 a9 a10 a11 a12 a13 e) := by
  unfold deed_Wrote.f wroteS
  by_cases c3 : a5 = 3
  · rw [if_pos c3, if_pos c3]
    by_cases ce : e = 0
    · rw [if_pos ce, if_pos ce]
      by_cases c4 : wrap64 (a10 + 1) = 4
      · rw [if_pos c4, if_pos c4]
      · rw [if_neg c4, if_neg c4]
    · rw [if_neg ce, if_neg ce]
      rfl
  · rw [if_neg c3, if_neg c3]
theorem got_is (a0 : Int) (a1 : Int) (a2 : ByteArray) (a3 : ByteArray) (a4 : Int) (a5 : Int) (a6 : Int) (a7 : Int) (a8 : Int) (a9 : Int) (a10 : Int) (a11 : Int) (a12 : ByteArray) (a13 : Bool) (b : ByteArray) (e : Int) (hb : b.size ≤ 9223372036854775807) (k : Nat) (hk : 0 < k) : deed_Got.f k a0 a1 a2 a3 a4 a5 a6 a7 a8 a9 a10 a11 a12 a13 b e = some (gotS a0 a1 a2 a3 a4 a5 a6 a7 a8 a9 a10 a11 a12 a13 b e) := by
  obtain ⟨k, rfl⟩ := succ_of hk
  unfold deed_Got.f gotS
  by_cases c6 : a5 = 6
  · rw [if_pos c6, if_pos c6]
    by_cases ce : e = 0
    · rw [if_pos ce, if_pos ce]
      by_cases cs : (b.size : Int) = a8
      · rw [if_pos cs, sum_num _ hb, Option.bind_some, deed_Got.j0]
        by_cases cq : ((sumB (L b)).toNat : Int) = a9
        · rw [if_neg (by simp [cq]), if_pos ⟨cs, cq⟩]
          rfl
        · rw [if_pos (by simpa using cq), if_neg (fun h => cq h.2)]
          rfl
      · rw [if_neg cs, deed_Got.j0, if_pos rfl, if_neg (fun h => cs h.1)]
        rfl
    · rw [if_neg ce, if_neg ce]
      rfl
  · rw [if_neg c6, if_neg c6]
theorem late_is (a0 : Int) (a1 : Int) (a2 : ByteArray) (a3 : ByteArray) (a4 : Int) (a5 : Int) (a6 : Int) (a7 : Int) (a8 : Int) (a9 : Int) (a10 : Int) (a11 : Int) (a12 : ByteArray) (a13 : Bool) : deed_Late.f a0 a1 a2 a3 a4 a5 a6 a7 a8 a9 a10 a11 a12 a13 = some (lateS a0 a1 a2 a3 a4 a5 a6 a7 a8 a9 a10 a11 a12 a13) := by
  unfold deed_Late.f lateS
  split <;> rfl
end Go.Proofs.Ytmjmmgefkebggaa.DD
