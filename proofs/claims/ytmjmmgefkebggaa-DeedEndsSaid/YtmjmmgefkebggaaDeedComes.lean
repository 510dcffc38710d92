/- One thing more that comes to a call: what stays, and where a Get goes. -/
import Derived.Test.YtmjmmgefkebggaaDeedSteps
import Derived.Test.YtmjmmgefkebggaaPAllx31
namespace Go.Proofs.Ytmjmmgefkebggaa.DD
open Go.RowKit Go.Proofs.YtmjmmgefkebggaaW.PrintWords Go.Proofs.YtmjmmgefkebggaaW.PrintLast Go.Proofs.Ytmjmmgefkebggaa.PAll Go.Proofs.Ytmjmmgefkebggaa.PB Go.Proofs.Ytmjmmgefkebggaa.CP

def comesS (a0 : Int) (a1 : Int) (a2 : ByteArray) (a3 : ByteArray) (a4 : Int) (a5 : Int) (a6 : Int) (a7 : Int) (a8 : Int) (a9 : Int) (a10 : Int) (a11 : Int) (a12 : ByteArray) (a13 : Bool) (c : S54) : D :=
  if c.f0 = 1 then pickedS a0 a1 a2 a3 a4 a5 a6 a7 a8 a9 a10 a11 a12 a13 c.f1 c.f4
  else if c.f0 = 2 then heardS a0 a1 a2 a3 a4 a5 a6 a7 a8 a9 a10 a11 a12 a13 c.f2.f0 c.f2.f1 c.f2.f2 c.f2.f3 c.f2.f4 c.f2.f5
  else if c.f0 = 3 then wroteS a0 a1 a2 a3 a4 a5 a6 a7 a8 a9 a10 a11 a12 a13 c.f4
  else if c.f0 = 4 then gotS a0 a1 a2 a3 a4 a5 a6 a7 a8 a9 a10 a11 a12 a13 c.f3 c.f4
  else if c.f0 = 5 then lateS a0 a1 a2 a3 a4 a5 a6 a7 a8 a9 a10 a11 a12 a13
  else (a0, a1, a2, a3, a4, a5, a6, a7, a8, a9, a10, a11, a12, a13)
theorem comes_is (a0 : Int) (a1 : Int) (a2 : ByteArray) (a3 : ByteArray) (a4 : Int) (a5 : Int) (a6 : Int) (a7 : Int) (a8 : Int) (a9 : Int) (a10 : Int) (a11 : Int) (a12 : ByteArray) (a13 : Bool) (c : S54) (hb : a3.size ≤ 9223372036854775807) (hc : c.f3.size ≤ 9223372036854775807) (k : Nat) (hk : 0 < k) : hogsheadlaw17_comes.f k a0 a1 a2 a3 a4 a5 a6 a7 a8 a9 a10 a11 a12 a13 c.f0 c.f1 c.f2.f0 c.f2.f1 c.f2.f2 c.f2.f3 c.f2.f4 c.f2.f5 c.f3 c.f4 = some (comesS a0 a1 a2 a3 a4 a5 a6 a7 a8 a9 a10 a11 a12 a13 c) := by
  unfold hogsheadlaw17_comes.f comesS
  rw [picked_is, heard_is _ _ _ _ _ _ _ _ _ _ _ _ _ _ _ _ _ _ _ _ hb, wrote_is, got_is _ _ _ _ _ _ _ _ _ _ _ _ _ _ _ _ hc k hk, late_is]
  simp only [Option.bind_some]
  repeat' split
  all_goals rfl

/-- Behind any of these: what never changes. -/
def Keeps (d : D) (a0 a1 : Int) (a2 a3 : ByteArray) : Prop := d.1 = a0 ∧ d.2.1 = a1 ∧ d.2.2.1 = a2 ∧ d.2.2.2.1 = a3
theorem ends_keeps (a0 : Int) (a1 : Int) (a2 : ByteArray) (a3 : ByteArray) (a4 : Int) (a5 : Int) (a6 : Int) (a7 : Int) (a8 : Int) (a9 : Int) (a10 : Int) (a11 : Int) (a12 : ByteArray) (a13 : Bool) (e : Int) : Keeps (endsS a0 a1 a2 a3 a4 a5 a6 a7 a8 a9 a10 a11 a12 a13 e) a0 a1 a2 a3 := ⟨rfl, rfl, rfl, rfl⟩
theorem comes_keeps (a0 : Int) (a1 : Int) (a2 : ByteArray) (a3 : ByteArray) (a4 : Int) (a5 : Int) (a6 : Int) (a7 : Int) (a8 : Int) (a9 : Int) (a10 : Int) (a11 : Int) (a12 : ByteArray) (a13 : Bool) (c : S54) : Keeps (comesS a0 a1 a2 a3 a4 a5 a6 a7 a8 a9 a10 a11 a12 a13 c) a0 a1 a2 a3 := by
  unfold comesS pickedS heardS wroteS gotS lateS
  repeat' split
  all_goals first | exact ⟨rfl, rfl, rfl, rfl⟩ | exact ends_keeps _ _ _ _ _ _ _ _ _ _ _ _ _ _ _
theorem comes_over (a0 : Int) (a1 : Int) (a2 : ByteArray) (a3 : ByteArray) (a4 : Int) (a5 : Int) (a6 : Int) (a7 : Int) (a8 : Int) (a9 : Int) (a10 : Int) (a11 : Int) (a12 : ByteArray) (a13 : Bool) (c : S54) (h : a5 = 8) : comesS a0 a1 a2 a3 a4 a5 a6 a7 a8 a9 a10 a11 a12 a13 c = (a0, a1, a2, a3, a4, a5, a6, a7, a8, a9, a10, a11, a12, a13) := by
  subst h
  unfold comesS pickedS heardS wroteS gotS lateS wantsB
  simp
theorem comes_out (a0 : Int) (a1 : Int) (a2 : ByteArray) (a3 : ByteArray) (a4 : Int) (a5 : Int) (a6 : Int) (a7 : Int) (a8 : Int) (a9 : Int) (a10 : Int) (a11 : Int) (a12 : ByteArray) (a13 : Bool) (c : S54) : (comesS a0 a1 a2 a3 a4 a5 a6 a7 a8 a9 a10 a11 a12 a13 c).2.2.2.2.2.2.2.2.2.2.2.2.1 = a12 ∨ (comesS a0 a1 a2 a3 a4 a5 a6 a7 a8 a9 a10 a11 a12 a13 c).2.2.2.2.2.2.2.2.2.2.2.2.1 = c.f3 := by
  unfold comesS pickedS heardS wroteS gotS lateS
  repeat' split
  all_goals first | exact .inl rfl | exact .inr rfl
/-- Where a Get is. -/
def Getting (d : D) : Prop := (d.2.2.2.2.2.1 = 5 ∧ d.2.2.2.2.2.2.2.2.2.2.2.2.1 = ⟨#[]⟩) ∨ (d.2.2.2.2.2.1 = 6 ∧ d.2.2.2.2.2.2.2.2.2.2.2.2.1 = ⟨#[]⟩ ∧ d.2.2.2.2.2.2.2.2.2.2.2.2.2 = true) ∨
  (d.2.2.2.2.2.1 = 8 ∧ d.2.2.2.2.2.2.2.2.2.2.2.1 ≠ 0 ∧ d.2.2.2.2.2.2.2.2.2.2.2.2.1 = ⟨#[]⟩) ∨
  (d.2.2.2.2.2.1 = 8 ∧ d.2.2.2.2.2.2.2.2.2.2.2.1 = 0 ∧ d.2.2.2.2.2.2.2.2.2.2.2.2.2 = true ∧ (d.2.2.2.2.2.2.2.2.2.2.2.2.1.size : Int) = d.2.2.2.2.2.2.2.2.1 ∧ ((sumB (L d.2.2.2.2.2.2.2.2.2.2.2.2.1)).toNat : Int) = d.2.2.2.2.2.2.2.2.2.1)
theorem getting_step (a0 : Int) (a1 : Int) (a2 : ByteArray) (a3 : ByteArray) (a4 : Int) (a5 : Int) (a6 : Int) (a7 : Int) (a8 : Int) (a9 : Int) (a10 : Int) (a11 : Int) (a12 : ByteArray) (a13 : Bool) (c : S54) (h : Getting (a0, a1, a2, a3, a4, a5, a6, a7, a8, a9, a10, a11, a12, a13)) : Getting (comesS a0 a1 a2 a3 a4 a5 a6 a7 a8 a9 a10 a11 a12 a13 c) := by
  rcases h with ⟨h5, ho⟩ | ⟨h5, ho, hf⟩ | ⟨h5, he, ho⟩ | h
  · replace h5 : a5 = 5 := h5
    replace ho : a12 = ⟨#[]⟩ := ho
    subst h5
    subst ho
    unfold comesS
    split
    · unfold pickedS
      rw [if_neg (by decide)]
      exact .inl ⟨rfl, rfl⟩
    · split
      · unfold heardS
        rw [if_pos (by decide)]
        split
        · rw [if_neg (by decide), if_pos rfl]
          split
          · exact .inr (.inl ⟨rfl, rfl, rfl⟩)
          · exact .inr (.inr (.inl ⟨rfl, (by decide : (7 : Int) ≠ 0), rfl⟩))
        · rename_i he
          exact .inr (.inr (.inl ⟨rfl, he, rfl⟩))
      · split
        · unfold wroteS
          rw [if_neg (by decide)]
          exact .inl ⟨rfl, rfl⟩
        · split
          · unfold gotS
            rw [if_neg (by decide)]
            exact .inl ⟨rfl, rfl⟩
          · split
            · unfold lateS
              rw [if_neg (by decide)]
              exact .inr (.inr (.inl ⟨rfl, (by decide : (12 : Int) ≠ 0), rfl⟩))
            · exact .inl ⟨rfl, rfl⟩
  · replace h5 : a5 = 6 := h5
    replace ho : a12 = ⟨#[]⟩ := ho
    replace hf : a13 = true := hf
    subst h5
    subst ho
    subst hf
    unfold comesS
    split
    · unfold pickedS
      rw [if_neg (by decide)]
      exact .inr (.inl ⟨rfl, rfl, rfl⟩)
    · split
      · unfold heardS
        rw [if_neg (by decide)]
        exact .inr (.inl ⟨rfl, rfl, rfl⟩)
      · split
        · unfold wroteS
          rw [if_neg (by decide)]
          exact .inr (.inl ⟨rfl, rfl, rfl⟩)
        · split
          · unfold gotS
            rw [if_pos rfl]
            split
            · split
              · rename_i hh
                exact .inr (.inr (.inr ⟨rfl, rfl, rfl, hh.1, hh.2⟩))
              · exact .inr (.inr (.inl ⟨rfl, (by decide : (13 : Int) ≠ 0), rfl⟩))
            · rename_i he
              exact .inr (.inr (.inl ⟨rfl, he, rfl⟩))
          · split
            · unfold lateS
              rw [if_neg (by decide)]
              exact .inr (.inr (.inl ⟨rfl, (by decide : (12 : Int) ≠ 0), rfl⟩))
            · exact .inr (.inl ⟨rfl, rfl, rfl⟩)
  · rw [comes_over a0 a1 a2 a3 a4 a5 a6 a7 a8 a9 a10 a11 a12 a13 c h5]
    exact .inr (.inr (.inl ⟨h5, he, ho⟩))
  · rw [comes_over a0 a1 a2 a3 a4 a5 a6 a7 a8 a9 a10 a11 a12 a13 c h.1]
    exact .inr (.inr (.inr h))
end Go.Proofs.Ytmjmmgefkebggaa.DD
