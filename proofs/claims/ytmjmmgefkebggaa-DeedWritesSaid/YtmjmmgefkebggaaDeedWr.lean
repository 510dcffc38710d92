/- Where a Put is: what it names was written four times. -/
import Derived.Test.YtmjmmgefkebggaaDeedComes
namespace Go.Proofs.Ytmjmmgefkebggaa.DD
open Go.RowKit Go.Proofs.YtmjmmgefkebggaaW.PrintWords Go.Proofs.YtmjmmgefkebggaaW.PrintLast Go.Proofs.Ytmjmmgefkebggaa.PAll Go.Proofs.Ytmjmmgefkebggaa.PB Go.Proofs.Ytmjmmgefkebggaa.CP

/-- Where a Put is: its phase, its number, how often it was written. -/
def PutAt (n : Int) (a4 a5 a8 a10 wr : Int) : Prop :=
  a5 = 8 ∨ (a8 = n ∧ (((a5 = 1 ∨ a5 = 2) ∧ a4 = 0 ∧ wr = 0) ∨ (a5 = 3 ∧ a4 = 1 ∧ wr = a10 ∧ 0 ≤ a10 ∧ a10 < 4) ∨ (a5 = 4 ∧ a4 = 1 ∧ wr = 4)))
def PutIs (n : Int) (d : D) (wr : Int) : Prop := PutAt n d.2.2.2.2.1 d.2.2.2.2.2.1 d.2.2.2.2.2.2.2.2.1 d.2.2.2.2.2.2.2.2.2.2.1 wr
theorem putIs_of {n : Int} {a0 : Int} {a1 : Int} {a2 : ByteArray} {a3 : ByteArray} {a4 : Int} {a5 : Int} {a6 : Int} {a7 : Int} {a8 : Int} {a9 : Int} {a10 : Int} {a11 : Int} {a12 : ByteArray} {a13 : Bool} {wr : Int} (h : PutAt n a4 a5 a8 a10 wr) : PutIs n (a0, a1, a2, a3, a4, a5, a6, a7, a8, a9, a10, a11, a12, a13) wr := h
theorem putIs_over {n : Int} {a0 : Int} {a1 : Int} {a2 : ByteArray} {a3 : ByteArray} {a4 : Int} {a5 : Int} {a6 : Int} {a7 : Int} {a8 : Int} {a9 : Int} {a10 : Int} {a11 : Int} {a12 : ByteArray} {a13 : Bool} {wr e : Int} : PutIs n (endsS a0 a1 a2 a3 a4 a5 a6 a7 a8 a9 a10 a11 a12 a13 e) wr := .inl rfl
theorem put_step (n : Int) (a0 : Int) (a1 : Int) (a2 : ByteArray) (a3 : ByteArray) (a4 : Int) (a5 : Int) (a6 : Int) (a7 : Int) (a8 : Int) (a9 : Int) (a10 : Int) (a11 : Int) (a12 : ByteArray) (a13 : Bool) (wr : Int) (c : S54) (h : PutAt n a4 a5 a8 a10 wr) :
    PutIs n (comesS a0 a1 a2 a3 a4 a5 a6 a7 a8 a9 a10 a11 a12 a13 c) (if a5 = 3 ∧ c.f0 = 3 ∧ c.f4 = 0 then wr + 1 else wr) := by
  rcases h with h8 | ⟨hn, h⟩
  · rw [comes_over a0 a1 a2 a3 a4 a5 a6 a7 a8 a9 a10 a11 a12 a13 c h8]
    exact .inl h8
  · have hn3 : ¬ (c.f0 = 3) → ¬ (a5 = 3 ∧ c.f0 = 3 ∧ c.f4 = 0) := fun k h => k h.2.1
    have w01 : wrap64 (0 + 1) = 1 := wrap_in (by unfold InR; omega)
    unfold comesS
    by_cases k1 : c.f0 = 1
    · rw [if_pos k1, if_neg (hn3 (by omega))]
      unfold pickedS
      split
      · split
        · exact putIs_of (.inr ⟨hn, .inl ⟨.inr rfl, by omega, by omega⟩⟩)
        · exact putIs_over
      · exact putIs_of (.inr ⟨hn, h⟩)
    · rw [if_neg k1]
      by_cases k2 : c.f0 = 2
      · rw [if_pos k2, if_neg (hn3 (by omega))]
        unfold heardS
        split
        · split
          · split
            · refine putIs_of (.inr ⟨hn, .inr (.inl ⟨rfl, ?_, by omega, by decide, by decide⟩)⟩)
              rw [show a4 = 0 by omega]
              exact w01
            · split
              · omega
              · exact putIs_over
          · exact putIs_over
        · exact putIs_of (.inr ⟨hn, h⟩)
      · rw [if_neg k2]
        by_cases k3 : c.f0 = 3
        · rw [if_pos k3]
          unfold wroteS
          by_cases h3 : a5 = 3
          · rw [if_pos h3]
            by_cases he : c.f4 = 0
            · rw [if_pos he, if_pos (show a5 = 3 ∧ c.f0 = 3 ∧ c.f4 = 0 from ⟨h3, k3, he⟩)]
              have hw : wrap64 (a10 + 1) = a10 + 1 := wrap_in (by unfold InR; omega)
              by_cases h4 : wrap64 (a10 + 1) = 4
              · rw [if_pos h4]
                exact putIs_of (.inr ⟨hn, .inr (.inr ⟨rfl, by omega, by omega⟩)⟩)
              · rw [if_neg h4]
                exact putIs_of (.inr ⟨hn, .inr (.inl ⟨h3, by omega, by omega, by omega, by omega⟩)⟩)
            · rw [if_neg he]
              exact putIs_over
          · rw [if_neg h3, if_neg (show ¬ (a5 = 3 ∧ c.f0 = 3 ∧ c.f4 = 0) from fun h => h3 h.1)]
            exact putIs_of (.inr ⟨hn, h⟩)
        · rw [if_neg k3, if_neg (hn3 k3)]
          by_cases k4 : c.f0 = 4
          · rw [if_pos k4]
            unfold gotS
            rw [if_neg (by omega)]
            exact putIs_of (.inr ⟨hn, h⟩)
          · rw [if_neg k4]
            by_cases k5 : c.f0 = 5
            · rw [if_pos k5]
              unfold lateS
              rw [if_neg (by omega)]
              exact putIs_over
            · rw [if_neg k5]
              exact putIs_of (.inr ⟨hn, h⟩)
end Go.Proofs.Ytmjmmgefkebggaa.DD
