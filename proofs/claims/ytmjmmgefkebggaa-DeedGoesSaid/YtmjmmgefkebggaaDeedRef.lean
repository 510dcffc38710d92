/- What comes to a call, by the document. -/
import Derived.Test.YtmjmmgefkebggaaDeedSteps
import Derived.Test.YtmjmmgefkebggaaPAllx22
import Derived.Test.YtmjmmgefkebggaaPAllx23
import Derived.Test.YtmjmmgefkebggaaPAllx25
import Derived.Test.YtmjmmgefkebggaaPAllx27
import Derived.Test.YtmjmmgefkebggaaPAllx29
namespace Go.Proofs.Ytmjmmgefkebggaa.DD
open Go.RowKit Go.Proofs.YtmjmmgefkebggaaW.PrintWords Go.Proofs.YtmjmmgefkebggaaW.PrintLast Go.Proofs.Ytmjmmgefkebggaa.PAll Go.Proofs.Ytmjmmgefkebggaa.PB Go.Proofs.Ytmjmmgefkebggaa.CP

theorem rpicked_is (a0 : Int) (a1 : Int) (a2 : ByteArray) (a3 : ByteArray) (a4 : Int) (a5 : Int) (a6 : Int) (a7 : Int) (a8 : Int) (a9 : Int) (a10 : Int) (a11 : Int) (a12 : ByteArray) (a13 : Bool) (vol e : Int) : hogsheadref17_Picked.f a0 a1 a2 a3 a4 a5 a6 a7 a8 a9 a10 a11 a12 a13 vol e = some (pickedS a0 a1 a2 a3 a4 a5 a6 a7 a8 a9 a10 a11 a12 a13 vol e) := by
  unfold hogsheadref17_Picked.f pickedS
  split
  · split
    · rfl
    · rfl
  · rfl
theorem rheard_j (a0 : Int) (a1 : Int) (a2 : ByteArray) (a3 : ByteArray) (a4 : Int) (a5 : Int) (a6 : Int) (a7 : Int) (a8 : Int) (a9 : Int) (a10 : Int) (a11 : Int) (a12 : ByteArray) (a13 : Bool) (err vol off n sum : Int) (found : Bool) (k : Nat) (hk : 0 < k) (hw : wantsB a5 = true) : hogsheadref17_Heard.j0 k false a0 a1 a2 a3 a4 a5 a6 a7 a8 a9 a10 a11 a12 a13 err vol off n sum found = some (heardS a0 a1 a2 a3 a4 a5 a6 a7 a8 a9 a10 a11 a12 a13 err vol off n sum found) := by
  obtain ⟨k, rfl⟩ := succ_of hk
  unfold heardS
  rw [hogsheadref17_Heard.j0, if_neg (by decide), if_pos hw]
  by_cases ce : err = 0
  · rw [if_pos ce, if_pos ce]
    by_cases c2 : a5 = 2
    · rw [if_pos c2, if_pos c2]
    · rw [if_neg c2, if_neg c2]
      by_cases c5 : a5 = 5
      · rw [if_pos c5, if_pos c5]
        cases found <;> rfl
      · rw [if_neg c5, if_neg c5]
        rfl
  · rw [if_neg ce, if_neg ce]
    rfl
theorem rheard_is (a0 : Int) (a1 : Int) (a2 : ByteArray) (a3 : ByteArray) (a4 : Int) (a5 : Int) (a6 : Int) (a7 : Int) (a8 : Int) (a9 : Int) (a10 : Int) (a11 : Int) (a12 : ByteArray) (a13 : Bool) (err vol off n sum : Int) (found : Bool) (k : Nat) (hk : 0 < k) : hogsheadref17_Heard.f k a0 a1 a2 a3 a4 a5 a6 a7 a8 a9 a10 a11 a12 a13 err vol off n sum found = some (heardS a0 a1 a2 a3 a4 a5 a6 a7 a8 a9 a10 a11 a12 a13 err vol off n sum found) := by
  unfold hogsheadref17_Heard.f
  by_cases c2 : a5 = 2
  · rw [if_pos c2]
    exact rheard_j a0 a1 a2 a3 a4 a5 a6 a7 a8 a9 a10 a11 a12 a13 err vol off n sum found k hk (by unfold wantsB; simp [c2])
  · rw [if_neg c2]
    by_cases c4 : a5 = 4
    · rw [if_pos c4]
      exact rheard_j a0 a1 a2 a3 a4 a5 a6 a7 a8 a9 a10 a11 a12 a13 err vol off n sum found k hk (by unfold wantsB; simp [c4])
    · rw [if_neg c4]
      by_cases c5 : a5 = 5
      · rw [if_pos c5]
        exact rheard_j a0 a1 a2 a3 a4 a5 a6 a7 a8 a9 a10 a11 a12 a13 err vol off n sum found k hk (by unfold wantsB; simp [c5])
      · rw [if_neg c5]
        by_cases c7 : a5 = 7
        · rw [show (a5 != 7) = false by simp [c7]]
          exact rheard_j a0 a1 a2 a3 a4 a5 a6 a7 a8 a9 a10 a11 a12 a13 err vol off n sum found k hk (by unfold wantsB; simp [c7])
        · obtain ⟨k, rfl⟩ := succ_of hk
          rw [show (a5 != 7) = true by simp [c7], hogsheadref17_Heard.j0, if_pos rfl]
          unfold heardS
          rw [if_neg (by unfold wantsB; simp [c2, c4, c5, c7])]
theorem rwrote_is (a0 : Int) (a1 : Int) (a2 : ByteArray) (a3 : ByteArray) (a4 : Int) (a5 : Int) (a6 : Int) (a7 : Int) (a8 : Int) (a9 : Int) (a10 : Int) (a11 : Int) (a12 : ByteArray) (a13 : Bool) (e : Int) : hogsheadref17_Wrote.f a0 a1 a2 a3 a4 a5 a6 a7 a8 a9 a10 a11 a12 a13 e = some (wroteS a0 a1 a2 a3 a4 a5 a6 a7 a8 a9 a10 a11 a12 a13 e) := by
  unfold hogsheadref17_Wrote.f wroteS
  by_cases c3 : a5 = 3
  · rw [if_pos c3, if_pos c3]
    by_cases ce : e = 0
    · rw [if_pos ce, if_pos ce]
      by_cases c4 : wrap64 (a10 + 1) = 4
      · rw [if_pos c4, if_pos c4]
      · rw [if_neg c4, if_neg c4]
    · rw [if_neg ce, if_neg ce]
      rfl
  · rw [if_neg c3, if_neg c3]
theorem rgot_is (a0 : Int) (a1 : Int) (a2 : ByteArray) (a3 : ByteArray) (a4 : Int) (a5 : Int) (a6 : Int) (a7 : Int) (a8 : Int) (a9 : Int) (a10 : Int) (a11 : Int) (a12 : ByteArray) (a13 : Bool) (b : ByteArray) (e : Int) (hb : b.size ≤ 9223372036854775807) (k : Nat) (hk : b.size + 9 < k) : hogsheadref17_Got.f k a0 a1 a2 a3 a4 a5 a6 a7 a8 a9 a10 a11 a12 a13 b e = some (gotS a0 a1 a2 a3 a4 a5 a6 a7 a8 a9 a10 a11 a12 a13 b e) := by
  obtain ⟨k, rfl⟩ := succ_of (show 0 < k by omega)
  unfold hogsheadref17_Got.f gotS
  by_cases c6 : a5 = 6
  · rw [if_pos c6, if_pos c6]
    by_cases ce : e = 0
    · rw [if_pos ce, if_pos ce]
      by_cases cs : (b.size : Int) = a8
      · rw [if_pos cs, ref_sum _ hb _ hk, Option.bind_some, hogsheadref17_Got.j0]
        by_cases cq : ((sumB (L b)).toNat : Int) = a9
        · rw [if_neg (by simp [cq]), if_pos ⟨cs, cq⟩]
          rfl
        · rw [if_pos (by simpa using cq), if_neg (fun h => cq h.2)]
          rfl
      · rw [if_neg cs, hogsheadref17_Got.j0, if_pos rfl, if_neg (fun h => cs h.1)]
        rfl
    · rw [if_neg ce, if_neg ce]
      rfl
  · rw [if_neg c6, if_neg c6]
theorem rlate_is (a0 : Int) (a1 : Int) (a2 : ByteArray) (a3 : ByteArray) (a4 : Int) (a5 : Int) (a6 : Int) (a7 : Int) (a8 : Int) (a9 : Int) (a10 : Int) (a11 : Int) (a12 : ByteArray) (a13 : Bool) : hogsheadref17_Late.f a0 a1 a2 a3 a4 a5 a6 a7 a8 a9 a10 a11 a12 a13 = some (lateS a0 a1 a2 a3 a4 a5 a6 a7 a8 a9 a10 a11 a12 a13) := by
  unfold hogsheadref17_Late.f lateS
  split <;> rfl
end Go.Proofs.Ytmjmmgefkebggaa.DD
