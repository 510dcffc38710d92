/- count.Sum: each number is the sum of all, going round at 2^64. -/
import Derived.Test.YtlfonfceaiiinaaPAllx3
import Derived.Test.YtlfonfceaiiinaaBase
namespace Go.Proofs.Ytlfonfceaiiinaa.Pure
open Go.RowKit Go.Proofs.YtlfonfceaiiinaaW.PrintWords Go.Proofs.YtlfonfceaiiinaaW.PrintLast Go.Proofs.Ytlfonfceaiiinaa.PAll Go.Proofs.Ytlfonfceaiiinaa.PB

/-- One weight more. -/
def addW (t : Int × Int × Int × Int) (w : S29) : Int × Int × Int × Int := (wrap64 (t.1 + w.f0), wrap64 (t.2.1 + w.f1), wrap64 (t.2.2.1 + w.f2), wrap64 (t.2.2.2 + w.f3))
theorem sum_l0 (l : List S29) (hl : l.length ≤ 9223372036854775807) : ∀ (d j : Nat), j ≤ l.length → l.length - j = d → ∀ (k : Nat) (t : Int × Int × Int × Int), d < k →
    count_Sum.l0 k l l.length j t.1 t.2.1 t.2.2.1 t.2.2.2 = some ((l.drop j).foldl addW t) := by
  intro d
  induction d with
  | zero =>
    intro j hj hd k t hk
    have : j = l.length := by omega
    subst this
    obtain ⟨k, rfl⟩ := succ_of hk
    simp only [count_Sum.l0]
    rw [if_neg (by omega), List.drop_length]
    rfl
  | succ d ih =>
    intro j hj hd k t hk
    have hlt : j < l.length := by omega
    obtain ⟨k, rfl⟩ := succ_of hk
    have e : rd_T29 l (j : Int) = l.getD j z29 := by unfold rd_T29; rw [toNat_cast]
    simp only [count_Sum.l0]
    rw [if_pos (by omega), if_pos (by omega), if_pos (by omega), e, drop_getD z29 hlt, wrap_succ hlt hl, List.foldl_cons]
    exact ih (j + 1) (by omega) (by omega) k (addW t (l.getD j z29)) (by omega)
theorem sum_all (l : List S29) (hl : l.length ≤ 9223372036854775807) (k : Nat) (hk : l.length < k) : count_Sum.f k l = some (l.foldl addW (0, 0, 0, 0)) := by
  have h := sum_l0 l hl l.length 0 (by omega) (by omega) k (0, 0, 0, 0) (by omega)
  rw [List.drop_zero] at h
  exact h
theorem sum_two (a b : S29) (k : Nat) (hk : 3 ≤ k) : count_Sum.f k [a, b] = some (wrap64 (a.f0 + b.f0), wrap64 (a.f1 + b.f1), wrap64 (a.f2 + b.f2), wrap64 (a.f3 + b.f3)) := by
  rw [sum_all _ (by simp) k (by simp; omega)]
  simp only [List.foldl_cons, List.foldl_nil, addW, Int.zero_add, wrap_wrap_add]
end Go.Proofs.Ytlfonfceaiiinaa.Pure
