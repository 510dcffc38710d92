/- Two rows of slots weigh together what they weigh apart, or less: up to 1,048,576 bytes. -/
import Derived.Test.YtlfonfceaiiinaaStCountHalves
import Derived.Test.YtlfonfceaiiinaaAllCountHalves
namespace Go.Proofs.Ytlfonfceaiiinaa.Pure
open Go.RowKit Go.Proofs.YtlfonfceaiiinaaW.PrintWords Go.Proofs.YtlfonfceaiiinaaW.PrintLast Go.Proofs.Ytlfonfceaiiinaa.PAll Go.Proofs.Ytlfonfceaiiinaa.Open Go.Proofs.Ytlfonfceaiiinaa.PB Go.Proofs.Ytlfonfceaiiinaa.DP Go.Proofs.Ytlfonfceaiiinaa.VP Go.Proofs.Ytlfonfceaiiinaa.CP Go.Proofs.Ytlfonfceaiiinaa.SH

theorem CountHalvesUpto : hogsheadlaw19_CountHalves.PureUpto := by
  intro a b _ _ hw
  have sa : ∀ l : List ByteArray, l.length ≤ os_s.wt l := fun l => by
    unfold os_s.wt
    have := length_le_sumW (fun x : ByteArray => x.size + 1) (fun x => by omega) l
    omega
  have sb : ∀ (l : List ByteArray), ∀ s ∈ l, s.size ≤ os_s.wt l := fun l s hs => by
    unfold os_s.wt
    have := sumW_mem (fun x : ByteArray => x.size + 1) hs
    omega
  have ha := sa a
  have hb := sa b
  have fa : Fits a [] := ⟨fun s hs => by have := sb a s hs; omega, fun _ h => by cases h⟩
  have fb : Fits b [] := ⟨fun s hs => by have := sb b s hs; omega, fun _ h => by cases h⟩
  have fc : Fits (a ++ b) [] := ⟨fun s hs => (List.mem_append.mp hs).elim (fun h => by have := sb a s h; omega) (fun h => by have := sb b s h; omega), fun _ h => by cases h⟩
  have lc : (a ++ b).length = a.length + b.length := List.length_append ..
  obtain ⟨k, hk⟩ : ∃ k : Nat, k = 281474976702700 := ⟨_, rfl⟩
  refine ⟨k + 1, ?_⟩
  unfold hogsheadlaw19_CountHalves.f
  rw [shown_all _ (by omega), Option.bind_some, weigh_is a [] 0 false fa (by omega) _ (by omega), Option.bind_some, weigh_is b [] 0 false fb (by omega) _ (by omega), Option.bind_some, Option.bind_some, List.nil_append, if_pos (by rw [List.length_nil]; omega), Option.bind_some, if_pos (by omega), weigh_is (a ++ b) [] 0 false fc (by omega) _ (by omega), Option.bind_some]
  rw [sum_two _ _ _ (by omega), Option.bind_some, weigh_sums a, weigh_sums b, weigh_sums (a ++ b), sl_append]
  have hH := halves (sl a) (sl b)
  have la : (spotKeys (sl a)).length ≤ a.length := by have := keys_short a []; rw [keys_sl] at this; exact this
  have lb : (spotKeys (sl b)).length ≤ b.length := by have := keys_short b []; rw [keys_sl] at this; exact this
  have pa := s_pos (spotKeys (sl a))
  have pb := s_pos (spotKeys (sl b))
  have pc := s_pos (spotKeys (sl a ++ sl b))
  have na := s_len (spotKeys (sl a))
  have nb := s_len (spotKeys (sl b))
  generalize spotKeys (sl a) = Ka at *
  generalize spotKeys (sl b) = Kb at *
  generalize spotKeys (sl a ++ sl b) = Kc at *
  obtain ⟨h1, h3, hE⟩ := hH
  dsimp only
  simp only [wrap_wrap_add, wrap_add_wrap]
  have w : ∀ x : Int, 0 ≤ x → x ≤ 4194304 → wrap64 x = x := fun x h0 h1 => wrap_in (by unfold InR; omega)
  rw [w (s1 Kc) (by omega) (by omega), w (s3 Kc) (by omega) (by omega), w (s1 Ka + s1 Kb) (by omega) (by omega), w (s3 Ka + s3 Kb) (by omega) (by omega), w (s1 Kc + s3 Kc) (by omega) (by omega), w (s1 Ka + s1 Kb + (s3 Ka + s3 Kb)) (by omega) (by omega)]
  by_cases c : s1 Kc + s3 Kc < s1 Ka + s1 Kb + (s3 Ka + s3 Kb)
  · rw [if_pos c, if_pos trivial, if_pos h1]
    rw [hogsheadlaw19_CountHalves.j0, decide_eq_true h3]
  · obtain ⟨e1, e3, f1, f3⟩ := hE (by omega)
    rw [if_neg c, if_pos trivial]
    rw [hogsheadlaw19_CountHalves.j1, e1, e3, f1, f3]
    simp
end Go.Proofs.Ytlfonfceaiiinaa.Pure
