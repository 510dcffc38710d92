/- The command that a call wants is as the document says. -/
import Derived.Test.YtmjmmgefkebggaaStDeedWants
import Derived.Test.YtmjmmgefkebggaaDeedPure
import Derived.Test.YtmjmmgefkebggaaCrcSumP
namespace Go.Proofs.Ytmjmmgefkebggaa.Pure
open Go.RowKit Go.Proofs.YtmjmmgefkebggaaW.PrintWords Go.Proofs.YtmjmmgefkebggaaW.PrintLast Go.Proofs.Ytmjmmgefkebggaa.PAll Go.Proofs.Ytmjmmgefkebggaa.Open Go.Proofs.Ytmjmmgefkebggaa.PB Go.Proofs.Ytmjmmgefkebggaa.DD Go.Proofs.Ytmjmmgefkebggaa.CP

theorem places_none (k : Nat) (hk : 1 ≤ k) : hogsheadref11_Places.f k [] [] = some true := by
  obtain ⟨k, rfl⟩ := succ_of (show 0 < k by omega)
  unfold hogsheadref11_Places.f
  rw [if_pos rfl, hogsheadref11_Places.l0, if_neg (by simp)]
theorem DeedWants : hogsheadlaw17_DeedWants.Pure := by
  intro a0 hw hs
  obtain ⟨_, _, _, hb, _⟩ := hs
  refine ⟨a0.f3.size + 20, ?_⟩
  unfold hogsheadlaw17_DeedWants.f
  rw [shown_is _ (by omega), Option.bind_some]
  unfold deed_Want.f hogsheadref17_Want.f hogsheadref15_SameCmd.f
  rw [sum_num _ (by omega), ref_sum _ (by omega) _ (by omega)]
  simp only [Option.bind_some]
  obtain ⟨k, hk⟩ := succ_of (show 0 < a0.f3.size + 20 by omega)
  have hp := places_none (k + 1) (by omega)
  rw [hk]
  by_cases c4 : a0.f5 = 4
  · have c2 : ¬ a0.f5 = 2 := by omega
    simp [c4, hp, hogsheadlaw17_DeedWants.j0]
  · by_cases c2 : a0.f5 = 2
    · simp [c2, hp, hogsheadlaw17_DeedWants.j0]
    · by_cases c5 : a0.f5 = 5
      · simp [c5, hp, hogsheadlaw17_DeedWants.j0]
      · by_cases c7 : a0.f5 = 7
        · simp [c7, hp, hogsheadlaw17_DeedWants.j0]
        · simp [c4, c2, c5, c7, hp, hogsheadlaw17_DeedWants.j0]
end Go.Proofs.Ytmjmmgefkebggaa.Pure
