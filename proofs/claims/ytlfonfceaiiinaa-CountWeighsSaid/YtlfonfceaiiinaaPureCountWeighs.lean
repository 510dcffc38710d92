/- What a disk has, and what all have, is as the document says. -/
import Derived.Test.YtlfonfceaiiinaaStCountWeighs
import Derived.Test.YtlfonfceaiiinaaAllCountWeighs
namespace Go.Proofs.Ytlfonfceaiiinaa.Pure
open Go.RowKit Go.Proofs.YtlfonfceaiiinaaW.PrintWords Go.Proofs.YtlfonfceaiiinaaW.PrintLast Go.Proofs.Ytlfonfceaiiinaa.PAll Go.Proofs.Ytlfonfceaiiinaa.Open Go.Proofs.Ytlfonfceaiiinaa.PB Go.Proofs.Ytlfonfceaiiinaa.DP Go.Proofs.Ytlfonfceaiiinaa.VP Go.Proofs.Ytlfonfceaiiinaa.CP Go.Proofs.Ytlfonfceaiiinaa.SH

theorem CountWeighs : hogsheadlaw19_CountWeighs.Pure := by
  intro d l hw hlw hs hls
  obtain ⟨⟨h0, hf0⟩, ⟨h1, hf1⟩, _, _⟩ := hs
  have hf : Fits d.f0 d.f1 := ⟨hf0, fun x hx => (hf1 x hx).2⟩
  have hl := hls.1
  generalize d.f0 = l0 at *
  generalize d.f1 = l1 at *
  refine ⟨BIG, ?_⟩
  have hB : 400000000000000 < BIG := by unfold BIG; omega
  obtain ⟨k, hk⟩ := succ_of (show 0 < BIG by omega)
  unfold hogsheadlaw19_CountWeighs.f
  rw [shown_all _ (by omega), Option.bind_some, if_pos rfl, weigh_is _ _ _ _ hf (by omega) _ (by omega), Option.bind_some, rweigh_is _ _ _ _ hf (by omega) (by omega) _ (Nat.le_refl _), Option.bind_some, if_pos (by simp), sum_all _ (by omega) _ (by omega), Option.bind_some, rsum_is _ (by omega) _ (by omega), Option.bind_some, hk, hogsheadlaw19_CountWeighs.j0]
  simp
end Go.Proofs.Ytlfonfceaiiinaa.Pure
