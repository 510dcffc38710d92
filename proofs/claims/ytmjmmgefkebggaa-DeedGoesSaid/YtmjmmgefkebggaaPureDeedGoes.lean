/- What a call is behind whatever comes to it is as the document says. -/
import Derived.Test.YtmjmmgefkebggaaStDeedGoes
import Derived.Test.YtmjmmgefkebggaaDeedRef
namespace Go.Proofs.Ytmjmmgefkebggaa.Pure
open Go.RowKit Go.Proofs.YtmjmmgefkebggaaW.PrintWords Go.Proofs.YtmjmmgefkebggaaW.PrintLast Go.Proofs.Ytmjmmgefkebggaa.PAll Go.Proofs.Ytmjmmgefkebggaa.Open Go.Proofs.Ytmjmmgefkebggaa.PB Go.Proofs.Ytmjmmgefkebggaa.DD Go.Proofs.Ytmjmmgefkebggaa.CP

theorem DeedGoes : hogsheadlaw17_DeedGoes.Pure := by
  intro a0 hw hs
  obtain ⟨⟨_, _, _, hb, _⟩, _, _, hy, _⟩ := hs
  refine ⟨a0.f3.size + 20, ?_⟩
  unfold hogsheadlaw17_DeedGoes.f
  rw [shown_is _ (by omega), Option.bind_some, picked_is, Option.bind_some, rpicked_is, Option.bind_some, heard_is _ _ _ _ _ _ _ _ _ _ _ _ _ _ _ _ _ _ _ _ (by omega), Option.bind_some, rheard_is _ _ _ _ _ _ _ _ _ _ _ _ _ _ _ _ _ _ _ _ _ (by omega), Option.bind_some]
  generalize pickedS _ _ _ _ _ _ _ _ _ _ _ _ _ _ _ _ = P
  generalize heardS _ _ _ _ _ _ _ _ _ _ _ _ _ _ _ _ _ _ _ _ = H
  obtain ⟨k, hk⟩ := succ_of (show 2 < a0.f3.size + 20 by omega)
  rw [hk, hogsheadlaw17_DeedGoes.j0, wrote_is, Option.bind_some, rwrote_is, Option.bind_some, got_is _ _ _ _ _ _ _ _ _ _ _ _ _ _ _ _ (by omega) _ (by omega), Option.bind_some, rgot_is _ _ _ _ _ _ _ _ _ _ _ _ _ _ _ _ (by omega) _ (by omega), Option.bind_some, late_is, Option.bind_some, rlate_is, Option.bind_some]
  generalize wroteS _ _ _ _ _ _ _ _ _ _ _ _ _ _ _ = Wr
  generalize gotS _ _ _ _ _ _ _ _ _ _ _ _ _ _ _ _ = G
  generalize lateS _ _ _ _ _ _ _ _ _ _ _ _ _ _ = La
  obtain ⟨k, rfl⟩ := succ_of (show 1 < k by omega)
  obtain ⟨k, rfl⟩ := succ_of (show 0 < k by omega)
  simp [hogsheadlaw17_DeedGoes.j1, hogsheadlaw17_DeedGoes.j2]
end Go.Proofs.Ytmjmmgefkebggaa.Pure
