/- A text's sum, and the text sealed by it, are the reference's. -/
import Derived.Test.YtabegniabilcpaaStCrcSums
import Derived.Test.YtabegniabilcpaaCrcLaws
namespace Go.Proofs.Ytabegniabilcpaa.Pure
open Go.RowKit Go.Proofs.YtabegniabilcpaaW.PrintWords Go.Proofs.YtabegniabilcpaaW.PrintLast Go.Proofs.Ytabegniabilcpaa.PAll Go.Proofs.Ytabegniabilcpaa.Open Go.Proofs.Ytabegniabilcpaa.PB Go.Proofs.Ytabegniabilcpaa.CM Go.Proofs.Ytabegniabilcpaa.CP

theorem CrcSums : hogsheadlaw02_CrcSums.Pure := by
  intro s _ hs
  obtain ⟨f, hf, hL⟩ := seal_num s (by omega)
  obtain ⟨g, hg, hM⟩ := ref_seal s (by omega) (s.size + 10) (by omega)
  refine ⟨s.size + 10, ?_⟩
  unfold hogsheadlaw02_CrcSums.f
  rw [shown_true, sum_num s (by omega), ref_sum s (by omega) _ (by omega), hf, hg]
  simp only [Option.bind_some, L_toList]
  rw [hL, hM]
  simp
end Go.Proofs.Ytabegniabilcpaa.Pure
