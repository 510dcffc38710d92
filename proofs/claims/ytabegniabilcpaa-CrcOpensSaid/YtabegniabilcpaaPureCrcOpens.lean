/- What bytes open to, or why they don't, is the reference's. -/
import Derived.Test.YtabegniabilcpaaStCrcOpens
import Derived.Test.YtabegniabilcpaaCrcLaws
namespace Go.Proofs.Ytabegniabilcpaa.Pure
open Go.RowKit Go.Proofs.YtabegniabilcpaaW.PrintWords Go.Proofs.YtabegniabilcpaaW.PrintLast Go.Proofs.Ytabegniabilcpaa.PAll Go.Proofs.Ytabegniabilcpaa.Open Go.Proofs.Ytabegniabilcpaa.PB Go.Proofs.Ytabegniabilcpaa.CM Go.Proofs.Ytabegniabilcpaa.CP

theorem CrcOpens : hogsheadlaw02_CrcOpens.Pure := by
  intro f _ hf
  obtain ⟨s, e, h1, h2, h3⟩ := open_num f (by omega)
  obtain ⟨t, g, h4, h5, h6⟩ := ref_open f (by omega) (f.size + 10) (by omega)
  refine ⟨f.size + 10, ?_⟩
  unfold hogsheadlaw02_CrcOpens.f
  rw [shown_true, h1, h4]
  simp only [Option.bind_some, L_toList]
  rw [h2, h5, h3, h6]
  simp
end Go.Proofs.Ytabegniabilcpaa.Pure
