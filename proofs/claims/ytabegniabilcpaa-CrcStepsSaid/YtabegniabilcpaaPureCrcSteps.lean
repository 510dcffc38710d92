/- The program steps a register as the reference does. -/
import Derived.Test.YtabegniabilcpaaStCrcSteps
import Derived.Test.YtabegniabilcpaaCrcLaws
namespace Go.Proofs.Ytabegniabilcpaa.Pure
open Go.RowKit Go.Proofs.YtabegniabilcpaaW.PrintWords Go.Proofs.YtabegniabilcpaaW.PrintLast Go.Proofs.Ytabegniabilcpaa.PAll Go.Proofs.Ytabegniabilcpaa.Open Go.Proofs.Ytabegniabilcpaa.PB Go.Proofs.Ytabegniabilcpaa.CM Go.Proofs.Ytabegniabilcpaa.CP

theorem CrcSteps : hogsheadlaw02_CrcSteps.Pure := by
  intro r b hr hb
  obtain ⟨r, rfl⟩ := of_u32 (wf_u32 hr)
  obtain ⟨b, rfl⟩ := of_u8 (wf_u8 hb)
  refine ⟨9, ?_⟩
  unfold hogsheadlaw02_CrcSteps.f
  rw [shown_true, step_num 9 (by omega), ref_step 9 (by omega)]
  simp
end Go.Proofs.Ytabegniabilcpaa.Pure
