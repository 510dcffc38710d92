/- Steps are linear. -/
import Derived.Test.YtabegniabilcpaaStCrcLines
import Derived.Test.YtabegniabilcpaaCrcLaws
namespace Go.Proofs.Ytabegniabilcpaa.Pure
open Go.RowKit Go.Proofs.YtabegniabilcpaaW.PrintWords Go.Proofs.YtabegniabilcpaaW.PrintLast Go.Proofs.Ytabegniabilcpaa.PAll Go.Proofs.Ytabegniabilcpaa.Open Go.Proofs.Ytabegniabilcpaa.PB Go.Proofs.Ytabegniabilcpaa.CM Go.Proofs.Ytabegniabilcpaa.CP

theorem CrcLines : hogsheadlaw02_CrcLines.Pure := by
  rintro ⟨a, b, x, y⟩ ⟨ha, hb, hx, hy⟩ _
  obtain ⟨a, rfl⟩ := of_u32 (wf_u32 ha)
  obtain ⟨b, rfl⟩ := of_u32 (wf_u32 hb)
  obtain ⟨x, rfl⟩ := of_u8 (wf_u8 hx)
  obtain ⟨y, rfl⟩ := of_u8 (wf_u8 hy)
  refine ⟨9, ?_⟩
  unfold hogsheadlaw02_CrcLines.f
  rw [shown_true, xor32, xor8, step_num 9 (by omega), step_num 9 (by omega), step_num 9 (by omega)]
  simp only [Option.bind_some]
  rw [xor32, stepB_xor]
  simp
end Go.Proofs.Ytabegniabilcpaa.Pure
