/- What was sealed is opened as it was. -/
import Derived.Test.YtabegniabilcpaaStCrcBack
import Derived.Test.YtabegniabilcpaaCrcLaws
namespace Go.Proofs.Ytabegniabilcpaa.Pure
open Go.RowKit Go.Proofs.YtabegniabilcpaaW.PrintWords Go.Proofs.YtabegniabilcpaaW.PrintLast Go.Proofs.Ytabegniabilcpaa.PAll Go.Proofs.Ytabegniabilcpaa.Open Go.Proofs.Ytabegniabilcpaa.PB Go.Proofs.Ytabegniabilcpaa.CM Go.Proofs.Ytabegniabilcpaa.CP

theorem CrcBack : hogsheadlaw02_CrcBack.Pure := by
  intro s _ hs
  obtain ⟨f, hf, hL⟩ := seal_num s (by omega)
  have hsz : f.size = s.size + 4 := by rw [← L_length, hL, sealed_length, L_length]
  obtain ⟨t, e, h1, h2, h3⟩ := open_num f (by omega)
  rw [hL, opened_sealed] at h2 h3
  unfold hogsheadlaw02_CrcBack.f
  rw [shown_true, hf]
  simp only [Option.bind_some]
  rw [h1]
  simp only [Option.bind_some, L_toList]
  rw [h2, h3]
  simp
end Go.Proofs.Ytabegniabilcpaa.Pure
