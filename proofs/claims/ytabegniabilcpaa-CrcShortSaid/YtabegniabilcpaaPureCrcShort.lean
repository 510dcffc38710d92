/- Of fewer than four bytes nothing is opened. -/
import Derived.Test.YtabegniabilcpaaStCrcShort
import Derived.Test.YtabegniabilcpaaCrcLaws
namespace Go.Proofs.Ytabegniabilcpaa.Pure
open Go.RowKit Go.Proofs.YtabegniabilcpaaW.PrintWords Go.Proofs.YtabegniabilcpaaW.PrintLast Go.Proofs.Ytabegniabilcpaa.PAll Go.Proofs.Ytabegniabilcpaa.Open Go.Proofs.Ytabegniabilcpaa.PB Go.Proofs.Ytabegniabilcpaa.CM Go.Proofs.Ytabegniabilcpaa.CP

theorem CrcShort : hogsheadlaw02_CrcShort.Pure := by
  intro f _ hf
  obtain ⟨s, e, h1, h2, h3⟩ := open_num f (by omega)
  unfold hogsheadlaw02_CrcShort.f
  rw [shown_true, h1]
  simp only [Option.bind_some]
  rw [h3]
  unfold opened
  rw [L_length]
  by_cases h4 : f.size < 4
  · have h5 : ((f.size : Int) < 4) := by omega
    simp [h4, h5]
  · have h5 : ¬ ((f.size : Int) < 4) := by omega
    rw [if_neg h4]
    by_cases hc : sealed ((L f).take (f.size - 4)) = L f
    · rw [if_pos hc]
      simp [h5]
    · rw [if_neg hc]
      simp [h5]
end Go.Proofs.Ytabegniabilcpaa.Pure
