/- The examples of the document's second chapter. -/
import Derived.Test.YtabegniabilcpaaCrcOpen
import Derived.Test.YtabegniabilcpaaPAllx2
namespace Go.Proofs.Ytabegniabilcpaa.CP
open Go.RowKit Go.Proofs.YtabegniabilcpaaW.PrintWords Go.Proofs.YtabegniabilcpaaW.PrintLast Go.Proofs.Ytabegniabilcpaa.PAll Go.Proofs.Ytabegniabilcpaa.PB Go.Proofs.Ytabegniabilcpaa.CM

theorem shown_true : hogsheadlaw02_shown.f = some true := by
  unfold hogsheadlaw02_shown.f
  rw [sum_num _ (by decide)]
  simp only [Option.bind_some]
  have e : sumB (L ⟨#[49, 50, 51, 52, 53, 54, 55, 56, 57]⟩) = 4236843288#32 := by decide +kernel
  rw [e, if_pos (by rfl)]
  obtain ⟨f, hf, hL⟩ := seal_num ⟨#[]⟩ (by decide)
  rw [hf]
  simp only [Option.bind_some]
  rw [L_toList, hL]
  have e2 : sealed (L ⟨#[]⟩) = [0, 0, 0, 0] := by decide +kernel
  rw [e2]
  rfl
end Go.Proofs.Ytabegniabilcpaa.CP
