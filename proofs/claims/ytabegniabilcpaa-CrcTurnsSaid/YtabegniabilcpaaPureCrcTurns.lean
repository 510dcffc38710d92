/- Two unlike registers are unlike behind a byte, and two unlike bytes behind a register. -/
import Derived.Test.YtabegniabilcpaaStCrcTurns
import Derived.Test.YtabegniabilcpaaCrcLaws
namespace Go.Proofs.Ytabegniabilcpaa.Pure
open Go.RowKit Go.Proofs.YtabegniabilcpaaW.PrintWords Go.Proofs.YtabegniabilcpaaW.PrintLast Go.Proofs.Ytabegniabilcpaa.PAll Go.Proofs.Ytabegniabilcpaa.Open Go.Proofs.Ytabegniabilcpaa.PB Go.Proofs.Ytabegniabilcpaa.CM Go.Proofs.Ytabegniabilcpaa.CP

theorem eq_of_toNat (a b : BitVec 32) : (((a.toNat : Int)) == ((b.toNat : Int))) = decide (a = b) := by
  rw [Bool.eq_iff_iff]
  simp only [beq_iff_eq, decide_eq_true_eq]
  exact n32_inj
theorem eq_of_toNat8 (a b : BitVec 8) : (((a.toNat : Int)) == ((b.toNat : Int))) = decide (a = b) := by
  rw [Bool.eq_iff_iff]
  simp only [beq_iff_eq, decide_eq_true_eq]
  constructor
  · intro h
    apply BitVec.eq_of_toNat_eq
    omega
  · rintro rfl
    rfl
theorem CrcTurns : hogsheadlaw02_CrcTurns.Pure := by
  rintro ⟨a, b, x, y⟩ ⟨ha, hb, hx, hy⟩ _
  obtain ⟨a, rfl⟩ := of_u32 (wf_u32 ha)
  obtain ⟨b, rfl⟩ := of_u32 (wf_u32 hb)
  obtain ⟨x, rfl⟩ := of_u8 (wf_u8 hx)
  obtain ⟨y, rfl⟩ := of_u8 (wf_u8 hy)
  refine ⟨9, ?_⟩
  unfold hogsheadlaw02_CrcTurns.f
  rw [shown_true, step_num 9 (by omega), step_num 9 (by omega), step_num 9 (by omega)]
  simp only [Option.bind_some]
  rw [eq_of_toNat, eq_of_toNat, eq_of_toNat, eq_of_toNat8]
  have h1 : (stepB a x = stepB b x) ↔ a = b := ⟨stepB_inj, fun h => by rw [h]⟩
  have h2 : (stepB a x = stepB a y) ↔ x = y := ⟨stepB_inj_byte, fun h => by rw [h]⟩
  simp [h1, h2]
end Go.Proofs.Ytabegniabilcpaa.Pure
