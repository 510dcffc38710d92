/- Whatever disk there is, what is written, read, flushed, is as the document says. -/
import Derived.Test.YtmaojfeikbdkhaaStDiskActs
import Derived.Test.YtmaojfeikbdkhaaDiskRef
namespace Go.Proofs.Ytmaojfeikbdkhaa.Pure
open Go.RowKit Go.Proofs.YtmaojfeikbdkhaaW.PrintWords Go.Proofs.YtmaojfeikbdkhaaW.PrintLast Go.Proofs.Ytmaojfeikbdkhaa.PAll Go.Proofs.Ytmaojfeikbdkhaa.Open Go.Proofs.Ytmaojfeikbdkhaa.PB Go.Proofs.Ytmaojfeikbdkhaa.DP

theorem DiskActs : hogsheadlaw08_DiskActs.Pure := by
  intro a0 hw hs
  obtain ⟨⟨⟨hl0, _⟩, ⟨hl1, _⟩, _⟩, _⟩ := hs
  generalize a0.f0.f0 = l0 at *
  generalize a0.f0.f1 = l1 at *
  generalize a0.f0.f2 = a2 at *
  generalize a0.f0.f3 = a3 at *
  generalize a0.f1 = slot at *
  generalize a0.f2 = s at *
  generalize a0.f3 = n at *
  obtain ⟨e0, e1⟩ := put_any l0 l1 a2 a3 slot s
  have hp1 : (putD l0 l1 a2 a3 slot s).2.1.length ≤ l1.length + 1 := by
    rcases e1 with e1 | e1
    · rw [e1]
      omega
    · rw [e1, List.length_append, List.length_singleton]
      exact Nat.le_refl _
  have hp0 : (putD l0 l1 a2 a3 slot s).1.length = l0.length := by rw [e0]
  refine ⟨l1.length + l0.length + 300, ?_⟩
  unfold hogsheadlaw08_DiskActs.f
  rw [shown_is _ (by omega), Option.bind_some, put_is _ _ _ _ _ _ (by omega), Option.bind_some, rput_is _ _ _ _ _ _ (by omega) _ (by omega), Option.bind_some, get_is, Option.bind_some, rget_is _ _ _ _ _ (by omega) _ (by omega), Option.bind_some,
    flush_is _ _ _ _ (by omega) (by omega) _ (by omega), Option.bind_some, rflush_is _ _ _ _ (by omega) (by omega) _ (by omega), Option.bind_some, new_is, Option.bind_some, rnew_is, Option.bind_some]
  have hf : (if a3 = true then (l0, l1, a2, a3, (6 : Int)) else (wrs l1 l0, [], a2, a3, 0)) = (if a3 = true then (l0, l1, a2, a3, (6 : Int)) else (wrs l1 l0, [], a2, false, 0)) := by
    cases a3 <;> rfl
  rw [hf]
  have hF0 : (if a3 = true then (l0, l1, a2, a3, (6 : Int)) else (wrs l1 l0, [], a2, false, 0)).1.length = l0.length := by
    cases a3
    · exact wrs_length _ _
    · rfl
  have hF1 : (if a3 = true then (l0, l1, a2, a3, (6 : Int)) else (wrs l1 l0, [], a2, false, 0)).2.1.length ≤ l1.length := by
    cases a3
    · exact Nat.zero_le _
    · exact Nat.le_refl _
  have hN0 : (if 1 ≤ n ∧ n ≤ 256 then (List.replicate n.toNat (⟨#[]⟩ : ByteArray), ([] : List W), (-1 : Int), false, (0 : Int)) else ([], [], 0, false, 1)).1.length ≤ 256 := by
    split
    · rw [List.length_replicate]
      omega
    · exact Nat.zero_le _
  have hN1 : (if 1 ≤ n ∧ n ≤ 256 then (List.replicate n.toNat (⟨#[]⟩ : ByteArray), ([] : List W), (-1 : Int), false, (0 : Int)) else ([], [], 0, false, 1)).2.1.length = 0 := by
    split <;> rfl
  generalize (if a3 = true then (l0, l1, a2, a3, (6 : Int)) else (wrs l1 l0, [], a2, false, 0)) = F at *
  generalize (if 1 ≤ n ∧ n ≤ 256 then (List.replicate n.toNat (⟨#[]⟩ : ByteArray), ([] : List W), (-1 : Int), false, (0 : Int)) else ([], [], 0, false, 1)) = N at *
  generalize putD l0 l1 a2 a3 slot s = P at *
  rw [dsame_refl _ _ _ _ (by omega) (by omega) _ (by omega), Option.bind_some, if_pos rfl, dsame_refl _ _ _ _ (by omega) (by omega) _ (by omega), Option.bind_some, if_pos rfl, dsame_refl _ _ _ _ (by omega) (by omega) _ (by omega), Option.bind_some]
  obtain ⟨k, hk⟩ := succ_of (show 1 < l1.length + l0.length + 300 by omega)
  obtain ⟨k, rfl⟩ := succ_of (show 0 < k by omega)
  rw [hk, hogsheadlaw08_DiskActs.j0, if_pos rfl, if_pos rfl, if_pos rfl, if_pos rfl, if_pos rfl, if_pos rfl, hogsheadlaw08_DiskActs.j1]
  simp
end Go.Proofs.Ytmaojfeikbdkhaa.Pure
