/- What a crash, a fuse, a burst make of a disk is as the document says; which disks are the same, too. -/
import Derived.Test.YtmaojfeikbdkhaaStDiskFails
import Derived.Test.YtmaojfeikbdkhaaAllDiskFails
import Derived.Test.YtmaojfeikbdkhaaPAllx7
import Derived.Test.YtmaojfeikbdkhaaPAllx6
namespace Go.Proofs.Ytmaojfeikbdkhaa.Pure
open Go.RowKit Go.Proofs.YtmaojfeikbdkhaaW.PrintWords Go.Proofs.YtmaojfeikbdkhaaW.PrintLast Go.Proofs.Ytmaojfeikbdkhaa.PAll Go.Proofs.Ytmaojfeikbdkhaa.Open Go.Proofs.Ytmaojfeikbdkhaa.PB Go.Proofs.Ytmaojfeikbdkhaa.DP

theorem arm_is (l0 : List ByteArray) (l1 : List W) (a2 : Int) (a3 : Bool) (fuse : Int) : disk_Arm.f l0 l1 a2 a3 fuse = hogsheadref08_Arm.f l0 l1 a2 a3 fuse := by
  unfold disk_Arm.f hogsheadref08_Arm.f mx
  by_cases c : fuse < 0
  · rw [if_pos c]
    have e : (if fuse < -1 then -1 else fuse) = -1 := by split <;> omega
    first | rw [e] | (congr 4; omega)
  · rw [if_neg c]
    have e : (if fuse < -1 then -1 else fuse) = fuse := by split <;> omega
    first | rw [e] | (congr 4; omega)
theorem rarm_ex (l0 : List ByteArray) (l1 : List W) (a2 : Int) (a3 : Bool) (fuse : Int) : ∃ f, hogsheadref08_Arm.f l0 l1 a2 a3 fuse = some (l0, l1, f, a3) := by
  unfold hogsheadref08_Arm.f
  split
  · exact ⟨_, rfl⟩
  · exact ⟨_, rfl⟩
theorem crash_short (l0 : List ByteArray) (l1 : List W) (keep tear : Int) : (crashS l0 l1 keep tear).length = l0.length := crash_length l0 l1 keep tear
theorem burst_short (l0 : List ByteArray) (l1 : List W) (a2 : Int) (a3 : Bool) (slot at_ : Int) (b : Nat) : (burstD l0 l1 a2 a3 slot at_ b).1.length = l0.length ∧ (burstD l0 l1 a2 a3 slot at_ b).2.1 = l1 := by
  unfold burstD
  split
  · split
    · exact ⟨rfl, rfl⟩
    · split
      · exact ⟨rfl, rfl⟩
      · exact ⟨List.length_set, rfl⟩
  · exact ⟨rfl, rfl⟩
theorem DiskFails : hogsheadlaw08_DiskFails.Pure := by
  intro a0 hw hs
  obtain ⟨⟨⟨hl0, hs0⟩, ⟨hl1, _⟩, _⟩, _, _, _, _, _⟩ := hs
  obtain ⟨_, _, _, _, hb, _⟩ := hw
  obtain ⟨hb0, hb1⟩ := wf_u32 hb
  obtain ⟨b, hbe⟩ := Int.eq_ofNat_of_zero_le hb0
  generalize a0.f0.f0 = l0 at *
  generalize a0.f0.f1 = l1 at *
  generalize a0.f0.f2 = a2 at *
  generalize a0.f0.f3 = a3 at *
  generalize a0.f1 = keep at *
  generalize a0.f2 = tear at *
  generalize a0.f3 = slot at *
  generalize a0.f4 = bits at *
  generalize a0.f5.f0 = m0 at *
  generalize a0.f5.f1 = m1 at *
  generalize a0.f5.f2 = b2 at *
  generalize a0.f5.f3 = b3 at *
  subst hbe
  refine ⟨4 * l1.length + 4 * l0.length + 40, ?_⟩
  obtain ⟨k, hk⟩ := succ_of (show 0 < 4 * l1.length + 4 * l0.length + 40 by omega)
  obtain ⟨k', hk'⟩ := succ_of (show 0 < k by omega)
  obtain ⟨f, hf⟩ := rarm_ex l0 l1 a2 a3 keep
  have hbu := burst_short l0 l1 a2 a3 slot keep b
  unfold hogsheadlaw08_DiskFails.f
  rw [shown_is _ (by omega), Option.bind_some, crash_is _ _ _ _ _ _ (by omega) (by omega) _ (by omega), Option.bind_some, rcrash_is _ _ _ _ _ _ (by omega) (by omega) _ (by omega), Option.bind_some]
  dsimp only
  rw [dsame_refl _ _ _ _ (by rw [crash_length]; omega) (by simp) _ (by rw [crash_length]; simp; omega), Option.bind_some, if_pos rfl, arm_is, hf, Option.bind_some, Option.bind_some]
  dsimp only
  rw [dsame_refl _ _ _ _ (by omega) (by omega) _ (by omega), Option.bind_some, hk, hogsheadlaw08_DiskFails.j0, burst_is l0 l1 a2 a3 slot keep b (by omega) (rd_small hs0 slot) (by omega), Option.bind_some, rburst_is l0 l1 a2 a3 slot keep b (by omega) (rd_small hs0 slot) (by omega), Option.bind_some]
  rw [dsame_refl _ _ _ _ (by rw [hbu.1]; omega) (by rw [hbu.2]; omega) _ (by rw [hbu.1, hbu.2]; omega), Option.bind_some, if_pos rfl, if_pos rfl, if_pos rfl, if_pos rfl, psame_is _ _ _ _ _ _ _ _ (by omega) (by omega) _ (by omega), Option.bind_some, dsame_is _ _ _ _ _ _ _ _ (by omega) (by omega) _ (by omega), Option.bind_some, if_pos (by simp), psame_is _ _ _ _ _ _ _ _ (by omega) (by omega) _ (by omega), Option.bind_some, hk', hogsheadlaw08_DiskFails.j1]
  simp
end Go.Proofs.Ytmaojfeikbdkhaa.Pure
