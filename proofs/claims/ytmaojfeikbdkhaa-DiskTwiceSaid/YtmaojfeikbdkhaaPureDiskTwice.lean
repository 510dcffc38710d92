/- A burst that comes twice changes nothing. -/
import Derived.Test.YtmaojfeikbdkhaaStDiskTwice
import Derived.Test.YtmaojfeikbdkhaaAllDiskTwice
namespace Go.Proofs.Ytmaojfeikbdkhaa.Pure
open Go.RowKit Go.Proofs.YtmaojfeikbdkhaaW.PrintWords Go.Proofs.YtmaojfeikbdkhaaW.PrintLast Go.Proofs.Ytmaojfeikbdkhaa.PAll Go.Proofs.Ytmaojfeikbdkhaa.Open Go.Proofs.Ytmaojfeikbdkhaa.PB Go.Proofs.Ytmaojfeikbdkhaa.DP

theorem DiskTwice : hogsheadlaw08_DiskTwice.Pure := by
  intro a0 hw hs
  obtain ⟨⟨⟨hl0, hs0⟩, ⟨hl1, _⟩, _⟩, _⟩ := hs
  obtain ⟨_, _, _, hb⟩ := hw
  obtain ⟨hb0, hb1⟩ := wf_u32 hb
  obtain ⟨b, hbe⟩ := Int.eq_ofNat_of_zero_le hb0
  generalize a0.f0.f0 = l0 at *
  generalize a0.f0.f1 = l1 at *
  generalize a0.f0.f2 = a2 at *
  generalize a0.f0.f3 = a3 at *
  generalize a0.f1 = slot at *
  generalize a0.f2 = at_ at *
  generalize a0.f3 = bits at *
  subst hbe
  refine ⟨l1.length + 2 * l0.length + 20, ?_⟩
  obtain ⟨k, hk⟩ := succ_of (show 0 < l1.length + 2 * l0.length + 20 by omega)
  unfold hogsheadlaw08_DiskTwice.f
  rw [shown_is _ (by omega), Option.bind_some, burst_is l0 l1 a2 a3 slot at_ b (by omega) (rd_small hs0 slot) (by omega), Option.bind_some]
  -- a burst that is refused
  have hno : burstD l0 l1 a2 a3 slot at_ b = (l0, l1, a2, a3, 1) → ((disk_Burst.f (burstD l0 l1 a2 a3 slot at_ b).1 (burstD l0 l1 a2 a3 slot at_ b).2.1 (burstD l0 l1 a2 a3 slot at_ b).2.2.1 (burstD l0 l1 a2 a3 slot at_ b).2.2.2.1 slot at_ b).bind fun bt204 => ((hogsheadref08_Same.f (l1.length + 2 * l0.length + 20) bt204.1 bt204.2.1 bt204.2.2.1 bt204.2.2.2.1 l0 l1 a2 a3).bind fun t214 => ((hogsheadref08_Same.f (l1.length + 2 * l0.length + 20) (burstD l0 l1 a2 a3 slot at_ b).1 (burstD l0 l1 a2 a3 slot at_ b).2.1 (burstD l0 l1 a2 a3 slot at_ b).2.2.1 (burstD l0 l1 a2 a3 slot at_ b).2.2.2.1 l0 l1 a2 a3).bind fun t215 => (if true = true then (if t214 = true then (if (burstD l0 l1 a2 a3 slot at_ b).2.2.2.2 = bt204.2.2.2.2 then (if (burstD l0 l1 a2 a3 slot at_ b).2.2.2.2 = 0 then (hogsheadlaw08_DiskTwice.j0 (l1.length + 2 * l0.length + 20) (t215 == ((b : Int) == 0))) else (hogsheadlaw08_DiskTwice.j0 (l1.length + 2 * l0.length + 20) true)) else (hogsheadlaw08_DiskTwice.j0 (l1.length + 2 * l0.length + 20) false)) else (hogsheadlaw08_DiskTwice.j0 (l1.length + 2 * l0.length + 20) false)) else (hogsheadlaw08_DiskTwice.j0 (l1.length + 2 * l0.length + 20) false))))) = some true := by
    intro e
    rw [e]
    dsimp only
    rw [burst_is l0 l1 a2 a3 slot at_ b (by omega) (rd_small hs0 slot) (by omega), e, Option.bind_some]
    dsimp only
    rw [dsame_refl _ _ _ _ (by omega) (by omega) _ (by omega), Option.bind_some, Option.bind_some, if_pos rfl, if_pos rfl, if_pos rfl, if_neg (by decide), hk, hogsheadlaw08_DiskTwice.j0]
  by_cases c : 0 ≤ slot ∧ slot < (l0.length : Int)
  · by_cases c2 : at_ < 0
    · exact hno (by unfold burstD; rw [if_pos c, if_pos c2])
    · by_cases c3 : at_ > 8 * ((rdOf ByteArray.empty l0 slot).size : Int) - 32
      · exact hno (by unfold burstD; rw [if_pos c, if_neg c2, if_pos c3])
      · clear hno
        have hsl : slot.toNat < l0.length := by omega
        have hrd : rdOf ByteArray.empty l0 slot = l0[slot.toNat] := by
          unfold rdOf
          rw [List.getD_eq_getElem?_getD, List.getElem?_eq_getElem hsl]
          rfl
        have hsz := rd_small hs0 slot
        have hlen : (rdOf ByteArray.empty l0 slot).data.toList.length = (rdOf ByteArray.empty l0 slot).size := data_length _
        have hysz : (⟨(Mark.turnL 32 (rdOf ByteArray.empty l0 slot).data.toList at_.toNat b).toArray⟩ : ByteArray).size = (rdOf ByteArray.empty l0 slot).size := by
          show (Mark.turnL 32 (rdOf ByteArray.empty l0 slot).data.toList at_.toNat b).toArray.size = _
          rw [List.size_toArray, Mark.turnL_length, hlen]
        have hone : burstD l0 l1 a2 a3 slot at_ b = (l0.set slot.toNat ⟨(Mark.turnL 32 (rdOf ByteArray.empty l0 slot).data.toList at_.toNat b).toArray⟩, l1, a2, a3, 0) := by
          unfold burstD
          rw [if_pos c, if_neg c2, if_neg c3]
        have hty : (Mark.turnL 32 (rdOf ByteArray.empty l0 slot).data.toList at_.toNat b) = (⟨(Mark.turnL 32 (rdOf ByteArray.empty l0 slot).data.toList at_.toNat b).toArray⟩ : ByteArray).data.toList := rfl
        have hback : (⟨(Mark.turnL 32 (Mark.turnL 32 (rdOf ByteArray.empty l0 slot).data.toList at_.toNat b) at_.toNat b).toArray⟩ : ByteArray) = rdOf ByteArray.empty l0 slot := by rw [FP.turn_turn]
        have hsame : (⟨(Mark.turnL 32 (rdOf ByteArray.empty l0 slot).data.toList at_.toNat b).toArray⟩ : ByteArray) = rdOf ByteArray.empty l0 slot ↔ b = 0 := by
          rw [← FP.turn_same (rdOf ByteArray.empty l0 slot).data.toList at_.toNat b (by rw [hlen]; omega) (by omega)]
          constructor
          · intro h
            rw [hty, h]
          · intro h
            rw [h]
        rw [hone]
        dsimp only
        generalize hy : (⟨(Mark.turnL 32 (rdOf ByteArray.empty l0 slot).data.toList at_.toNat b).toArray⟩ : ByteArray) = y at *
        have hrd2 : rdOf ByteArray.empty (l0.set slot.toNat y) slot = y := by
          unfold rdOf
          rw [List.getD_eq_getElem?_getD, List.getElem?_set_self hsl]
          rfl
        have htwo : burstD (l0.set slot.toNat y) l1 a2 a3 slot at_ b = (l0, l1, a2, a3, 0) := by
          unfold burstD
          rw [hrd2, List.length_set, if_pos c, if_neg c2, if_neg (by rw [hysz]; exact c3), List.set_set, ← hty, hback, hrd, List.set_getElem_self]
        rw [burst_is _ l1 a2 a3 slot at_ b (by rw [List.length_set]; omega) (by rw [hrd2, hysz]; exact hsz) (by omega), htwo, Option.bind_some]
        dsimp only
        rw [dsame_refl _ _ _ _ (by omega) (by omega) _ (by omega), Option.bind_some, dsame_is _ _ _ _ _ _ _ _ (by rw [List.length_set]; omega) (by omega) _ (by rw [List.length_set]; omega), Option.bind_some, if_pos rfl, if_pos rfl, if_pos rfl, if_pos rfl, hk, hogsheadlaw08_DiskTwice.j0]
        refine congrArg some ?_
        have hset : l0.set slot.toNat y = l0 ↔ y = rdOf ByteArray.empty l0 slot := by
          constructor
          · intro h
            have h2 := hrd2
            rw [h] at h2
            exact h2.symm
          · intro h
            rw [h, hrd, List.set_getElem_self]
        by_cases hz : b = 0
        · have h1 := hset.2 (hsame.2 hz)
          simp [h1, hz]
        · have h1 : ¬ l0.set slot.toNat y = l0 := fun h => hz (hsame.1 (hset.1 h))
          simp [h1, hz]
  · exact hno (by unfold burstD; rw [if_neg c])
end Go.Proofs.Ytmaojfeikbdkhaa.Pure
