/- A disk that takes so many writes more takes just these: where the disk and the writes hold together at most 1048576 values. -/
import Derived.Test.YtmaojfeikbdkhaaStDiskArms
import Derived.Test.YtmaojfeikbdkhaaDiskLaws
namespace Go.Proofs.Ytmaojfeikbdkhaa.Pure
open Go.RowKit Go.Proofs.YtmaojfeikbdkhaaW.PrintWords Go.Proofs.YtmaojfeikbdkhaaW.PrintLast Go.Proofs.Ytmaojfeikbdkhaa.PAll Go.Proofs.Ytmaojfeikbdkhaa.Open Go.Proofs.Ytmaojfeikbdkhaa.PB Go.Proofs.Ytmaojfeikbdkhaa.DP

theorem arms_loop (fuse : Int) (L : List ByteArray) (l0 : List ByteArray) (hL : L.length ≤ 1048576) (h0 : l0.length ≤ 1048576) (hf : 0 ≤ fuse ∧ fuse ≤ 9223372036854775807) (hne : 0 < l0.length) :
    ∀ (m i k : Nat) (l1 : List W) (a2 : Int) (a3 : Bool), i + m = L.length → l1.length ≤ 1048576 + i → (a3 = false ∧ a2 = fuse - i ∧ (i : Int) ≤ fuse ∨ a3 = true ∧ fuse < i) → 2 * m < k →
      hogsheadlaw08_DiskArms.l0 k fuse L true i l0 l1 a2 a3 = some true
  | 0, i, k, l1, a2, a3, hi, hl, hd, hk => by
    obtain ⟨k, rfl⟩ := succ_of (show 0 < k by omega)
    rw [hogsheadlaw08_DiskArms.l0, if_neg (by omega)]
  | m + 1, i, k, l1, a2, a3, hi, hl, hd, hk => by
    obtain ⟨k, rfl⟩ := succ_of (show 1 < k by omega)
    obtain ⟨k, rfl⟩ := succ_of (show 0 < k by omega)
    have hmod : Int.tmod (i : Int) (l0.length : Int) = ((i % l0.length : Nat) : Int) := by rw [Int.ofNat_tmod]
    have hlt : i % l0.length < l0.length := Nat.mod_lt _ hne
    have hwr := wrap_succ (i := i) (n := L.length) (by omega) (by omega)
    rw [hogsheadlaw08_DiskArms.l0, if_pos (by omega), if_pos (by omega)]
    generalize rdOf ByteArray.empty L (i : Int) = s
    by_cases cs : (s.size : Int) > 1024
    · rw [if_pos cs]
    · rw [if_neg cs, if_neg (by omega), put_is _ _ _ _ _ _ (by omega), Option.bind_some, hmod]
      have hin : 0 ≤ ((i % l0.length : Nat) : Int) ∧ ((i % l0.length : Nat) : Int) < (l0.length : Int) := ⟨by omega, by omega⟩
      rcases hd with ⟨rfl, rfl, hle⟩ | ⟨rfl, hgt⟩
      · by_cases ce : (i : Int) = fuse
        · have hp : putD l0 l1 (fuse - i) false ((i % l0.length : Nat) : Int) s = (l0, l1 ++ [⟨((i % l0.length : Nat) : Int), s⟩], fuse - i, true, 6) := by
            unfold putD
            rw [if_neg (by decide), if_pos hin, if_neg cs, if_pos (by omega)]
          rw [hp]
          simp only []
          rw [show (((6 : Int) == 0) != decide ((i : Int) < fuse)) = false by rw [decide_eq_false (by omega)]; rfl, if_neg (by decide), if_pos (by omega), if_pos trivial]
          simp only [Bool.not_true]
          rw [hogsheadlaw08_DiskArms.j2, if_neg (by decide), hwr]
          exact arms_loop fuse L l0 hL h0 hf hne m (i + 1) k _ _ _ (by omega) (by rw [List.length_append, List.length_singleton]; omega) (.inr ⟨rfl, by omega⟩) (by omega)
        · have hp : putD l0 l1 (fuse - i) false ((i % l0.length : Nat) : Int) s = (l0, l1 ++ [⟨((i % l0.length : Nat) : Int), s⟩], fuse - (i + 1 : Nat), false, 0) := by
            unfold putD
            rw [if_neg (by decide), if_pos hin, if_neg cs, if_neg (by omega), if_pos (by omega), show wrap64 (fuse - i - 1) = fuse - (i + 1 : Nat) by unfold wrap64; omega]
          rw [hp]
          simp only []
          rw [show (((0 : Int) == 0) != decide ((i : Int) < fuse)) = false by rw [decide_eq_true (by omega)]; rfl, if_neg (by decide), if_neg (by omega)]
          rw [hogsheadlaw08_DiskArms.j2, if_neg (by decide), hwr]
          exact arms_loop fuse L l0 hL h0 hf hne m (i + 1) k _ _ _ (by omega) (by rw [List.length_append, List.length_singleton]; omega) (.inl ⟨rfl, rfl, by omega⟩) (by omega)
      · have hp : putD l0 l1 a2 true ((i % l0.length : Nat) : Int) s = (l0, l1, a2, true, 6) := by
          unfold putD
          rw [if_pos rfl]
        rw [hp]
        simp only []
        rw [show (((6 : Int) == 0) != decide ((i : Int) < fuse)) = false by rw [decide_eq_false (by omega)]; rfl, if_neg (by decide), if_pos (by omega), if_pos trivial]
        simp only [Bool.not_true]
        rw [hogsheadlaw08_DiskArms.j2, if_neg (by decide), hwr]
        exact arms_loop fuse L l0 hL h0 hf hne m (i + 1) k _ _ _ (by omega) (by omega) (.inr ⟨rfl, by omega⟩) (by omega)

theorem DiskArmsUpto : hogsheadlaw08_DiskArms.PureUpto := by
  intro a0 fuse L hw hfw hLw hb
  obtain ⟨hf0, hf1⟩ := wf_in hfw
  have hbs : os_s.wt a0.f0 + os_o47.wt a0.f1 + 1 + 1 + 1 + 1 + os_s.wt L ≤ 1048576 := by
    have : o25.wt a0 = os_s.wt a0.f0 + os_o47.wt a0.f1 + 1 + 1 + 1 := rfl
    omega
  have e0 : a0.f0.length ≤ os_s.wt a0.f0 := by
    have := length_le_sumW (fun x : ByteArray => x.size + 1) (fun x => by omega) a0.f0
    unfold os_s.wt
    omega
  have e1 : a0.f1.length ≤ os_o47.wt a0.f1 := by
    have := length_le_sumW (fun x => o47.wt x) (fun x => by unfold o47.wt; omega) a0.f1
    unfold os_o47.wt
    omega
  have e2 : L.length ≤ os_s.wt L := by
    have := length_le_sumW (fun x : ByteArray => x.size + 1) (fun x => by omega) L
    unfold os_s.wt
    omega
  generalize a0.f0 = l0 at *
  generalize a0.f1 = l1 at *
  generalize a0.f2 = a2 at *
  generalize a0.f3 = a3 at *
  refine ⟨2 * L.length + 20, ?_⟩
  unfold hogsheadlaw08_DiskArms.f
  rw [shown_is _ (by omega), Option.bind_some]
  by_cases c : a3 = true
  · rw [if_pos c, hogsheadlaw08_DiskArms.j0, if_pos rfl]
  · rw [if_neg c]
    by_cases c0 : (l0.length : Int) = 0
    · rw [if_pos c0, hogsheadlaw08_DiskArms.j0, if_pos rfl]
    · rw [if_neg c0, hogsheadlaw08_DiskArms.j0]
      by_cases cf : fuse < 0
      · rw [if_pos (decide_eq_true cf)]
      · have ha : disk_Arm.f l0 l1 a2 a3 fuse = some (l0, l1, fuse, a3) := by
          unfold disk_Arm.f
          rw [show mx fuse (-1) = fuse by unfold mx; omega]
        rw [if_neg (by simpa using cf), ha, Option.bind_some]
        simp only []
        exact arms_loop fuse L l0 (by omega) (by omega) ⟨by omega, hf1⟩ (by omega) L.length 0 _ l1 fuse a3 (by omega) (by omega) (.inl ⟨Bool.eq_false_iff.mpr c, by omega, by omega⟩) (by omega)
end Go.Proofs.Ytmaojfeikbdkhaa.Pure
