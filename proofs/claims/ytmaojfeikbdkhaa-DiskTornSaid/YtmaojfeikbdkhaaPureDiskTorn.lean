/- A crash that keeps so many writes leaves of the next one a beginning, and of all others what they had. -/
import Derived.Test.YtmaojfeikbdkhaaStDiskTorn
import Derived.Test.YtmaojfeikbdkhaaDiskLaws
namespace Go.Proofs.Ytmaojfeikbdkhaa.Pure
open Go.RowKit Go.Proofs.YtmaojfeikbdkhaaW.PrintWords Go.Proofs.YtmaojfeikbdkhaaW.PrintLast Go.Proofs.Ytmaojfeikbdkhaa.PAll Go.Proofs.Ytmaojfeikbdkhaa.Open Go.Proofs.Ytmaojfeikbdkhaa.PB Go.Proofs.Ytmaojfeikbdkhaa.DP

theorem torn_loop (slot : Int) (s c : List ByteArray) (b1 : List W) (b2 : Int) (b3 : Bool) (c1 : List W) (c2 : Int) (c3 : Bool) (hs : s.length ≤ 8796093022208) (hl : c.length = s.length) (he : ∀ i : Nat, i < s.length → (i : Int) ≠ slot → c.getD i ⟨#[]⟩ = s.getD i ⟨#[]⟩) :
    ∀ (m i k : Nat), i + m = s.length → 2 * m < k → hogsheadlaw08_DiskTorn.l0 k slot true i s b1 b2 b3 c c1 c2 c3 = some true
  | 0, i, k, hi, hk => by
    obtain ⟨k, rfl⟩ := succ_of (show 0 < k by omega)
    rw [hogsheadlaw08_DiskTorn.l0, if_neg (by omega)]
  | m + 1, i, k, hi, hk => by
    obtain ⟨k, rfl⟩ := succ_of (show 1 < k by omega)
    obtain ⟨k, rfl⟩ := succ_of (show 0 < k by omega)
    have ih := torn_loop slot s c b1 b2 b3 c1 c2 c3 hs hl he m (i + 1) k (by omega) (by omega)
    rw [hogsheadlaw08_DiskTorn.l0, if_pos (by omega)]
    by_cases e : (i : Int) = slot
    · rw [if_pos e, hogsheadlaw08_DiskTorn.j4, if_neg (by decide), wrap_succ (n := s.length) (by omega) (by omega)]
      exact ih
    · have hx : rdOf ByteArray.empty c (i : Int) = rdOf ByteArray.empty s (i : Int) := he i (by omega) e
      rw [if_neg e, if_pos (by omega), if_pos (by omega), hx, bne_self_eq_false, hogsheadlaw08_DiskTorn.j4, if_neg (by decide), wrap_succ (n := s.length) (by omega) (by omega)]
      exact ih

theorem DiskTorn : hogsheadlaw08_DiskTorn.Pure := by
  intro a0 hw hs
  obtain ⟨⟨⟨hl0, _⟩, ⟨hl1, _⟩, _⟩, _⟩ := hs
  generalize a0.f0.f0 = l0 at *
  generalize a0.f0.f1 = l1 at *
  generalize a0.f0.f2 = a2 at *
  generalize a0.f0.f3 = a3 at *
  generalize a0.f1 = slot at *
  generalize a0.f2 = s at *
  generalize a0.f3 = tear at *
  refine ⟨l1.length + 2 * l0.length + 20, ?_⟩
  unfold hogsheadlaw08_DiskTorn.f
  rw [shown_is _ (by omega), Option.bind_some, flush_is _ _ _ _ (by omega) (by omega) _ (by omega), Option.bind_some]
  obtain ⟨k, hk⟩ := succ_of (show 0 < l1.length + 2 * l0.length + 20 by omega)
  by_cases c : a3 = true
  · simp only [if_pos c]
    rw [put_is _ _ _ _ _ _ (by omega), Option.bind_some, if_neg (show ¬ (6 : Int) = 0 by decide), hk, hogsheadlaw08_DiskTorn.j0, if_pos rfl]
  · simp only [if_neg c]
    rw [put_is _ _ _ _ _ _ (by simp), Option.bind_some, if_pos trivial, hk]
    by_cases c0 : (putD (wrs l1 l0) [] a2 a3 slot s).2.2.2.2 = 0
    · obtain ⟨_, hin, hsz, h2, e0, e1, e3, e2⟩ := put_ok c0
      rw [if_pos c0, e0, e1, hogsheadlaw08_DiskTorn.j0]
      by_cases ct : tear < 0
      · rw [if_pos (decide_eq_true ct)]
      · rw [if_neg (by simpa using ct), List.nil_append, crash_is _ _ _ _ _ _ (by simp) (by rw [wrs_length]; omega) k (by rw [List.length_singleton]; omega), Option.bind_some, get_is, Option.bind_some]
        have hc : crashS (wrs l1 l0) [⟨slot, s⟩] 0 tear = wr1 (wrs l1 l0) (tornW ⟨slot, s⟩ tear) := by
          unfold crashS
          rw [if_pos (by omega)]
          rfl
        rw [hc]
        have hw1 : (wrs l1 l0).length = l0.length := wrs_length _ _
        generalize wrs l1 l0 = s0 at *
        have hg : getD (wr1 s0 (tornW ⟨slot, s⟩ tear)) [] slot = (s.extract 0 (min tear.toNat s.size), 0) := by
          unfold getD
          rw [wr1_length, if_pos hin]
          show ((wr1 s0 (tornW ⟨slot, s⟩ tear)).getD slot.toNat ⟨#[]⟩, 0) = _
          rw [wr1_get _ _ _ hin, if_pos (show (tornW ⟨slot, s⟩ tear).f0 = slot from rfl)]
          rfl
        have hts : (s.extract 0 (min tear.toNat s.size)).size = min tear.toNat s.size := size_le_upto s _ (Nat.min_le_right _ _)
        have hloop : ∀ b1 b2 b3 c1 c2 c3, hogsheadlaw08_DiskTorn.l0 (l1.length + 2 * l0.length + 17) slot true 0 s0 b1 b2 b3 (wr1 s0 (tornW ⟨slot, s⟩ tear)) c1 c2 c3 = some true := by
          intro b1 b2 b3 c1 c2 c3
          refine torn_loop slot s0 _ b1 b2 b3 c1 c2 c3 (by omega) (wr1_length _ _) ?_ s0.length 0 _ (by omega) (by omega)
          intro i hi hne
          have := wr1_get s0 (tornW ⟨slot, s⟩ tear) (i : Int) ⟨by omega, by omega⟩ ⟨#[]⟩
          rw [Int.toNat_natCast, if_neg (fun h => hne h.symm)] at this
          exact this
        rw [hg]
        obtain rfl : k = l1.length + 2 * l0.length + 18 + 1 := by omega
        simp only [if_true]
        rw [wr1_length, bne_self_eq_false, hogsheadlaw08_DiskTorn.j1, if_neg (by decide), hts, if_neg (by omega), if_pos (by omega), if_pos (by omega), Int.toNat_natCast, if_pos rfl]
        by_cases cl : ((min tear.toNat s.size : Nat) : Int) < (s.size : Int)
        · have ht : ((min tear.toNat s.size : Nat) : Int) = tear := by omega
          rw [if_pos cl, ht, bne_self_eq_false, hogsheadlaw08_DiskTorn.j2, if_neg (by decide)]
          exact hloop _ _ _ _ _ _
        · rw [if_neg cl, hogsheadlaw08_DiskTorn.j2, if_neg (by decide)]
          exact hloop _ _ _ _ _ _
    · rw [if_neg c0, hogsheadlaw08_DiskTorn.j0, if_pos rfl]
end Go.Proofs.Ytmaojfeikbdkhaa.Pure
