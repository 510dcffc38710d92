/- What was flushed is there behind a crash, whatever was written since to other slots, and whatever of that is kept. -/
import Derived.Test.YtmaojfeikbdkhaaStDiskLasts
import Derived.Test.YtmaojfeikbdkhaaDiskLaws
namespace Go.Proofs.Ytmaojfeikbdkhaa.Pure
open Go.RowKit Go.Proofs.YtmaojfeikbdkhaaW.PrintWords Go.Proofs.YtmaojfeikbdkhaaW.PrintLast Go.Proofs.Ytmaojfeikbdkhaa.PAll Go.Proofs.Ytmaojfeikbdkhaa.Open Go.Proofs.Ytmaojfeikbdkhaa.PB Go.Proofs.Ytmaojfeikbdkhaa.DP

theorem lasts_loop (L : List W) (slot keep tear : Int) (s0 : List ByteArray) (hL : L.length ≤ 5864062014634) (h0 : s0.length ≤ 8796093022208) (hin : 0 ≤ slot ∧ slot < (s0.length : Int)) :
    ∀ (m i k : Nat) (l1 : List W) (a2 : Int) (a3 : Bool), i + m = L.length → l1.length ≤ i → (∀ x ∈ l1, x.f0 ≠ slot) → m + L.length + 1 < k →
      hogsheadlaw08_DiskLasts.l0 k L slot keep tear true (getD s0 [] slot).1 i s0 l1 a2 a3 = some true
  | 0, i, k, l1, a2, a3, hi, hl, hx, hk => by
    obtain ⟨k, rfl⟩ := succ_of (show 0 < k by omega)
    rw [hogsheadlaw08_DiskLasts.l0, if_neg (by omega), crash_is _ _ _ _ _ _ (by omega) h0 k (by omega), Option.bind_some, get_is, Option.bind_some, crash_others s0 l1 keep tear slot hx, if_pos rfl, if_pos rfl]
    unfold getD
    rw [if_pos hin]
    rfl
  | m + 1, i, k, l1, a2, a3, hi, hl, hx, hk => by
    obtain ⟨k, rfl⟩ := succ_of (show 0 < k by omega)
    rw [hogsheadlaw08_DiskLasts.l0, if_pos (by omega), if_pos (by omega), wrap_succ (n := L.length) (by omega) (by omega)]
    generalize rd_T47 L (i : Int) = x
    by_cases e : x.f0 = slot
    · rw [if_pos e]
      exact lasts_loop L slot keep tear s0 hL h0 hin m (i + 1) k l1 a2 a3 (by omega) (by omega) hx (by omega)
    · rw [if_neg e, put_is _ _ _ _ _ _ (by omega), Option.bind_some]
      obtain ⟨e0, e1⟩ := put_any s0 l1 a2 a3 x.f0 x.f1
      rw [e0]
      rcases e1 with e1 | e1
      · rw [e1]
        exact lasts_loop L slot keep tear s0 hL h0 hin m (i + 1) k l1 _ _ (by omega) (by omega) hx (by omega)
      · rw [e1]
        refine lasts_loop L slot keep tear s0 hL h0 hin m (i + 1) k _ _ _ (by omega) (by rw [List.length_append, List.length_singleton]; omega) ?_ (by omega)
        intro y hy
        rcases List.mem_append.1 hy with hy | hy
        · exact hx y hy
        · rw [List.mem_singleton.1 hy]
          exact e

theorem DiskLasts : hogsheadlaw08_DiskLasts.Pure := by
  intro a0 hw hs
  obtain ⟨⟨⟨hl0, _⟩, ⟨hl1, _⟩, _⟩, ⟨hL, _⟩, _⟩ := hs
  generalize a0.f0.f0 = l0 at *
  generalize a0.f0.f1 = l1 at *
  generalize a0.f0.f2 = a2 at *
  generalize a0.f0.f3 = a3 at *
  generalize a0.f1 = L at *
  generalize a0.f2 = slot at *
  generalize a0.f3 = keep at *
  generalize a0.f4 = tear at *
  refine ⟨l1.length + 2 * L.length + 20, ?_⟩
  unfold hogsheadlaw08_DiskLasts.f
  rw [shown_is _ (by omega), Option.bind_some, flush_is _ _ _ _ (by omega) (by omega) _ (by omega), Option.bind_some, get_is, Option.bind_some]
  obtain ⟨k, hk⟩ := succ_of (show 0 < l1.length + 2 * L.length + 20 by omega)
  by_cases c : a3 = true
  · simp only [if_pos c]
    rw [if_neg (show ¬ (6 : Int) = 0 by decide), hk, hogsheadlaw08_DiskLasts.j0, if_pos rfl]
  · simp only [if_neg c]
    rw [if_pos trivial, hk, hogsheadlaw08_DiskLasts.j0]
    by_cases hin : 0 ≤ slot ∧ slot < ((wrs l1 l0).length : Int)
    · have hg : (getD (wrs l1 l0) [] slot).2 = 0 := by
        unfold getD
        rw [if_pos hin]
      rw [hg, if_neg (by decide)]
      exact lasts_loop L slot keep tear (wrs l1 l0) (by omega) (by rw [wrs_length]; omega) hin L.length 0 k [] _ _ (by omega) (by simp) (fun x hx => by cases hx) (by omega)
    · rw [get_out _ _ _ hin, if_pos (by decide)]
end Go.Proofs.Ytmaojfeikbdkhaa.Pure
