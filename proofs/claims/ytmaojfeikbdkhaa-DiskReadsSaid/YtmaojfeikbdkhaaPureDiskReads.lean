/- What was written is read at once, and behind a flush; nothing else changes. -/
import Derived.Test.YtmaojfeikbdkhaaStDiskReads
import Derived.Test.YtmaojfeikbdkhaaDiskLaws
namespace Go.Proofs.Ytmaojfeikbdkhaa.Pure
open Go.RowKit Go.Proofs.YtmaojfeikbdkhaaW.PrintWords Go.Proofs.YtmaojfeikbdkhaaW.PrintLast Go.Proofs.Ytmaojfeikbdkhaa.PAll Go.Proofs.Ytmaojfeikbdkhaa.Open Go.Proofs.Ytmaojfeikbdkhaa.PB Go.Proofs.Ytmaojfeikbdkhaa.DP

theorem DiskReads : hogsheadlaw08_DiskReads.Pure := by
  intro a0 hw hs
  obtain ⟨⟨⟨hl0, _⟩, ⟨hl1, _⟩, _⟩, _⟩ := hs
  generalize a0.f0.f0 = l0 at *
  generalize a0.f0.f1 = l1 at *
  generalize a0.f0.f2 = a2 at *
  generalize a0.f0.f3 = a3 at *
  generalize a0.f1 = slot at *
  generalize a0.f2 = s at *
  generalize a0.f3 = other at *
  refine ⟨l1.length + 20, ?_⟩
  unfold hogsheadlaw08_DiskReads.f
  rw [shown_is _ (by omega), Option.bind_some, get_is, Option.bind_some, put_is _ _ _ _ _ _ (by omega), Option.bind_some]
  by_cases c : (putD l0 l1 a2 a3 slot s).2.2.2.2 = 0
  · obtain ⟨rfl, hin, hsz, h2, e0, e1, e3, e2⟩ := put_ok c
    rw [if_pos c, e0, e1, e3, get_is, Option.bind_some, get_is, Option.bind_some, flush_is _ _ _ _ (by rw [List.length_append, List.length_singleton]; omega) (by omega) _ (by rw [List.length_append, List.length_singleton]; omega), Option.bind_some]
    simp only [Bool.false_eq_true, if_false]
    rw [get_is, Option.bind_some, get_flushed, get_snoc l0 l1 _ slot hin, if_pos rfl]
    simp only [if_true]
    by_cases e : other = slot
    · rw [if_pos e]
      rfl
    · rw [if_neg e]
      have hg : getD l0 (l1 ++ [⟨slot, s⟩]) other = getD l0 l1 other := by
        by_cases hin2 : 0 ≤ other ∧ other < (l0.length : Int)
        · rw [get_snoc l0 l1 _ other hin2, if_neg (fun h => e h.symm)]
        · rw [get_out _ _ _ hin2, get_out _ _ _ hin2]
      rw [hg]
      simp [hogsheadlaw08_DiskReads.j0]
  · rw [if_neg c]
end Go.Proofs.Ytmaojfeikbdkhaa.Pure
