/- What was dropped isn't found, and nothing else is lost. -/
import Derived.Test.YtffjbbedjddpmaaStShelfGoes
import Derived.Test.YtffjbbedjddpmaaAllShelfGoes
namespace Go.Proofs.Ytffjbbedjddpmaa.Pure
open Go.RowKit Go.Proofs.YtffjbbedjddpmaaW.PrintWords Go.Proofs.YtffjbbedjddpmaaW.PrintLast Go.Proofs.Ytffjbbedjddpmaa.PAll Go.Proofs.Ytffjbbedjddpmaa.Open Go.Proofs.Ytffjbbedjddpmaa.PB Go.Proofs.Ytffjbbedjddpmaa.DP Go.Proofs.Ytffjbbedjddpmaa.VP Go.Proofs.Ytffjbbedjddpmaa.CP Go.Proofs.Ytffjbbedjddpmaa.SH

theorem ShelfGoesUpto : hogsheadlaw10_ShelfGoes.PureUpto := by
  intro d key other hw hkw how hs
  obtain ⟨h0, h1, hf0, hf1⟩ := bulk_disk (d := d) (n := 1048576) (by omega)
  have hf : Fits d.f0 d.f1 := ⟨fun s h => Nat.le_trans (hf0 s h) (by decide), fun x h => Nat.le_trans (hf1 x h) (by decide)⟩
  generalize d.f0 = l0 at *
  generalize d.f1 = l1 at *
  obtain ⟨v, x⟩ := key
  obtain ⟨v', x'⟩ := other
  dsimp only
  refine ⟨281474976702700, ?_⟩
  obtain ⟨k, hk⟩ := succ_of (show 0 < 281474976702700 by omega)
  unfold hogsheadlaw10_ShelfGoes.f
  rw [shown_is _ (by omega), Option.bind_some, find_is _ _ _ _ _ _ hf _ (by omega), Option.bind_some, dropS_is _ _ _ _ _ _ hf (by omega) _ (by omega), Option.bind_some]
  by_cases c : (dropS l0 l1 d.f2 d.f3 v x).2.2.2.2 = 0
  · rw [if_pos c]
    have e : (dropS l0 l1 d.f2 d.f3 v x).1 = l0 ∧ (dropS l0 l1 d.f2 d.f3 v x).2.1 = l1 ++ wipes v x (spots l0 l1) := by
      unfold dropS at c ⊢
      by_cases c2 : (spotFind v x (spots l0 l1)).2 = 0
      · rw [if_pos c2] at c ⊢
        exact drops_ok v x _ _ _ _ _ c
      · rw [if_neg c2] at c
        exact absurd c c2
    rw [e.1, e.2, find_is _ _ _ _ _ _ (fits_wiped hf v x _) _ (by omega), Option.bind_some, find_is _ _ _ _ _ _ (fits_wiped hf v x _) _ (by omega), Option.bind_some, wiped_none, if_pos rfl, if_pos rfl]
    by_cases ck : v' = v ∧ x' = x
    · rw [if_pos (by simp [ck]), hk, hogsheadlaw10_ShelfGoes.j0]
    · rw [if_neg (by simpa using fun h1 h2 => ck ⟨h1, h2⟩), wiped_other v x v' x' ck, if_pos rfl, hk, hogsheadlaw10_ShelfGoes.j0]
      simp
  · rw [if_neg c]
end Go.Proofs.Ytffjbbedjddpmaa.Pure
