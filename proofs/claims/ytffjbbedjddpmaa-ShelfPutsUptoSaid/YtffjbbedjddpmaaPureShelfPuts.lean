/- Whatever disk there is, what putting and dropping make of it is as the document says. -/
import Derived.Test.YtffjbbedjddpmaaStShelfPuts
import Derived.Test.YtffjbbedjddpmaaAllShelfPuts
namespace Go.Proofs.Ytffjbbedjddpmaa.Pure
open Go.RowKit Go.Proofs.YtffjbbedjddpmaaW.PrintWords Go.Proofs.YtffjbbedjddpmaaW.PrintLast Go.Proofs.Ytffjbbedjddpmaa.PAll Go.Proofs.Ytffjbbedjddpmaa.Open Go.Proofs.Ytffjbbedjddpmaa.PB Go.Proofs.Ytffjbbedjddpmaa.DP Go.Proofs.Ytffjbbedjddpmaa.VP Go.Proofs.Ytffjbbedjddpmaa.CP Go.Proofs.Ytffjbbedjddpmaa.SH

theorem ShelfPutsUpto : hogsheadlaw10_ShelfPuts.PureUpto := by
  intro d y key hw hyw hkw hs
  obtain ⟨h0, h1, hf0, hf1⟩ := bulk_disk (d := d) (n := 1048576) (by omega)
  have hf : Fits d.f0 d.f1 := ⟨fun s h => Nat.le_trans (hf0 s h) (by decide), fun x h => Nat.le_trans (hf1 x h) (by decide)⟩
  generalize d.f0 = l0 at *
  generalize d.f1 = l1 at *
  obtain ⟨v, i, b⟩ := y
  obtain ⟨v', x'⟩ := key
  dsimp only
  refine ⟨281474976702800, ?_⟩
  obtain ⟨k, hk⟩ := succ_of (show 1 < 281474976702800 by omega)
  obtain ⟨k, rfl⟩ := succ_of (show 0 < k by omega)
  have p1 := (putS_any l0 l1 d.f2 d.f3 v i b).1
  have p2 := putS_len l0 l1 d.f2 d.f3 v i b
  have q := drop_len l0 l1 d.f2 d.f3 v' x'
  unfold hogsheadlaw10_ShelfPuts.f
  rw [shown_is _ (by omega), Option.bind_some, putS_is _ _ _ _ _ _ _ hf (by omega) _ (by omega), Option.bind_some, rputS_is _ _ _ _ _ _ _ hf (by omega) (by omega) _ (by omega), Option.bind_some, dropS_is _ _ _ _ _ _ hf (by omega) _ (by omega), Option.bind_some, rdropS_is _ _ _ _ _ _ hf (by omega) (by omega) _ (by omega), Option.bind_some, dsame_refl _ _ _ _ (by rw [p1]; omega) (by omega) _ (by rw [p1]; omega), Option.bind_some, if_pos rfl, dsame_refl _ _ _ _ (by omega) (by omega) _ (by omega), Option.bind_some, hk, hogsheadlaw10_ShelfPuts.j0, if_pos rfl, if_pos rfl, if_pos rfl, hogsheadlaw10_ShelfPuts.j1]
  simp
end Go.Proofs.Ytffjbbedjddpmaa.Pure
