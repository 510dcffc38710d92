/- Whatever disk there is, what is listed, found, bad and free is as the document says. -/
import Derived.Test.YtffjbbedjddpmaaStShelfTells
import Derived.Test.YtffjbbedjddpmaaAllShelfTells
namespace Go.Proofs.Ytffjbbedjddpmaa.Pure
open Go.RowKit Go.Proofs.YtffjbbedjddpmaaW.PrintWords Go.Proofs.YtffjbbedjddpmaaW.PrintLast Go.Proofs.Ytffjbbedjddpmaa.PAll Go.Proofs.Ytffjbbedjddpmaa.Open Go.Proofs.Ytffjbbedjddpmaa.PB Go.Proofs.Ytffjbbedjddpmaa.DP Go.Proofs.Ytffjbbedjddpmaa.VP Go.Proofs.Ytffjbbedjddpmaa.CP Go.Proofs.Ytffjbbedjddpmaa.SH

theorem ShelfTells : hogsheadlaw10_ShelfTells.Pure := by
  intro d key hw hkw hs hks
  obtain ⟨⟨h0, hf0⟩, ⟨h1, hf1⟩, _, _⟩ := hs
  have hf : Fits d.f0 d.f1 := ⟨hf0, fun x hx => (hf1 x hx).2⟩
  generalize d.f0 = l0 at *
  generalize d.f1 = l1 at *
  have hkeys : (spotKeys (spots l0 l1)).length ≤ l0.length := by
    have := spotKeys_len (spots l0 l1)
    rw [spots_length] at this
    exact this
  have hbads : (badS (spots l0 l1)).length ≤ l0.length := by
    unfold badS
    rw [List.length_map]
    have := List.length_filter_le (fun p : Spot => p.2.2.1) (spots l0 l1)
    rw [spots_length] at this
    exact this
  refine ⟨BIG, ?_⟩
  have hB : 281474976702600 < BIG := by unfold BIG; omega
  obtain ⟨k, hk⟩ := succ_of (show 0 < BIG by omega)
  unfold hogsheadlaw10_ShelfTells.f
  rw [shown_is _ (by omega), Option.bind_some, list_is l0 l1 _ _ hf (by omega) _ (by omega), Option.bind_some, rlist_is l0 l1 _ _ hf (by omega) (by omega) _ (Nat.le_refl _), Option.bind_some, keys_same _ (by omega) _ (by omega), Option.bind_some, bad_is l0 l1 _ _ hf (by omega) _ (by omega), Option.bind_some, rbad_is l0 l1 _ _ hf (by omega) (by omega) _ (by omega), Option.bind_some, ints_same _ (by omega) _ (by omega), Option.bind_some, find_is l0 l1 _ _ _ _ hf _ (by omega), Option.bind_some, rfind_is l0 l1 _ _ _ _ hf (by omega) (by omega) _ (by omega), Option.bind_some, if_pos rfl, if_pos rfl, if_pos rfl, if_pos rfl, if_pos rfl, free_is l0 l1 _ _ hf _ (by omega), Option.bind_some, rfree_is l0 l1 _ _ hf (by omega) (by omega) _ (by omega), Option.bind_some, hk, hogsheadlaw10_ShelfTells.j0]
  simp
end Go.Proofs.Ytffjbbedjddpmaa.Pure
