/- Of a put that a crash tore, the shard is found whole, or not at all. -/
import Derived.Test.YtffjbbedjddpmaaStShelfTorn
import Derived.Test.YtffjbbedjddpmaaAllShelfTorn
namespace Go.Proofs.Ytffjbbedjddpmaa.Pure
open Go.RowKit Go.Proofs.YtffjbbedjddpmaaW.PrintWords Go.Proofs.YtffjbbedjddpmaaW.PrintLast Go.Proofs.Ytffjbbedjddpmaa.PAll Go.Proofs.Ytffjbbedjddpmaa.Open Go.Proofs.Ytffjbbedjddpmaa.PB Go.Proofs.Ytffjbbedjddpmaa.DP Go.Proofs.Ytffjbbedjddpmaa.VP Go.Proofs.Ytffjbbedjddpmaa.CP Go.Proofs.Ytffjbbedjddpmaa.SH

theorem torn_find {s : List ByteArray} {v x : Int} {b : ByteArray} (hm : MayS v x b.size) (hmiss : Miss v x (spots s [])) (j : Nat) (hj : j < s.length) (tear : Int) :
    spotFind v x (spots (crashS s [⟨(j : Int), B (recB v.toNat x.toNat (L b))⟩] 0 tear) []) = (b, 0) ∨ spotFind v x (spots (crashS s [⟨(j : Int), B (recB v.toNat x.toNat (L b))⟩] 0 tear) []) = (⟨#[]⟩, 7) := by
  rw [crash_spots]
  have hk : keptN [(⟨(j : Int), B (recB v.toNat x.toNat (L b))⟩ : W)] 0 = 0 := rfl
  unfold crashL
  rw [hk]
  by_cases c : 0 ≤ tear
  · rw [if_pos c, List.take_zero, List.nil_append, List.drop_zero, List.take_succ_cons, List.take_zero, List.map_cons, List.map_nil]
    show spotFind v x (spots s ([] ++ [⟨(j : Int), (B (recB v.toNat x.toNat (L b))).extract 0 (min tear.toNat (B (recB v.toNat x.toNat (L b))).size)⟩])) = _ ∨ _ = _
    rcases find_one hmiss j hj ((B (recB v.toNat x.toNat (L b))).extract 0 (min tear.toNat (B (recB v.toNat x.toNat (L b))).size)) with ⟨h1, h2⟩ | ⟨_, h2⟩
    · left
      rw [h2]
      rw [hit_iff, L_upto, L_B] at h1
      rw [L_upto, L_B]
      by_cases cn : min tear.toNat (B (recB v.toNat x.toNat (L b))).size < (recB v.toNat x.toNat (L b)).length
      · rw [recS_cut _ _ _ (mayN hm) _ cn] at h1
        exact absurd h1.1 (by decide)
      · rw [List.take_of_length_le (by omega), recS_recB _ _ _ (mayN hm)]
        rw [B_L]
    · right
      exact h2
  · rw [if_neg c, List.take_zero]
    right
    exact find_none hmiss
theorem ShelfTorn : hogsheadlaw10_ShelfTorn.Pure := by
  intro d x tear hw hx ht hs hsx
  obtain ⟨⟨h0, hf0⟩, ⟨h1, hf1⟩, _, _⟩ := hs
  have hf : Fits d.f0 d.f1 := ⟨hf0, fun x hx => (hf1 x hx).2⟩
  generalize d.f0 = l0 at *
  generalize d.f1 = l1 at *
  obtain ⟨v, i, b⟩ := x
  dsimp only
  refine ⟨281474976702700, ?_⟩
  obtain ⟨k, hk⟩ := succ_of (show 1 < 281474976702700 by omega)
  obtain ⟨k, rfl⟩ := succ_of (show 0 < k by omega)
  unfold hogsheadlaw10_ShelfTorn.f
  rw [shown_is _ (by omega), Option.bind_some, rflush_is _ _ _ _ (by omega) (by omega) _ (by omega), Option.bind_some]
  by_cases ca : d.f3 = true
  · rw [if_pos ca]
    dsimp only
    rw [find_is _ _ _ _ _ _ hf _ (by omega), Option.bind_some, putS_is _ _ _ _ _ _ _ hf (by omega) _ (by omega), Option.bind_some, if_neg (by decide), hk, hogsheadlaw10_ShelfTorn.j0, if_pos rfl]
  · rw [if_neg ca]
    dsimp only
    have hff := fits_flush hf
    have hsl : (wrs l1 l0).length ≤ 8796093021952 := by rw [wrs_length]; omega
    generalize wrs l1 l0 = s at *
    rw [find_is _ _ _ _ _ _ hff _ (by omega), Option.bind_some, putS_is _ _ _ _ _ _ _ hff (by simp) _ (by omega), Option.bind_some, if_pos rfl]
    by_cases cf : (spotFind v i (spots s [])).2 = 0
    · rw [if_pos cf, hk, hogsheadlaw10_ShelfTorn.j0, if_pos rfl]
    · rw [if_neg cf, hk, hogsheadlaw10_ShelfTorn.j0]
      by_cases cp : (putS s [] d.f2 false v i b).2.2.2.2 = 0
      · rw [if_neg (by simp [cp])]
        obtain ⟨hm, j, hj, _, _, e1, e2⟩ := put_new cp cf
        have hfp := fits_put hff d.f2 false v i b
        rw [e1, e2, List.nil_append] at hfp ⊢
        rw [rcrash_is _ _ _ _ _ _ (by simp) (by omega) _ (by simp only [List.length_singleton]; omega), Option.bind_some]
        dsimp only
        rw [find_is _ _ _ _ _ _ (fits_crash hfp 0 tear) _ (by omega), Option.bind_some, if_pos rfl]
        rcases torn_find hm (miss_of cf) j hj tear with h | h
        · rw [h, if_neg (show ¬ ((b, (0 : Int)).2 = 7) from (show ¬ (0 : Int) = 7 by decide)), if_pos rfl, hogsheadlaw10_ShelfTorn.j1]
          simp
        · rw [h, if_pos rfl, hogsheadlaw10_ShelfTorn.j1]
      · rw [if_pos (by simpa using cp)]
end Go.Proofs.Ytffjbbedjddpmaa.Pure
