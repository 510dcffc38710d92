/- What was put is found, at once, and behind a flush and a crash, whatever else was put since. -/
import Derived.Test.YtffjbbedjddpmaaStShelfLasts
import Derived.Test.YtffjbbedjddpmaaAllShelfLasts
namespace Go.Proofs.Ytffjbbedjddpmaa.Pure
open Go.RowKit Go.Proofs.YtffjbbedjddpmaaW.PrintWords Go.Proofs.YtffjbbedjddpmaaW.PrintLast Go.Proofs.Ytffjbbedjddpmaa.PAll Go.Proofs.Ytffjbbedjddpmaa.Open Go.Proofs.Ytffjbbedjddpmaa.PB Go.Proofs.Ytffjbbedjddpmaa.DP Go.Proofs.Ytffjbbedjddpmaa.VP Go.Proofs.Ytffjbbedjddpmaa.CP Go.Proofs.Ytffjbbedjddpmaa.SH

theorem lasts_loop (P : List S43) (keep tear v x v' x' : Int) (b : ByteArray) (s : List ByteArray) (hP : P.length ≤ 4398046510976) (hs : s.length < 8796093022208) (hfound : spotFind v x (spots s []) = (b, 0)) :
    ∀ (m i k : Nat) (l : List W) (a2 : Int) (a3 : Bool), i + m = P.length → m + 140737488351300 < k → l.length ≤ i → Fits s l → Inv v x s l → hogsheadlaw10_ShelfLasts.l0 k P keep tear true i s l a2 a3 v' x' b v x = some true
  | 0, i, k, l, a2, a3, hi, hk, hl, hf, hinv => by
    obtain ⟨k, rfl⟩ := succ_of (show 1 < k by omega)
    obtain ⟨k, rfl⟩ := succ_of (show 0 < k by omega)
    rw [hogsheadlaw10_ShelfLasts.l0, if_neg (by omega), rcrash_is _ _ _ _ _ _ (by omega) hs _ (by omega), Option.bind_some]
    dsimp only
    rw [find_is _ _ _ _ _ _ (fits_crash hf keep tear) _ (by omega), Option.bind_some, inv_crash hinv, hfound, if_pos rfl, if_pos rfl, hogsheadlaw10_ShelfLasts.j2]
    rfl
  | m + 1, i, k, l, a2, a3, hi, hk, hl, hf, hinv => by
    obtain ⟨k, rfl⟩ := succ_of (show 0 < k by omega)
    rw [hogsheadlaw10_ShelfLasts.l0, if_pos (by omega), if_pos (by omega), putS_is _ _ _ _ _ _ _ hf (by omega) _ (by omega), Option.bind_some, wrap_succ (n := P.length) (by omega) (by omega)]
    generalize rd_T43 P (i : Int) = y
    have e := (putS_any s l a2 a3 y.f0 y.f1 y.f2).1
    have hf2 := fits_put hf a2 a3 y.f0 y.f1 y.f2
    have hi2 := inv_put hinv (by rw [hfound]) a2 a3 y.f0 y.f1 y.f2
    have hl2 := putS_len s l a2 a3 y.f0 y.f1 y.f2
    rw [e] at hf2 hi2 ⊢
    exact lasts_loop P keep tear v x v' x' b s hP hs hfound m (i + 1) k _ _ _ (by omega) (by omega) (by omega) hf2 hi2
theorem ShelfLasts : hogsheadlaw10_ShelfLasts.Pure := by
  intro a hw hs
  obtain ⟨⟨⟨h0, hf0⟩, ⟨h1, hf1⟩, _, _⟩, hx, ⟨hP, _⟩, _, _⟩ := hs
  have hf : Fits a.f0.f0 a.f0.f1 := ⟨hf0, fun x hx => (hf1 x hx).2⟩
  generalize a.f0.f0 = l0 at *
  generalize a.f0.f1 = l1 at *
  generalize a.f0.f2 = a2 at *
  generalize a.f0.f3 = a3 at *
  generalize a.f1.f0 = v at *
  generalize a.f1.f1 = x at *
  generalize a.f1.f2 = b at *
  generalize a.f2 = P at *
  refine ⟨281474976702700, ?_⟩
  obtain ⟨k, hk⟩ := succ_of (show 0 < 281474976702700 by omega)
  unfold hogsheadlaw10_ShelfLasts.f
  rw [shown_is _ (by omega), Option.bind_some, putS_is _ _ _ _ _ _ _ hf (by omega) _ (by omega), Option.bind_some]
  by_cases cp : (putS l0 l1 a2 a3 v x b).2.2.2.2 = 0
  · rw [if_pos cp]
    obtain ⟨hm, e1, hfind⟩ := put_found cp
    have hfp := fits_put hf a2 a3 v x b
    have hlen := putS_len l0 l1 a2 a3 v x b
    rw [e1] at hfp ⊢
    generalize (putS l0 l1 a2 a3 v x b).2.1 = l1' at *
    rw [find_is _ _ _ _ _ _ hfp _ (by omega), Option.bind_some, rflush_is _ _ _ _ (by omega) (by omega) _ (by omega), Option.bind_some, hfind, if_pos rfl, hk, hogsheadlaw10_ShelfLasts.j0, if_neg (show ¬ (((b, (0 : Int)).2 != 0) = true) from (show ¬ (((0 : Int) != 0) = true) by decide))]
    by_cases ca : (putS l0 l1 a2 a3 v x b).2.2.2.1 = true
    · rw [if_pos ca]
      dsimp only
      rw [if_neg (by decide)]
    · rw [if_neg ca]
      dsimp only
      rw [if_pos rfl]
      refine lasts_loop P _ _ v x v x b (wrs l1' l0) (by omega) (by rw [wrs_length]; omega) (by rw [spots_flush]; exact hfind) P.length 0 k [] _ _ (by omega) (by omega) (by simp) (fits_flush hfp) (fun w hw => by cases hw)
  · rw [if_neg cp]
end Go.Proofs.Ytffjbbedjddpmaa.Pure
