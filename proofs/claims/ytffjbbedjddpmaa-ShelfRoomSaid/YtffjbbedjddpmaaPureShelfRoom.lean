/- A shard that is put anew takes a slot that was empty or bad, and nothing else changes of what is listed. -/
import Derived.Test.YtffjbbedjddpmaaStShelfRoom
import Derived.Test.YtffjbbedjddpmaaAllShelfRoom
namespace Go.Proofs.Ytffjbbedjddpmaa.Pure
open Go.RowKit Go.Proofs.YtffjbbedjddpmaaW.PrintWords Go.Proofs.YtffjbbedjddpmaaW.PrintLast Go.Proofs.Ytffjbbedjddpmaa.PAll Go.Proofs.Ytffjbbedjddpmaa.Open Go.Proofs.Ytffjbbedjddpmaa.PB Go.Proofs.Ytffjbbedjddpmaa.DP Go.Proofs.Ytffjbbedjddpmaa.VP Go.Proofs.Ytffjbbedjddpmaa.CP Go.Proofs.Ytffjbbedjddpmaa.SH

theorem room_loop (was now : List S27) (hw : was.length ≤ 9223372036854775806) (hn : now.length ≤ 9223372036854775806) :
    ∀ (m i k at_ : Nat), i + m = now.length → at_ ≤ was.length → 2 * m + 2 < k → hogsheadlaw10_ShelfRoom.l0 k true was now at_ i = some (decide (left2 (was.drop at_) (now.drop i) = []))
  | 0, i, k, at_, hi, ha, hk => by
    obtain ⟨k, rfl⟩ := succ_of (show 0 < k by omega)
    rw [hogsheadlaw10_ShelfRoom.l0, if_neg (by omega), if_pos rfl, List.drop_eq_nil_of_le (show now.length ≤ i by omega), Option.some_inj, Bool.eq_iff_iff, beq_iff_eq, decide_eq_true_eq]
    have e : left2 (was.drop at_) [] = was.drop at_ := by cases was.drop at_ <;> rfl
    rw [e, List.drop_eq_nil_iff]
    omega
  | m + 1, i, k, at_, hi, ha, hk => by
    obtain ⟨k, rfl⟩ := succ_of (show 1 < k by omega)
    obtain ⟨k, rfl⟩ := succ_of (show 0 < k by omega)
    have hx : now.drop i = rd_T27 now (i : Int) :: now.drop (i + 1) := drop_getD (l := now) z27 (by omega)
    rw [hogsheadlaw10_ShelfRoom.l0, if_pos (by omega), hx]
    by_cases c : at_ < was.length
    · have hy : was.drop at_ = rd_T27 was (at_ : Int) :: was.drop (at_ + 1) := drop_getD (l := was) z27 c
      rw [if_pos (by omega), if_pos (by omega), if_pos (by omega), hogsheadlaw10_ShelfRoom.j3, hy, left2]
      generalize rd_T27 now (i : Int) = z
      generalize hgy : rd_T27 was (at_ : Int) = y at *
      by_cases ce : z.f0 = y.f0 ∧ z.f1 = y.f1
      · rw [if_pos (by simp [ce]), if_pos ce, wrap_succ (n := was.length) c (by omega), wrap_succ (i := i) (n := now.length) (by omega) (by omega)]
        exact room_loop was now hw hn m (i + 1) k (at_ + 1) (by omega) (by omega) (by omega)
      · rw [if_neg (by simpa using fun h1 h2 => ce ⟨h1, h2⟩), if_neg ce, wrap_succ (i := i) (n := now.length) (by omega) (by omega), ← hy]
        exact room_loop was now hw hn m (i + 1) k at_ (by omega) ha (by omega)
    · have hy : was.drop at_ = [] := List.drop_eq_nil_of_le (by omega)
      rw [if_neg (by omega), hogsheadlaw10_ShelfRoom.j3, if_neg (by decide), hy, left2, wrap_succ (i := i) (n := now.length) (by omega) (by omega)]
      have hr := room_loop was now hw hn m (i + 1) k at_ (by omega) ha (by omega)
      rw [hy] at hr
      exact hr
theorem wraps (a b c e : Nat) (h : a + b + 1 = c + e) (hs : c + e ≤ 281474976702700) : (wrap64 (wrap64 ((c : Int) + (e : Int)) - 1) != wrap64 ((a : Int) + (b : Int))) = false ∧ (wrap64 ((a : Int) + (b : Int)) != wrap64 (wrap64 ((c : Int) + (e : Int)) - 1)) = false := by
  have w1 : wrap64 ((a : Int) + (b : Int)) = (a : Int) + (b : Int) := wrap_in (by unfold InR; omega)
  have w2 : wrap64 ((c : Int) + (e : Int)) = (c : Int) + (e : Int) := wrap_in (by unfold InR; omega)
  have w3 : wrap64 ((c : Int) + (e : Int) - 1) = (c : Int) + (e : Int) - 1 := wrap_in (by unfold InR; omega)
  rw [w2, w1, w3]
  have e : (c : Int) + (e : Int) - 1 = (a : Int) + (b : Int) := by omega
  rw [e]
  simp
theorem ShelfRoom : hogsheadlaw10_ShelfRoom.Pure := by
  intro d x hw hx hs hsx
  obtain ⟨⟨h0, hf0⟩, ⟨h1, hf1⟩, _, _⟩ := hs
  have hf : Fits d.f0 d.f1 := ⟨hf0, fun x hx => (hf1 x hx).2⟩
  generalize d.f0 = l0 at *
  generalize d.f1 = l1 at *
  obtain ⟨v, i, b⟩ := x
  dsimp only
  refine ⟨281474976702700, ?_⟩
  obtain ⟨k, hk⟩ := succ_of (show 2 < 281474976702700 by omega)
  obtain ⟨k, rfl⟩ := succ_of (show 1 < k by omega)
  obtain ⟨k, rfl⟩ := succ_of (show 0 < k by omega)
  unfold hogsheadlaw10_ShelfRoom.f
  rw [shown_is _ (by omega), Option.bind_some, find_is _ _ _ _ _ _ hf _ (by omega), Option.bind_some, putS_is _ _ _ _ _ _ _ hf (by omega) _ (by omega), Option.bind_some]
  by_cases cp : (putS l0 l1 d.f2 d.f3 v i b).2.2.2.2 = 0
  · rw [if_pos cp, hk, hogsheadlaw10_ShelfRoom.j0]
    by_cases cf : (spotFind v i (spots l0 l1)).2 = 0
    · rw [if_pos (by simpa using cf)]
    · rw [if_neg (by simpa using cf)]
      obtain ⟨hm, j, hj, _, hfull, e1, e2⟩ := put_new cp cf
      have hfp := fits_put hf d.f2 d.f3 v i b
      rw [e1, e2] at hfp ⊢
      obtain ⟨s1, s2⟩ := spots_split l0 l1 j hj (B (recB v.toNat i.toNat (L b)))
      have hmiss := miss_of cf
      have hm1 : Miss v i ((spots l0 l1).take j) := fun p hp => hmiss p (List.mem_of_mem_take hp)
      have hm2 : Miss v i ((spots l0 l1).drop (j + 1)) := fun p hp => hmiss p (List.mem_of_mem_drop hp)
      obtain ⟨ka, R, k1, k2, k3⟩ := keys_more _ _ (spotAt l0 l1 j) (spotOf (j : Int) (B (recB v.toNat i.toNat (L b)))) hfull (hit_rec hm _) hm1 hm2
      have hlen : (ka ++ R).length ≤ l0.length := by
        have := spotKeys_len (spots l0 l1)
        rw [spots_length, s1, k1] at this
        exact this
      have r1 : roomN (spots l0 l1) = roomN ((spots l0 l1).take j) + 1 + roomN ((spots l0 l1).drop (j + 1)) := by
        conv => lhs; rw [s1]
        rw [room_append, show spotAt l0 l1 j :: (spots l0 l1).drop (j + 1) = [spotAt l0 l1 j] ++ (spots l0 l1).drop (j + 1) from rfl, room_append]
        have : roomN [spotAt l0 l1 j] = 1 := by
          unfold spotAt
          rw [room_one]
          exact if_neg (by unfold spotAt at hfull; rw [hfull]; decide)
        omega
      have r2 : roomN (spots l0 (l1 ++ [⟨(j : Int), B (recB v.toNat i.toNat (L b))⟩])) = roomN ((spots l0 l1).take j) + roomN ((spots l0 l1).drop (j + 1)) := by
        rw [s2, room_append, show spotOf (j : Int) (B (recB v.toNat i.toNat (L b))) :: (spots l0 l1).drop (j + 1) = [spotOf (j : Int) (B (recB v.toNat i.toNat (L b)))] ++ (spots l0 l1).drop (j + 1) from rfl, room_append]
        have : roomN [spotOf (j : Int) (B (recB v.toNat i.toNat (L b)))] = 0 := by
          rw [room_one]
          exact if_pos (hit_rec hm _).1
        omega
      have r3 := room_le (spots l0 l1)
      rw [spots_length] at r3
      rw [list_is _ _ _ _ hf (by omega) _ (by omega), Option.bind_some, list_is _ _ _ _ hfp (by omega) _ (by omega), Option.bind_some]
      have k1' : spotKeys (spots l0 l1) = ka ++ R := by rw [s1]; exact k1
      have k2' : spotKeys (spots l0 (l1 ++ [⟨(j : Int), B (recB v.toNat i.toNat (L b))⟩])) = ka ++ ⟨v, i⟩ :: R := by rw [s2]; exact k2
      rw [k1', k2']
      have hnl : (ka ++ (⟨v, i⟩ : S27) :: R).length = (ka ++ R).length + 1 := by simp only [List.length_append, List.length_cons]; omega
      rw [if_pos (by rw [hnl, wrap_in (by unfold InR; omega)]; rfl), free_is _ _ _ _ hfp _ (by omega), Option.bind_some, bad_is _ _ _ _ hfp (by omega) _ (by omega), Option.bind_some, free_is _ _ _ _ hf _ (by omega), Option.bind_some, bad_is _ _ _ _ hf (by omega) _ (by omega), Option.bind_some, hogsheadlaw10_ShelfRoom.j1]
      unfold roomN at r1 r2 r3
      rw [(wraps _ _ _ _ (show freeS (spots l0 (l1 ++ [⟨(j : Int), B (recB v.toNat i.toNat (L b))⟩])) + (badS (spots l0 (l1 ++ [⟨(j : Int), B (recB v.toNat i.toNat (L b))⟩]))).length + 1 = freeS (spots l0 l1) + (badS (spots l0 l1)).length by omega) (by omega)).2, if_neg (by decide)]
      have hl := room_loop (ka ++ R) (ka ++ ⟨v, i⟩ :: R) (by omega) (by omega) (ka ++ (⟨v, i⟩ : S27) :: R).length 0 (k + 1) 0 (by omega) (by omega) (by omega)
      rw [List.drop_zero, List.drop_zero, left_more _ ka R k3] at hl
      exact hl
  · rw [if_neg cp, hk, hogsheadlaw10_ShelfRoom.j0, if_pos rfl]
end Go.Proofs.Ytffjbbedjddpmaa.Pure
