/- What is listed is found, and nothing else is. -/
import Derived.Test.YtffjbbedjddpmaaStShelfLists
import Derived.Test.YtffjbbedjddpmaaAllShelfLists
namespace Go.Proofs.Ytffjbbedjddpmaa.Pure
open Go.RowKit Go.Proofs.YtffjbbedjddpmaaW.PrintWords Go.Proofs.YtffjbbedjddpmaaW.PrintLast Go.Proofs.Ytffjbbedjddpmaa.PAll Go.Proofs.Ytffjbbedjddpmaa.Open Go.Proofs.Ytffjbbedjddpmaa.PB Go.Proofs.Ytffjbbedjddpmaa.DP Go.Proofs.Ytffjbbedjddpmaa.VP Go.Proofs.Ytffjbbedjddpmaa.CP Go.Proofs.Ytffjbbedjddpmaa.SH

theorem keys_rev (q : S27) : ∀ l : List Spot, q ∈ spotKeys l.reverse ↔ ∃ p ∈ l, spotHit q.f0 q.f1 p
  | [] => by
    constructor
    · intro h
      cases h
    · rintro ⟨p, hp, _⟩
      cases hp
  | p :: l => by
    have ih := keys_rev q l
    rw [List.reverse_cons, spotKeys_add]
    by_cases c : spotFull p = true ∧ ¬ (∃ q ∈ spotKeys l.reverse, q.f0 = p.2.2.2.1 ∧ q.f1 = p.2.2.2.2.1)
    · rw [if_pos c, List.mem_append, List.mem_singleton, ih]
      constructor
      · rintro (⟨r, hr, hh⟩ | rfl)
        · exact ⟨r, List.mem_cons_of_mem _ hr, hh⟩
        · exact ⟨p, List.mem_cons_self .., c.1, rfl, rfl⟩
      · rintro ⟨r, hr, hh⟩
        rcases List.mem_cons.mp hr with rfl | hr
        · refine .inr ?_
          obtain ⟨_, h2, h3⟩ := hh
          cases q
          simp only at h2 h3
          rw [h2, h3]
        · exact .inl ⟨r, hr, hh⟩
    · rw [if_neg c, ih]
      constructor
      · rintro ⟨r, hr, hh⟩
        exact ⟨r, List.mem_cons_of_mem _ hr, hh⟩
      · rintro ⟨r, hr, hh⟩
        rcases List.mem_cons.mp hr with rfl | hr
        · obtain ⟨h1, h2, h3⟩ := hh
          have hx : ∃ q ∈ spotKeys l.reverse, q.f0 = r.2.2.2.1 ∧ q.f1 = r.2.2.2.2.1 := Classical.byContradiction fun hn => c ⟨h1, hn⟩
          obtain ⟨q', hq', e1, e2⟩ := hx
          have : q' = q := by
            cases q
            cases q'
            simp only at h2 h3 e1 e2
            rw [e1, e2, h2, h3]
          rw [← this]
          rw [this] at hq'
          rw [this]
          exact ih.mp hq'
        · exact ⟨r, hr, hh⟩
theorem mem_keys (q : S27) (l : List Spot) : q ∈ spotKeys l ↔ ∃ p ∈ l, spotHit q.f0 q.f1 p := by
  have h := keys_rev q l.reverse
  rw [List.reverse_reverse] at h
  rw [h]
  simp
theorem lists_loop (l0 : List ByteArray) (l1 : List W) (a2 : Int) (a3 : Bool) (v x : Int) (hf : Fits l0 l1) (K : List S27) (hK : ∀ q ∈ K, (spotFind q.f0 q.f1 (spots l0 l1)).2 = 0) (hl : K.length ≤ 9223372036854775807) :
    ∀ (m i k : Nat) (had : Bool), i + m = K.length → m + 140737488351240 < k → hogsheadlaw10_ShelfLists.l0 k true K had i l0 l1 a2 a3 v x = some ((had || decide (∃ q ∈ K.drop i, q.f0 = v ∧ q.f1 = x)) == ((spotFind v x (spots l0 l1)).2 == 0))
  | 0, i, k, had, hi, hk => by
    obtain ⟨k, rfl⟩ := succ_of (show 0 < k by omega)
    rw [hogsheadlaw10_ShelfLists.l0, if_neg (by omega), find_is _ _ _ _ _ _ hf _ (by omega), Option.bind_some, if_pos rfl, List.drop_eq_nil_of_le (by omega)]
    simp
  | m + 1, i, k, had, hi, hk => by
    obtain ⟨k, rfl⟩ := succ_of (show 0 < k by omega)
    have hx : K.drop i = rd_T27 K (i : Int) :: K.drop (i + 1) := drop_getD (l := K) z27 (by omega)
    have hq : rd_T27 K (i : Int) ∈ K := List.mem_of_mem_drop (i := i) (by rw [hx]; simp)
    rw [hogsheadlaw10_ShelfLists.l0, if_pos (by omega), if_pos (by omega), find_is _ _ _ _ _ _ hf _ (by omega), Option.bind_some, if_pos (hK _ hq), wrap_succ (n := K.length) (by omega) hl, hx]
    generalize rd_T27 K (i : Int) = q
    cases had
    · rw [if_neg (by decide), lists_loop l0 l1 a2 a3 v x hf K hK hl m (i + 1) k _ (by omega) (by omega)]
      congr 2
      rw [Bool.eq_iff_iff]
      simp
    · rw [if_pos rfl, lists_loop l0 l1 a2 a3 v x hf K hK hl m (i + 1) k _ (by omega) (by omega)]
      simp
theorem ShelfLists : hogsheadlaw10_ShelfLists.Pure := by
  intro d key hw hkw hs hks
  obtain ⟨⟨h0, hf0⟩, ⟨h1, hf1⟩, _, _⟩ := hs
  have hf : Fits d.f0 d.f1 := ⟨hf0, fun x hx => (hf1 x hx).2⟩
  generalize d.f0 = l0 at *
  generalize d.f1 = l1 at *
  have hkeys : (spotKeys (spots l0 l1)).length ≤ l0.length := by
    have := spotKeys_len (spots l0 l1)
    rw [spots_length] at this
    exact this
  refine ⟨281474976702700, ?_⟩
  unfold hogsheadlaw10_ShelfLists.f
  rw [shown_is _ (by omega), Option.bind_some, list_is l0 l1 _ _ hf (by omega) _ (by omega), Option.bind_some]
  have h := lists_loop l0 l1 d.f2 d.f3 key.f0 key.f1 hf (spotKeys (spots l0 l1)) (fun q hq => (find_zero _ _ _).mpr ((mem_keys q _).mp hq)) (by omega) (spotKeys (spots l0 l1)).length 0 281474976702700 false (by omega) (by omega)
  rw [show (0 : Int) = ((0 : Nat) : Int) from rfl, h, Option.some_inj, List.drop_zero, Bool.false_or, beq_iff_eq, Bool.eq_iff_iff, decide_eq_true_eq, beq_iff_eq, find_zero]
  constructor
  · rintro ⟨q, hq, e1, e2⟩
    rw [← e1, ← e2]
    exact (mem_keys q _).mp hq
  · intro hh
    exact ⟨⟨key.f0, key.f1⟩, (mem_keys _ _).mpr hh, rfl, rfl⟩
end Go.Proofs.Ytffjbbedjddpmaa.Pure
