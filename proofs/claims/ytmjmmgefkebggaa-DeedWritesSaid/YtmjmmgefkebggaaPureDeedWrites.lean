/- A Put names only what was written four times, without an error, since its bytes were given away; what it names has its bytes' sum. -/
import Derived.Test.YtmjmmgefkebggaaStDeedWrites
import Derived.Test.YtmjmmgefkebggaaDeedWr
namespace Go.Proofs.Ytmjmmgefkebggaa.Pure
open Go.RowKit Go.Proofs.YtmjmmgefkebggaaW.PrintWords Go.Proofs.YtmjmmgefkebggaaW.PrintLast Go.Proofs.Ytmjmmgefkebggaa.PAll Go.Proofs.Ytmjmmgefkebggaa.Open Go.Proofs.Ytmjmmgefkebggaa.PB Go.Proofs.Ytmjmmgefkebggaa.DD Go.Proofs.Ytmjmmgefkebggaa.CP

theorem want_put (a0 : Int) (a1 : Int) (a2 : ByteArray) (a3 : ByteArray) (a4 : Int) (a5 : Int) (a6 : Int) (a7 : Int) (a8 : Int) (a9 : Int) (a10 : Int) (a11 : Int) (a12 : ByteArray) (a13 : Bool) (hb : a3.size ≤ 9223372036854775807) : (a5 = 4 ∧ deed_Want.f a0 a1 a2 a3 a4 a5 a6 a7 a8 a9 a10 a11 a12 a13 = some (3, a0, a4, a2, a6, a7, a8, ((sumB (L a3)).toNat : Int), 0, 0, 0, [], true)) ∨ (a5 ≠ 4 ∧ ∃ c, deed_Want.f a0 a1 a2 a3 a4 a5 a6 a7 a8 a9 a10 a11 a12 a13 = some c ∧ ¬ (c.2.2.2.2.2.2.2.2.2.2.2.2 = true ∧ c.1 = 3)) := by
  unfold deed_Want.f
  rw [sum_num _ hb]
  by_cases c4 : a5 = 4
  · exact .inl ⟨c4, by rw [if_pos c4]; rfl⟩
  · refine .inr ⟨c4, ?_⟩
    by_cases c2 : a5 = 2
    · exact ⟨_, by rw [if_neg c4, if_pos c2]; rfl, fun h => absurd (show (2 : Int) = 3 from h.2) (by decide)⟩
    · by_cases c5 : a5 = 5
      · exact ⟨_, by rw [if_neg c4, if_neg c2, if_pos c5], fun h => absurd (show (5 : Int) = 3 from h.2) (by decide)⟩
      · by_cases c7 : a5 = 7
        · exact ⟨_, by rw [if_neg c4, if_neg c2, if_neg c5, if_pos c7], fun h => absurd (show (4 : Int) = 3 from h.2) (by decide)⟩
        · exact ⟨_, by rw [if_neg c4, if_neg c2, if_neg c5, if_neg c7], fun h => absurd h.2 (by decide)⟩

theorem writes_l0 (k : Nat) (nm b : ByteArray) (l : List S54) (i : Nat) (wr : Int) (a0 : Int) (a1 : Int) (a2 : ByteArray) (a3 : ByteArray) (a4 : Int) (a5 : Int) (a6 : Int) (a7 : Int) (a8 : Int) (a9 : Int) (a10 : Int) (a11 : Int) (a12 : ByteArray) (a13 : Bool) (h : i < l.length) :
    hogsheadlaw17_DeedWrites.l0 (k + 1) nm b l true wr i a0 a1 a2 a3 a4 a5 a6 a7 a8 a9 a10 a11 a12 a13 = hogsheadlaw17_DeedWrites.j1 k nm b l true wr i (decide (a5 = 3 ∧ (rd_T54 l (i : Int)).f0 = 3 ∧ (rd_T54 l (i : Int)).f4 = 0)) a0 a1 a2 a3 a4 a5 a6 a7 a8 a9 a10 a11 a12 a13 := by
  rw [hogsheadlaw17_DeedWrites.l0, if_pos (by omega)]
  by_cases c3 : a5 = 3
  · rw [if_pos c3, if_pos (by omega)]
    by_cases d3 : (rd_T54 l (i : Int)).f0 = 3
    · rw [if_pos d3]
      congr 1
      rw [Bool.eq_iff_iff]
      simp [c3, d3]
    · rw [if_neg d3, decide_eq_false (fun h => d3 h.2.1)]
  · rw [if_neg c3, decide_eq_false (fun h => c3 h.1)]

theorem writes_loop (nm b : ByteArray) (l : List S54) (hl : l.length ≤ 9223372036854775807) (B : Nat) (hB : B ≤ 9223372036854775807) (hb : b.size ≤ B) (hc : ∀ c ∈ l, c.f3.size ≤ B) :
    ∀ (m i k : Nat) (wr : Int) (a0 : Int) (a1 : Int) (a4 : Int) (a5 : Int) (a6 : Int) (a7 : Int) (a8 : Int) (a9 : Int) (a10 : Int) (a11 : Int) (a12 : ByteArray) (a13 : Bool), i + m = l.length → 4 * m + B + 40 < k → PutAt (b.size : Int) a4 a5 a8 a10 wr → hogsheadlaw17_DeedWrites.l0 k nm b l true wr i a0 a1 nm b a4 a5 a6 a7 a8 a9 a10 a11 a12 a13 = some true
  | 0, i, k, wr, a0, a1, a4, a5, a6, a7, a8, a9, a10, a11, a12, a13, hi, hk, hp => by
    obtain ⟨k, rfl⟩ := succ_of (show 0 < k by omega)
    rw [hogsheadlaw17_DeedWrites.l0, if_neg (by omega)]
  | m + 1, i, k, wr, a0, a1, a4, a5, a6, a7, a8, a9, a10, a11, a12, a13, hi, hk, hp => by
    obtain ⟨k, rfl⟩ := succ_of (show 3 < k by omega)
    obtain ⟨k, rfl⟩ := succ_of (show 2 < k by omega)
    obtain ⟨k, rfl⟩ := succ_of (show 1 < k by omega)
    obtain ⟨k, rfl⟩ := succ_of (show 0 < k by omega)
    have hmem : rd_T54 l (i : Int) ∈ l := getD_mem _ (by omega)
    have hcs := hc _ hmem
    rw [writes_l0 _ _ _ _ _ _ _ _ _ _ _ _ _ _ _ _ _ _ _ _ (by omega)]
    have hst := put_step (b.size : Int) a0 a1 nm b a4 a5 a6 a7 a8 a9 a10 a11 a12 a13 wr (rd_T54 l (i : Int)) hp
    have hkp := comes_keeps a0 a1 nm b a4 a5 a6 a7 a8 a9 a10 a11 a12 a13 (rd_T54 l (i : Int))
    have hj1 : hogsheadlaw17_DeedWrites.j1 (k + 1 + 1 + 1) nm b l true wr i (decide (a5 = 3 ∧ (rd_T54 l (i : Int)).f0 = 3 ∧ (rd_T54 l (i : Int)).f4 = 0)) a0 a1 nm b a4 a5 a6 a7 a8 a9 a10 a11 a12 a13 =
        hogsheadlaw17_DeedWrites.j2 (k + 1 + 1) nm b l true (if a5 = 3 ∧ (rd_T54 l (i : Int)).f0 = 3 ∧ (rd_T54 l (i : Int)).f4 = 0 then wr + 1 else wr) i a0 a1 nm b a4 a5 a6 a7 a8 a9 a10 a11 a12 a13 := by
      rw [hogsheadlaw17_DeedWrites.j1]
      by_cases cc : a5 = 3 ∧ (rd_T54 l (i : Int)).f0 = 3 ∧ (rd_T54 l (i : Int)).f4 = 0
      · rw [if_pos (decide_eq_true cc), if_pos cc, wrap_in (x := wr + 1)]
        have := cc.1
        unfold PutAt at hp
        unfold InR
        omega
      · rw [if_neg (by simpa using cc), if_neg cc]
    rw [hj1, hogsheadlaw17_DeedWrites.j2, if_pos (by omega), if_pos (by omega), comes_is a0 a1 nm b a4 a5 a6 a7 a8 a9 a10 a11 a12 a13 _ (by omega) (by omega) (k + 1) (by omega), Option.bind_some]
    generalize (if a5 = 3 ∧ (rd_T54 l (i : Int)).f0 = 3 ∧ (rd_T54 l (i : Int)).f4 = 0 then wr + 1 else wr) = wr2 at *
    generalize comesS a0 a1 nm b a4 a5 a6 a7 a8 a9 a10 a11 a12 a13 (rd_T54 l (i : Int)) = r at *
    obtain ⟨d0, d1, d2, d3, d4, d5, d6, d7, d8, d9, d10, d11, d12, d13⟩ := r
    obtain ⟨e0, e1, e2, e3⟩ := hkp
    replace e2 : d2 = nm := e2
    replace e3 : d3 = b := e3
    subst e2
    subst e3
    replace hst : PutAt (d3.size : Int) d4 d5 d8 d10 wr2 := hst
    have ih := writes_loop d2 d3 l hl B hB hb hc m (i + 1) k wr2 d0 d1 d4 d5 d6 d7 d8 d9 d10 d11 d12 d13 (by omega) (by omega) hst
    have hj3 : hogsheadlaw17_DeedWrites.j3 (k + 1) d2 d3 l true wr2 i false d0 d1 d2 d3 d4 d5 d6 d7 d8 d9 d10 d11 d12 d13 = some true := by
      rw [hogsheadlaw17_DeedWrites.j3, if_neg (by decide), wrap_succ (n := l.length) (by omega) hl]
      exact ih
    rcases want_put d0 d1 d2 d3 d4 d5 d6 d7 d8 d9 d10 d11 d12 d13 (by omega) with ⟨h4, hw⟩ | ⟨h4, c, hw, hn⟩
    · have hput : d8 = (d3.size : Int) ∧ d4 = 1 ∧ wr2 = 4 := by
        unfold PutAt at hst
        omega
      obtain ⟨p8, p4, pw⟩ := hput
      simp only
      rw [hw, Option.bind_some]
      simp only
      rw [if_pos trivial, if_pos trivial, if_pos pw, ref_sum _ (by omega) _ (by omega), Option.bind_some, if_pos rfl, if_pos p8, if_pos trivial, show (d4 != 1) = false by simp [p4]]
      exact hj3
    · simp only
      rw [hw, Option.bind_some]
      by_cases f1 : c.2.2.2.2.2.2.2.2.2.2.2.2 = true
      · rw [if_pos f1, if_neg (fun h => hn ⟨f1, h⟩)]
        exact hj3
      · rw [if_neg f1]
        exact hj3

theorem DeedWrites : hogsheadlaw17_DeedWrites.Pure := by
  intro a0 a1 l hw hw1 hlw hs hs1 hls
  have hl : l.length ≤ 9223372036854775807 := hlw.1
  refine ⟨4 * l.length + 140737488351232 + 60, ?_⟩
  unfold hogsheadlaw17_DeedWrites.f
  rw [shown_is _ (by omega), Option.bind_some, new_is _ _ _ _ _ _ (by omega), Option.bind_some]
  have hn : (newS 1 1 a0 a1 0).2.2.2.2.2.2.2.2.2.2.2.2.2.2 ≠ 0 ∨ newS 1 1 a0 a1 0 = (1, 1, a0, a1, 0, 1, 0, 0, (a1.size : Int), 0, 0, 0, (⟨#[]⟩ : ByteArray), false, 0) := by
    unfold newS
    split
    · rw [if_pos rfl]
      split
      · exact .inr rfl
      · exact .inl (by decide)
    · exact .inl (by decide)
  rcases hn with hn | hn
  · rw [if_neg hn]
  · rw [hn]
    simp only
    rw [if_pos trivial]
    exact writes_loop a0 a1 l hl 140737488351232 (by omega) hs1 (fun c hc => (hls.2 c hc).2.2.2.1) l.length 0 _ 0 _ _ _ _ _ _ _ _ _ _ _ _ (by omega) (by omega) (.inr ⟨rfl, .inl ⟨.inl rfl, rfl, rfl⟩⟩)
end Go.Proofs.Ytmjmmgefkebggaa.Pure
