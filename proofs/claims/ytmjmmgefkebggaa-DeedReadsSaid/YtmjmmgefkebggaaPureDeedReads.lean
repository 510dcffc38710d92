/- A Get tells only bytes whose sum is the name's, and as many as it has. -/
import Derived.Test.YtmjmmgefkebggaaStDeedReads
import Derived.Test.YtmjmmgefkebggaaDeedComes
namespace Go.Proofs.Ytmjmmgefkebggaa.Pure
open Go.RowKit Go.Proofs.YtmjmmgefkebggaaW.PrintWords Go.Proofs.YtmjmmgefkebggaaW.PrintLast Go.Proofs.Ytmjmmgefkebggaa.PAll Go.Proofs.Ytmjmmgefkebggaa.Open Go.Proofs.Ytmjmmgefkebggaa.PB Go.Proofs.Ytmjmmgefkebggaa.DD Go.Proofs.Ytmjmmgefkebggaa.CP

theorem reads_loop (l : List S54) (hl : l.length ≤ 9223372036854775807) (B : Nat) (hB : B ≤ 9223372036854775807) (hc : ∀ c ∈ l, c.f3.size ≤ B) :
    ∀ (m i k : Nat) (a0 : Int) (a1 : Int) (a2 : ByteArray) (a3 : ByteArray) (a4 : Int) (a5 : Int) (a6 : Int) (a7 : Int) (a8 : Int) (a9 : Int) (a10 : Int) (a11 : Int) (a12 : ByteArray) (a13 : Bool), i + m = l.length → m + B + 20 < k → a3.size ≤ B → a12.size ≤ B → Getting (a0, a1, a2, a3, a4, a5, a6, a7, a8, a9, a10, a11, a12, a13) → hogsheadlaw17_DeedReads.l0 k l true i a0 a1 a2 a3 a4 a5 a6 a7 a8 a9 a10 a11 a12 a13 = some true
  | 0, i, k, a0, a1, a2, a3, a4, a5, a6, a7, a8, a9, a10, a11, a12, a13, hi, hk, hb, ho, hg => by
    obtain ⟨k, rfl⟩ := succ_of (show 2 < k by omega)
    obtain ⟨k, rfl⟩ := succ_of (show 1 < k by omega)
    obtain ⟨k, rfl⟩ := succ_of (show 0 < k by omega)
    rw [hogsheadlaw17_DeedReads.l0, if_neg (by omega)]
    rcases hg with ⟨h5, h12⟩ | ⟨h5, h12, hf⟩ | ⟨h5, he, h12⟩ | ⟨h5, he, hf, hn, hq⟩
    · replace h5 : a5 = 5 := h5
      replace h12 : a12 = ⟨#[]⟩ := h12
      subst h12
      rw [if_neg (by omega), hogsheadlaw17_DeedReads.j1, if_neg (by decide), if_pos rfl, hogsheadlaw17_DeedReads.j3, L_toList]
      rfl
    · replace h5 : a5 = 6 := h5
      replace h12 : a12 = ⟨#[]⟩ := h12
      subst h12
      rw [if_neg (by omega), hogsheadlaw17_DeedReads.j1, if_neg (by decide), if_pos rfl, hogsheadlaw17_DeedReads.j3, L_toList]
      rfl
    · replace h5 : a5 = 8 := h5
      replace he : a11 ≠ 0 := he
      replace h12 : a12 = ⟨#[]⟩ := h12
      subst h12
      rw [if_pos h5, hogsheadlaw17_DeedReads.j1, if_neg (by simpa using he), if_pos rfl, hogsheadlaw17_DeedReads.j3, L_toList]
      rfl
    · replace h5 : a5 = 8 := h5
      replace he : a11 = 0 := he
      replace hf : a13 = true := hf
      replace hn : (a12.size : Int) = a8 := hn
      replace hq : ((sumB (L a12)).toNat : Int) = a9 := hq
      rw [if_pos h5, hogsheadlaw17_DeedReads.j1, if_pos (by simpa using he), if_pos rfl, if_pos hf, if_pos hn, ref_sum _ (by omega) _ (by omega), Option.bind_some, hq, hogsheadlaw17_DeedReads.j2]
      simp
  | m + 1, i, k, a0, a1, a2, a3, a4, a5, a6, a7, a8, a9, a10, a11, a12, a13, hi, hk, hb, ho, hg => by
    obtain ⟨k, rfl⟩ := succ_of (show 0 < k by omega)
    have hmem : rd_T54 l (i : Int) ∈ l := getD_mem _ (by omega)
    have hcs := hc _ hmem
    rw [hogsheadlaw17_DeedReads.l0, if_pos (by omega), if_pos (by omega), comes_is a0 a1 a2 a3 a4 a5 a6 a7 a8 a9 a10 a11 a12 a13 _ (by omega) (by omega) k (by omega), Option.bind_some, wrap_succ (n := l.length) (by omega) hl]
    have hkp := comes_keeps a0 a1 a2 a3 a4 a5 a6 a7 a8 a9 a10 a11 a12 a13 (rd_T54 l (i : Int))
    have hgs := getting_step a0 a1 a2 a3 a4 a5 a6 a7 a8 a9 a10 a11 a12 a13 (rd_T54 l (i : Int)) hg
    have hos := comes_out a0 a1 a2 a3 a4 a5 a6 a7 a8 a9 a10 a11 a12 a13 (rd_T54 l (i : Int))
    generalize comesS a0 a1 a2 a3 a4 a5 a6 a7 a8 a9 a10 a11 a12 a13 (rd_T54 l (i : Int)) = r at *
    obtain ⟨d0, d1, d2, d3, d4, d5, d6, d7, d8, d9, d10, d11, d12, d13⟩ := r
    obtain ⟨e0, e1, e2, e3⟩ := hkp
    replace e3 : d3 = a3 := e3
    replace hos : d12 = a12 ∨ d12 = (rd_T54 l (i : Int)).f3 := hos
    refine reads_loop l hl B hB hc m (i + 1) k d0 d1 d2 d3 d4 d5 d6 d7 d8 d9 d10 d11 d12 d13 (by omega) (by omega) (by rw [e3]; exact hb) ?_ hgs
    rcases hos with hos | hos
    · rw [hos]
      exact ho
    · rw [hos]
      exact hcs

theorem DeedReads : hogsheadlaw17_DeedReads.Pure := by
  intro a0 l hw hlw hs hls
  have hl : l.length ≤ 9223372036854775807 := hlw.1
  refine ⟨l.length + 140737488351232 + 30, ?_⟩
  unfold hogsheadlaw17_DeedReads.f
  rw [shown_is _ (by omega), Option.bind_some, new_is _ _ _ _ _ _ (by omega), Option.bind_some]
  unfold newS
  by_cases c : 1 ≤ (2 : Int) ∧ (2 : Int) ≤ 16 ∧ 1 ≤ a0.size ∧ a0.size ≤ 16 ∧ 0 ≤ (9 : Int) ∧ (9 : Int) ≤ 1073741822
  · simp only [if_pos c]
    rw [if_neg (show ¬ (2 : Int) = 1 by decide), if_pos trivial, if_pos (show (⟨#[]⟩ : ByteArray).size = 0 from rfl)]
    simp only [if_true]
    refine reads_loop l hl 140737488351232 (by omega) (fun c hc => ?_) l.length 0 _ _ _ _ _ _ _ _ _ _ _ _ _ _ _ (by omega) (by omega) (by decide) (by decide) (.inl ⟨rfl, rfl⟩)
    have := (hls.2 c hc).2.2.2.1
    omega
  · simp only [if_neg c]
    rfl
end Go.Proofs.Ytmjmmgefkebggaa.Pure
