/- A call that has ended stays as it is, whatever comes; a call's client, kind, name and bytes never change. -/
import Derived.Test.YtmjmmgefkebggaaStDeedEnds
import Derived.Test.YtmjmmgefkebggaaDeedComes
namespace Go.Proofs.Ytmjmmgefkebggaa.Pure
open Go.RowKit Go.Proofs.YtmjmmgefkebggaaW.PrintWords Go.Proofs.YtmjmmgefkebggaaW.PrintLast Go.Proofs.Ytmjmmgefkebggaa.PAll Go.Proofs.Ytmjmmgefkebggaa.Open Go.Proofs.Ytmjmmgefkebggaa.PB Go.Proofs.Ytmjmmgefkebggaa.DD Go.Proofs.Ytmjmmgefkebggaa.CP

theorem ends_loop (l : List S54) (hl : l.length ≤ 9223372036854775807) (hc : ∀ c ∈ l, c.f3.size ≤ 9223372036854775807) (b0 : Int) (b1 : Int) (b2 : ByteArray) (b3 : ByteArray) (b4 : Int) (b5 : Int) (b6 : Int) (b7 : Int) (b8 : Int) (b9 : Int) (b10 : Int) (b11 : Int) (b12 : ByteArray) (b13 : Bool) (hb : b3.size ≤ 9223372036854775807) :
    ∀ (m i k : Nat) (a4 a5 a6 a7 a8 a9 a10 a11 : Int) (a12 : ByteArray) (a13 : Bool), i + m = l.length → 2 * m + 1 < k → hogsheadlaw17_DeedEnds.l0 k l true i b0 b1 b2 b3 a4 a5 a6 a7 a8 a9 a10 a11 a12 a13 b0 b1 b2 b3 b4 b5 b6 b7 b8 b9 b10 b11 b12 b13 = some true
  | 0, i, k, a4, a5, a6, a7, a8, a9, a10, a11, a12, a13, hi, hk => by
    obtain ⟨k, rfl⟩ := succ_of (show 1 < k by omega)
    obtain ⟨k, rfl⟩ := succ_of (show 0 < k by omega)
    rw [hogsheadlaw17_DeedEnds.l0, if_neg (by omega), if_pos rfl, if_pos rfl, if_pos rfl, if_pos rfl, hogsheadlaw17_DeedEnds.j2]
    simp
  | m + 1, i, k, a4, a5, a6, a7, a8, a9, a10, a11, a12, a13, hi, hk => by
    obtain ⟨k, rfl⟩ := succ_of (show 1 < k by omega)
    obtain ⟨k, rfl⟩ := succ_of (show 0 < k by omega)
    have hmem : rd_T54 l (i : Int) ∈ l := getD_mem _ (by omega)
    have hcs := hc _ hmem
    rw [hogsheadlaw17_DeedEnds.l0, if_pos (by omega), if_pos (by omega), comes_is b0 b1 b2 b3 a4 a5 a6 a7 a8 a9 a10 a11 a12 a13 _ hb hcs (k + 1) (by omega), Option.bind_some]
    have hkp := comes_keeps b0 b1 b2 b3 a4 a5 a6 a7 a8 a9 a10 a11 a12 a13 (rd_T54 l (i : Int))
    have hov := comes_over b0 b1 b2 b3 a4 a5 a6 a7 a8 a9 a10 a11 a12 a13 (rd_T54 l (i : Int))
    generalize comesS b0 b1 b2 b3 a4 a5 a6 a7 a8 a9 a10 a11 a12 a13 (rd_T54 l (i : Int)) = r at *
    obtain ⟨d0, d1, d2, d3, d4, d5, d6, d7, d8, d9, d10, d11, d12, d13⟩ := r
    obtain ⟨e0, e1, e2, e3⟩ := hkp
    replace e0 : d0 = b0 := e0
    replace e1 : d1 = b1 := e1
    replace e2 : d2 = b2 := e2
    replace e3 : d3 = b3 := e3
    subst e0
    subst e1
    subst e2
    subst e3
    have ih := ends_loop l hl hc d0 d1 d2 d3 b4 b5 b6 b7 b8 b9 b10 b11 b12 b13 hb m (i + 1) k d4 d5 d6 d7 d8 d9 d10 d11 d12 d13 (by omega) (by omega)
    by_cases c8 : a5 = 8
    · have hd := hov c8
      simp only [Prod.mk.injEq] at hd
      obtain ⟨-, -, -, -, f4, f5, f6, f7, f8, f9, f10, f11, f12, f13⟩ := hd
      rw [if_pos c8, hogsheadlaw17_DeedEnds.j1, if_neg (by simp [f4, f5, f6, f7, f8, f9, f10, f11, f12, f13]), wrap_succ (n := l.length) (by omega) hl]
      exact ih
    · rw [if_neg c8, hogsheadlaw17_DeedEnds.j1, if_neg (by decide), wrap_succ (n := l.length) (by omega) hl]
      exact ih

theorem DeedEnds : hogsheadlaw17_DeedEnds.Pure := by
  intro a0 l hw hlw hs hls
  obtain ⟨_, _, _, hb, _⟩ := hs
  have hl : l.length ≤ 9223372036854775807 := hlw.1
  have hc : ∀ c ∈ l, c.f3.size ≤ 9223372036854775807 := by
    intro c hc
    have := (hls.2 c hc).2.2.2.1
    omega
  refine ⟨2 * l.length + 20, ?_⟩
  unfold hogsheadlaw17_DeedEnds.f
  rw [shown_is _ (by omega), Option.bind_some]
  exact ends_loop l hl hc _ _ _ _ _ _ _ _ _ _ _ _ _ _ (by omega) l.length 0 _ _ _ _ _ _ _ _ _ _ _ (by omega) (by omega)
end Go.Proofs.Ytmjmmgefkebggaa.Pure
