/- does, whatever comes in. -/
import Derived.Test.YtlfonfceaiiinaaIxDoesA
import Derived.Test.YtlfonfceaiiinaaIxDoesB
import Derived.Test.YtlfonfceaiiinaaIxDoesC
import Derived.Test.YtlfonfceaiiinaaIxDoesD
namespace Go.Proofs.Ytlfonfceaiiinaa.PAll
open Go.RowKit Go.Proofs.YtlfonfceaiiinaaW.PrintWords Go.Proofs.YtlfonfceaiiinaaW.PrintLast Go.Proofs.YtlfonfceaiiinaaW.PrintMore
set_option linter.unusedVariables false
set_option linter.unusedSimpArgs false
attribute [local irreducible] World.setCell
attribute [local go_sem high] eqA75
theorem does_reads (Pq : Nat → Prop) (v0 v1 v2 v : Value) (l0 : List Vol) (l1 : List Nam) (l2 : List Ses) (c : Cmd) (w : World) (hPq : ∀ q, w.heap.size ≤ q → Pq q) (h0 : SlP Pq k45 w v0 l0) (h1 : SlP Pq k92 w v1 l1) (h2 : SlP Pq k64 w v2 l2) (h3 : SlP Pq k75 w v c.f11) (n : Nat) (hg : Good n l0 l1) (hn : n ≤ 1000) (h10 : 0 ≤ c.f10) :
    Calls Try.prog 21 #[.agg #[v0, v1, v2], cmdV c v] w (Back Pq (n + 1) l2 w) := by
  have hl0 := hg.2.2.1
  cases k1 : (c.f0 == 1) with
  | true =>
    obtain ⟨t1, t2, hth⟩ := third_reads c.f8 c.f9
    by_cases cb : t2 = 0
    · by_cases cn : l0.length < 48
      · exact does_c Pq v0 v1 v2 v l0 l1 l2 c w hPq h0 h1 h2 h3 n hg hn k1 t1 t2 hth cb cn
      · exact does_n1 Pq v0 v1 v2 v l0 l1 l2 c w hPq h0 h1 h2 h3 n hg hn k1 t1 t2 hth (.inr (⟨(bne_eq_false_iff_eq.mpr cb), (decide_eq_true (by omega))⟩))
    · exact does_n1 Pq v0 v1 v2 v l0 l1 l2 c w hPq h0 h1 h2 h3 n hg hn k1 t1 t2 hth (.inl (bne_iff_ne.mpr cb))
  | false =>
  cases k3 : (c.f0 == 3) with
  | true => exact does_n2 Pq v0 v1 v2 v l0 l1 l2 c w hPq h0 h1 h2 h3 n hg hn k1 (.inl (k3))
  | false =>
  cases k4 : (c.f0 == 4) with
  | true => exact does_n2 Pq v0 v1 v2 v l0 l1 l2 c w hPq h0 h1 h2 h3 n hg hn k1 (.inr (.inl ⟨k3, k4⟩))
  | false =>
  cases k5 : (c.f0 == 5) with
  | true => exact does_n2 Pq v0 v1 v2 v l0 l1 l2 c w hPq h0 h1 h2 h3 n hg hn k1 (.inr (.inr (.inl ⟨k3, k4, k5⟩)))
  | false =>
  cases k8 : (c.f0 == 8) with
  | true => exact does_n2 Pq v0 v1 v2 v l0 l1 l2 c w hPq h0 h1 h2 h3 n hg hn k1 (.inr (.inr (.inr (⟨k3, k4, k5, k8⟩))))
  | false =>
  obtain ⟨i, hi, hva⟩ := vol_reads l0 l1 l2 c.f4 (by omega)
  by_cases ci' : i < 0
  · exact does_h Pq v0 v1 v2 v l0 l1 l2 c w hPq h0 h1 h2 h3 n hg hn k1 k3 k4 k5 k8 i hva ci'
  have ci : 0 ≤ i := by omega
  obtain ⟨rw, h14, hwh⟩ := whole_reads c.f11 (rd_T45 l0 i).f1
  cases k2 : (c.f0 == 2) with
  | true =>
    by_cases cp : (rd_T45 l0 i).f4 = 1
    · by_cases cz : c.f6 < 1
      · exact does_n3 Pq v0 v1 v2 v l0 l1 l2 c w hPq h0 h1 h2 h3 n hg hn k1 k3 k4 k5 k8 i hva ci hi rw hwh (.inr (.inl ⟨k2, (bne_eq_false_iff_eq.mpr cp), (decide_eq_true cz)⟩))
      by_cases cy : c.f6 > 32
      · exact does_n3 Pq v0 v1 v2 v l0 l1 l2 c w hPq h0 h1 h2 h3 n hg hn k1 k3 k4 k5 k8 i hva ci hi rw hwh (.inr (.inr (.inl ⟨k2, (bne_eq_false_iff_eq.mpr cp), (decide_eq_false cz), (decide_eq_true cy)⟩)))
      by_cases cu : (rd_T45 l0 i).f3 > 160 - c.f6
      · exact does_n3 Pq v0 v1 v2 v l0 l1 l2 c w hPq h0 h1 h2 h3 n hg hn k1 k3 k4 k5 k8 i hva ci hi rw hwh (.inr (.inr (.inr (.inl ⟨k2, (bne_eq_false_iff_eq.mpr cp), (decide_eq_false cz), (decide_eq_false cy), (by omega), (by omega), (decide_eq_true cu)⟩))))
      · exact does_m Pq v0 v1 v2 v l0 l1 l2 c w hPq h0 h1 h2 h3 n hg hn k1 k3 k4 k5 k8 k2 i hva ci hi cp (by omega) (by omega) cu
    · exact does_n3 Pq v0 v1 v2 v l0 l1 l2 c w hPq h0 h1 h2 h3 n hg hn k1 k3 k4 k5 k8 i hva ci hi rw hwh (.inl ⟨k2, (bne_iff_ne.mpr cp)⟩)
  | false =>
  cases k6 : (c.f0 == 6) with
  | true =>
    by_cases cp : (rd_T45 l0 i).f4 = 1
    · exact does_o Pq v0 v1 v2 v l0 l1 l2 c w hPq h0 h1 h2 h3 n hg hn k1 k3 k4 k5 k8 k2 k6 i hva ci hi cp
    · exact does_n3 Pq v0 v1 v2 v l0 l1 l2 c w hPq h0 h1 h2 h3 n hg hn k1 k3 k4 k5 k8 i hva ci hi rw hwh (.inr (.inr (.inr (.inr (.inl ⟨k2, k6, (bne_iff_ne.mpr cp)⟩)))))
  | false =>
  cases k7 : (c.f0 == 7) with
  | true =>
    by_cases cp : (rd_T45 l0 i).f4 = 2
    · cases hw : rw with
      | false => exact does_n3 Pq v0 v1 v2 v l0 l1 l2 c w hPq h0 h1 h2 h3 n hg hn k1 k3 k4 k5 k8 i hva ci hi rw hwh (.inr (.inr (.inr (.inr (.inr (.inr (.inr (⟨k2, k6, k7, (bne_eq_false_iff_eq.mpr cp), hw⟩))))))))
      | true => exact does_r Pq v0 v1 v2 v l0 l1 l2 c w hPq h0 h1 h2 h3 n hg hn k1 k3 k4 k5 k8 k2 k6 k7 i hva ci hi cp rw hwh hw h14
    · exact does_n3 Pq v0 v1 v2 v l0 l1 l2 c w hPq h0 h1 h2 h3 n hg hn k1 k3 k4 k5 k8 i hva ci hi rw hwh (.inr (.inr (.inr (.inr (.inr (.inl ⟨k2, k6, k7, (bne_iff_ne.mpr cp)⟩))))))
  | false =>
  by_cases cp : (rd_T45 l0 i).f4 < 3
  · exact does_n3 Pq v0 v1 v2 v l0 l1 l2 c w hPq h0 h1 h2 h3 n hg hn k1 k3 k4 k5 k8 i hva ci hi rw hwh (.inr (.inr (.inr (.inr (.inr (.inr (.inl ⟨k2, k6, k7, (decide_eq_true cp)⟩)))))))
  by_cases cz : c.f10 ≥ ((rd_T45 l0 i).f6.length : Int)
  · exact does_n4 Pq v0 v1 v2 v l0 l1 l2 c w hPq h0 h1 h2 h3 n hg hn k1 k3 k4 k5 k8 k2 k6 k7 h10 i hva ci hi (by omega) (.inl (decide_eq_true cz))
  by_cases cy : c.f11.length = 1
  · by_cases cx : (rd_T75 c.f11 0).f0 = (rd_T45 l0 i).f1
    · exact does_w Pq v0 v1 v2 v l0 l1 l2 c w hPq h0 h1 h2 h3 n hg hn k1 k3 k4 k5 k8 k2 k6 k7 h10 i hva ci hi (by omega) (by omega) cy cx
    · exact does_v Pq v0 v1 v2 v l0 l1 l2 c w hPq h0 h1 h2 h3 n hg hn k1 k3 k4 k5 k8 k2 k6 k7 h10 i hva ci hi (by omega) (by omega) cy cx
  · exact does_n4 Pq v0 v1 v2 v l0 l1 l2 c w hPq h0 h1 h2 h3 n hg hn k1 k3 k4 k5 k8 k2 k6 k7 h10 i hva ci hi (by omega) (.inr (⟨(decide_eq_false cz), (bne_iff_ne.mpr (by omega))⟩))
end Go.Proofs.Ytlfonfceaiiinaa.PAll
