/- put, whatever comes in. -/
import Derived.Test.YtlfonfceaiiinaaIxPut
import Derived.Test.YtlfonfceaiiinaaIxPutH
namespace Go.Proofs.Ytlfonfceaiiinaa.PAll
open Go.RowKit Go.Proofs.YtlfonfceaiiinaaW.PrintWords Go.Proofs.YtlfonfceaiiinaaW.PrintLast Go.Proofs.YtlfonfceaiiinaaW.PrintMore
theorem put_reads (Pq : Nat → Prop) (v0 v1 v2 v : Value) (l0 : List Vol) (l1 : List Nam) (l2 : List Ses) (c : Cmd) (w : World) (hPq : ∀ q, w.heap.size ≤ q → Pq q) (h0 : SlP Pq k45 w v0 l0) (h1 : SlP Pq k92 w v1 l1) (h2 : SlP Pq k64 w v2 l2) (h3 : SlP Pq k75 w v c.f11) (n : Nat) (hg : Good n l0 l1) (hn : n ≤ 1000) :
    Calls Try.prog 29 #[.agg #[v0, v1, v2], cmdV c v] w (Back Pq (n + 1) l2 w) := by
  have hl0 := hg.2.2.1
  have hl1 := hg.2.2.2.1
  obtain ⟨i, hi, hva⟩ := vol_reads l0 l1 l2 c.f4 (by omega)
  obtain ⟨k, hk, hna⟩ := name_reads l0 l1 l2 c.f3 (by omega)
  by_cases ce : c.f3.toList = []
  · exact put_n1 Pq v0 v1 v2 v l0 l1 l2 c w hPq h0 h1 h2 h3 n hg hn i k hva hna (.inl (beq_iff_eq.mpr ce))
  have e1 : (c.f3.toList == []) = false := beq_eq_false_iff_ne.mpr ce
  by_cases ci : i < 0
  · exact put_n1 Pq v0 v1 v2 v l0 l1 l2 c w hPq h0 h1 h2 h3 n hg hn i k hva hna (.inr ⟨e1, decide_eq_true ci⟩)
  have ci' : 0 ≤ i := by omega
  have pn : (rd_T45 l0 i).f5.length ≤ n := by
    rw [rdVol l0 i (by omega)]
    exact hg.2.2.2.2 _ (List.getElem_mem _)
  by_cases cp : (rd_T45 l0 i).f4 = 1
  · have e3 : ((rd_T45 l0 i).f4 != 1) = false := bne_eq_false_iff_eq.mpr cp
    by_cases cz : c.f6 = 0
    · exact put_n2 Pq v0 v1 v2 v l0 l1 l2 c w hPq h0 h1 h2 h3 n hg hn i k hva hna e1 ci' hi (.inr (.inl ⟨e3, beq_iff_eq.mpr cz⟩))
    have e4 : (c.f6 == 0) = false := beq_eq_false_iff_ne.mpr cz
    by_cases cu : wrap64 (c.f5 + c.f6) > (rd_T45 l0 i).f3
    · exact put_n2 Pq v0 v1 v2 v l0 l1 l2 c w hPq h0 h1 h2 h3 n hg hn i k hva hna e1 ci' hi (.inr (.inr (.inl ⟨e3, e4, decide_eq_true cu⟩)))
    by_cases ck : k < 0
    · by_cases cm : l1.length < 64
      · exact put_h Pq v0 v1 v2 v l0 l1 l2 c w hPq h0 h1 h2 h3 n hg hn i k hva hna ce ci' hi cp cz cu ck cm pn
      · exact put_n2 Pq v0 v1 v2 v l0 l1 l2 c w hPq h0 h1 h2 h3 n hg hn i k hva hna e1 ci' hi (.inr (.inr (.inr ⟨e3, e4, decide_eq_false cu, decide_eq_true ck, decide_eq_true (by omega)⟩)))
    · exact put_g Pq v0 v1 v2 v l0 l1 l2 c w hPq h0 h1 h2 h3 n hg hn i k hva hna ce ci' hi cp cz cu (by omega) hk pn
  · exact put_n2 Pq v0 v1 v2 v l0 l1 l2 c w hPq h0 h1 h2 h3 n hg hn i k hva hna e1 ci' hi (.inl (bne_iff_ne.mpr cp))
end Go.Proofs.Ytlfonfceaiiinaa.PAll
