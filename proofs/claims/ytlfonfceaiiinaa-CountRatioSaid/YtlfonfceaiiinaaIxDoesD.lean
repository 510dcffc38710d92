/- does: a place that is moved. -/
import Derived.Test.YtlfonfceaiiinaaIxDoesH
namespace Go.Proofs.Ytlfonfceaiiinaa.PAll
open Go.RowKit Go.Proofs.YtlfonfceaiiinaaW.PrintWords Go.Proofs.YtlfonfceaiiinaaW.PrintLast Go.Proofs.YtlfonfceaiiinaaW.PrintMore
set_option linter.unusedVariables false
set_option linter.unusedSimpArgs false
attribute [local irreducible] World.setCell
attribute [local go_sem high] eqA75
set_option maxHeartbeats 40000000 in
set_option maxRecDepth 100000 in
theorem does_w (Pq : Nat → Prop) (v0 v1 v2 v : Value) (l0 : List Vol) (l1 : List Nam) (l2 : List Ses) (c : Cmd) (w : World) (hPq : ∀ q, w.heap.size ≤ q → Pq q) (h0 : SlP Pq k45 w v0 l0) (h1 : SlP Pq k92 w v1 l1) (h2 : SlP Pq k64 w v2 l2) (h3 : SlP Pq k75 w v c.f11) (n : Nat) (hg : Good n l0 l1) (hn : n ≤ 1000) (k1 : (c.f0 == 1) = false) (k3 : (c.f0 == 3) = false) (k4 : (c.f0 == 4) = false) (k5 : (c.f0 == 5) = false) (k8 : (c.f0 == 8) = false) (k2 : (c.f0 == 2) = false) (k6 : (c.f0 == 6) = false) (k7 : (c.f0 == 7) = false) (h10 : 0 ≤ c.f10) (i : Int) (hva : VolC l0 l1 l2 c.f4 i) (ci : 0 ≤ i) (cl : i < (l0.length : Int)) (cp : 3 ≤ (rd_T45 l0 i).f4) (cz : c.f10 < ((rd_T45 l0 i).f6.length : Int)) (cy : c.f11.length = 1) (cx : (rd_T75 c.f11 0).f0 = (rd_T45 l0 i).f1) : Calls Try.prog 21 #[.agg #[v0, v1, v2], cmdV c v] w (Back Pq (n + 1) l2 w) := by
  obtain ⟨A0, c0, rfl, hc0, hr0⟩ := h0
  obtain ⟨A1, c1, rfl, hc1, hr1⟩ := h1
  obtain ⟨A2, c2, rfl, hc2, hr2⟩ := h2
  obtain ⟨A3, c3, rfl, hc3, hr3⟩ := h3
  have HS0 := qM (show SlP Pq k45 w (.slice A0 l0.length c0) l0 from ⟨A0, c0, rfl, hc0, hr0⟩)
  have HS1 := qM (show SlP Pq k92 w (.slice A1 l1.length c1) l1 from ⟨A1, c1, rfl, hc1, hr1⟩)
  have HS2 := qM (show SlP Pq k64 w (.slice A2 l2.length c2) l2 from ⟨A2, c2, rfl, hc2, hr2⟩)
  have HS3 := qM (show SlP Pq k75 w (.slice A3 c.f11.length c3) c.f11 from ⟨A3, c3, rfl, hc3, hr3⟩)
  have HR0 := qM hr0
  have HR1 := qM (Kd.F_now hr1)
  have HR2 := qM (Kd.F_now hr2)
  have HR3 := qM (Kd.F_now hr3)
  have HG := qM hg
  have HPQ := qM hPq
  clear hc0 hr0 hc1 hr1 hc2 hr2 hc3 hr3 hg hPq
  unfold cmdV
  have HN := qM hn
  clear hn
  have HVA := qM hva
  clear hva
  have d1 : decide (i < 0) = false := decide_eq_false (by omega)
  obtain ⟨ad, A5, c5, A6, c6, e, hx0, hx1, hx2, hx3, hx4, hx5, hx6, hx7, hx8, hl5, hi5, hl6, hi6⟩ := at_F45 HR0.out i ci cl
  cases e
  have HX := qM (And.intro hx0 (And.intro hx1 (And.intro hx2 (And.intro hx3 (And.intro hx4 (And.intro hx5 (And.intro hx6 (And.intro hx7 hx8))))))))
  have HI5 := qM hi5
  have HI6 := qM hi6
  have HL5 := qM hl5
  have HL6 := qM hl6
  clear hi5 hi6 hl5 hl6 hx0 hx1 hx2 hx3 hx4 hx5 hx6 hx7 hx8
  have p0 := eq_true ci
  have p1 := eq_true cl
  have d3 : decide ((rd_T45 l0 i).f4 < 3) = false := decide_eq_false (by omega)
  have d4 : decide (c.f10 ≥ ((rd_T45 l0 i).f6.length : Int)) = false := decide_eq_false (by omega)
  have d5 : ((c.f11.length : Int) != 1) = false := bne_eq_false_iff_eq.mpr (by omega)
  obtain ⟨ad0, e3, hp0, hp1⟩ := at_T75 HR3.out 0 (by decide) (by omega)
  cases e3
  have HP0 := qM (show w.cell? ad0 = some (.int .i64 (rd_T75 c.f11 0).f0) from hp0)
  have HP1 := qM (show w.cell? ⟨ad0.block, ad0.off + 1, none⟩ = some (.int .i64 (rd_T75 c.f11 0).f1) from hp1)
  clear hp0 hp1
  have d6 : ((rd_T75 c.f11 0).f0 != (rd_T45 l0 i).f1) = false := bne_eq_false_iff_eq.mpr cx
  have CX := qM cx
  clear cx
  have N14 := qM (show (rd_T45 l0 i).f6.length ≤ 14 from by have hm := HG.out.1 _ (List.getElem_mem (n := i.toNat) (by omega : i.toNat < l0.length)); rw [← rdVol l0 i (by omega)] at hm; rcases hm with ⟨_, b⟩ | ⟨_, b⟩; (rw [b]; exact Nat.zero_le _); omega)
  go_enter Try.func21, Try.ntmps21
  go_wp2_with (first | ((with_reducible refine gate_dst (N := 2) rfl ?_); (try (refine gate_guard (by rfl) ?_; dsimp only)); refine box_event ?hg (N := 2) ?hd (cs := #[.slice (some ad) l0.length c0, .slice A1 l1.length c1, .slice A2 l2.length c2]) (t := 26) ?hr ?_; (case hd => rfl); (case hg => rfl); (case hr => first | (go_simp; done) | (go_simp; rfl)); intro g2 hg w_2 hk hb; have G2 := qM (show w.heap.size ≤ g2 by rw [hg]; exact Nat.le_refl _); have B2 := qM hk; have HB := qM (hb); clear hk hb hg; skip) | ((with_reducible refine gate_dst (N := 3) rfl ?_); (try (refine gate_guard (by rfl) ?_; dsimp only)); refine box_event ?hg (N := 3) ?hd (cs := #[.int .i64 c.f0, .int .i64 c.f1, .int .i64 c.f2, .string c.f3, .int .i64 c.f4, .int .i64 c.f5, .int .i64 c.f6, .int .u32 c.f7, .int .i64 c.f8, .int .i64 c.f9, .int .i64 c.f10, .slice (some ad0) c.f11.length c3]) (t := 42) ?hr ?_; (case hd => rfl); (case hg => rfl); (case hr => first | (go_simp; done) | (go_simp; rfl)); intro g3 hg w_3 hk hb; have N23 := n1 B2 hg; have G3 := qM (show w.heap.size ≤ g3 by rw [hg]; exact HB.out.size); replace B2 := bb B2 hb; have B3 := qM hk; have HB := qM (below_step HB.out hb); clear hk hb hg; have ne23 := N23.out; have ne32 := Ne.symm N23.out; skip) | ((with_reducible refine gate_dst (N := 4) rfl ?_); (try (refine gate_guard (by rfl) ?_; dsimp only)); refine box_event ?hg (N := 4) ?hd (cs := #[.slice none 0 0, .slice none 0 0, .slice none 0 0]) (t := 26) ?hr ?_; (case hd => rfl); (case hg => rfl); (case hr => first | (go_simp; done) | (go_simp; rfl)); intro g4 hg w_4 hk hb; have N24 := n1 B2 hg; have N34 := n1 B3 hg; have G4 := qM (show w.heap.size ≤ g4 by rw [hg]; exact HB.out.size); replace B2 := bb B2 hb; replace B3 := bb B3 hb; have B4 := qM hk; have HB := qM (below_step HB.out hb); clear hk hb hg; have ne24 := N24.out; have ne42 := Ne.symm N24.out; have ne34 := N34.out; have ne43 := Ne.symm N34.out; skip) | ((with_reducible refine gate_dst (N := 5) rfl ?_); (try (refine gate_guard (by rfl) ?_; dsimp only)); refine box_event ?hg (N := 5) ?hd (cs := #[.int .i64 0, .int .i64 0, .int .i64 0, .int .i64 0, .int .u32 0, .bool false]) (t := 37) ?hr ?_; (case hd => rfl); (case hg => rfl); (case hr => first | (go_simp; done) | (go_simp; rfl)); intro g5 hg w_5 hk hb; have N25 := n1 B2 hg; have N35 := n1 B3 hg; have N45 := n1 B4 hg; have G5 := qM (show w.heap.size ≤ g5 by rw [hg]; exact HB.out.size); replace B2 := bb B2 hb; replace B3 := bb B3 hb; replace B4 := bb B4 hb; have B5 := qM hk; have HB := qM (below_step HB.out hb); clear hk hb hg; have ne25 := N25.out; have ne52 := Ne.symm N25.out; have ne35 := N35.out; have ne53 := Ne.symm N35.out; have ne45 := N45.out; have ne54 := Ne.symm N45.out; obtain ⟨z20, z21, z22, f20, f21, f22⟩ := cells3 B2.out; obtain ⟨z30, z31, z32, z33, z34, z35, z36, z37, z38, z39, z310, z311⟩ := cells12z B3.out; obtain ⟨z40, z41, z42, f40, f41, f42⟩ := cells3 B4.out; obtain ⟨z50, z51, z52, z53, z54, z55, f50, f51, f52, f53, f54, f55⟩ := cells6 B5.out) | (go_at_call 32; refine (HVA.out _ _ _ _ (HS0.out.below HB.out).sl (HS1.out.below HB.out).sl (HS2.out.below HB.out).sl).mono ?_; rintro e w1 ⟨rfl, hb⟩; replace B2 := bb B2 hb; replace B3 := bb B3 hb; replace B4 := bb B4 hb; replace B5 := bb B5 hb; replace HB := qM (below_step HB.out hb); clear z20 z21 z22 f20 f21 f22 z30 z31 z32 z33 z34 z35 z36 z37 z38 z39 z310 z311 z40 z41 z42 f40 f41 f42 z50 z51 z52 z53 z54 z55 f50 f51 f52 f53 f54 f55; clear hb; obtain ⟨z20, z21, z22, f20, f21, f22⟩ := cells3 B2.out; obtain ⟨z30, z31, z32, z33, z34, z35, z36, z37, z38, z39, z310, z311⟩ := cells12z B3.out; obtain ⟨z40, z41, z42, f40, f41, f42⟩ := cells3 B4.out; obtain ⟨z50, z51, z52, z53, z54, z55, f50, f51, f52, f53, f54, f55⟩ := cells6 B5.out; obtain ⟨hx0, hx1, hx2, hx3, hx4, hx5, hx6, hx7, hx8⟩ := HX.out; replace hx0 := held HB.out hx0; replace hx1 := held HB.out hx1; replace hx2 := held HB.out hx2; replace hx3 := held HB.out hx3; replace hx4 := held HB.out hx4; replace hx5 := held HB.out hx5; replace hx6 := held HB.out hx6; replace hx7 := held HB.out hx7; replace hx8 := held HB.out hx8) | ((with_reducible refine gate_dst (N := 92) rfl ?_); obtain ⟨g8, w8, hg, hw, hk, hb⟩ := box_new w1 #[.int .i64 (rd_T45 l0 i).f0, .int .i64 (rd_T45 l0 i).f1, .int .i64 (rd_T45 l0 i).f2, .int .i64 (rd_T45 l0 i).f3, .int .i64 (rd_T45 l0 i).f4, .slice A5 (rd_T45 l0 i).f5.length c5, .slice A6 (rd_T45 l0 i).f6.length c6, .int .i64 (rd_T45 l0 i).f7, .int .i64 (rd_T45 l0 i).f8] 45; rw [hw, hg]; have N28 := n2 B2 hg; have N38 := n2 B3 hg; have N48 := n2 B4 hg; have N58 := n2 B5 hg; replace B2 := bb B2 hb; replace B3 := bb B3 hb; replace B4 := bb B4 hb; replace B5 := bb B5 hb; have G8 := qM (show w.heap.size ≤ g8 by rw [← hg]; exact HB.out.size); replace HB := qM (below_step HB.out hb); have B8 := qM hk; clear z20 z21 z22 f20 f21 f22 z30 z31 z32 z33 z34 z35 z36 z37 z38 z39 z310 z311 z40 z41 z42 f40 f41 f42 z50 z51 z52 z53 z54 z55 f50 f51 f52 f53 f54 f55; clear hk hb hg hw; obtain ⟨z20, z21, z22, f20, f21, f22⟩ := cells3 B2.out; obtain ⟨z30, z31, z32, z33, z34, z35, z36, z37, z38, z39, z310, z311⟩ := cells12z B3.out; obtain ⟨z40, z41, z42, f40, f41, f42⟩ := cells3 B4.out; obtain ⟨z50, z51, z52, z53, z54, z55, f50, f51, f52, f53, f54, f55⟩ := cells6 B5.out; obtain ⟨z80, z81, z82, z83, z84, z85, z86, z87, z88, f80, f81, f82, f83, f84, f85, f86, f87, f88⟩ := cells9 B8.out; have ne28 := N28.out; have ne82 := Ne.symm N28.out; have ne38 := N38.out; have ne83 := Ne.symm N38.out; have ne48 := N48.out; have ne84 := Ne.symm N48.out; have ne58 := N58.out; have ne85 := Ne.symm N58.out))
  have hp0 := held HB.out HP0.out
  have hp1 := held HB.out HP1.out
  go_quiet (fail)
  replace B2 := qM (show (w8.drewN nq).heap[g2]? = _ from B2.out)
  replace B3 := qM (show (w8.drewN nq).heap[g3]? = _ from B3.out)
  replace B4 := qM (show (w8.drewN nq).heap[g4]? = _ from B4.out)
  replace B5 := qM (show (w8.drewN nq).heap[g5]? = _ from B5.out)
  replace B8 := qM (show (w8.drewN nq).heap[g8]? = _ from B8.out)
  replace HB := qM (pw_below_drewN HB.out nq)
  generalize w8.drewN nq = wq at HB B2 B3 B4 B5 B8 ⊢
  clear z20 z21 z22 f20 f21 f22 z30 z31 z32 z33 z34 z35 z36 z37 z38 z39 z310 z311 z40 z41 z42 f40 f41 f42 z50 z51 z52 z53 z54 z55 f50 f51 f52 f53 f54 f55 z80 z81 z82 z83 z84 z85 z86 z87 z88 f80 f81 f82 f83 f84 f85 f86 f87 f88
  obtain ⟨z20, z21, z22, f20, f21, f22⟩ := cells3 B2.out; obtain ⟨z30, z31, z32, z33, z34, z35, z36, z37, z38, z39, z310, z311⟩ := cells12z B3.out; obtain ⟨z40, z41, z42, f40, f41, f42⟩ := cells3 B4.out; obtain ⟨z50, z51, z52, z53, z54, z55, f50, f51, f52, f53, f54, f55⟩ := cells6 B5.out; obtain ⟨z80, z81, z82, z83, z84, z85, z86, z87, z88, f80, f81, f82, f83, f84, f85, f86, f87, f88⟩ := cells9 B8.out
  go_wp2
  have K2 := B2; have K3 := B3; have K4 := B4; have K5 := B5; have K8 := B8
  clear B2 B3 B4 B5 B8
  clear z20 z21 z22 f20 f21 f22 z30 z31 z32 z33 z34 z35 z36 z37 z38 z39 z310 z311 z40 z41 z42 f40 f41 f42 z50 z51 z52 z53 z54 z55 f50 f51 f52 f53 f54 f55 z80 z81 z82 z83 z84 z85 z86 z87 z88 f80 f81 f82 f83 f84 f85 f86 f87 f88
  clear hp0 hp1
  go_loopg [13] (rd_T45 l0 i).f6.length (fun kq v13 w' => ∃ (t : Nat) (x : Int), v13 = .int .i64 x ∧ Aside0 (x = (t : Int)) ∧ Aside0 (kq + t = (rd_T45 l0 i).f6.length) ∧ Aside0 (Below wq.heap.size wq w'))
  case atStart => exact ⟨0, 0, rfl, ⟨rfl⟩, ⟨Nat.add_zero _⟩, ⟨Below.refl _ _⟩⟩
  case round =>
   obtain ⟨t, x, rfl, HXT, HK, HL⟩ := hrel
   have B2 := qM (blk_below K2.out HL.out); have B3 := qM (blk_below K3.out HL.out); have B4 := qM (blk_below K4.out HL.out); have B5 := qM (blk_below K5.out HL.out); have B8 := qM (blk_below K8.out HL.out)
   obtain ⟨z20, z21, z22, f20, f21, f22⟩ := cells3 B2.out; obtain ⟨z30, z31, z32, z33, z34, z35, z36, z37, z38, z39, z310, z311⟩ := cells12z B3.out; obtain ⟨z40, z41, z42, f40, f41, f42⟩ := cells3 B4.out; obtain ⟨z50, z51, z52, z53, z54, z55, f50, f51, f52, f53, f54, f55⟩ := cells6 B5.out; obtain ⟨z80, z81, z82, z83, z84, z85, z86, z87, z88, f80, f81, f82, f83, f84, f85, f86, f87, f88⟩ := cells9 B8.out
   by_cases ct : t < (rd_T45 l0 i).f6.length
   · have dt : decide (x < ((rd_T45 l0 i).f6.length : Int)) = true := decide_eq_true (by have := HXT.out; omega)
     obtain ⟨k1, rfl⟩ : ∃ k1, gk = k1 + 1 := ⟨gk - 1, by have := HK.out; omega⟩
     obtain ⟨ad1, e1, hq0, hq1⟩ := at_T75 (Kd.F_now HI6.out) x (by have := HXT.out; omega) (by have := HXT.out; omega)
     cases e1
     have hq0 := held HL.out (held HB.out hq0)
     have hq1 := held HL.out (held HB.out hq1)
     have hp0 := held HL.out (held HB.out HP0.out)
     have hp1 := held HL.out (held HB.out HP1.out)
     have p0 : (0 ≤ x) = True := eq_true (by have := HXT.out; omega)
     have p1 : (x < ((rd_T45 l0 i).f6.length : Int)) = True := eq_true (by have := HXT.out; omega)
     go_wp2
     by_cases ceq : (((rd_T75 (rd_T45 l0 i).f6 x).f0 == (rd_T75 c.f11 0).f0) && ((rd_T75 (rd_T45 l0 i).f6 x).f1 == (rd_T75 c.f11 0).f1)) = true
     · go_quiet (fail)
       replace HL := qM (pw_below_drewN HL.out nq)
       replace B2 := qM (show (wr.drewN nq).heap[g2]? = _ from B2.out)
       replace B3 := qM (show (wr.drewN nq).heap[g3]? = _ from B3.out)
       replace B4 := qM (show (wr.drewN nq).heap[g4]? = _ from B4.out)
       replace B5 := qM (show (wr.drewN nq).heap[g5]? = _ from B5.out)
       replace B8 := qM (show (wr.drewN nq).heap[g8]? = _ from B8.out)
       generalize wr.drewN nq = ws at HL B2 B3 B4 B5 B8 ⊢
       clear hp0 hp1 hq0 hq1
       clear z20 z21 z22 f20 f21 f22 z30 z31 z32 z33 z34 z35 z36 z37 z38 z39 z310 z311 z40 z41 z42 f40 f41 f42 z50 z51 z52 z53 z54 z55 f50 f51 f52 f53 f54 f55 z80 z81 z82 z83 z84 z85 z86 z87 z88 f80 f81 f82 f83 f84 f85 f86 f87 f88
       obtain ⟨z20, z21, z22, f20, f21, f22⟩ := cells3 B2.out; obtain ⟨z30, z31, z32, z33, z34, z35, z36, z37, z38, z39, z310, z311⟩ := cells12z B3.out; obtain ⟨z40, z41, z42, f40, f41, f42⟩ := cells3 B4.out; obtain ⟨z50, z51, z52, z53, z54, z55, f50, f51, f52, f53, f54, f55⟩ := cells6 B5.out; obtain ⟨z80, z81, z82, z83, z84, z85, z86, z87, z88, f80, f81, f82, f83, f84, f85, f86, f87, f88⟩ := cells9 B8.out
       replace HB := qM (below_step HB.out HL.out)
       go_wp2
       refine wp_region_any (by kernel_rfl) ?_
       change wpAny _ _ _ _ _ _ _ (World.drew _)
       refine wpAny_ready (rs := [0, 1]) (by kernel_rfl) (by simp) ?_
       refine AllReady.cons rfl (fun K hK => ?_) (AllReady.cons rfl (fun K hK => ?_) AllReady.nil)
       · go_simp
         refine hK _ _ ?_
         clear hK K
         refine wpAny_ready (rs := [1]) (by kernel_rfl) (by simp) ?_
         refine AllReady.cons rfl (fun K hK => ?_) AllReady.nil
         go_simp
         refine (no_reads _ _).mono ?_
         rintro e w9 ⟨rfl, hb⟩
         replace B2 := bd B2 hb; replace B4 := bd B4 hb; replace B5 := bd B5 hb; replace HB := qM (below_step (below_drew1 HB.out) hb); clear z20 z21 z22 f20 f21 f22 z30 z31 z32 z33 z34 z35 z36 z37 z38 z39 z310 z311 z40 z41 z42 f40 f41 f42 z50 z51 z52 z53 z54 z55 f50 f51 f52 f53 f54 f55 z80 z81 z82 z83 z84 z85 z86 z87 z88 f80 f81 f82 f83 f84 f85 f86 f87 f88; clear hb; obtain ⟨z20, z21, z22, f20, f21, f22⟩ := cells3 B2.out; obtain ⟨z40, z41, z42, f40, f41, f42⟩ := cells3 B4.out; obtain ⟨z50, z51, z52, z53, z54, z55, f50, f51, f52, f53, f54, f55⟩ := cells6 B5.out
         dsimp only
         refine hK _ _ ?_
         clear hK K
         refine wpAny_ready (rs := [2]) (by kernel_rfl) (by simp) ?_
         refine AllReady.cons rfl (fun K hK => ?_) AllReady.nil
         go_simp
         refine hK _ _ ?_
         clear hK K
         refine wpAny_ready (rs := [3]) (by kernel_rfl) (by simp) ?_
         refine AllReady.cons rfl (fun K hK => ?_) AllReady.nil
         go_simp
         refine hK _ _ ?_
         clear hK K
         refine wpAny_done (by kernel_rfl) ?_ _
         repeat go_step
         exact fin_no rfl B4 B5 N45 HB G4 G5 HS0 HS1 HS2 HG rfl rfl rfl
       · go_simp
         refine (no_reads _ _).mono ?_
         rintro e w9 ⟨rfl, hb⟩
         replace B2 := bd B2 hb; replace B4 := bd B4 hb; replace B5 := bd B5 hb; replace HB := qM (below_step (below_drew1 HB.out) hb); clear z20 z21 z22 f20 f21 f22 z30 z31 z32 z33 z34 z35 z36 z37 z38 z39 z310 z311 z40 z41 z42 f40 f41 f42 z50 z51 z52 z53 z54 z55 f50 f51 f52 f53 f54 f55 z80 z81 z82 z83 z84 z85 z86 z87 z88 f80 f81 f82 f83 f84 f85 f86 f87 f88; clear hb; obtain ⟨z20, z21, z22, f20, f21, f22⟩ := cells3 B2.out; obtain ⟨z40, z41, z42, f40, f41, f42⟩ := cells3 B4.out; obtain ⟨z50, z51, z52, z53, z54, z55, f50, f51, f52, f53, f54, f55⟩ := cells6 B5.out
         dsimp only
         refine hK _ _ ?_
         clear hK K
         refine wpAny_ready (rs := [0]) (by kernel_rfl) (by simp) ?_
         refine AllReady.cons rfl (fun K hK => ?_) AllReady.nil
         go_simp
         refine hK _ _ ?_
         clear hK K
         refine wpAny_ready (rs := [2]) (by kernel_rfl) (by simp) ?_
         refine AllReady.cons rfl (fun K hK => ?_) AllReady.nil
         go_simp
         refine hK _ _ ?_
         clear hK K
         refine wpAny_ready (rs := [3]) (by kernel_rfl) (by simp) ?_
         refine AllReady.cons rfl (fun K hK => ?_) AllReady.nil
         go_simp
         refine hK _ _ ?_
         clear hK K
         refine wpAny_done (by kernel_rfl) ?_ _
         repeat go_step
         exact fin_no rfl B4 B5 N45 HB G4 G5 HS0 HS1 HS2 HG rfl rfl rfl
     · have ceq2 : (((rd_T75 (rd_T45 l0 i).f6 x).f0 == (rd_T75 c.f11 0).f0) && ((rd_T75 (rd_T45 l0 i).f6 x).f1 == (rd_T75 c.f11 0).f1)) = false := by simpa using ceq
       clear ceq
       go_quiet (fail)
       replace HL := qM (pw_below_drewN HL.out nq)
       replace B2 := qM (show (wr.drewN nq).heap[g2]? = _ from B2.out)
       replace B3 := qM (show (wr.drewN nq).heap[g3]? = _ from B3.out)
       replace B4 := qM (show (wr.drewN nq).heap[g4]? = _ from B4.out)
       replace B5 := qM (show (wr.drewN nq).heap[g5]? = _ from B5.out)
       replace B8 := qM (show (wr.drewN nq).heap[g8]? = _ from B8.out)
       generalize wr.drewN nq = ws at HL B2 B3 B4 B5 B8 ⊢
       clear hp0 hp1 hq0 hq1
       clear z20 z21 z22 f20 f21 f22 z30 z31 z32 z33 z34 z35 z36 z37 z38 z39 z310 z311 z40 z41 z42 f40 f41 f42 z50 z51 z52 z53 z54 z55 f50 f51 f52 f53 f54 f55 z80 z81 z82 z83 z84 z85 z86 z87 z88 f80 f81 f82 f83 f84 f85 f86 f87 f88
       obtain ⟨z20, z21, z22, f20, f21, f22⟩ := cells3 B2.out; obtain ⟨z30, z31, z32, z33, z34, z35, z36, z37, z38, z39, z310, z311⟩ := cells12z B3.out; obtain ⟨z40, z41, z42, f40, f41, f42⟩ := cells3 B4.out; obtain ⟨z50, z51, z52, z53, z54, z55, f50, f51, f52, f53, f54, f55⟩ := cells6 B5.out; obtain ⟨z80, z81, z82, z83, z84, z85, z86, z87, z88, f80, f81, f82, f83, f84, f85, f86, f87, f88⟩ := cells9 B8.out
       go_wp2
       go_roundg k1
       case measure => omega
       case rel => exact ⟨t + 1, _, rfl, ⟨by have := HXT.out; subst this; exact Go.Proofs.Ytlfonfceaiiinaa.PB.wrap_succ (n := (rd_T45 l0 i).f6.length) (by omega) (by have := N14.out; omega)⟩, ⟨by have := HK.out; omega⟩, HL⟩
   · have dt : decide (x < ((rd_T45 l0 i).f6.length : Int)) = false := decide_eq_false (by have := HXT.out; omega)
     replace HB := qM (below_step HB.out HL.out)
     obtain ⟨S1, hS1⟩ : ∃ S, wr.heap.size = S := ⟨_, rfl⟩
     have Z := qM (show S1 ≤ wr.heap.size from Nat.le_of_eq hS1.symm)
     have M2 := qM (show g2 < S1 from hS1 ▸ blk_lt B2.out)
     have M3 := qM (show g3 < S1 from hS1 ▸ blk_lt B3.out)
     have M4 := qM (show g4 < S1 from hS1 ▸ blk_lt B4.out)
     have M5 := qM (show g5 < S1 from hS1 ▸ blk_lt B5.out)
     have M8 := qM (show g8 < S1 from hS1 ▸ blk_lt B8.out)
     clear hS1
     have J2 := B2
     have J3 := B3
     have J4 := B4
     have J5 := B5
     have J8 := B8
     have JB := HB
     go_wp2_with (first | ((with_reducible refine gate_dst (N := 227) rfl ?_); refine own_litL k75 75 rfl (N := 227) rfl (xs := []) (inner := []) (by first | (go_simp; done) | (go_simp; rfl)) (Reps.none _ _) (by simp) ?_; intro vt w3 ho hb; obtain ⟨At, ct3, et, hct, hrt⟩ := Kd.R_reads ho; dsimp only [List.length_nil] at et; subst et; have HO := qM ho; have HW3 := qM hb; clear ho hb hct hrt; have B2 := qM (blk_below J2.out HW3.out); have B3 := qM (blk_below J3.out HW3.out); have B4 := qM (blk_below J4.out HW3.out); have B5 := qM (blk_below J5.out HW3.out); have B8 := qM (blk_below J8.out HW3.out); have HB := qM (below_step JB.out HW3.out); clear z20 z21 z22 f20 f21 f22 z30 z31 z32 z33 z34 z35 z36 z37 z38 z39 z310 z311 z40 z41 z42 f40 f41 f42 z50 z51 z52 z53 z54 z55 f50 f51 f52 f53 f54 f55 z80 z81 z82 z83 z84 z85 z86 z87 z88 f80 f81 f82 f83 f84 f85 f86 f87 f88; obtain ⟨z20, z21, z22, f20, f21, f22⟩ := cells3 B2.out; obtain ⟨z30, z31, z32, z33, z34, z35, z36, z37, z38, z39, z310, z311⟩ := cells12z B3.out; obtain ⟨z40, z41, z42, f40, f41, f42⟩ := cells3 B4.out; obtain ⟨z50, z51, z52, z53, z54, z55, f50, f51, f52, f53, f54, f55⟩ := cells6 B5.out; obtain ⟨z80, z81, z82, z83, z84, z85, z86, z87, z88, f80, f81, f82, f83, f84, f85, f86, f87, f88⟩ := cells9 B8.out) | ((with_reducible refine gate_dst (N := 230) rfl ?_); refine own_appL k75 wr.heap.size rfl (N := 230) rfl (.tmp 227) (.tmp 229) 40 75 (.agg #[.int .i64 0, .int .i64 0]) 16 rfl Try.underlying40 infoPlace rfl (by decide) (by omega) _ [] (rd_T45 l0 i).f6 A6 _ c6 (by rfl) (by rfl) HO.out (Kd.C_below (Kd.F_now HI6.out) HB.out) (fun _ _ h => h) HW3.out.size (by have := N14.out; simp only [List.length_nil]; omega) ?_; intro v1 w4 ho hb hg; obtain ⟨LN, eLN⟩ : ∃ L : List S75, L = [] ++ (rd_T45 l0 i).f6 := ⟨_, rfl⟩; rw [← eLN] at ho; have HLN := qM (show LN.length = (rd_T45 l0 i).f6.length by rw [eLN]; rfl); clear eLN; obtain ⟨gN, cN, eN, hgN, hlN, curN, hcN⟩ := Kd.R_form ho (by have := HLN.out; omega); subst eN; have HO2 := qM ho; have HCN := qM hcN; have HGN := qM hgN; have HW4 := qM (HW3.out.trans hb); clear ho hb hg hcN hgN hlN HO HW3; clear HB; clear B2 B3 B4 B5 B8; have B2 := qM (blk_below J2.out HW4.out); have B3 := qM (blk_below J3.out HW4.out); have B4 := qM (blk_below J4.out HW4.out); have B5 := qM (blk_below J5.out HW4.out); have B8 := qM (blk_below J8.out HW4.out); have HB := qM (below_step JB.out HW4.out); clear z20 z21 z22 f20 f21 f22 z30 z31 z32 z33 z34 z35 z36 z37 z38 z39 z310 z311 z40 z41 z42 f40 f41 f42 z50 z51 z52 z53 z54 z55 f50 f51 f52 f53 f54 f55 z80 z81 z82 z83 z84 z85 z86 z87 z88 f80 f81 f82 f83 f84 f85 f86 f87 f88; obtain ⟨z20, z21, z22, f20, f21, f22⟩ := cells3 B2.out; obtain ⟨z30, z31, z32, z33, z34, z35, z36, z37, z38, z39, z310, z311⟩ := cells12z B3.out; obtain ⟨z40, z41, z42, f40, f41, f42⟩ := cells3 B4.out; obtain ⟨z50, z51, z52, z53, z54, z55, f50, f51, f52, f53, f54, f55⟩ := cells6 B5.out; obtain ⟨z80, z81, z82, z83, z84, z85, z86, z87, z88, f80, f81, f82, f83, f84, f85, f86, f87, f88⟩ := cells9 B8.out))
     have hp0 := held HB.out HP0.out
     have hp1 := held HB.out HP1.out
     refine start_ (n := 9) (S := fun w' => w'.heap[g3]? = some (.cells #[.int .i64 c.f0, .int .i64 c.f1, .int .i64 c.f2, .string c.f3, .int .i64 c.f4, .int .i64 c.f5, .int .i64 c.f6, .int .u32 c.f7, .int .i64 c.f8, .int .i64 c.f9, .int .i64 c.f10, .slice (some ad0) c.f11.length c3] 42 (0, 0)) ∧ w'.cell? ad0 = some (.int .i64 (rd_T75 c.f11 0).f0) ∧ w'.cell? ⟨ad0.block, ad0.off + 1, none⟩ = some (.int .i64 (rd_T75 c.f11 0).f1)) (ds := [8]) #[false, false, false, false, false, false, false, false, false] (by kernel_rfl) rfl rfl ⟨qD B3.out, hp0, hp1⟩ (fun hHeld => ?_)
     replace HO2 := qM (Own.below HO2.out (below_drew1 (Below.refl _ w4)))
     replace HCN := qM (qD HCN.out)
     generalize hw : w4.drew = w14 at hHeld HO2 HCN ⊢
     replace B2 := qM (show w14.heap[g2]? = _ from hw ▸ qD B2.out)
     replace B3 := qM (show w14.heap[g3]? = _ from hw ▸ qD B3.out)
     replace B4 := qM (show w14.heap[g4]? = _ from hw ▸ qD B4.out)
     replace B5 := qM (show w14.heap[g5]? = _ from hw ▸ qD B5.out)
     replace B8 := qM (show w14.heap[g8]? = _ from hw ▸ qD B8.out)
     replace HB := qM (show Below w.heap.size w w14 from hw ▸ below_drew1 HB.out)
     have HWX := qM (show Below wr.heap.size wr w14 from hw ▸ below_drew1 HW4.out)
     clear z20 z21 z22 f20 f21 f22 z30 z31 z32 z33 z34 z35 z36 z37 z38 z39 z310 z311 z40 z41 z42 f40 f41 f42 z50 z51 z52 z53 z54 z55 f50 f51 f52 f53 f54 f55 z80 z81 z82 z83 z84 z85 z86 z87 z88 f80 f81 f82 f83 f84 f85 f86 f87 f88
     clear hw hp0 hp1
     have p4 : (0 ≤ c.f10) = True := eq_true h10
     have p5 : (c.f10 < (LN.length : Int)) = True := eq_true (by have := HLN.out; omega)
     refine pure_ (i := 0) (N := some 231) (v := ?_) (a' := ?_) #[true, false, false, false, false, false, false, false, false] rfl rfl (by kernel_rfl) (fun _ _ _ h => h) (Or.inl ⟨by rfl, ?_⟩) ?_ ?_
     rotate_left
     · intro w'; go_simp; with_reducible rfl
     rotate_left
     · simp only [Act.put, xA, xZ, xS, i64_w, i32_w]; rfl
     refine pure_ (i := 1) (N := some 232) (v := ?_) (a' := ?_) #[true, true, false, false, false, false, false, false, false] rfl rfl (by kernel_rfl) (fun _ _ _ h => h) (Or.inl ⟨by rfl, ?_⟩) ?_ ?_
     rotate_left
     · intro w'; go_simp; with_reducible rfl
     rotate_left
     · simp only [Act.put, xA, xZ, xS, i64_w, i32_w]; rfl
     refine take_ (i := 2) (N := some 233) (v := ?_) (a' := ?_) #[true, true, true, false, false, false, false, false, false] rfl rfl (by kernel_rfl) (fun _ _ _ h => h) (Or.inl ⟨by rfl, ?_⟩) hHeld ?_ ?_
     rotate_left
     · rintro w' ⟨b3, s0, s1⟩; obtain ⟨z30, z31, z32, z33, z34, z35, z36, z37, z38, z39, z310, z311, f30, f31, f32, f33, f34, f35, f36, f37, f38, f39, f310, f311⟩ := cells12 b3; go_simp; with_reducible rfl
     rotate_left
     · simp only [Act.put, xA, xZ, xS, i64_w, i32_w]; rfl
     refine pure_ (i := 3) (N := some 234) (v := ?_) (a' := ?_) #[true, true, true, true, false, false, false, false, false] rfl rfl (by kernel_rfl) (fun _ _ _ h => h) (Or.inl ⟨by rfl, ?_⟩) ?_ ?_
     rotate_left
     · intro w'; go_simp; with_reducible rfl
     rotate_left
     · simp only [Act.put, xA, xZ, xS, i64_w, i32_w]; rfl
     refine take_ (i := 4) (N := some 235) (v := ?_) (a' := ?_) #[true, true, true, true, true, false, false, false, false] rfl rfl (by kernel_rfl) (fun _ _ _ h => h) (Or.inl ⟨by rfl, ?_⟩) hHeld ?_ ?_
     rotate_left
     · rintro w' ⟨b3, s0, s1⟩; obtain ⟨z30, z31, z32, z33, z34, z35, z36, z37, z38, z39, z310, z311, f30, f31, f32, f33, f34, f35, f36, f37, f38, f39, f310, f311⟩ := cells12 b3; go_simp; with_reducible rfl
     rotate_left
     · simp only [Act.put, xA, xZ, xS, i64_w, i32_w]; rfl
     refine pure_ (i := 5) (N := some 236) (v := ?_) (a' := ?_) #[true, true, true, true, true, true, false, false, false] rfl rfl (by kernel_rfl) (fun _ _ _ h => h) (Or.inl ⟨by rfl, ?_⟩) ?_ ?_
     rotate_left
     · intro w'; go_simp; with_reducible rfl
     rotate_left
     · simp only [Act.put, xA, xZ, xS, i64_w, i32_w]; rfl
     refine take_ (i := 6) (N := some 237) (v := ?_) (a' := ?_) #[true, true, true, true, true, true, true, false, false] rfl rfl (by kernel_rfl) (fun _ _ _ h => h) (Or.inl ⟨by rfl, ?_⟩) hHeld ?_ ?_
     rotate_left
     · rintro w' ⟨b3, s0, s1⟩; obtain ⟨z30, z31, z32, z33, z34, z35, z36, z37, z38, z39, z310, z311, f30, f31, f32, f33, f34, f35, f36, f37, f38, f39, f310, f311⟩ := cells12 b3; go_simp; with_reducible rfl
     rotate_left
     · simp only [Act.put, xA, xZ, xS, i64_w, i32_w]; rfl
     refine pure_ (i := 7) (N := some 238) (v := ?_) (a' := ?_) #[true, true, true, true, true, true, true, true, false] rfl rfl (by kernel_rfl) (fun _ _ _ h => h) (Or.inl ⟨by rfl, ?_⟩) ?_ ?_
     rotate_left
     · intro w'; go_simp; with_reducible rfl
     rotate_left
     · simp only [Act.put, xA, xZ, xS, i64_w, i32_w]; rfl
     obtain ⟨adN, eN, hn0, hn1⟩ := at_T75 (Kd.R_reads' HO2.out).2.2 c.f10 h10 (by have := HLN.out; omega)
     cases eN
     rw [add_off] at hn0 hn1
     have zN0 := hn0
     have zN1 := hn1
     clear hn0 hn1
     have fN0 := blk_frozen HCN.out (c.f10.toNat * 2)
     have fN1 := blk_frozen HCN.out (c.f10.toNat * 2 + 1)
     obtain ⟨hseg, hgs⟩ := Kd.R_seg HO2.out c.f10 h10 (by have := HLN.out; omega) (c := [.int .i64 (rd_T75 LN c.f10).f0, .int .i64 (rd_T75 LN c.f10).f1]) (seg := [.int .i64 (rd_T75 c.f11 0).f0, .int .i64 (rd_T75 c.f11 0).f1]) (j := 0) rfl (fun j u hj => by rcases j with _ | _ | j; (cases hj; exact zN0); (cases hj; exact zN1); (simp at hj)) (show (2 : Nat) ≤ 2 from Nat.le_refl 2) (x' := (⟨(rd_T75 c.f11 0).f0, (rd_T75 c.f11 0).f1⟩ : S75)) (k75_mkM _ _ (fun _ => False) _) (fun _ h => h.elim)
     have HSEG := qM hseg
     have HGS := qM hgs
     clear hseg hgs
     refine last_ (i := 8) (N := none) #[true, true, true, true, true, true, true, true, true] rfl rfl (by kernel_rfl) (by decide) (fun K hK => ?_)
     refine skip_ (w1 := w14.setCells gN (c.f10.toNat * k75.sz + 0) [.int .i64 (rd_T75 c.f11 0).f0, .int .i64 (rd_T75 c.f11 0).f1]) (by rfl) rfl ?_ ?_
     · go_simp; rfl
     refine hK.out _ _ ?_
     clear hK K zN0 zN1 fN0 fN1
     refine done_ (by kernel_rfl) ?_
     generalize w14.setCells gN (c.f10.toNat * k75.sz + 0) [.int .i64 (rd_T75 c.f11 0).f0, .int .i64 (rd_T75 c.f11 0).f1] = w15 at HSEG HGS ⊢
     replace B2 := qM ((HGS.out.block g2 (blk_lt B2.out) (fun h => by injection h with h; have := M2.out; have := Z.out; have := HGN.out; omega)).trans B2.out)
     replace B3 := qM ((HGS.out.block g3 (blk_lt B3.out) (fun h => by injection h with h; have := M3.out; have := Z.out; have := HGN.out; omega)).trans B3.out)
     replace B4 := qM ((HGS.out.block g4 (blk_lt B4.out) (fun h => by injection h with h; have := M4.out; have := Z.out; have := HGN.out; omega)).trans B4.out)
     replace B5 := qM ((HGS.out.block g5 (blk_lt B5.out) (fun h => by injection h with h; have := M5.out; have := Z.out; have := HGN.out; omega)).trans B5.out)
     replace B8 := qM ((HGS.out.block g8 (blk_lt B8.out) (fun h => by injection h with h; have := M8.out; have := Z.out; have := HGN.out; omega)).trans B8.out)
     have HSB := qM (show Below wr.heap.size w14 w15 from ⟨HGS.out.os, HGS.out.tape, HGS.out.output, HGS.out.size, fun k hk => HGS.out.block k (Nat.lt_of_lt_of_le hk HWX.out.size) (fun h => by injection h with h; have := HGN.out; omega)⟩)
     replace HB := qM (below_step JB.out (HWX.out.trans HSB.out))
     obtain ⟨L6, eL6⟩ : ∃ L, L = LN.set c.f10.toNat (⟨(rd_T75 c.f11 0).f0, (rd_T75 c.f11 0).f1⟩ : S75) := ⟨_, rfl⟩
     rw [← eL6] at HSEG
     have HL6' := qM (show L6.length = (rd_T45 l0 i).f6.length by rw [eL6, List.length_set]; exact HLN.out)
     clear eL6
     have HN6 := qM (show SF Pq k75 w.heap.size S1 w15 (.slice (some ⟨gN, 0, none⟩) LN.length cN) L6 from SF.of_own HSEG.out Z.out (fun q hq => HPQ.out q (Nat.le_trans JB.out.size hq)))
     replace Z := qM (show S1 ≤ w15.heap.size from Nat.le_trans Z.out (Nat.le_trans HWX.out.size HGS.out.size))
     obtain ⟨z20, z21, z22, f20, f21, f22⟩ := cells3 B2.out; obtain ⟨z30, z31, z32, z33, z34, z35, z36, z37, z38, z39, z310, z311⟩ := cells12z B3.out; obtain ⟨z40, z41, z42, f40, f41, f42⟩ := cells3 B4.out; obtain ⟨z50, z51, z52, z53, z54, z55, f50, f51, f52, f53, f54, f55⟩ := cells6 B5.out; obtain ⟨z80, z81, z82, z83, z84, z85, z86, z87, z88, f80, f81, f82, f83, f84, f85, f86, f87, f88⟩ := cells9 B8.out
     go_wp2
     generalize hst : (w15.setCell ⟨g8, 6, none⟩ (.slice (some ⟨gN, 0, none⟩) LN.length cN)) = wf
     replace B2 := qM (show wf.heap[g2]? = _ from hst ▸ (blk_far B2.out N28.out (.slice (some ⟨gN, 0, none⟩) LN.length cN)))
     replace B3 := qM (show wf.heap[g3]? = _ from hst ▸ (blk_far B3.out N38.out (.slice (some ⟨gN, 0, none⟩) LN.length cN)))
     replace B4 := qM (show wf.heap[g4]? = _ from hst ▸ (blk_far B4.out N48.out (.slice (some ⟨gN, 0, none⟩) LN.length cN)))
     replace B5 := qM (show wf.heap[g5]? = _ from hst ▸ (blk_far B5.out N58.out (.slice (some ⟨gN, 0, none⟩) LN.length cN)))
     replace B8 := qM (show wf.heap[g8]? = some (.cells #[.int .i64 (rd_T45 l0 i).f0, .int .i64 (rd_T45 l0 i).f1, .int .i64 (rd_T45 l0 i).f2, .int .i64 (rd_T45 l0 i).f3, .int .i64 (rd_T45 l0 i).f4, .slice A5 (rd_T45 l0 i).f5.length c5, .slice (some ⟨gN, 0, none⟩) LN.length cN, .int .i64 (rd_T45 l0 i).f7, .int .i64 (rd_T45 l0 i).f8] 45 (0, 0)) from hst ▸ (blk_put B8.out 6 (.slice (some ⟨gN, 0, none⟩) LN.length cN) rfl))
     replace HB := qM (show Below w.heap.size w wf from hst ▸ (HB.out.setCell (p := ⟨g8, 6, none⟩) G8.out (.slice (some ⟨gN, 0, none⟩) LN.length cN)))
     replace HN6 := qM (show SF Pq k75 w.heap.size S1 wf (.slice (some ⟨gN, 0, none⟩) LN.length cN) L6 from hst ▸ (SF.far (p := ⟨g8, 6, none⟩) HN6.out G8.out M8.out (.slice (some ⟨gN, 0, none⟩) LN.length cN)))
     have hz : wf.heap.size = w15.heap.size := hst ▸ (Eq.trans (World.size_set _ ⟨g8, 6, none⟩ (.slice (some ⟨gN, 0, none⟩) LN.length cN)) (rfl : w15.heap.size = _))
     replace Z := qM (show S1 ≤ wf.heap.size by rw [hz]; exact Z.out)
     clear hz
     clear hst
     clear z20 z21 z22 f20 f21 f22 z30 z31 z32 z33 z34 z35 z36 z37 z38 z39 z310 z311 z40 z41 z42 f40 f41 f42 z50 z51 z52 z53 z54 z55 f50 f51 f52 f53 f54 f55 z80 z81 z82 z83 z84 z85 z86 z87 z88 f80 f81 f82 f83 f84 f85 f86 f87 f88
     obtain ⟨z20, z21, z22, f20, f21, f22⟩ := cells3 B2.out; obtain ⟨z30, z31, z32, z33, z34, z35, z36, z37, z38, z39, z310, z311⟩ := cells12z B3.out; obtain ⟨z40, z41, z42, f40, f41, f42⟩ := cells3 B4.out; obtain ⟨z50, z51, z52, z53, z54, z55, f50, f51, f52, f53, f54, f55⟩ := cells6 B5.out; obtain ⟨z80, z81, z82, z83, z84, z85, z86, z87, z88, f80, f81, f82, f83, f84, f85, f86, f87, f88⟩ := cells9 B8.out
     refine start_ (n := 11) (S := fun w' => w'.heap[g2]? = some (.cells #[.slice (some ad) l0.length c0, .slice A1 l1.length c1, .slice A2 l2.length c2] 26 (0, 0)) ∧ w'.heap[g3]? = some (.cells #[.int .i64 c.f0, .int .i64 c.f1, .int .i64 c.f2, .string c.f3, .int .i64 c.f4, .int .i64 c.f5, .int .i64 c.f6, .int .u32 c.f7, .int .i64 c.f8, .int .i64 c.f9, .int .i64 c.f10, .slice (some ad0) c.f11.length c3] 42 (0, 0)) ∧ w'.heap[g8]? = some (.cells #[.int .i64 (rd_T45 l0 i).f0, .int .i64 (rd_T45 l0 i).f1, .int .i64 (rd_T45 l0 i).f2, .int .i64 (rd_T45 l0 i).f3, .int .i64 (rd_T45 l0 i).f4, .slice A5 (rd_T45 l0 i).f5.length c5, .slice (some ⟨gN, 0, none⟩) LN.length cN, .int .i64 (rd_T45 l0 i).f7, .int .i64 (rd_T45 l0 i).f8] 45 (0, 0))) (ds := [10]) #[false, false, false, false, false, false, false, false, false, false, false] (by kernel_rfl) rfl rfl ⟨qD B2.out, qD B3.out, qD B8.out⟩ (fun hHeld => ?_)
     generalize hw : wf.drew = w14 at hHeld ⊢
     replace B2 := qM (show w14.heap[g2]? = _ from hw ▸ qD B2.out)
     replace B3 := qM (show w14.heap[g3]? = _ from hw ▸ qD B3.out)
     replace B4 := qM (show w14.heap[g4]? = _ from hw ▸ qD B4.out)
     replace B5 := qM (show w14.heap[g5]? = _ from hw ▸ qD B5.out)
     replace B8 := qM (show w14.heap[g8]? = _ from hw ▸ qD B8.out)
     replace HB := qM (show Below w.heap.size w w14 from hw ▸ below_drew1 HB.out)
     replace HN6 := qM (show SF Pq k75 w.heap.size S1 w14 (.slice (some ⟨gN, 0, none⟩) LN.length cN) L6 from hw ▸ Kd.V_drew HN6.out)
     replace Z := qM (show S1 ≤ w14.heap.size from hw ▸ Z.out)
     clear z20 z21 z22 f20 f21 f22 z30 z31 z32 z33 z34 z35 z36 z37 z38 z39 z310 z311 z40 z41 z42 f40 f41 f42 z50 z51 z52 z53 z54 z55 f50 f51 f52 f53 f54 f55 z80 z81 z82 z83 z84 z85 z86 z87 z88 f80 f81 f82 f83 f84 f85 f86 f87 f88
     clear hw
     refine take_ (i := 0) (N := some 241) (v := ?_) (a' := ?_) #[true, false, false, false, false, false, false, false, false, false, false] rfl rfl (by kernel_rfl) (fun _ _ _ h => h) (Or.inl ⟨by rfl, ?_⟩) hHeld ?_ ?_
     rotate_left
     · rintro w' ⟨b2, b3, b8⟩; obtain ⟨z20, z21, z22, f20, f21, f22⟩ := cells3 b2; obtain ⟨z30, z31, z32, z33, z34, z35, z36, z37, z38, z39, z310, z311, f30, f31, f32, f33, f34, f35, f36, f37, f38, f39, f310, f311⟩ := cells12 b3; obtain ⟨z80, z81, z82, z83, z84, z85, z86, z87, z88, f80, f81, f82, f83, f84, f85, f86, f87, f88⟩ := cells9 b8; go_simp; with_reducible rfl
     rotate_left
     · simp only [Act.put, xA, xZ, xS, i64_w, i32_w]; rfl
     refine pure_ (i := 1) (N := some 242) (v := ?_) (a' := ?_) #[true, true, false, false, false, false, false, false, false, false, false] rfl rfl (by kernel_rfl) (fun _ _ _ h => h) (Or.inl ⟨by rfl, ?_⟩) ?_ ?_
     rotate_left
     · intro w'; go_simp; with_reducible rfl
     rotate_left
     · simp only [Act.put, xA, xZ, xS, i64_w, i32_w]; rfl
     refine take_ (i := 2) (N := some 243) (v := ?_) (a' := ?_) #[true, true, true, false, false, false, false, false, false, false, false] rfl rfl (by kernel_rfl) (fun _ _ _ h => h) (Or.inl ⟨by rfl, ?_⟩) hHeld ?_ ?_
     rotate_left
     · rintro w' ⟨b2, b3, b8⟩; obtain ⟨z20, z21, z22, f20, f21, f22⟩ := cells3 b2; obtain ⟨z30, z31, z32, z33, z34, z35, z36, z37, z38, z39, z310, z311, f30, f31, f32, f33, f34, f35, f36, f37, f38, f39, f310, f311⟩ := cells12 b3; obtain ⟨z80, z81, z82, z83, z84, z85, z86, z87, z88, f80, f81, f82, f83, f84, f85, f86, f87, f88⟩ := cells9 b8; go_simp; with_reducible rfl
     rotate_left
     · simp only [Act.put, xA, xZ, xS, i64_w, i32_w]; rfl
     refine pure_ (i := 4) (N := some 245) (v := ?_) (a' := ?_) #[true, true, true, false, true, false, false, false, false, false, false] rfl rfl (by kernel_rfl) (fun _ _ _ h => h) (Or.inl ⟨by rfl, ?_⟩) ?_ ?_
     rotate_left
     · intro w'; go_simp; with_reducible rfl
     rotate_left
     · simp only [Act.put, xA, xZ, xS, i64_w, i32_w]; rfl
     refine take_ (i := 5) (N := some 246) (v := ?_) (a' := ?_) #[true, true, true, false, true, true, false, false, false, false, false] rfl rfl (by kernel_rfl) (fun _ _ _ h => h) (Or.inl ⟨by rfl, ?_⟩) hHeld ?_ ?_
     rotate_left
     · rintro w' ⟨b2, b3, b8⟩; obtain ⟨z20, z21, z22, f20, f21, f22⟩ := cells3 b2; obtain ⟨z30, z31, z32, z33, z34, z35, z36, z37, z38, z39, z310, z311, f30, f31, f32, f33, f34, f35, f36, f37, f38, f39, f310, f311⟩ := cells12 b3; obtain ⟨z80, z81, z82, z83, z84, z85, z86, z87, z88, f80, f81, f82, f83, f84, f85, f86, f87, f88⟩ := cells9 b8; go_simp; with_reducible rfl
     rotate_left
     · simp only [Act.put, xA, xZ, xS, i64_w, i32_w]; rfl
     refine pure_ (i := 6) (N := some 247) (v := ?_) (a' := ?_) #[true, true, true, false, true, true, true, false, false, false, false] rfl rfl (by kernel_rfl) (fun _ _ _ h => h) (Or.inl ⟨by rfl, ?_⟩) ?_ ?_
     rotate_left
     · intro w'; go_simp; with_reducible rfl
     rotate_left
     · simp only [Act.put, xA, xZ, xS, i64_w, i32_w]; rfl
     refine take_ (i := 7) (N := some 248) (v := ?_) (a' := ?_) #[true, true, true, false, true, true, true, true, false, false, false] rfl rfl (by kernel_rfl) (fun _ _ _ h => h) (Or.inl ⟨by rfl, ?_⟩) hHeld ?_ ?_
     rotate_left
     · rintro w' ⟨b2, b3, b8⟩; obtain ⟨z20, z21, z22, f20, f21, f22⟩ := cells3 b2; obtain ⟨z30, z31, z32, z33, z34, z35, z36, z37, z38, z39, z310, z311, f30, f31, f32, f33, f34, f35, f36, f37, f38, f39, f310, f311⟩ := cells12 b3; obtain ⟨z80, z81, z82, z83, z84, z85, z86, z87, z88, f80, f81, f82, f83, f84, f85, f86, f87, f88⟩ := cells9 b8; go_simp; with_reducible rfl
     rotate_left
     · simp only [Act.put, xA, xZ, xS, i64_w, i32_w]; rfl
     refine pure_ (i := 8) (N := some 249) (v := ?_) (a' := ?_) #[true, true, true, false, true, true, true, true, true, false, false] rfl rfl (by kernel_rfl) (fun _ _ _ h => h) (Or.inl ⟨by rfl, ?_⟩) ?_ ?_
     rotate_left
     · intro w'; go_simp; with_reducible rfl
     rotate_left
     · simp only [Act.put, xA, xZ, xS, i64_w, i32_w]; rfl
     obtain ⟨z20, z21, z22, f20, f21, f22⟩ := cells3 B2.out; obtain ⟨z30, z31, z32, z33, z34, z35, z36, z37, z38, z39, z310, z311⟩ := cells12z B3.out; obtain ⟨z40, z41, z42, f40, f41, f42⟩ := cells3 B4.out; obtain ⟨z50, z51, z52, z53, z54, z55, f50, f51, f52, f53, f54, f55⟩ := cells6 B5.out; obtain ⟨z80, z81, z82, z83, z84, z85, z86, z87, z88, f80, f81, f82, f83, f84, f85, f86, f87, f88⟩ := cells9 B8.out
     refine one_ (i := 3) (N := some 244) #[true, true, true, true, true, true, true, true, true, false, false] rfl rfl (by kernel_rfl) (by decide) (fun K hK => ?_)
     go_simp
     (refine (with_SF Pq w.heap.size S1 _ _ _ l0 l1 l2 i (⟨(rd_T45 l0 i).f0, (rd_T45 l0 i).f1, (rd_T45 l0 i).f2, (rd_T45 l0 i).f3, (rd_T45 l0 i).f4, (rd_T45 l0 i).f5, L6, (rd_T45 l0 i).f7, (rd_T45 l0 i).f8⟩ : S45) _ _ _ ((SF.of_slP HS0.out).below HB.out) ((SF.of_slP HS1.out).below HB.out) ((SF.of_slP HS2.out).below HB.out) ((SF.of_slP ⟨A5, c5, rfl, HL5.out, HI5.out⟩).below HB.out) HN6.out Z.out (fun q hq => HPQ.out q (Nat.le_trans HB.out.size hq)) (by have := HG.out.2.2.1; omega) cl).mono ?_; rintro e w1 ⟨u0, u1, u2, rfl, hu0, hu1, hu2, hb⟩; rw [if_neg (show ¬i < 0 by omega)] at hu0; obtain ⟨L0, eL⟩ : ∃ L, L = l0.set i.toNat (⟨(rd_T45 l0 i).f0, (rd_T45 l0 i).f1, (rd_T45 l0 i).f2, (rd_T45 l0 i).f3, (rd_T45 l0 i).f4, (rd_T45 l0 i).f5, L6, (rd_T45 l0 i).f7, (rd_T45 l0 i).f8⟩ : S45) := ⟨_, rfl⟩; rw [← eL] at hu0; have EL0 := qM eL; clear eL; obtain ⟨D0, d0, rfl⟩ := Kd.V_slice hu0; obtain ⟨D1, d1, rfl⟩ := Kd.V_slice hu1; obtain ⟨D2, d2, rfl⟩ := Kd.V_slice hu2; replace Z := qM (Nat.le_trans Z.out hb.size); have HU0 := qM hu0; have HU1 := qM hu1; have HU2 := qM hu2; clear hu0 hu1 hu2; replace B2 := bb B2 hb; replace B3 := bb B3 hb; replace B4 := bb B4 hb; replace B5 := bb B5 hb; replace B8 := bb B8 hb; replace HB := qM (below_step HB.out hb); clear z20 z21 z22 f20 f21 f22 z30 z31 z32 z33 z34 z35 z36 z37 z38 z39 z310 z311 z40 z41 z42 f40 f41 f42 z50 z51 z52 z53 z54 z55 f50 f51 f52 f53 f54 f55 z80 z81 z82 z83 z84 z85 z86 z87 z88 f80 f81 f82 f83 f84 f85 f86 f87 f88; clear hb; obtain ⟨z20, z21, z22, f20, f21, f22⟩ := cells3 B2.out; obtain ⟨z30, z31, z32, z33, z34, z35, z36, z37, z38, z39, z310, z311⟩ := cells12z B3.out; obtain ⟨z40, z41, z42, f40, f41, f42⟩ := cells3 B4.out; obtain ⟨z50, z51, z52, z53, z54, z55, f50, f51, f52, f53, f54, f55⟩ := cells6 B5.out; obtain ⟨z80, z81, z82, z83, z84, z85, z86, z87, z88, f80, f81, f82, f83, f84, f85, f86, f87, f88⟩ := cells9 B8.out)
     dsimp only
     refine hK.out _ _ ⟨B2.out, B3.out, B8.out⟩ (fun _ => ?_)
     clear hK K
     refine one_ (i := 9) (N := none) #[true, true, true, true, true, true, true, true, true, true, false] rfl rfl (by kernel_rfl) (by decide) (fun K hK => ?_)
     refine skip_ (w1 := ?_) (by rfl) rfl ?_ ?_
     rotate_left
     · go_simp; rfl
     refine hK.out _ _ ⟨(blk_far (blk_far (blk_far B2.out N24.out (.slice D0 L0.length d0)) N24.out (.slice D1 l1.length d1)) N24.out (.slice D2 l2.length d2)), (blk_far (blk_far (blk_far B3.out N34.out (.slice D0 L0.length d0)) N34.out (.slice D1 l1.length d1)) N34.out (.slice D2 l2.length d2)), (blk_far (blk_far (blk_far B8.out (Ne.symm N48.out) (.slice D0 L0.length d0)) (Ne.symm N48.out) (.slice D1 l1.length d1)) (Ne.symm N48.out) (.slice D2 l2.length d2))⟩ (fun _ => ?_)
     clear hK K
     refine last_ (i := 10) (N := none) #[true, true, true, true, true, true, true, true, true, true, true] rfl rfl (by kernel_rfl) (by decide) (fun K hK => ?_)
     refine skip_ (w1 := ?_) (by rfl) rfl ?_ ?_
     rotate_left
     · go_simp; rfl
     refine hK.out _ _ ?_
     clear hK K
     refine done_ (by kernel_rfl) ?_
     repeat go_step
     exact fin_sf rfl (⟨0, (rd_T45 l0 i).f0, 0, c.f10, 0, false⟩ : Rep) B4 B5 N45 HB G4 G5 M4 M5 HU0 HU1 HU2 ((keep_good HG.out i ci cl (⟨(rd_T45 l0 i).f0, (rd_T45 l0 i).f1, (rd_T45 l0 i).f2, (rd_T45 l0 i).f3, (rd_T45 l0 i).f4, (rd_T45 l0 i).f5, L6, (rd_T45 l0 i).f7, (rd_T45 l0 i).f8⟩ : S45) L0 EL0.out rfl rfl HL6'.out)) rfl rfl rfl

end Go.Proofs.Ytlfonfceaiiinaa.PAll
