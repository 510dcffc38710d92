/- does: kind 7, and what the others refuse. -/
import Derived.Test.YtlfonfceaiiinaaIxDoesH
namespace Go.Proofs.Ytlfonfceaiiinaa.PAll
open Go.RowKit Go.Proofs.YtlfonfceaiiinaaW.PrintWords Go.Proofs.YtlfonfceaiiinaaW.PrintLast Go.Proofs.YtlfonfceaiiinaaW.PrintMore
set_option linter.unusedVariables false
set_option linter.unusedSimpArgs false
attribute [local irreducible] World.setCell
attribute [local go_sem high] eqA75
set_option maxHeartbeats 40000000 in
set_option maxRecDepth 100000 in
theorem does_n3 (Pq : Nat → Prop) (v0 v1 v2 v : Value) (l0 : List Vol) (l1 : List Nam) (l2 : List Ses) (c : Cmd) (w : World) (hPq : ∀ q, w.heap.size ≤ q → Pq q) (h0 : SlP Pq k45 w v0 l0) (h1 : SlP Pq k92 w v1 l1) (h2 : SlP Pq k64 w v2 l2) (h3 : SlP Pq k75 w v c.f11) (n : Nat) (hg : Good n l0 l1) (hn : n ≤ 1000) (k1 : (c.f0 == 1) = false) (k3 : (c.f0 == 3) = false) (k4 : (c.f0 == 4) = false) (k5 : (c.f0 == 5) = false) (k8 : (c.f0 == 8) = false) (i : Int) (hva : VolC l0 l1 l2 c.f4 i) (ci : 0 ≤ i) (cl : i < (l0.length : Int)) (rw : Bool) (hwh : WhoC c.f11 (rd_T45 l0 i).f1 rw) (hd : ((c.f0 == 2) = true ∧ ((rd_T45 l0 i).f4 != 1) = true) ∨ ((c.f0 == 2) = true ∧ ((rd_T45 l0 i).f4 != 1) = false ∧ decide (c.f6 < 1) = true) ∨ ((c.f0 == 2) = true ∧ ((rd_T45 l0 i).f4 != 1) = false ∧ decide (c.f6 < 1) = false ∧ decide (c.f6 > 32) = true) ∨ ((c.f0 == 2) = true ∧ ((rd_T45 l0 i).f4 != 1) = false ∧ decide (c.f6 < 1) = false ∧ decide (c.f6 > 32) = false ∧ 1 ≤ c.f6 ∧ c.f6 ≤ 32 ∧ decide ((rd_T45 l0 i).f3 > 160 - c.f6) = true) ∨ ((c.f0 == 2) = false ∧ (c.f0 == 6) = true ∧ ((rd_T45 l0 i).f4 != 1) = true) ∨ ((c.f0 == 2) = false ∧ (c.f0 == 6) = false ∧ (c.f0 == 7) = true ∧ ((rd_T45 l0 i).f4 != 2) = true) ∨ ((c.f0 == 2) = false ∧ (c.f0 == 6) = false ∧ (c.f0 == 7) = false ∧ decide ((rd_T45 l0 i).f4 < 3) = true) ∨ ((c.f0 == 2) = false ∧ (c.f0 == 6) = false ∧ (c.f0 == 7) = true ∧ ((rd_T45 l0 i).f4 != 2) = false ∧ rw = false)) : Calls Try.prog 21 #[.agg #[v0, v1, v2], cmdV c v] w (Back Pq (n + 1) l2 w) := by
  obtain ⟨A0, c0, rfl, hc0, hr0⟩ := h0
  obtain ⟨A1, c1, rfl, hc1, hr1⟩ := h1
  obtain ⟨A2, c2, rfl, hc2, hr2⟩ := h2
  obtain ⟨A3, c3, rfl, hc3, hr3⟩ := h3
  have HS0 := qM (show SlP Pq k45 w (.slice A0 l0.length c0) l0 from ⟨A0, c0, rfl, hc0, hr0⟩)
  have HS1 := qM (show SlP Pq k92 w (.slice A1 l1.length c1) l1 from ⟨A1, c1, rfl, hc1, hr1⟩)
  have HS2 := qM (show SlP Pq k64 w (.slice A2 l2.length c2) l2 from ⟨A2, c2, rfl, hc2, hr2⟩)
  have HS3 := qM (show SlP Pq k75 w (.slice A3 c.f11.length c3) c.f11 from ⟨A3, c3, rfl, hc3, hr3⟩)
  have HR0 := qM hr0
  have HR1 := qM (Kd.F_now hr1)
  have HR2 := qM (Kd.F_now hr2)
  have HR3 := qM (Kd.F_now hr3)
  have HG := qM hg
  have HPQ := qM hPq
  clear hc0 hr0 hc1 hr1 hc2 hr2 hc3 hr3 hg hPq
  unfold cmdV
  have HN := qM hn
  clear hn
  have HVA := qM hva
  clear hva
  have d1 : decide (i < 0) = false := decide_eq_false (by omega)
  obtain ⟨ad, A5, c5, A6, c6, e, hx0, hx1, hx2, hx3, hx4, hx5, hx6, hx7, hx8, hl5, hi5, hl6, hi6⟩ := at_F45 HR0.out i ci cl
  cases e
  have HX := qM (And.intro hx0 (And.intro hx1 (And.intro hx2 (And.intro hx3 (And.intro hx4 (And.intro hx5 (And.intro hx6 (And.intro hx7 hx8))))))))
  have HI5 := qM hi5
  have HI6 := qM hi6
  have HL5 := qM hl5
  have HL6 := qM hl6
  clear hi5 hi6 hl5 hl6 hx0 hx1 hx2 hx3 hx4 hx5 hx6 hx7 hx8
  have p0 := eq_true ci
  have p1 := eq_true cl
  have HWH := qM hwh
  clear hwh
  rcases hd with ⟨e0, e1⟩ | ⟨e0, e1, e2⟩ | ⟨e0, e1, e2, e3⟩ | ⟨e0, e1, e2, e3, e4, e5, e6⟩ | ⟨e0, e1, e2⟩ | ⟨e0, e1, e2, e3⟩ | ⟨e0, e1, e2, e3⟩ | ⟨e0, e1, e2, e3, e4⟩
  all_goals
    go_enter Try.func21, Try.ntmps21
    go_wp2_with (first | ((with_reducible refine gate_dst (N := 2) rfl ?_); (try (refine gate_guard (by rfl) ?_; dsimp only)); refine box_event ?hg (N := 2) ?hd (cs := #[.slice (some ad) l0.length c0, .slice A1 l1.length c1, .slice A2 l2.length c2]) (t := 26) ?hr ?_; (case hd => rfl); (case hg => rfl); (case hr => first | (go_simp; done) | (go_simp; rfl)); intro g2 hg w_2 hk hb; have G2 := qM (show w.heap.size ≤ g2 by rw [hg]; exact Nat.le_refl _); have B2 := qM hk; have HB := qM (hb); clear hk hb hg; skip) | ((with_reducible refine gate_dst (N := 3) rfl ?_); (try (refine gate_guard (by rfl) ?_; dsimp only)); refine box_event ?hg (N := 3) ?hd (cs := #[.int .i64 c.f0, .int .i64 c.f1, .int .i64 c.f2, .string c.f3, .int .i64 c.f4, .int .i64 c.f5, .int .i64 c.f6, .int .u32 c.f7, .int .i64 c.f8, .int .i64 c.f9, .int .i64 c.f10, .slice A3 c.f11.length c3]) (t := 42) ?hr ?_; (case hd => rfl); (case hg => rfl); (case hr => first | (go_simp; done) | (go_simp; rfl)); intro g3 hg w_3 hk hb; have N23 := n1 B2 hg; have G3 := qM (show w.heap.size ≤ g3 by rw [hg]; exact HB.out.size); replace B2 := bb B2 hb; have B3 := qM hk; have HB := qM (below_step HB.out hb); clear hk hb hg; have ne23 := N23.out; have ne32 := Ne.symm N23.out; skip) | ((with_reducible refine gate_dst (N := 4) rfl ?_); (try (refine gate_guard (by rfl) ?_; dsimp only)); refine box_event ?hg (N := 4) ?hd (cs := #[.slice none 0 0, .slice none 0 0, .slice none 0 0]) (t := 26) ?hr ?_; (case hd => rfl); (case hg => rfl); (case hr => first | (go_simp; done) | (go_simp; rfl)); intro g4 hg w_4 hk hb; have N24 := n1 B2 hg; have N34 := n1 B3 hg; have G4 := qM (show w.heap.size ≤ g4 by rw [hg]; exact HB.out.size); replace B2 := bb B2 hb; replace B3 := bb B3 hb; have B4 := qM hk; have HB := qM (below_step HB.out hb); clear hk hb hg; have ne24 := N24.out; have ne42 := Ne.symm N24.out; have ne34 := N34.out; have ne43 := Ne.symm N34.out; skip) | ((with_reducible refine gate_dst (N := 5) rfl ?_); (try (refine gate_guard (by rfl) ?_; dsimp only)); refine box_event ?hg (N := 5) ?hd (cs := #[.int .i64 0, .int .i64 0, .int .i64 0, .int .i64 0, .int .u32 0, .bool false]) (t := 37) ?hr ?_; (case hd => rfl); (case hg => rfl); (case hr => first | (go_simp; done) | (go_simp; rfl)); intro g5 hg w_5 hk hb; have N25 := n1 B2 hg; have N35 := n1 B3 hg; have N45 := n1 B4 hg; have G5 := qM (show w.heap.size ≤ g5 by rw [hg]; exact HB.out.size); replace B2 := bb B2 hb; replace B3 := bb B3 hb; replace B4 := bb B4 hb; have B5 := qM hk; have HB := qM (below_step HB.out hb); clear hk hb hg; have ne25 := N25.out; have ne52 := Ne.symm N25.out; have ne35 := N35.out; have ne53 := Ne.symm N35.out; have ne45 := N45.out; have ne54 := Ne.symm N45.out; obtain ⟨z20, z21, z22, f20, f21, f22⟩ := cells3 B2.out; obtain ⟨z30, z31, z32, z33, z34, z35, z36, z37, z38, z39, z310, z311⟩ := cells12z B3.out; obtain ⟨z40, z41, z42, f40, f41, f42⟩ := cells3 B4.out; obtain ⟨z50, z51, z52, z53, z54, z55, f50, f51, f52, f53, f54, f55⟩ := cells6 B5.out) | (go_at_call 32; refine (HVA.out _ _ _ _ (HS0.out.below HB.out).sl (HS1.out.below HB.out).sl (HS2.out.below HB.out).sl).mono ?_; rintro e w1 ⟨rfl, hb⟩; replace B2 := bb B2 hb; replace B3 := bb B3 hb; replace B4 := bb B4 hb; replace B5 := bb B5 hb; replace HB := qM (below_step HB.out hb); clear z20 z21 z22 f20 f21 f22 z30 z31 z32 z33 z34 z35 z36 z37 z38 z39 z310 z311 z40 z41 z42 f40 f41 f42 z50 z51 z52 z53 z54 z55 f50 f51 f52 f53 f54 f55; clear hb; obtain ⟨z20, z21, z22, f20, f21, f22⟩ := cells3 B2.out; obtain ⟨z30, z31, z32, z33, z34, z35, z36, z37, z38, z39, z310, z311⟩ := cells12z B3.out; obtain ⟨z40, z41, z42, f40, f41, f42⟩ := cells3 B4.out; obtain ⟨z50, z51, z52, z53, z54, z55, f50, f51, f52, f53, f54, f55⟩ := cells6 B5.out; obtain ⟨hx0, hx1, hx2, hx3, hx4, hx5, hx6, hx7, hx8⟩ := HX.out; replace hx0 := held HB.out hx0; replace hx1 := held HB.out hx1; replace hx2 := held HB.out hx2; replace hx3 := held HB.out hx3; replace hx4 := held HB.out hx4; replace hx5 := held HB.out hx5; replace hx6 := held HB.out hx6; replace hx7 := held HB.out hx7; replace hx8 := held HB.out hx8) | ((with_reducible refine gate_dst (N := 92) rfl ?_); obtain ⟨g8, w8, hg, hw, hk, hb⟩ := box_new w1 #[.int .i64 (rd_T45 l0 i).f0, .int .i64 (rd_T45 l0 i).f1, .int .i64 (rd_T45 l0 i).f2, .int .i64 (rd_T45 l0 i).f3, .int .i64 (rd_T45 l0 i).f4, .slice A5 (rd_T45 l0 i).f5.length c5, .slice A6 (rd_T45 l0 i).f6.length c6, .int .i64 (rd_T45 l0 i).f7, .int .i64 (rd_T45 l0 i).f8] 45; rw [hw, hg]; have N28 := n2 B2 hg; have N38 := n2 B3 hg; have N48 := n2 B4 hg; have N58 := n2 B5 hg; replace B2 := bb B2 hb; replace B3 := bb B3 hb; replace B4 := bb B4 hb; replace B5 := bb B5 hb; have G8 := qM (show w.heap.size ≤ g8 by rw [← hg]; exact HB.out.size); replace HB := qM (below_step HB.out hb); have B8 := qM hk; clear z20 z21 z22 f20 f21 f22 z30 z31 z32 z33 z34 z35 z36 z37 z38 z39 z310 z311 z40 z41 z42 f40 f41 f42 z50 z51 z52 z53 z54 z55 f50 f51 f52 f53 f54 f55; clear hk hb hg hw; obtain ⟨z20, z21, z22, f20, f21, f22⟩ := cells3 B2.out; obtain ⟨z30, z31, z32, z33, z34, z35, z36, z37, z38, z39, z310, z311⟩ := cells12z B3.out; obtain ⟨z40, z41, z42, f40, f41, f42⟩ := cells3 B4.out; obtain ⟨z50, z51, z52, z53, z54, z55, f50, f51, f52, f53, f54, f55⟩ := cells6 B5.out; obtain ⟨z80, z81, z82, z83, z84, z85, z86, z87, z88, f80, f81, f82, f83, f84, f85, f86, f87, f88⟩ := cells9 B8.out; have ne28 := N28.out; have ne82 := Ne.symm N28.out; have ne38 := N38.out; have ne83 := Ne.symm N38.out; have ne48 := N48.out; have ne84 := Ne.symm N48.out; have ne58 := N58.out; have ne85 := Ne.symm N58.out) | (go_at_call 33; refine (HWH.out _ _ (HS3.out.below HB.out).sl).mono ?_; rintro e w1 ⟨rfl, hd⟩; have hb := hd.below; clear hd; replace B2 := bb B2 hb; replace B3 := bb B3 hb; replace B4 := bb B4 hb; replace B5 := bb B5 hb; replace B8 := bb B8 hb; replace HB := qM (below_step HB.out hb); clear z20 z21 z22 f20 f21 f22 z30 z31 z32 z33 z34 z35 z36 z37 z38 z39 z310 z311 z40 z41 z42 f40 f41 f42 z50 z51 z52 z53 z54 z55 f50 f51 f52 f53 f54 f55 z80 z81 z82 z83 z84 z85 z86 z87 z88 f80 f81 f82 f83 f84 f85 f86 f87 f88; clear hb; obtain ⟨z20, z21, z22, f20, f21, f22⟩ := cells3 B2.out; obtain ⟨z30, z31, z32, z33, z34, z35, z36, z37, z38, z39, z310, z311⟩ := cells12z B3.out; obtain ⟨z40, z41, z42, f40, f41, f42⟩ := cells3 B4.out; obtain ⟨z50, z51, z52, z53, z54, z55, f50, f51, f52, f53, f54, f55⟩ := cells6 B5.out; obtain ⟨z80, z81, z82, z83, z84, z85, z86, z87, z88, f80, f81, f82, f83, f84, f85, f86, f87, f88⟩ := cells9 B8.out))
    refine wp_region_any (by kernel_rfl) ?_
    change wpAny _ _ _ _ _ _ _ (World.drew _)
    refine wpAny_ready (rs := [0, 1]) (by kernel_rfl) (by simp) ?_
    refine AllReady.cons rfl (fun K hK => ?_) (AllReady.cons rfl (fun K hK => ?_) AllReady.nil)
    · go_simp
      refine hK _ _ ?_
      clear hK K
      refine wpAny_ready (rs := [1]) (by kernel_rfl) (by simp) ?_
      refine AllReady.cons rfl (fun K hK => ?_) AllReady.nil
      go_simp
      refine (no_reads _ _).mono ?_
      rintro e w9 ⟨rfl, hb⟩
      replace B2 := bd B2 hb; replace B4 := bd B4 hb; replace B5 := bd B5 hb; replace HB := qM (below_step (below_drew1 HB.out) hb); clear z20 z21 z22 f20 f21 f22 z30 z31 z32 z33 z34 z35 z36 z37 z38 z39 z310 z311 z40 z41 z42 f40 f41 f42 z50 z51 z52 z53 z54 z55 f50 f51 f52 f53 f54 f55 z80 z81 z82 z83 z84 z85 z86 z87 z88 f80 f81 f82 f83 f84 f85 f86 f87 f88; clear hb; obtain ⟨z20, z21, z22, f20, f21, f22⟩ := cells3 B2.out; obtain ⟨z40, z41, z42, f40, f41, f42⟩ := cells3 B4.out; obtain ⟨z50, z51, z52, z53, z54, z55, f50, f51, f52, f53, f54, f55⟩ := cells6 B5.out
      dsimp only
      refine hK _ _ ?_
      clear hK K
      refine wpAny_ready (rs := [2]) (by kernel_rfl) (by simp) ?_
      refine AllReady.cons rfl (fun K hK => ?_) AllReady.nil
      go_simp
      refine hK _ _ ?_
      clear hK K
      refine wpAny_ready (rs := [3]) (by kernel_rfl) (by simp) ?_
      refine AllReady.cons rfl (fun K hK => ?_) AllReady.nil
      go_simp
      refine hK _ _ ?_
      clear hK K
      refine wpAny_done (by kernel_rfl) ?_ _
      repeat go_step
      exact fin_no rfl B4 B5 N45 HB G4 G5 HS0 HS1 HS2 HG rfl rfl rfl
    · go_simp
      refine (no_reads _ _).mono ?_
      rintro e w9 ⟨rfl, hb⟩
      replace B2 := bd B2 hb; replace B4 := bd B4 hb; replace B5 := bd B5 hb; replace HB := qM (below_step (below_drew1 HB.out) hb); clear z20 z21 z22 f20 f21 f22 z30 z31 z32 z33 z34 z35 z36 z37 z38 z39 z310 z311 z40 z41 z42 f40 f41 f42 z50 z51 z52 z53 z54 z55 f50 f51 f52 f53 f54 f55 z80 z81 z82 z83 z84 z85 z86 z87 z88 f80 f81 f82 f83 f84 f85 f86 f87 f88; clear hb; obtain ⟨z20, z21, z22, f20, f21, f22⟩ := cells3 B2.out; obtain ⟨z40, z41, z42, f40, f41, f42⟩ := cells3 B4.out; obtain ⟨z50, z51, z52, z53, z54, z55, f50, f51, f52, f53, f54, f55⟩ := cells6 B5.out
      dsimp only
      refine hK _ _ ?_
      clear hK K
      refine wpAny_ready (rs := [0]) (by kernel_rfl) (by simp) ?_
      refine AllReady.cons rfl (fun K hK => ?_) AllReady.nil
      go_simp
      refine hK _ _ ?_
      clear hK K
      refine wpAny_ready (rs := [2]) (by kernel_rfl) (by simp) ?_
      refine AllReady.cons rfl (fun K hK => ?_) AllReady.nil
      go_simp
      refine hK _ _ ?_
      clear hK K
      refine wpAny_ready (rs := [3]) (by kernel_rfl) (by simp) ?_
      refine AllReady.cons rfl (fun K hK => ?_) AllReady.nil
      go_simp
      refine hK _ _ ?_
      clear hK K
      refine wpAny_done (by kernel_rfl) ?_ _
      repeat go_step
      exact fin_no rfl B4 B5 N45 HB G4 G5 HS0 HS1 HS2 HG rfl rfl rfl

set_option maxHeartbeats 40000000 in
set_option maxRecDepth 100000 in
theorem does_n4 (Pq : Nat → Prop) (v0 v1 v2 v : Value) (l0 : List Vol) (l1 : List Nam) (l2 : List Ses) (c : Cmd) (w : World) (hPq : ∀ q, w.heap.size ≤ q → Pq q) (h0 : SlP Pq k45 w v0 l0) (h1 : SlP Pq k92 w v1 l1) (h2 : SlP Pq k64 w v2 l2) (h3 : SlP Pq k75 w v c.f11) (n : Nat) (hg : Good n l0 l1) (hn : n ≤ 1000) (k1 : (c.f0 == 1) = false) (k3 : (c.f0 == 3) = false) (k4 : (c.f0 == 4) = false) (k5 : (c.f0 == 5) = false) (k8 : (c.f0 == 8) = false) (k2 : (c.f0 == 2) = false) (k6 : (c.f0 == 6) = false) (k7 : (c.f0 == 7) = false) (h10 : 0 ≤ c.f10) (i : Int) (hva : VolC l0 l1 l2 c.f4 i) (ci : 0 ≤ i) (cl : i < (l0.length : Int)) (cp : 3 ≤ (rd_T45 l0 i).f4) (hd : decide (c.f10 ≥ ((rd_T45 l0 i).f6.length : Int)) = true ∨ (decide (c.f10 ≥ ((rd_T45 l0 i).f6.length : Int)) = false ∧ ((c.f11.length : Int) != 1) = true)) : Calls Try.prog 21 #[.agg #[v0, v1, v2], cmdV c v] w (Back Pq (n + 1) l2 w) := by
  obtain ⟨A0, c0, rfl, hc0, hr0⟩ := h0
  obtain ⟨A1, c1, rfl, hc1, hr1⟩ := h1
  obtain ⟨A2, c2, rfl, hc2, hr2⟩ := h2
  obtain ⟨A3, c3, rfl, hc3, hr3⟩ := h3
  have HS0 := qM (show SlP Pq k45 w (.slice A0 l0.length c0) l0 from ⟨A0, c0, rfl, hc0, hr0⟩)
  have HS1 := qM (show SlP Pq k92 w (.slice A1 l1.length c1) l1 from ⟨A1, c1, rfl, hc1, hr1⟩)
  have HS2 := qM (show SlP Pq k64 w (.slice A2 l2.length c2) l2 from ⟨A2, c2, rfl, hc2, hr2⟩)
  have HS3 := qM (show SlP Pq k75 w (.slice A3 c.f11.length c3) c.f11 from ⟨A3, c3, rfl, hc3, hr3⟩)
  have HR0 := qM hr0
  have HR1 := qM (Kd.F_now hr1)
  have HR2 := qM (Kd.F_now hr2)
  have HR3 := qM (Kd.F_now hr3)
  have HG := qM hg
  have HPQ := qM hPq
  clear hc0 hr0 hc1 hr1 hc2 hr2 hc3 hr3 hg hPq
  unfold cmdV
  have HN := qM hn
  clear hn
  have HVA := qM hva
  clear hva
  have d1 : decide (i < 0) = false := decide_eq_false (by omega)
  obtain ⟨ad, A5, c5, A6, c6, e, hx0, hx1, hx2, hx3, hx4, hx5, hx6, hx7, hx8, hl5, hi5, hl6, hi6⟩ := at_F45 HR0.out i ci cl
  cases e
  have HX := qM (And.intro hx0 (And.intro hx1 (And.intro hx2 (And.intro hx3 (And.intro hx4 (And.intro hx5 (And.intro hx6 (And.intro hx7 hx8))))))))
  have HI5 := qM hi5
  have HI6 := qM hi6
  have HL5 := qM hl5
  have HL6 := qM hl6
  clear hi5 hi6 hl5 hl6 hx0 hx1 hx2 hx3 hx4 hx5 hx6 hx7 hx8
  have p0 := eq_true ci
  have p1 := eq_true cl
  have d3 : decide ((rd_T45 l0 i).f4 < 3) = false := decide_eq_false (by omega)
  rcases hd with d4 | ⟨d4, d5⟩
  all_goals
    go_enter Try.func21, Try.ntmps21
    go_wp2_with (first | ((with_reducible refine gate_dst (N := 2) rfl ?_); (try (refine gate_guard (by rfl) ?_; dsimp only)); refine box_event ?hg (N := 2) ?hd (cs := #[.slice (some ad) l0.length c0, .slice A1 l1.length c1, .slice A2 l2.length c2]) (t := 26) ?hr ?_; (case hd => rfl); (case hg => rfl); (case hr => first | (go_simp; done) | (go_simp; rfl)); intro g2 hg w_2 hk hb; have G2 := qM (show w.heap.size ≤ g2 by rw [hg]; exact Nat.le_refl _); have B2 := qM hk; have HB := qM (hb); clear hk hb hg; skip) | ((with_reducible refine gate_dst (N := 3) rfl ?_); (try (refine gate_guard (by rfl) ?_; dsimp only)); refine box_event ?hg (N := 3) ?hd (cs := #[.int .i64 c.f0, .int .i64 c.f1, .int .i64 c.f2, .string c.f3, .int .i64 c.f4, .int .i64 c.f5, .int .i64 c.f6, .int .u32 c.f7, .int .i64 c.f8, .int .i64 c.f9, .int .i64 c.f10, .slice A3 c.f11.length c3]) (t := 42) ?hr ?_; (case hd => rfl); (case hg => rfl); (case hr => first | (go_simp; done) | (go_simp; rfl)); intro g3 hg w_3 hk hb; have N23 := n1 B2 hg; have G3 := qM (show w.heap.size ≤ g3 by rw [hg]; exact HB.out.size); replace B2 := bb B2 hb; have B3 := qM hk; have HB := qM (below_step HB.out hb); clear hk hb hg; have ne23 := N23.out; have ne32 := Ne.symm N23.out; skip) | ((with_reducible refine gate_dst (N := 4) rfl ?_); (try (refine gate_guard (by rfl) ?_; dsimp only)); refine box_event ?hg (N := 4) ?hd (cs := #[.slice none 0 0, .slice none 0 0, .slice none 0 0]) (t := 26) ?hr ?_; (case hd => rfl); (case hg => rfl); (case hr => first | (go_simp; done) | (go_simp; rfl)); intro g4 hg w_4 hk hb; have N24 := n1 B2 hg; have N34 := n1 B3 hg; have G4 := qM (show w.heap.size ≤ g4 by rw [hg]; exact HB.out.size); replace B2 := bb B2 hb; replace B3 := bb B3 hb; have B4 := qM hk; have HB := qM (below_step HB.out hb); clear hk hb hg; have ne24 := N24.out; have ne42 := Ne.symm N24.out; have ne34 := N34.out; have ne43 := Ne.symm N34.out; skip) | ((with_reducible refine gate_dst (N := 5) rfl ?_); (try (refine gate_guard (by rfl) ?_; dsimp only)); refine box_event ?hg (N := 5) ?hd (cs := #[.int .i64 0, .int .i64 0, .int .i64 0, .int .i64 0, .int .u32 0, .bool false]) (t := 37) ?hr ?_; (case hd => rfl); (case hg => rfl); (case hr => first | (go_simp; done) | (go_simp; rfl)); intro g5 hg w_5 hk hb; have N25 := n1 B2 hg; have N35 := n1 B3 hg; have N45 := n1 B4 hg; have G5 := qM (show w.heap.size ≤ g5 by rw [hg]; exact HB.out.size); replace B2 := bb B2 hb; replace B3 := bb B3 hb; replace B4 := bb B4 hb; have B5 := qM hk; have HB := qM (below_step HB.out hb); clear hk hb hg; have ne25 := N25.out; have ne52 := Ne.symm N25.out; have ne35 := N35.out; have ne53 := Ne.symm N35.out; have ne45 := N45.out; have ne54 := Ne.symm N45.out; obtain ⟨z20, z21, z22, f20, f21, f22⟩ := cells3 B2.out; obtain ⟨z30, z31, z32, z33, z34, z35, z36, z37, z38, z39, z310, z311⟩ := cells12z B3.out; obtain ⟨z40, z41, z42, f40, f41, f42⟩ := cells3 B4.out; obtain ⟨z50, z51, z52, z53, z54, z55, f50, f51, f52, f53, f54, f55⟩ := cells6 B5.out) | (go_at_call 32; refine (HVA.out _ _ _ _ (HS0.out.below HB.out).sl (HS1.out.below HB.out).sl (HS2.out.below HB.out).sl).mono ?_; rintro e w1 ⟨rfl, hb⟩; replace B2 := bb B2 hb; replace B3 := bb B3 hb; replace B4 := bb B4 hb; replace B5 := bb B5 hb; replace HB := qM (below_step HB.out hb); clear z20 z21 z22 f20 f21 f22 z30 z31 z32 z33 z34 z35 z36 z37 z38 z39 z310 z311 z40 z41 z42 f40 f41 f42 z50 z51 z52 z53 z54 z55 f50 f51 f52 f53 f54 f55; clear hb; obtain ⟨z20, z21, z22, f20, f21, f22⟩ := cells3 B2.out; obtain ⟨z30, z31, z32, z33, z34, z35, z36, z37, z38, z39, z310, z311⟩ := cells12z B3.out; obtain ⟨z40, z41, z42, f40, f41, f42⟩ := cells3 B4.out; obtain ⟨z50, z51, z52, z53, z54, z55, f50, f51, f52, f53, f54, f55⟩ := cells6 B5.out; obtain ⟨hx0, hx1, hx2, hx3, hx4, hx5, hx6, hx7, hx8⟩ := HX.out; replace hx0 := held HB.out hx0; replace hx1 := held HB.out hx1; replace hx2 := held HB.out hx2; replace hx3 := held HB.out hx3; replace hx4 := held HB.out hx4; replace hx5 := held HB.out hx5; replace hx6 := held HB.out hx6; replace hx7 := held HB.out hx7; replace hx8 := held HB.out hx8) | ((with_reducible refine gate_dst (N := 92) rfl ?_); obtain ⟨g8, w8, hg, hw, hk, hb⟩ := box_new w1 #[.int .i64 (rd_T45 l0 i).f0, .int .i64 (rd_T45 l0 i).f1, .int .i64 (rd_T45 l0 i).f2, .int .i64 (rd_T45 l0 i).f3, .int .i64 (rd_T45 l0 i).f4, .slice A5 (rd_T45 l0 i).f5.length c5, .slice A6 (rd_T45 l0 i).f6.length c6, .int .i64 (rd_T45 l0 i).f7, .int .i64 (rd_T45 l0 i).f8] 45; rw [hw, hg]; have N28 := n2 B2 hg; have N38 := n2 B3 hg; have N48 := n2 B4 hg; have N58 := n2 B5 hg; replace B2 := bb B2 hb; replace B3 := bb B3 hb; replace B4 := bb B4 hb; replace B5 := bb B5 hb; have G8 := qM (show w.heap.size ≤ g8 by rw [← hg]; exact HB.out.size); replace HB := qM (below_step HB.out hb); have B8 := qM hk; clear z20 z21 z22 f20 f21 f22 z30 z31 z32 z33 z34 z35 z36 z37 z38 z39 z310 z311 z40 z41 z42 f40 f41 f42 z50 z51 z52 z53 z54 z55 f50 f51 f52 f53 f54 f55; clear hk hb hg hw; obtain ⟨z20, z21, z22, f20, f21, f22⟩ := cells3 B2.out; obtain ⟨z30, z31, z32, z33, z34, z35, z36, z37, z38, z39, z310, z311⟩ := cells12z B3.out; obtain ⟨z40, z41, z42, f40, f41, f42⟩ := cells3 B4.out; obtain ⟨z50, z51, z52, z53, z54, z55, f50, f51, f52, f53, f54, f55⟩ := cells6 B5.out; obtain ⟨z80, z81, z82, z83, z84, z85, z86, z87, z88, f80, f81, f82, f83, f84, f85, f86, f87, f88⟩ := cells9 B8.out; have ne28 := N28.out; have ne82 := Ne.symm N28.out; have ne38 := N38.out; have ne83 := Ne.symm N38.out; have ne48 := N48.out; have ne84 := Ne.symm N48.out; have ne58 := N58.out; have ne85 := Ne.symm N58.out))
    go_quiet (fail)
    replace B2 := qM (show (w8.drewN nq).heap[g2]? = _ from B2.out)
    replace B3 := qM (show (w8.drewN nq).heap[g3]? = _ from B3.out)
    replace B4 := qM (show (w8.drewN nq).heap[g4]? = _ from B4.out)
    replace B5 := qM (show (w8.drewN nq).heap[g5]? = _ from B5.out)
    replace B8 := qM (show (w8.drewN nq).heap[g8]? = _ from B8.out)
    replace HB := qM (pw_below_drewN HB.out nq)
    generalize w8.drewN nq = wq at HB B2 B3 B4 B5 B8 ⊢
    clear z20 z21 z22 f20 f21 f22 z30 z31 z32 z33 z34 z35 z36 z37 z38 z39 z310 z311 z40 z41 z42 f40 f41 f42 z50 z51 z52 z53 z54 z55 f50 f51 f52 f53 f54 f55 z80 z81 z82 z83 z84 z85 z86 z87 z88 f80 f81 f82 f83 f84 f85 f86 f87 f88
    obtain ⟨z20, z21, z22, f20, f21, f22⟩ := cells3 B2.out; obtain ⟨z30, z31, z32, z33, z34, z35, z36, z37, z38, z39, z310, z311⟩ := cells12z B3.out; obtain ⟨z40, z41, z42, f40, f41, f42⟩ := cells3 B4.out; obtain ⟨z50, z51, z52, z53, z54, z55, f50, f51, f52, f53, f54, f55⟩ := cells6 B5.out; obtain ⟨z80, z81, z82, z83, z84, z85, z86, z87, z88, f80, f81, f82, f83, f84, f85, f86, f87, f88⟩ := cells9 B8.out
    go_wp2
    refine wp_region_any (by kernel_rfl) ?_
    change wpAny _ _ _ _ _ _ _ (World.drew _)
    refine wpAny_ready (rs := [0, 1]) (by kernel_rfl) (by simp) ?_
    refine AllReady.cons rfl (fun K hK => ?_) (AllReady.cons rfl (fun K hK => ?_) AllReady.nil)
    · go_simp
      refine hK _ _ ?_
      clear hK K
      refine wpAny_ready (rs := [1]) (by kernel_rfl) (by simp) ?_
      refine AllReady.cons rfl (fun K hK => ?_) AllReady.nil
      go_simp
      refine (no_reads _ _).mono ?_
      rintro e w9 ⟨rfl, hb⟩
      replace B2 := bd B2 hb; replace B4 := bd B4 hb; replace B5 := bd B5 hb; replace HB := qM (below_step (below_drew1 HB.out) hb); clear z20 z21 z22 f20 f21 f22 z30 z31 z32 z33 z34 z35 z36 z37 z38 z39 z310 z311 z40 z41 z42 f40 f41 f42 z50 z51 z52 z53 z54 z55 f50 f51 f52 f53 f54 f55 z80 z81 z82 z83 z84 z85 z86 z87 z88 f80 f81 f82 f83 f84 f85 f86 f87 f88; clear hb; obtain ⟨z20, z21, z22, f20, f21, f22⟩ := cells3 B2.out; obtain ⟨z40, z41, z42, f40, f41, f42⟩ := cells3 B4.out; obtain ⟨z50, z51, z52, z53, z54, z55, f50, f51, f52, f53, f54, f55⟩ := cells6 B5.out
      dsimp only
      refine hK _ _ ?_
      clear hK K
      refine wpAny_ready (rs := [2]) (by kernel_rfl) (by simp) ?_
      refine AllReady.cons rfl (fun K hK => ?_) AllReady.nil
      go_simp
      refine hK _ _ ?_
      clear hK K
      refine wpAny_ready (rs := [3]) (by kernel_rfl) (by simp) ?_
      refine AllReady.cons rfl (fun K hK => ?_) AllReady.nil
      go_simp
      refine hK _ _ ?_
      clear hK K
      refine wpAny_done (by kernel_rfl) ?_ _
      repeat go_step
      exact fin_no rfl B4 B5 N45 HB G4 G5 HS0 HS1 HS2 HG rfl rfl rfl
    · go_simp
      refine (no_reads _ _).mono ?_
      rintro e w9 ⟨rfl, hb⟩
      replace B2 := bd B2 hb; replace B4 := bd B4 hb; replace B5 := bd B5 hb; replace HB := qM (below_step (below_drew1 HB.out) hb); clear z20 z21 z22 f20 f21 f22 z30 z31 z32 z33 z34 z35 z36 z37 z38 z39 z310 z311 z40 z41 z42 f40 f41 f42 z50 z51 z52 z53 z54 z55 f50 f51 f52 f53 f54 f55 z80 z81 z82 z83 z84 z85 z86 z87 z88 f80 f81 f82 f83 f84 f85 f86 f87 f88; clear hb; obtain ⟨z20, z21, z22, f20, f21, f22⟩ := cells3 B2.out; obtain ⟨z40, z41, z42, f40, f41, f42⟩ := cells3 B4.out; obtain ⟨z50, z51, z52, z53, z54, z55, f50, f51, f52, f53, f54, f55⟩ := cells6 B5.out
      dsimp only
      refine hK _ _ ?_
      clear hK K
      refine wpAny_ready (rs := [0]) (by kernel_rfl) (by simp) ?_
      refine AllReady.cons rfl (fun K hK => ?_) AllReady.nil
      go_simp
      refine hK _ _ ?_
      clear hK K
      refine wpAny_ready (rs := [2]) (by kernel_rfl) (by simp) ?_
      refine AllReady.cons rfl (fun K hK => ?_) AllReady.nil
      go_simp
      refine hK _ _ ?_
      clear hK K
      refine wpAny_ready (rs := [3]) (by kernel_rfl) (by simp) ?_
      refine AllReady.cons rfl (fun K hK => ?_) AllReady.nil
      go_simp
      refine hK _ _ ?_
      clear hK K
      refine wpAny_done (by kernel_rfl) ?_ _
      repeat go_step
      exact fin_no rfl B4 B5 N45 HB G4 G5 HS0 HS1 HS2 HG rfl rfl rfl
end Go.Proofs.Ytlfonfceaiiinaa.PAll
