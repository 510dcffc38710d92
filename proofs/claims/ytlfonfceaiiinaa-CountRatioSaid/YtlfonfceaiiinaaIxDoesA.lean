/- does: the kinds that need no volume. -/
import Derived.Test.YtlfonfceaiiinaaIxPutAll
import Derived.Test.YtlfonfceaiiinaaIxPair
namespace Go.Proofs.Ytlfonfceaiiinaa.PAll
open Go.RowKit Go.Proofs.YtlfonfceaiiinaaW.PrintWords Go.Proofs.YtlfonfceaiiinaaW.PrintLast Go.Proofs.YtlfonfceaiiinaaW.PrintMore
set_option linter.unusedVariables false
set_option linter.unusedSimpArgs false
attribute [local irreducible] World.setCell
attribute [local go_sem high] eqA75
set_option maxHeartbeats 40000000 in
set_option maxRecDepth 100000 in
theorem does_n1 (Pq : Nat → Prop) (v0 v1 v2 v : Value) (l0 : List Vol) (l1 : List Nam) (l2 : List Ses) (c : Cmd) (w : World) (hPq : ∀ q, w.heap.size ≤ q → Pq q) (h0 : SlP Pq k45 w v0 l0) (h1 : SlP Pq k92 w v1 l1) (h2 : SlP Pq k64 w v2 l2) (h3 : SlP Pq k75 w v c.f11) (n : Nat) (hg : Good n l0 l1) (hn : n ≤ 1000) (k1 : (c.f0 == 1) = true) (t1 t2 : Int) (hth : ThiC c.f8 c.f9 t1 t2) (hd : (t2 != 0) = true ∨ ((t2 != 0) = false ∧ decide ((l0.length : Int) ≥ 48) = true)) : Calls Try.prog 21 #[.agg #[v0, v1, v2], cmdV c v] w (Back Pq (n + 1) l2 w) := by
  obtain ⟨A0, c0, rfl, hc0, hr0⟩ := h0
  obtain ⟨A1, c1, rfl, hc1, hr1⟩ := h1
  obtain ⟨A2, c2, rfl, hc2, hr2⟩ := h2
  obtain ⟨A3, c3, rfl, hc3, hr3⟩ := h3
  have HS0 := qM (show SlP Pq k45 w (.slice A0 l0.length c0) l0 from ⟨A0, c0, rfl, hc0, hr0⟩)
  have HS1 := qM (show SlP Pq k92 w (.slice A1 l1.length c1) l1 from ⟨A1, c1, rfl, hc1, hr1⟩)
  have HS2 := qM (show SlP Pq k64 w (.slice A2 l2.length c2) l2 from ⟨A2, c2, rfl, hc2, hr2⟩)
  have HS3 := qM (show SlP Pq k75 w (.slice A3 c.f11.length c3) c.f11 from ⟨A3, c3, rfl, hc3, hr3⟩)
  have HR0 := qM hr0
  have HR1 := qM (Kd.F_now hr1)
  have HR2 := qM (Kd.F_now hr2)
  have HR3 := qM (Kd.F_now hr3)
  have HG := qM hg
  have HPQ := qM hPq
  clear hc0 hr0 hc1 hr1 hc2 hr2 hc3 hr3 hg hPq
  unfold cmdV
  have HN := qM hn
  clear hn
  have HTH := qM hth
  clear hth
  rcases hd with d6 | ⟨d6, d7⟩
  all_goals
    go_enter Try.func21, Try.ntmps21
    go_wp2_with (first | ((with_reducible refine gate_dst (N := 2) rfl ?_); (try (refine gate_guard (by rfl) ?_; dsimp only)); refine box_event ?hg (N := 2) ?hd (cs := #[.slice A0 l0.length c0, .slice A1 l1.length c1, .slice A2 l2.length c2]) (t := 26) ?hr ?_; (case hd => rfl); (case hg => rfl); (case hr => first | (go_simp; done) | (go_simp; rfl)); intro g2 hg w_2 hk hb; have G2 := qM (show w.heap.size ≤ g2 by rw [hg]; exact Nat.le_refl _); have B2 := qM hk; have HB := qM (hb); clear hk hb hg; skip) | ((with_reducible refine gate_dst (N := 3) rfl ?_); (try (refine gate_guard (by rfl) ?_; dsimp only)); refine box_event ?hg (N := 3) ?hd (cs := #[.int .i64 c.f0, .int .i64 c.f1, .int .i64 c.f2, .string c.f3, .int .i64 c.f4, .int .i64 c.f5, .int .i64 c.f6, .int .u32 c.f7, .int .i64 c.f8, .int .i64 c.f9, .int .i64 c.f10, .slice A3 c.f11.length c3]) (t := 42) ?hr ?_; (case hd => rfl); (case hg => rfl); (case hr => first | (go_simp; done) | (go_simp; rfl)); intro g3 hg w_3 hk hb; have N23 := n1 B2 hg; have G3 := qM (show w.heap.size ≤ g3 by rw [hg]; exact HB.out.size); replace B2 := bb B2 hb; have B3 := qM hk; have HB := qM (below_step HB.out hb); clear hk hb hg; have ne23 := N23.out; have ne32 := Ne.symm N23.out; skip) | ((with_reducible refine gate_dst (N := 4) rfl ?_); (try (refine gate_guard (by rfl) ?_; dsimp only)); refine box_event ?hg (N := 4) ?hd (cs := #[.slice none 0 0, .slice none 0 0, .slice none 0 0]) (t := 26) ?hr ?_; (case hd => rfl); (case hg => rfl); (case hr => first | (go_simp; done) | (go_simp; rfl)); intro g4 hg w_4 hk hb; have N24 := n1 B2 hg; have N34 := n1 B3 hg; have G4 := qM (show w.heap.size ≤ g4 by rw [hg]; exact HB.out.size); replace B2 := bb B2 hb; replace B3 := bb B3 hb; have B4 := qM hk; have HB := qM (below_step HB.out hb); clear hk hb hg; have ne24 := N24.out; have ne42 := Ne.symm N24.out; have ne34 := N34.out; have ne43 := Ne.symm N34.out; skip) | ((with_reducible refine gate_dst (N := 5) rfl ?_); (try (refine gate_guard (by rfl) ?_; dsimp only)); refine box_event ?hg (N := 5) ?hd (cs := #[.int .i64 0, .int .i64 0, .int .i64 0, .int .i64 0, .int .u32 0, .bool false]) (t := 37) ?hr ?_; (case hd => rfl); (case hg => rfl); (case hr => first | (go_simp; done) | (go_simp; rfl)); intro g5 hg w_5 hk hb; have N25 := n1 B2 hg; have N35 := n1 B3 hg; have N45 := n1 B4 hg; have G5 := qM (show w.heap.size ≤ g5 by rw [hg]; exact HB.out.size); replace B2 := bb B2 hb; replace B3 := bb B3 hb; replace B4 := bb B4 hb; have B5 := qM hk; have HB := qM (below_step HB.out hb); clear hk hb hg; have ne25 := N25.out; have ne52 := Ne.symm N25.out; have ne35 := N35.out; have ne53 := Ne.symm N35.out; have ne45 := N45.out; have ne54 := Ne.symm N45.out; obtain ⟨z20, z21, z22, f20, f21, f22⟩ := cells3 B2.out; obtain ⟨z30, z31, z32, z33, z34, z35, z36, z37, z38, z39, z310, z311⟩ := cells12z B3.out; obtain ⟨z40, z41, z42, f40, f41, f42⟩ := cells3 B4.out; obtain ⟨z50, z51, z52, z53, z54, z55, f50, f51, f52, f53, f54, f55⟩ := cells6 B5.out) | (go_at_call 27; refine (HTH.out _).mono ?_; rintro e w1 ⟨rfl, hd⟩; have hb := hd.below; clear hd; replace B2 := bb B2 hb; replace B3 := bb B3 hb; replace B4 := bb B4 hb; replace B5 := bb B5 hb; replace HB := qM (below_step HB.out hb); clear z20 z21 z22 f20 f21 f22 z30 z31 z32 z33 z34 z35 z36 z37 z38 z39 z310 z311 z40 z41 z42 f40 f41 f42 z50 z51 z52 z53 z54 z55 f50 f51 f52 f53 f54 f55; clear hb; obtain ⟨z20, z21, z22, f20, f21, f22⟩ := cells3 B2.out; obtain ⟨z30, z31, z32, z33, z34, z35, z36, z37, z38, z39, z310, z311⟩ := cells12z B3.out; obtain ⟨z40, z41, z42, f40, f41, f42⟩ := cells3 B4.out; obtain ⟨z50, z51, z52, z53, z54, z55, f50, f51, f52, f53, f54, f55⟩ := cells6 B5.out))
    refine wp_region_any (by kernel_rfl) ?_
    change wpAny _ _ _ _ _ _ _ (World.drew _)
    refine wpAny_ready (rs := [0, 1]) (by kernel_rfl) (by simp) ?_
    refine AllReady.cons rfl (fun K hK => ?_) (AllReady.cons rfl (fun K hK => ?_) AllReady.nil)
    · go_simp
      refine hK _ _ ?_
      clear hK K
      refine wpAny_ready (rs := [1]) (by kernel_rfl) (by simp) ?_
      refine AllReady.cons rfl (fun K hK => ?_) AllReady.nil
      go_simp
      refine (no_reads _ _).mono ?_
      rintro e w9 ⟨rfl, hb⟩
      replace B2 := bd B2 hb; replace B4 := bd B4 hb; replace B5 := bd B5 hb; replace HB := qM (below_step (below_drew1 HB.out) hb); clear z20 z21 z22 f20 f21 f22 z30 z31 z32 z33 z34 z35 z36 z37 z38 z39 z310 z311 z40 z41 z42 f40 f41 f42 z50 z51 z52 z53 z54 z55 f50 f51 f52 f53 f54 f55; clear hb; obtain ⟨z20, z21, z22, f20, f21, f22⟩ := cells3 B2.out; obtain ⟨z40, z41, z42, f40, f41, f42⟩ := cells3 B4.out; obtain ⟨z50, z51, z52, z53, z54, z55, f50, f51, f52, f53, f54, f55⟩ := cells6 B5.out
      dsimp only
      refine hK _ _ ?_
      clear hK K
      refine wpAny_ready (rs := [2]) (by kernel_rfl) (by simp) ?_
      refine AllReady.cons rfl (fun K hK => ?_) AllReady.nil
      go_simp
      refine hK _ _ ?_
      clear hK K
      refine wpAny_ready (rs := [3]) (by kernel_rfl) (by simp) ?_
      refine AllReady.cons rfl (fun K hK => ?_) AllReady.nil
      go_simp
      refine hK _ _ ?_
      clear hK K
      refine wpAny_done (by kernel_rfl) ?_ _
      repeat go_step
      exact fin_no rfl B4 B5 N45 HB G4 G5 HS0 HS1 HS2 HG rfl rfl rfl
    · go_simp
      refine (no_reads _ _).mono ?_
      rintro e w9 ⟨rfl, hb⟩
      replace B2 := bd B2 hb; replace B4 := bd B4 hb; replace B5 := bd B5 hb; replace HB := qM (below_step (below_drew1 HB.out) hb); clear z20 z21 z22 f20 f21 f22 z30 z31 z32 z33 z34 z35 z36 z37 z38 z39 z310 z311 z40 z41 z42 f40 f41 f42 z50 z51 z52 z53 z54 z55 f50 f51 f52 f53 f54 f55; clear hb; obtain ⟨z20, z21, z22, f20, f21, f22⟩ := cells3 B2.out; obtain ⟨z40, z41, z42, f40, f41, f42⟩ := cells3 B4.out; obtain ⟨z50, z51, z52, z53, z54, z55, f50, f51, f52, f53, f54, f55⟩ := cells6 B5.out
      dsimp only
      refine hK _ _ ?_
      clear hK K
      refine wpAny_ready (rs := [0]) (by kernel_rfl) (by simp) ?_
      refine AllReady.cons rfl (fun K hK => ?_) AllReady.nil
      go_simp
      refine hK _ _ ?_
      clear hK K
      refine wpAny_ready (rs := [2]) (by kernel_rfl) (by simp) ?_
      refine AllReady.cons rfl (fun K hK => ?_) AllReady.nil
      go_simp
      refine hK _ _ ?_
      clear hK K
      refine wpAny_ready (rs := [3]) (by kernel_rfl) (by simp) ?_
      refine AllReady.cons rfl (fun K hK => ?_) AllReady.nil
      go_simp
      refine hK _ _ ?_
      clear hK K
      refine wpAny_done (by kernel_rfl) ?_ _
      repeat go_step
      exact fin_no rfl B4 B5 N45 HB G4 G5 HS0 HS1 HS2 HG rfl rfl rfl

set_option maxHeartbeats 40000000 in
set_option maxRecDepth 100000 in
theorem does_c (Pq : Nat → Prop) (v0 v1 v2 v : Value) (l0 : List Vol) (l1 : List Nam) (l2 : List Ses) (c : Cmd) (w : World) (hPq : ∀ q, w.heap.size ≤ q → Pq q) (h0 : SlP Pq k45 w v0 l0) (h1 : SlP Pq k92 w v1 l1) (h2 : SlP Pq k64 w v2 l2) (h3 : SlP Pq k75 w v c.f11) (n : Nat) (hg : Good n l0 l1) (hn : n ≤ 1000) (k1 : (c.f0 == 1) = true) (t1 t2 : Int) (hth : ThiC c.f8 c.f9 t1 t2) (cb : t2 = 0) (cn : l0.length < 48) : Calls Try.prog 21 #[.agg #[v0, v1, v2], cmdV c v] w (Back Pq (n + 1) l2 w) := by
  obtain ⟨A0, c0, rfl, hc0, hr0⟩ := h0
  obtain ⟨A1, c1, rfl, hc1, hr1⟩ := h1
  obtain ⟨A2, c2, rfl, hc2, hr2⟩ := h2
  obtain ⟨A3, c3, rfl, hc3, hr3⟩ := h3
  have HS0 := qM (show SlP Pq k45 w (.slice A0 l0.length c0) l0 from ⟨A0, c0, rfl, hc0, hr0⟩)
  have HS1 := qM (show SlP Pq k92 w (.slice A1 l1.length c1) l1 from ⟨A1, c1, rfl, hc1, hr1⟩)
  have HS2 := qM (show SlP Pq k64 w (.slice A2 l2.length c2) l2 from ⟨A2, c2, rfl, hc2, hr2⟩)
  have HS3 := qM (show SlP Pq k75 w (.slice A3 c.f11.length c3) c.f11 from ⟨A3, c3, rfl, hc3, hr3⟩)
  have HR0 := qM hr0
  have HR1 := qM (Kd.F_now hr1)
  have HR2 := qM (Kd.F_now hr2)
  have HR3 := qM (Kd.F_now hr3)
  have HG := qM hg
  have HPQ := qM hPq
  clear hc0 hr0 hc1 hr1 hc2 hr2 hc3 hr3 hg hPq
  unfold cmdV
  have HN := qM hn
  clear hn
  have HTH := qM hth
  clear hth
  have d6 : (t2 != 0) = false := bne_eq_false_iff_eq.mpr cb
  have CB := qM cb
  clear cb
  have d7 : decide ((l0.length : Int) ≥ 48) = false := decide_eq_false (by omega)
  have CN := qM cn
  clear cn
  obtain ⟨ID, hID⟩ : ∃ q, wrap64 ((l0.length : Int) + 1) = q := ⟨_, rfl⟩
  go_enter Try.func21, Try.ntmps21
  go_wp2_with (first | ((with_reducible refine gate_dst (N := 2) rfl ?_); (try (refine gate_guard (by rfl) ?_; dsimp only)); refine box_event ?hg (N := 2) ?hd (cs := #[.slice A0 l0.length c0, .slice A1 l1.length c1, .slice A2 l2.length c2]) (t := 26) ?hr ?_; (case hd => rfl); (case hg => rfl); (case hr => first | (go_simp; done) | (go_simp; rfl)); intro g2 hg w_2 hk hb; have G2 := qM (show w.heap.size ≤ g2 by rw [hg]; exact Nat.le_refl _); have B2 := qM hk; have HB := qM (hb); clear hk hb hg; skip) | ((with_reducible refine gate_dst (N := 3) rfl ?_); (try (refine gate_guard (by rfl) ?_; dsimp only)); refine box_event ?hg (N := 3) ?hd (cs := #[.int .i64 c.f0, .int .i64 c.f1, .int .i64 c.f2, .string c.f3, .int .i64 c.f4, .int .i64 c.f5, .int .i64 c.f6, .int .u32 c.f7, .int .i64 c.f8, .int .i64 c.f9, .int .i64 c.f10, .slice A3 c.f11.length c3]) (t := 42) ?hr ?_; (case hd => rfl); (case hg => rfl); (case hr => first | (go_simp; done) | (go_simp; rfl)); intro g3 hg w_3 hk hb; have N23 := n1 B2 hg; have G3 := qM (show w.heap.size ≤ g3 by rw [hg]; exact HB.out.size); replace B2 := bb B2 hb; have B3 := qM hk; have HB := qM (below_step HB.out hb); clear hk hb hg; have ne23 := N23.out; have ne32 := Ne.symm N23.out; skip) | ((with_reducible refine gate_dst (N := 4) rfl ?_); (try (refine gate_guard (by rfl) ?_; dsimp only)); refine box_event ?hg (N := 4) ?hd (cs := #[.slice none 0 0, .slice none 0 0, .slice none 0 0]) (t := 26) ?hr ?_; (case hd => rfl); (case hg => rfl); (case hr => first | (go_simp; done) | (go_simp; rfl)); intro g4 hg w_4 hk hb; have N24 := n1 B2 hg; have N34 := n1 B3 hg; have G4 := qM (show w.heap.size ≤ g4 by rw [hg]; exact HB.out.size); replace B2 := bb B2 hb; replace B3 := bb B3 hb; have B4 := qM hk; have HB := qM (below_step HB.out hb); clear hk hb hg; have ne24 := N24.out; have ne42 := Ne.symm N24.out; have ne34 := N34.out; have ne43 := Ne.symm N34.out; skip) | ((with_reducible refine gate_dst (N := 5) rfl ?_); (try (refine gate_guard (by rfl) ?_; dsimp only)); refine box_event ?hg (N := 5) ?hd (cs := #[.int .i64 0, .int .i64 0, .int .i64 0, .int .i64 0, .int .u32 0, .bool false]) (t := 37) ?hr ?_; (case hd => rfl); (case hg => rfl); (case hr => first | (go_simp; done) | (go_simp; rfl)); intro g5 hg w_5 hk hb; have N25 := n1 B2 hg; have N35 := n1 B3 hg; have N45 := n1 B4 hg; have G5 := qM (show w.heap.size ≤ g5 by rw [hg]; exact HB.out.size); replace B2 := bb B2 hb; replace B3 := bb B3 hb; replace B4 := bb B4 hb; have B5 := qM hk; have HB := qM (below_step HB.out hb); clear hk hb hg; have ne25 := N25.out; have ne52 := Ne.symm N25.out; have ne35 := N35.out; have ne53 := Ne.symm N35.out; have ne45 := N45.out; have ne54 := Ne.symm N45.out; obtain ⟨z20, z21, z22, f20, f21, f22⟩ := cells3 B2.out; obtain ⟨z30, z31, z32, z33, z34, z35, z36, z37, z38, z39, z310, z311⟩ := cells12z B3.out; obtain ⟨z40, z41, z42, f40, f41, f42⟩ := cells3 B4.out; obtain ⟨z50, z51, z52, z53, z54, z55, f50, f51, f52, f53, f54, f55⟩ := cells6 B5.out) | (go_at_call 27; refine (HTH.out _).mono ?_; rintro e w1 ⟨rfl, hd⟩; have hb := hd.below; clear hd; replace B2 := bb B2 hb; replace B3 := bb B3 hb; replace B4 := bb B4 hb; replace B5 := bb B5 hb; replace HB := qM (below_step HB.out hb); clear z20 z21 z22 f20 f21 f22 z30 z31 z32 z33 z34 z35 z36 z37 z38 z39 z310 z311 z40 z41 z42 f40 f41 f42 z50 z51 z52 z53 z54 z55 f50 f51 f52 f53 f54 f55; clear hb; obtain ⟨z20, z21, z22, f20, f21, f22⟩ := cells3 B2.out; obtain ⟨z30, z31, z32, z33, z34, z35, z36, z37, z38, z39, z310, z311⟩ := cells12z B3.out; obtain ⟨z40, z41, z42, f40, f41, f42⟩ := cells3 B4.out; obtain ⟨z50, z51, z52, z53, z54, z55, f50, f51, f52, f53, f54, f55⟩ := cells6 B5.out) | (go_at_call 28; obtain ⟨S1, hS1⟩ : ∃ S, w1.heap.size = S := ⟨_, rfl⟩; have Z := qM (show S1 ≤ w1.heap.size from Nat.le_of_eq hS1.symm); have M2 := qM (show g2 < S1 from hS1 ▸ blk_lt B2.out); have M3 := qM (show g3 < S1 from hS1 ▸ blk_lt B3.out); have M4 := qM (show g4 < S1 from hS1 ▸ blk_lt B4.out); have M5 := qM (show g5 < S1 from hS1 ▸ blk_lt B5.out); clear hS1; refine (with_SF Pq w.heap.size S1 _ _ _ l0 l1 l2 (-1) (⟨ID, c.f8, c.f9, 0, 1, [], [], 0, 0⟩ : S45) _ _ _ ((SF.of_slP HS0.out).below HB.out) ((SF.of_slP HS1.out).below HB.out) ((SF.of_slP HS2.out).below HB.out) ((SF.of_slP (SlP.nil _ _ w)).below HB.out) ((SF.of_slP (SlP.nil _ _ w)).below HB.out) (Nat.le_of_lt_succ (Nat.lt_succ_of_le Z.out)) (fun q hq => HPQ.out q (Nat.le_trans HB.out.size hq)) (by have := HG.out.2.2.1; omega) (by omega)).mono ?_; rintro e w1 ⟨u0, u1, u2, rfl, hu0, hu1, hu2, hb⟩; rw [if_pos (show (-1 : Int) < 0 by decide)] at hu0; obtain ⟨L0, eL⟩ : ∃ L, L = l0 ++ [(⟨ID, c.f8, c.f9, 0, 1, [], [], 0, 0⟩ : S45)] := ⟨_, rfl⟩; rw [← eL] at hu0; have EL0 := qM eL; clear eL; obtain ⟨D0, d0, rfl⟩ := Kd.V_slice hu0; obtain ⟨D1, d1, rfl⟩ := Kd.V_slice hu1; obtain ⟨D2, d2, rfl⟩ := Kd.V_slice hu2; replace Z := qM (Nat.le_trans Z.out hb.size); have HU0 := qM hu0; have HU1 := qM hu1; have HU2 := qM hu2; clear hu0 hu1 hu2; replace B2 := bb B2 hb; replace B3 := bb B3 hb; replace B4 := bb B4 hb; replace B5 := bb B5 hb; replace HB := qM (below_step HB.out hb); clear z20 z21 z22 f20 f21 f22 z30 z31 z32 z33 z34 z35 z36 z37 z38 z39 z310 z311 z40 z41 z42 f40 f41 f42 z50 z51 z52 z53 z54 z55 f50 f51 f52 f53 f54 f55; clear hb; obtain ⟨z20, z21, z22, f20, f21, f22⟩ := cells3 B2.out; obtain ⟨z30, z31, z32, z33, z34, z35, z36, z37, z38, z39, z310, z311⟩ := cells12z B3.out; obtain ⟨z40, z41, z42, f40, f41, f42⟩ := cells3 B4.out; obtain ⟨z50, z51, z52, z53, z54, z55, f50, f51, f52, f53, f54, f55⟩ := cells6 B5.out))
  repeat go_step
  exact fin_sf rfl (⟨0, ID, 0, 0, 0, false⟩ : Rep) B4 B5 N45 HB G4 G5 M4 M5 HU0 HU1 HU2 ((show Good (n + 1) L0 l1 from by have e := EL0.out; rw [e]; exact (HG.out.add (by have := CN.out; omega) (⟨ID, c.f8, c.f9, 0, 1, [], [], 0, 0⟩ : S45) (.inl ⟨.inl rfl, rfl⟩) ⟨(by decide : (1 : Int) ≠ 4), (by decide : (1 : Int) ≠ 5)⟩ (Nat.zero_le _)).more (by omega))) rfl rfl rfl


set_option maxHeartbeats 40000000 in
set_option maxRecDepth 100000 in
theorem does_n2 (Pq : Nat → Prop) (v0 v1 v2 v : Value) (l0 : List Vol) (l1 : List Nam) (l2 : List Ses) (c : Cmd) (w : World) (hPq : ∀ q, w.heap.size ≤ q → Pq q) (h0 : SlP Pq k45 w v0 l0) (h1 : SlP Pq k92 w v1 l1) (h2 : SlP Pq k64 w v2 l2) (h3 : SlP Pq k75 w v c.f11) (n : Nat) (hg : Good n l0 l1) (hn : n ≤ 1000) (k1 : (c.f0 == 1) = false) (hd : (c.f0 == 3) = true ∨ ((c.f0 == 3) = false ∧ (c.f0 == 4) = true) ∨ ((c.f0 == 3) = false ∧ (c.f0 == 4) = false ∧ (c.f0 == 5) = true) ∨ ((c.f0 == 3) = false ∧ (c.f0 == 4) = false ∧ (c.f0 == 5) = false ∧ (c.f0 == 8) = true)) : Calls Try.prog 21 #[.agg #[v0, v1, v2], cmdV c v] w (Back Pq (n + 1) l2 w) := by
  obtain ⟨A0, c0, rfl, hc0, hr0⟩ := h0
  obtain ⟨A1, c1, rfl, hc1, hr1⟩ := h1
  obtain ⟨A2, c2, rfl, hc2, hr2⟩ := h2
  obtain ⟨A3, c3, rfl, hc3, hr3⟩ := h3
  have HS0 := qM (show SlP Pq k45 w (.slice A0 l0.length c0) l0 from ⟨A0, c0, rfl, hc0, hr0⟩)
  have HS1 := qM (show SlP Pq k92 w (.slice A1 l1.length c1) l1 from ⟨A1, c1, rfl, hc1, hr1⟩)
  have HS2 := qM (show SlP Pq k64 w (.slice A2 l2.length c2) l2 from ⟨A2, c2, rfl, hc2, hr2⟩)
  have HS3 := qM (show SlP Pq k75 w (.slice A3 c.f11.length c3) c.f11 from ⟨A3, c3, rfl, hc3, hr3⟩)
  have HR0 := qM hr0
  have HR1 := qM (Kd.F_now hr1)
  have HR2 := qM (Kd.F_now hr2)
  have HR3 := qM (Kd.F_now hr3)
  have HG := qM hg
  have HPQ := qM hPq
  clear hc0 hr0 hc1 hr1 hc2 hr2 hc3 hr3 hg hPq
  unfold cmdV
  have HN := qM hn
  clear hn
  rcases hd with k3 | ⟨k3, k4⟩ | ⟨k3, k4, k5⟩ | ⟨k3, k4, k5, k8⟩
  all_goals
    go_enter Try.func21, Try.ntmps21
    go_wp2_with (first | ((with_reducible refine gate_dst (N := 2) rfl ?_); (try (refine gate_guard (by rfl) ?_; dsimp only)); refine box_event ?hg (N := 2) ?hd (cs := #[.slice A0 l0.length c0, .slice A1 l1.length c1, .slice A2 l2.length c2]) (t := 26) ?hr ?_; (case hd => rfl); (case hg => rfl); (case hr => first | (go_simp; done) | (go_simp; rfl)); intro g2 hg w_2 hk hb; have G2 := qM (show w.heap.size ≤ g2 by rw [hg]; exact Nat.le_refl _); have B2 := qM hk; have HB := qM (hb); clear hk hb hg; skip) | ((with_reducible refine gate_dst (N := 3) rfl ?_); (try (refine gate_guard (by rfl) ?_; dsimp only)); refine box_event ?hg (N := 3) ?hd (cs := #[.int .i64 c.f0, .int .i64 c.f1, .int .i64 c.f2, .string c.f3, .int .i64 c.f4, .int .i64 c.f5, .int .i64 c.f6, .int .u32 c.f7, .int .i64 c.f8, .int .i64 c.f9, .int .i64 c.f10, .slice A3 c.f11.length c3]) (t := 42) ?hr ?_; (case hd => rfl); (case hg => rfl); (case hr => first | (go_simp; done) | (go_simp; rfl)); intro g3 hg w_3 hk hb; have N23 := n1 B2 hg; have G3 := qM (show w.heap.size ≤ g3 by rw [hg]; exact HB.out.size); replace B2 := bb B2 hb; have B3 := qM hk; have HB := qM (below_step HB.out hb); clear hk hb hg; have ne23 := N23.out; have ne32 := Ne.symm N23.out; skip) | ((with_reducible refine gate_dst (N := 4) rfl ?_); (try (refine gate_guard (by rfl) ?_; dsimp only)); refine box_event ?hg (N := 4) ?hd (cs := #[.slice none 0 0, .slice none 0 0, .slice none 0 0]) (t := 26) ?hr ?_; (case hd => rfl); (case hg => rfl); (case hr => first | (go_simp; done) | (go_simp; rfl)); intro g4 hg w_4 hk hb; have N24 := n1 B2 hg; have N34 := n1 B3 hg; have G4 := qM (show w.heap.size ≤ g4 by rw [hg]; exact HB.out.size); replace B2 := bb B2 hb; replace B3 := bb B3 hb; have B4 := qM hk; have HB := qM (below_step HB.out hb); clear hk hb hg; have ne24 := N24.out; have ne42 := Ne.symm N24.out; have ne34 := N34.out; have ne43 := Ne.symm N34.out; skip) | ((with_reducible refine gate_dst (N := 5) rfl ?_); (try (refine gate_guard (by rfl) ?_; dsimp only)); refine box_event ?hg (N := 5) ?hd (cs := #[.int .i64 0, .int .i64 0, .int .i64 0, .int .i64 0, .int .u32 0, .bool false]) (t := 37) ?hr ?_; (case hd => rfl); (case hg => rfl); (case hr => first | (go_simp; done) | (go_simp; rfl)); intro g5 hg w_5 hk hb; have N25 := n1 B2 hg; have N35 := n1 B3 hg; have N45 := n1 B4 hg; have G5 := qM (show w.heap.size ≤ g5 by rw [hg]; exact HB.out.size); replace B2 := bb B2 hb; replace B3 := bb B3 hb; replace B4 := bb B4 hb; have B5 := qM hk; have HB := qM (below_step HB.out hb); clear hk hb hg; have ne25 := N25.out; have ne52 := Ne.symm N25.out; have ne35 := N35.out; have ne53 := Ne.symm N35.out; have ne45 := N45.out; have ne54 := Ne.symm N45.out; obtain ⟨z20, z21, z22, f20, f21, f22⟩ := cells3 B2.out; obtain ⟨z30, z31, z32, z33, z34, z35, z36, z37, z38, z39, z310, z311⟩ := cells12z B3.out; obtain ⟨z40, z41, z42, f40, f41, f42⟩ := cells3 B4.out; obtain ⟨z50, z51, z52, z53, z54, z55, f50, f51, f52, f53, f54, f55⟩ := cells6 B5.out) | (go_at_call 29; obtain ⟨S1, hS1⟩ : ∃ S, w_5.heap.size = S := ⟨_, rfl⟩; have Z := qM (show S1 ≤ w_5.heap.size from Nat.le_of_eq hS1.symm); have M2 := qM (show g2 < S1 from hS1 ▸ blk_lt B2.out); have M3 := qM (show g3 < S1 from hS1 ▸ blk_lt B3.out); have M4 := qM (show g4 < S1 from hS1 ▸ blk_lt B4.out); have M5 := qM (show g5 < S1 from hS1 ▸ blk_lt B5.out); clear hS1; refine (put_reads (fun q => Pq q ∧ (q < w.heap.size ∨ S1 ≤ q)) _ _ _ (.slice A3 c.f11.length c3) l0 l1 l2 c _ (fun q hq => ⟨HPQ.out q (Nat.le_trans HB.out.size hq), .inr (Nat.le_trans Z.out hq)⟩) ((SF.of_slP HS0.out).below HB.out) ((SF.of_slP HS1.out).below HB.out) ((SF.of_slP HS2.out).below HB.out) ((SF.of_slP HS3.out).below HB.out) n HG.out HN.out).mono ?_; rintro e w1 ⟨u0, u1, u2, L0, L1, r, rfl, hu0, hu1, hu2, hG2, hb⟩; unfold repV; obtain ⟨D0, d0, rfl⟩ := Kd.V_slice hu0; obtain ⟨D1, d1, rfl⟩ := Kd.V_slice hu1; obtain ⟨D2, d2, rfl⟩ := Kd.V_slice hu2; have HU0 := qM (show SF Pq k45 w.heap.size S1 _ _ L0 from hu0); have HU1 := qM (show SF Pq k92 w.heap.size S1 _ _ L1 from hu1); have HU2 := qM (show SF Pq k64 w.heap.size S1 _ _ l2 from hu2); have HG2 := qM hG2; clear hu0 hu1 hu2 hG2; replace B2 := bb B2 hb; replace B3 := bb B3 hb; replace B4 := bb B4 hb; replace B5 := bb B5 hb; replace HB := qM (below_step HB.out hb); clear z20 z21 z22 f20 f21 f22 z30 z31 z32 z33 z34 z35 z36 z37 z38 z39 z310 z311 z40 z41 z42 f40 f41 f42 z50 z51 z52 z53 z54 z55 f50 f51 f52 f53 f54 f55; clear hb; obtain ⟨z20, z21, z22, f20, f21, f22⟩ := cells3 B2.out; obtain ⟨z30, z31, z32, z33, z34, z35, z36, z37, z38, z39, z310, z311⟩ := cells12z B3.out; obtain ⟨z40, z41, z42, f40, f41, f42⟩ := cells3 B4.out; obtain ⟨z50, z51, z52, z53, z54, z55, f50, f51, f52, f53, f54, f55⟩ := cells6 B5.out) | (go_at_call 30; obtain ⟨S1, hS1⟩ : ∃ S, w_5.heap.size = S := ⟨_, rfl⟩; have Z := qM (show S1 ≤ w_5.heap.size from Nat.le_of_eq hS1.symm); have M2 := qM (show g2 < S1 from hS1 ▸ blk_lt B2.out); have M3 := qM (show g3 < S1 from hS1 ▸ blk_lt B3.out); have M4 := qM (show g4 < S1 from hS1 ▸ blk_lt B4.out); have M5 := qM (show g5 < S1 from hS1 ▸ blk_lt B5.out); clear hS1; refine (names_P (fun q => Pq q ∧ (q < w.heap.size ∨ S1 ≤ q)) l0 l1 l2 c (by have := HG.out.2.2.2.1; omega) _ _ _ (.slice A3 c.f11.length c3) _ (fun q hq => ⟨HPQ.out q (Nat.le_trans HB.out.size hq), .inr (Nat.le_trans Z.out hq)⟩) ((SF.of_slP HS0.out).below HB.out) ((SF.of_slP HS1.out).below HB.out) ((SF.of_slP HS2.out).below HB.out) ((SF.of_slP HS3.out).below HB.out) n HG.out).mono ?_; rintro e w1 ⟨u0, u1, u2, L0, L1, r, rfl, hu0, hu1, hu2, hG2, hb⟩; unfold repV; obtain ⟨D0, d0, rfl⟩ := Kd.V_slice hu0; obtain ⟨D1, d1, rfl⟩ := Kd.V_slice hu1; obtain ⟨D2, d2, rfl⟩ := Kd.V_slice hu2; have HU0 := qM (show SF Pq k45 w.heap.size S1 _ _ L0 from hu0); have HU1 := qM (show SF Pq k92 w.heap.size S1 _ _ L1 from hu1); have HU2 := qM (show SF Pq k64 w.heap.size S1 _ _ l2 from hu2); have HG2 := qM hG2; clear hu0 hu1 hu2 hG2; replace B2 := bb B2 hb; replace B3 := bb B3 hb; replace B4 := bb B4 hb; replace B5 := bb B5 hb; replace HB := qM (below_step HB.out hb); clear z20 z21 z22 f20 f21 f22 z30 z31 z32 z33 z34 z35 z36 z37 z38 z39 z310 z311 z40 z41 z42 f40 f41 f42 z50 z51 z52 z53 z54 z55 f50 f51 f52 f53 f54 f55; clear hb; obtain ⟨z20, z21, z22, f20, f21, f22⟩ := cells3 B2.out; obtain ⟨z30, z31, z32, z33, z34, z35, z36, z37, z38, z39, z310, z311⟩ := cells12z B3.out; obtain ⟨z40, z41, z42, f40, f41, f42⟩ := cells3 B4.out; obtain ⟨z50, z51, z52, z53, z54, z55, f50, f51, f52, f53, f54, f55⟩ := cells6 B5.out) | (go_at_call 31; obtain ⟨S1, hS1⟩ : ∃ S, w_5.heap.size = S := ⟨_, rfl⟩; have Z := qM (show S1 ≤ w_5.heap.size from Nat.le_of_eq hS1.symm); have M2 := qM (show g2 < S1 from hS1 ▸ blk_lt B2.out); have M3 := qM (show g3 < S1 from hS1 ▸ blk_lt B3.out); have M4 := qM (show g4 < S1 from hS1 ▸ blk_lt B4.out); have M5 := qM (show g5 < S1 from hS1 ▸ blk_lt B5.out); clear hS1; refine (pair_reads (fun q => Pq q ∧ (q < w.heap.size ∨ S1 ≤ q)) _ _ _ (.slice A3 c.f11.length c3) l0 l1 l2 c _ (fun q hq => ⟨HPQ.out q (Nat.le_trans HB.out.size hq), .inr (Nat.le_trans Z.out hq)⟩) ((SF.of_slP HS0.out).below HB.out) ((SF.of_slP HS1.out).below HB.out) ((SF.of_slP HS2.out).below HB.out) ((SF.of_slP HS3.out).below HB.out) n HG.out).mono ?_; rintro e w1 ⟨u0, u1, u2, L0, L1, r, rfl, hu0, hu1, hu2, hG2, hb⟩; unfold repV; obtain ⟨D0, d0, rfl⟩ := Kd.V_slice hu0; obtain ⟨D1, d1, rfl⟩ := Kd.V_slice hu1; obtain ⟨D2, d2, rfl⟩ := Kd.V_slice hu2; have HU0 := qM (show SF Pq k45 w.heap.size S1 _ _ L0 from hu0); have HU1 := qM (show SF Pq k92 w.heap.size S1 _ _ L1 from hu1); have HU2 := qM (show SF Pq k64 w.heap.size S1 _ _ l2 from hu2); have HG2 := qM hG2; clear hu0 hu1 hu2 hG2; replace B2 := bb B2 hb; replace B3 := bb B3 hb; replace B4 := bb B4 hb; replace B5 := bb B5 hb; replace HB := qM (below_step HB.out hb); clear z20 z21 z22 f20 f21 f22 z30 z31 z32 z33 z34 z35 z36 z37 z38 z39 z310 z311 z40 z41 z42 f40 f41 f42 z50 z51 z52 z53 z54 z55 f50 f51 f52 f53 f54 f55; clear hb; obtain ⟨z20, z21, z22, f20, f21, f22⟩ := cells3 B2.out; obtain ⟨z30, z31, z32, z33, z34, z35, z36, z37, z38, z39, z310, z311⟩ := cells12z B3.out; obtain ⟨z40, z41, z42, f40, f41, f42⟩ := cells3 B4.out; obtain ⟨z50, z51, z52, z53, z54, z55, f50, f51, f52, f53, f54, f55⟩ := cells6 B5.out) | ((with_reducible refine gate_dst (N := 56) rfl ?_); refine Aside0.out ?_) | ((with_reducible refine gate_dst (N := 63) rfl ?_); refine Aside0.out ?_) | ((with_reducible refine gate_dst (N := 70) rfl ?_); refine Aside0.out ?_) | ((with_reducible refine gate_dst (N := 77) rfl ?_); refine Aside0.out ?_))
    refine Aside0.mk ?_
    repeat go_step
    exact fin_sf rfl (⟨r.f0, r.f1, r.f2, r.f3, r.f4, r.f5⟩ : Rep) B4 B5 N45 HB G4 G5 M4 M5 HU0 HU1 HU2 (HG2.out) rfl rfl rfl


set_option maxHeartbeats 40000000 in
set_option maxRecDepth 100000 in
theorem does_h (Pq : Nat → Prop) (v0 v1 v2 v : Value) (l0 : List Vol) (l1 : List Nam) (l2 : List Ses) (c : Cmd) (w : World) (hPq : ∀ q, w.heap.size ≤ q → Pq q) (h0 : SlP Pq k45 w v0 l0) (h1 : SlP Pq k92 w v1 l1) (h2 : SlP Pq k64 w v2 l2) (h3 : SlP Pq k75 w v c.f11) (n : Nat) (hg : Good n l0 l1) (hn : n ≤ 1000) (k1 : (c.f0 == 1) = false) (k3 : (c.f0 == 3) = false) (k4 : (c.f0 == 4) = false) (k5 : (c.f0 == 5) = false) (k8 : (c.f0 == 8) = false) (i : Int) (hva : VolC l0 l1 l2 c.f4 i) (ci : i < 0) : Calls Try.prog 21 #[.agg #[v0, v1, v2], cmdV c v] w (Back Pq (n + 1) l2 w) := by
  obtain ⟨A0, c0, rfl, hc0, hr0⟩ := h0
  obtain ⟨A1, c1, rfl, hc1, hr1⟩ := h1
  obtain ⟨A2, c2, rfl, hc2, hr2⟩ := h2
  obtain ⟨A3, c3, rfl, hc3, hr3⟩ := h3
  have HS0 := qM (show SlP Pq k45 w (.slice A0 l0.length c0) l0 from ⟨A0, c0, rfl, hc0, hr0⟩)
  have HS1 := qM (show SlP Pq k92 w (.slice A1 l1.length c1) l1 from ⟨A1, c1, rfl, hc1, hr1⟩)
  have HS2 := qM (show SlP Pq k64 w (.slice A2 l2.length c2) l2 from ⟨A2, c2, rfl, hc2, hr2⟩)
  have HS3 := qM (show SlP Pq k75 w (.slice A3 c.f11.length c3) c.f11 from ⟨A3, c3, rfl, hc3, hr3⟩)
  have HR0 := qM hr0
  have HR1 := qM (Kd.F_now hr1)
  have HR2 := qM (Kd.F_now hr2)
  have HR3 := qM (Kd.F_now hr3)
  have HG := qM hg
  have HPQ := qM hPq
  clear hc0 hr0 hc1 hr1 hc2 hr2 hc3 hr3 hg hPq
  unfold cmdV
  have HN := qM hn
  clear hn
  have HVA := qM hva
  clear hva
  have d1 : decide (i < 0) = true := decide_eq_true ci
  clear ci
  go_enter Try.func21, Try.ntmps21
  go_wp2_with (first | ((with_reducible refine gate_dst (N := 2) rfl ?_); (try (refine gate_guard (by rfl) ?_; dsimp only)); refine box_event ?hg (N := 2) ?hd (cs := #[.slice A0 l0.length c0, .slice A1 l1.length c1, .slice A2 l2.length c2]) (t := 26) ?hr ?_; (case hd => rfl); (case hg => rfl); (case hr => first | (go_simp; done) | (go_simp; rfl)); intro g2 hg w_2 hk hb; have G2 := qM (show w.heap.size ≤ g2 by rw [hg]; exact Nat.le_refl _); have B2 := qM hk; have HB := qM (hb); clear hk hb hg; skip) | ((with_reducible refine gate_dst (N := 3) rfl ?_); (try (refine gate_guard (by rfl) ?_; dsimp only)); refine box_event ?hg (N := 3) ?hd (cs := #[.int .i64 c.f0, .int .i64 c.f1, .int .i64 c.f2, .string c.f3, .int .i64 c.f4, .int .i64 c.f5, .int .i64 c.f6, .int .u32 c.f7, .int .i64 c.f8, .int .i64 c.f9, .int .i64 c.f10, .slice A3 c.f11.length c3]) (t := 42) ?hr ?_; (case hd => rfl); (case hg => rfl); (case hr => first | (go_simp; done) | (go_simp; rfl)); intro g3 hg w_3 hk hb; have N23 := n1 B2 hg; have G3 := qM (show w.heap.size ≤ g3 by rw [hg]; exact HB.out.size); replace B2 := bb B2 hb; have B3 := qM hk; have HB := qM (below_step HB.out hb); clear hk hb hg; have ne23 := N23.out; have ne32 := Ne.symm N23.out; skip) | ((with_reducible refine gate_dst (N := 4) rfl ?_); (try (refine gate_guard (by rfl) ?_; dsimp only)); refine box_event ?hg (N := 4) ?hd (cs := #[.slice none 0 0, .slice none 0 0, .slice none 0 0]) (t := 26) ?hr ?_; (case hd => rfl); (case hg => rfl); (case hr => first | (go_simp; done) | (go_simp; rfl)); intro g4 hg w_4 hk hb; have N24 := n1 B2 hg; have N34 := n1 B3 hg; have G4 := qM (show w.heap.size ≤ g4 by rw [hg]; exact HB.out.size); replace B2 := bb B2 hb; replace B3 := bb B3 hb; have B4 := qM hk; have HB := qM (below_step HB.out hb); clear hk hb hg; have ne24 := N24.out; have ne42 := Ne.symm N24.out; have ne34 := N34.out; have ne43 := Ne.symm N34.out; skip) | ((with_reducible refine gate_dst (N := 5) rfl ?_); (try (refine gate_guard (by rfl) ?_; dsimp only)); refine box_event ?hg (N := 5) ?hd (cs := #[.int .i64 0, .int .i64 0, .int .i64 0, .int .i64 0, .int .u32 0, .bool false]) (t := 37) ?hr ?_; (case hd => rfl); (case hg => rfl); (case hr => first | (go_simp; done) | (go_simp; rfl)); intro g5 hg w_5 hk hb; have N25 := n1 B2 hg; have N35 := n1 B3 hg; have N45 := n1 B4 hg; have G5 := qM (show w.heap.size ≤ g5 by rw [hg]; exact HB.out.size); replace B2 := bb B2 hb; replace B3 := bb B3 hb; replace B4 := bb B4 hb; have B5 := qM hk; have HB := qM (below_step HB.out hb); clear hk hb hg; have ne25 := N25.out; have ne52 := Ne.symm N25.out; have ne35 := N35.out; have ne53 := Ne.symm N35.out; have ne45 := N45.out; have ne54 := Ne.symm N45.out; obtain ⟨z20, z21, z22, f20, f21, f22⟩ := cells3 B2.out; obtain ⟨z30, z31, z32, z33, z34, z35, z36, z37, z38, z39, z310, z311⟩ := cells12z B3.out; obtain ⟨z40, z41, z42, f40, f41, f42⟩ := cells3 B4.out; obtain ⟨z50, z51, z52, z53, z54, z55, f50, f51, f52, f53, f54, f55⟩ := cells6 B5.out) | (go_at_call 32; refine (HVA.out _ _ _ _ (HS0.out.below HB.out).sl (HS1.out.below HB.out).sl (HS2.out.below HB.out).sl).mono ?_; rintro e w1 ⟨rfl, hb⟩; replace B2 := bb B2 hb; replace B3 := bb B3 hb; replace B4 := bb B4 hb; replace B5 := bb B5 hb; replace HB := qM (below_step HB.out hb); clear z20 z21 z22 f20 f21 f22 z30 z31 z32 z33 z34 z35 z36 z37 z38 z39 z310 z311 z40 z41 z42 f40 f41 f42 z50 z51 z52 z53 z54 z55 f50 f51 f52 f53 f54 f55; clear hb; obtain ⟨z20, z21, z22, f20, f21, f22⟩ := cells3 B2.out; obtain ⟨z30, z31, z32, z33, z34, z35, z36, z37, z38, z39, z310, z311⟩ := cells12z B3.out; obtain ⟨z40, z41, z42, f40, f41, f42⟩ := cells3 B4.out; obtain ⟨z50, z51, z52, z53, z54, z55, f50, f51, f52, f53, f54, f55⟩ := cells6 B5.out))
  refine wp_region_any (by kernel_rfl) ?_
  change wpAny _ _ _ _ _ _ _ (World.drew _)
  refine wpAny_ready (rs := [0, 1]) (by kernel_rfl) (by simp) ?_
  refine AllReady.cons rfl (fun K hK => ?_) (AllReady.cons rfl (fun K hK => ?_) AllReady.nil)
  · go_simp
    refine hK _ _ ?_
    clear hK K
    refine wpAny_ready (rs := [1]) (by kernel_rfl) (by simp) ?_
    refine AllReady.cons rfl (fun K hK => ?_) AllReady.nil
    go_simp
    refine (no_reads _ _).mono ?_
    rintro e w9 ⟨rfl, hb⟩
    replace B2 := bd B2 hb; replace B4 := bd B4 hb; replace B5 := bd B5 hb; replace HB := qM (below_step (below_drew1 HB.out) hb); clear z20 z21 z22 f20 f21 f22 z30 z31 z32 z33 z34 z35 z36 z37 z38 z39 z310 z311 z40 z41 z42 f40 f41 f42 z50 z51 z52 z53 z54 z55 f50 f51 f52 f53 f54 f55; clear hb; obtain ⟨z20, z21, z22, f20, f21, f22⟩ := cells3 B2.out; obtain ⟨z40, z41, z42, f40, f41, f42⟩ := cells3 B4.out; obtain ⟨z50, z51, z52, z53, z54, z55, f50, f51, f52, f53, f54, f55⟩ := cells6 B5.out
    dsimp only
    refine hK _ _ ?_
    clear hK K
    refine wpAny_ready (rs := [2]) (by kernel_rfl) (by simp) ?_
    refine AllReady.cons rfl (fun K hK => ?_) AllReady.nil
    go_simp
    refine hK _ _ ?_
    clear hK K
    refine wpAny_ready (rs := [3]) (by kernel_rfl) (by simp) ?_
    refine AllReady.cons rfl (fun K hK => ?_) AllReady.nil
    go_simp
    refine hK _ _ ?_
    clear hK K
    refine wpAny_done (by kernel_rfl) ?_ _
    repeat go_step
    exact fin_no rfl B4 B5 N45 HB G4 G5 HS0 HS1 HS2 HG rfl rfl rfl
  · go_simp
    refine (no_reads _ _).mono ?_
    rintro e w9 ⟨rfl, hb⟩
    replace B2 := bd B2 hb; replace B4 := bd B4 hb; replace B5 := bd B5 hb; replace HB := qM (below_step (below_drew1 HB.out) hb); clear z20 z21 z22 f20 f21 f22 z30 z31 z32 z33 z34 z35 z36 z37 z38 z39 z310 z311 z40 z41 z42 f40 f41 f42 z50 z51 z52 z53 z54 z55 f50 f51 f52 f53 f54 f55; clear hb; obtain ⟨z20, z21, z22, f20, f21, f22⟩ := cells3 B2.out; obtain ⟨z40, z41, z42, f40, f41, f42⟩ := cells3 B4.out; obtain ⟨z50, z51, z52, z53, z54, z55, f50, f51, f52, f53, f54, f55⟩ := cells6 B5.out
    dsimp only
    refine hK _ _ ?_
    clear hK K
    refine wpAny_ready (rs := [0]) (by kernel_rfl) (by simp) ?_
    refine AllReady.cons rfl (fun K hK => ?_) AllReady.nil
    go_simp
    refine hK _ _ ?_
    clear hK K
    refine wpAny_ready (rs := [2]) (by kernel_rfl) (by simp) ?_
    refine AllReady.cons rfl (fun K hK => ?_) AllReady.nil
    go_simp
    refine hK _ _ ?_
    clear hK K
    refine wpAny_ready (rs := [3]) (by kernel_rfl) (by simp) ?_
    refine AllReady.cons rfl (fun K hK => ?_) AllReady.nil
    go_simp
    refine hK _ _ ?_
    clear hK K
    refine wpAny_done (by kernel_rfl) ?_ _
    repeat go_step
    exact fin_no rfl B4 B5 N45 HB G4 G5 HS0 HS1 HS2 HG rfl rfl rfl
end Go.Proofs.Ytlfonfceaiiinaa.PAll
