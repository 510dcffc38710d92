/- does: kinds 2 and 6. -/
import Derived.Test.YtlfonfceaiiinaaIxDoesH
namespace Go.Proofs.Ytlfonfceaiiinaa.PAll
open Go.RowKit Go.Proofs.YtlfonfceaiiinaaW.PrintWords Go.Proofs.YtlfonfceaiiinaaW.PrintLast Go.Proofs.YtlfonfceaiiinaaW.PrintMore
set_option linter.unusedVariables false
set_option linter.unusedSimpArgs false
attribute [local irreducible] World.setCell
attribute [local go_sem high] eqA75
set_option maxHeartbeats 40000000 in
set_option maxRecDepth 100000 in
theorem does_m (Pq : Nat → Prop) (v0 v1 v2 v : Value) (l0 : List Vol) (l1 : List Nam) (l2 : List Ses) (c : Cmd) (w : World) (hPq : ∀ q, w.heap.size ≤ q → Pq q) (h0 : SlP Pq k45 w v0 l0) (h1 : SlP Pq k92 w v1 l1) (h2 : SlP Pq k64 w v2 l2) (h3 : SlP Pq k75 w v c.f11) (n : Nat) (hg : Good n l0 l1) (hn : n ≤ 1000) (k1 : (c.f0 == 1) = false) (k3 : (c.f0 == 3) = false) (k4 : (c.f0 == 4) = false) (k5 : (c.f0 == 5) = false) (k8 : (c.f0 == 8) = false) (k2 : (c.f0 == 2) = true) (i : Int) (hva : VolC l0 l1 l2 c.f4 i) (ci : 0 ≤ i) (cl : i < (l0.length : Int)) (cp : (rd_T45 l0 i).f4 = 1) (cz : 1 ≤ c.f6) (cy : c.f6 ≤ 32) (cu : ¬(rd_T45 l0 i).f3 > 160 - c.f6) : Calls Try.prog 21 #[.agg #[v0, v1, v2], cmdV c v] w (Back Pq (n + 1) l2 w) := by
  obtain ⟨A0, c0, rfl, hc0, hr0⟩ := h0
  obtain ⟨A1, c1, rfl, hc1, hr1⟩ := h1
  obtain ⟨A2, c2, rfl, hc2, hr2⟩ := h2
  obtain ⟨A3, c3, rfl, hc3, hr3⟩ := h3
  have HS0 := qM (show SlP Pq k45 w (.slice A0 l0.length c0) l0 from ⟨A0, c0, rfl, hc0, hr0⟩)
  have HS1 := qM (show SlP Pq k92 w (.slice A1 l1.length c1) l1 from ⟨A1, c1, rfl, hc1, hr1⟩)
  have HS2 := qM (show SlP Pq k64 w (.slice A2 l2.length c2) l2 from ⟨A2, c2, rfl, hc2, hr2⟩)
  have HS3 := qM (show SlP Pq k75 w (.slice A3 c.f11.length c3) c.f11 from ⟨A3, c3, rfl, hc3, hr3⟩)
  have HR0 := qM hr0
  have HR1 := qM (Kd.F_now hr1)
  have HR2 := qM (Kd.F_now hr2)
  have HR3 := qM (Kd.F_now hr3)
  have HG := qM hg
  have HPQ := qM hPq
  clear hc0 hr0 hc1 hr1 hc2 hr2 hc3 hr3 hg hPq
  unfold cmdV
  have HN := qM hn
  clear hn
  have HVA := qM hva
  clear hva
  have d1 : decide (i < 0) = false := decide_eq_false (by omega)
  obtain ⟨ad, A5, c5, A6, c6, e, hx0, hx1, hx2, hx3, hx4, hx5, hx6, hx7, hx8, hl5, hi5, hl6, hi6⟩ := at_F45 HR0.out i ci cl
  cases e
  have HX := qM (And.intro hx0 (And.intro hx1 (And.intro hx2 (And.intro hx3 (And.intro hx4 (And.intro hx5 (And.intro hx6 (And.intro hx7 hx8))))))))
  have HI5 := qM hi5
  have HI6 := qM hi6
  have HL5 := qM hl5
  have HL6 := qM hl6
  clear hi5 hi6 hl5 hl6 hx0 hx1 hx2 hx3 hx4 hx5 hx6 hx7 hx8
  have p0 := eq_true ci
  have p1 := eq_true cl
  have d3 : ((rd_T45 l0 i).f4 != 1) = false := bne_eq_false_iff_eq.mpr cp
  have CP := qM cp
  clear cp
  have d4 : decide (c.f6 < 1) = false := decide_eq_false (by omega)
  have d5 : decide (c.f6 > 32) = false := decide_eq_false (by omega)
  have d6 : decide ((rd_T45 l0 i).f3 > 160 - c.f6) = false := decide_eq_false cu
  have CU := qM cu
  clear cu
  obtain ⟨UU, hUU⟩ : ∃ q, wrap64 ((rd_T45 l0 i).f3 + c.f6) = q := ⟨_, rfl⟩
  go_enter Try.func21, Try.ntmps21
  go_wp2_with (first | ((with_reducible refine gate_dst (N := 2) rfl ?_); (try (refine gate_guard (by rfl) ?_; dsimp only)); refine box_event ?hg (N := 2) ?hd (cs := #[.slice (some ad) l0.length c0, .slice A1 l1.length c1, .slice A2 l2.length c2]) (t := 26) ?hr ?_; (case hd => rfl); (case hg => rfl); (case hr => first | (go_simp; done) | (go_simp; rfl)); intro g2 hg w_2 hk hb; have G2 := qM (show w.heap.size ≤ g2 by rw [hg]; exact Nat.le_refl _); have B2 := qM hk; have HB := qM (hb); clear hk hb hg; skip) | ((with_reducible refine gate_dst (N := 3) rfl ?_); (try (refine gate_guard (by rfl) ?_; dsimp only)); refine box_event ?hg (N := 3) ?hd (cs := #[.int .i64 c.f0, .int .i64 c.f1, .int .i64 c.f2, .string c.f3, .int .i64 c.f4, .int .i64 c.f5, .int .i64 c.f6, .int .u32 c.f7, .int .i64 c.f8, .int .i64 c.f9, .int .i64 c.f10, .slice A3 c.f11.length c3]) (t := 42) ?hr ?_; (case hd => rfl); (case hg => rfl); (case hr => first | (go_simp; done) | (go_simp; rfl)); intro g3 hg w_3 hk hb; have N23 := n1 B2 hg; have G3 := qM (show w.heap.size ≤ g3 by rw [hg]; exact HB.out.size); replace B2 := bb B2 hb; have B3 := qM hk; have HB := qM (below_step HB.out hb); clear hk hb hg; have ne23 := N23.out; have ne32 := Ne.symm N23.out; skip) | ((with_reducible refine gate_dst (N := 4) rfl ?_); (try (refine gate_guard (by rfl) ?_; dsimp only)); refine box_event ?hg (N := 4) ?hd (cs := #[.slice none 0 0, .slice none 0 0, .slice none 0 0]) (t := 26) ?hr ?_; (case hd => rfl); (case hg => rfl); (case hr => first | (go_simp; done) | (go_simp; rfl)); intro g4 hg w_4 hk hb; have N24 := n1 B2 hg; have N34 := n1 B3 hg; have G4 := qM (show w.heap.size ≤ g4 by rw [hg]; exact HB.out.size); replace B2 := bb B2 hb; replace B3 := bb B3 hb; have B4 := qM hk; have HB := qM (below_step HB.out hb); clear hk hb hg; have ne24 := N24.out; have ne42 := Ne.symm N24.out; have ne34 := N34.out; have ne43 := Ne.symm N34.out; skip) | ((with_reducible refine gate_dst (N := 5) rfl ?_); (try (refine gate_guard (by rfl) ?_; dsimp only)); refine box_event ?hg (N := 5) ?hd (cs := #[.int .i64 0, .int .i64 0, .int .i64 0, .int .i64 0, .int .u32 0, .bool false]) (t := 37) ?hr ?_; (case hd => rfl); (case hg => rfl); (case hr => first | (go_simp; done) | (go_simp; rfl)); intro g5 hg w_5 hk hb; have N25 := n1 B2 hg; have N35 := n1 B3 hg; have N45 := n1 B4 hg; have G5 := qM (show w.heap.size ≤ g5 by rw [hg]; exact HB.out.size); replace B2 := bb B2 hb; replace B3 := bb B3 hb; replace B4 := bb B4 hb; have B5 := qM hk; have HB := qM (below_step HB.out hb); clear hk hb hg; have ne25 := N25.out; have ne52 := Ne.symm N25.out; have ne35 := N35.out; have ne53 := Ne.symm N35.out; have ne45 := N45.out; have ne54 := Ne.symm N45.out; obtain ⟨z20, z21, z22, f20, f21, f22⟩ := cells3 B2.out; obtain ⟨z30, z31, z32, z33, z34, z35, z36, z37, z38, z39, z310, z311⟩ := cells12z B3.out; obtain ⟨z40, z41, z42, f40, f41, f42⟩ := cells3 B4.out; obtain ⟨z50, z51, z52, z53, z54, z55, f50, f51, f52, f53, f54, f55⟩ := cells6 B5.out) | (go_at_call 32; refine (HVA.out _ _ _ _ (HS0.out.below HB.out).sl (HS1.out.below HB.out).sl (HS2.out.below HB.out).sl).mono ?_; rintro e w1 ⟨rfl, hb⟩; replace B2 := bb B2 hb; replace B3 := bb B3 hb; replace B4 := bb B4 hb; replace B5 := bb B5 hb; replace HB := qM (below_step HB.out hb); clear z20 z21 z22 f20 f21 f22 z30 z31 z32 z33 z34 z35 z36 z37 z38 z39 z310 z311 z40 z41 z42 f40 f41 f42 z50 z51 z52 z53 z54 z55 f50 f51 f52 f53 f54 f55; clear hb; obtain ⟨z20, z21, z22, f20, f21, f22⟩ := cells3 B2.out; obtain ⟨z30, z31, z32, z33, z34, z35, z36, z37, z38, z39, z310, z311⟩ := cells12z B3.out; obtain ⟨z40, z41, z42, f40, f41, f42⟩ := cells3 B4.out; obtain ⟨z50, z51, z52, z53, z54, z55, f50, f51, f52, f53, f54, f55⟩ := cells6 B5.out; obtain ⟨hx0, hx1, hx2, hx3, hx4, hx5, hx6, hx7, hx8⟩ := HX.out; replace hx0 := held HB.out hx0; replace hx1 := held HB.out hx1; replace hx2 := held HB.out hx2; replace hx3 := held HB.out hx3; replace hx4 := held HB.out hx4; replace hx5 := held HB.out hx5; replace hx6 := held HB.out hx6; replace hx7 := held HB.out hx7; replace hx8 := held HB.out hx8) | ((with_reducible refine gate_dst (N := 92) rfl ?_); obtain ⟨g8, w8, hg, hw, hk, hb⟩ := box_new w1 #[.int .i64 (rd_T45 l0 i).f0, .int .i64 (rd_T45 l0 i).f1, .int .i64 (rd_T45 l0 i).f2, .int .i64 (rd_T45 l0 i).f3, .int .i64 (rd_T45 l0 i).f4, .slice A5 (rd_T45 l0 i).f5.length c5, .slice A6 (rd_T45 l0 i).f6.length c6, .int .i64 (rd_T45 l0 i).f7, .int .i64 (rd_T45 l0 i).f8] 45; rw [hw, hg]; have N28 := n2 B2 hg; have N38 := n2 B3 hg; have N48 := n2 B4 hg; have N58 := n2 B5 hg; replace B2 := bb B2 hb; replace B3 := bb B3 hb; replace B4 := bb B4 hb; replace B5 := bb B5 hb; have G8 := qM (show w.heap.size ≤ g8 by rw [← hg]; exact HB.out.size); replace HB := qM (below_step HB.out hb); have B8 := qM hk; clear z20 z21 z22 f20 f21 f22 z30 z31 z32 z33 z34 z35 z36 z37 z38 z39 z310 z311 z40 z41 z42 f40 f41 f42 z50 z51 z52 z53 z54 z55 f50 f51 f52 f53 f54 f55; clear hk hb hg hw; obtain ⟨z20, z21, z22, f20, f21, f22⟩ := cells3 B2.out; obtain ⟨z30, z31, z32, z33, z34, z35, z36, z37, z38, z39, z310, z311⟩ := cells12z B3.out; obtain ⟨z40, z41, z42, f40, f41, f42⟩ := cells3 B4.out; obtain ⟨z50, z51, z52, z53, z54, z55, f50, f51, f52, f53, f54, f55⟩ := cells6 B5.out; obtain ⟨z80, z81, z82, z83, z84, z85, z86, z87, z88, f80, f81, f82, f83, f84, f85, f86, f87, f88⟩ := cells9 B8.out; have ne28 := N28.out; have ne82 := Ne.symm N28.out; have ne38 := N38.out; have ne83 := Ne.symm N38.out; have ne48 := N48.out; have ne84 := Ne.symm N48.out; have ne58 := N58.out; have ne85 := Ne.symm N58.out))
  generalize hst : (w8.setCell ⟨g8, 3, none⟩ (.int .i64 UU)) = wf
  replace B2 := qM (show wf.heap[g2]? = _ from hst ▸ (blk_far B2.out N28.out (.int .i64 UU)))
  replace B3 := qM (show wf.heap[g3]? = _ from hst ▸ (blk_far B3.out N38.out (.int .i64 UU)))
  replace B4 := qM (show wf.heap[g4]? = _ from hst ▸ (blk_far B4.out N48.out (.int .i64 UU)))
  replace B5 := qM (show wf.heap[g5]? = _ from hst ▸ (blk_far B5.out N58.out (.int .i64 UU)))
  replace B8 := qM (show wf.heap[g8]? = some (.cells #[.int .i64 (rd_T45 l0 i).f0, .int .i64 (rd_T45 l0 i).f1, .int .i64 (rd_T45 l0 i).f2, .int .i64 UU, .int .i64 (rd_T45 l0 i).f4, .slice A5 (rd_T45 l0 i).f5.length c5, .slice A6 (rd_T45 l0 i).f6.length c6, .int .i64 (rd_T45 l0 i).f7, .int .i64 (rd_T45 l0 i).f8] 45 (0, 0)) from hst ▸ (blk_put B8.out 3 (.int .i64 UU) rfl))
  replace HB := qM (show Below w.heap.size w wf from hst ▸ (HB.out.setCell (p := ⟨g8, 3, none⟩) G8.out (.int .i64 UU)))
  have hz : wf.heap.size = w8.heap.size := hst ▸ (Eq.trans (World.size_set _ ⟨g8, 3, none⟩ (.int .i64 UU)) (rfl : w8.heap.size = _))
  clear hz
  clear hst
  clear z20 z21 z22 f20 f21 f22 z30 z31 z32 z33 z34 z35 z36 z37 z38 z39 z310 z311 z40 z41 z42 f40 f41 f42 z50 z51 z52 z53 z54 z55 f50 f51 f52 f53 f54 f55 z80 z81 z82 z83 z84 z85 z86 z87 z88 f80 f81 f82 f83 f84 f85 f86 f87 f88
  obtain ⟨z20, z21, z22, f20, f21, f22⟩ := cells3 B2.out; obtain ⟨z30, z31, z32, z33, z34, z35, z36, z37, z38, z39, z310, z311⟩ := cells12z B3.out; obtain ⟨z40, z41, z42, f40, f41, f42⟩ := cells3 B4.out; obtain ⟨z50, z51, z52, z53, z54, z55, f50, f51, f52, f53, f54, f55⟩ := cells6 B5.out; obtain ⟨z80, z81, z82, z83, z84, z85, z86, z87, z88, f80, f81, f82, f83, f84, f85, f86, f87, f88⟩ := cells9 B8.out
  refine start_ (n := 12) (S := fun w' => w'.heap[g2]? = some (.cells #[.slice (some ad) l0.length c0, .slice A1 l1.length c1, .slice A2 l2.length c2] 26 (0, 0)) ∧ w'.heap[g3]? = some (.cells #[.int .i64 c.f0, .int .i64 c.f1, .int .i64 c.f2, .string c.f3, .int .i64 c.f4, .int .i64 c.f5, .int .i64 c.f6, .int .u32 c.f7, .int .i64 c.f8, .int .i64 c.f9, .int .i64 c.f10, .slice A3 c.f11.length c3] 42 (0, 0)) ∧ w'.heap[g8]? = some (.cells #[.int .i64 (rd_T45 l0 i).f0, .int .i64 (rd_T45 l0 i).f1, .int .i64 (rd_T45 l0 i).f2, .int .i64 UU, .int .i64 (rd_T45 l0 i).f4, .slice A5 (rd_T45 l0 i).f5.length c5, .slice A6 (rd_T45 l0 i).f6.length c6, .int .i64 (rd_T45 l0 i).f7, .int .i64 (rd_T45 l0 i).f8] 45 (0, 0))) (ds := [11]) #[false, false, false, false, false, false, false, false, false, false, false, false] (by kernel_rfl) rfl rfl ⟨qD B2.out, qD B3.out, qD B8.out⟩ (fun hHeld => ?_)
  generalize hw : wf.drew = w14 at hHeld ⊢
  replace B2 := qM (show w14.heap[g2]? = _ from hw ▸ qD B2.out)
  replace B3 := qM (show w14.heap[g3]? = _ from hw ▸ qD B3.out)
  replace B4 := qM (show w14.heap[g4]? = _ from hw ▸ qD B4.out)
  replace B5 := qM (show w14.heap[g5]? = _ from hw ▸ qD B5.out)
  replace B8 := qM (show w14.heap[g8]? = _ from hw ▸ qD B8.out)
  replace HB := qM (show Below w.heap.size w w14 from hw ▸ below_drew1 HB.out)
  have M2 := qM (blk_lt B2.out)
  have M3 := qM (blk_lt B3.out)
  have M4 := qM (blk_lt B4.out)
  have M5 := qM (blk_lt B5.out)
  have M8 := qM (blk_lt B8.out)
  clear z20 z21 z22 f20 f21 f22 z30 z31 z32 z33 z34 z35 z36 z37 z38 z39 z310 z311 z40 z41 z42 f40 f41 f42 z50 z51 z52 z53 z54 z55 f50 f51 f52 f53 f54 f55 z80 z81 z82 z83 z84 z85 z86 z87 z88 f80 f81 f82 f83 f84 f85 f86 f87 f88
  clear hw
  refine take_ (i := 0) (N := some 127) (v := ?_) (a' := ?_) #[true, false, false, false, false, false, false, false, false, false, false, false] rfl rfl (by kernel_rfl) (fun _ _ _ h => h) (Or.inl ⟨by rfl, ?_⟩) hHeld ?_ ?_
  rotate_left
  · rintro w' ⟨b2, b3, b8⟩; obtain ⟨z20, z21, z22, f20, f21, f22⟩ := cells3 b2; obtain ⟨z30, z31, z32, z33, z34, z35, z36, z37, z38, z39, z310, z311, f30, f31, f32, f33, f34, f35, f36, f37, f38, f39, f310, f311⟩ := cells12 b3; obtain ⟨z80, z81, z82, z83, z84, z85, z86, z87, z88, f80, f81, f82, f83, f84, f85, f86, f87, f88⟩ := cells9 b8; go_simp; with_reducible rfl
  rotate_left
  · simp only [Act.put, xA, xZ, xS, i64_w, i32_w]; rfl
  refine pure_ (i := 1) (N := some 128) (v := ?_) (a' := ?_) #[true, true, false, false, false, false, false, false, false, false, false, false] rfl rfl (by kernel_rfl) (fun _ _ _ h => h) (Or.inl ⟨by rfl, ?_⟩) ?_ ?_
  rotate_left
  · intro w'; go_simp; with_reducible rfl
  rotate_left
  · simp only [Act.put, xA, xZ, xS, i64_w, i32_w]; rfl
  refine take_ (i := 2) (N := some 129) (v := ?_) (a' := ?_) #[true, true, true, false, false, false, false, false, false, false, false, false] rfl rfl (by kernel_rfl) (fun _ _ _ h => h) (Or.inl ⟨by rfl, ?_⟩) hHeld ?_ ?_
  rotate_left
  · rintro w' ⟨b2, b3, b8⟩; obtain ⟨z20, z21, z22, f20, f21, f22⟩ := cells3 b2; obtain ⟨z30, z31, z32, z33, z34, z35, z36, z37, z38, z39, z310, z311, f30, f31, f32, f33, f34, f35, f36, f37, f38, f39, f310, f311⟩ := cells12 b3; obtain ⟨z80, z81, z82, z83, z84, z85, z86, z87, z88, f80, f81, f82, f83, f84, f85, f86, f87, f88⟩ := cells9 b8; go_simp; with_reducible rfl
  rotate_left
  · simp only [Act.put, xA, xZ, xS, i64_w, i32_w]; rfl
  refine pure_ (i := 4) (N := some 131) (v := ?_) (a' := ?_) #[true, true, true, false, true, false, false, false, false, false, false, false] rfl rfl (by kernel_rfl) (fun _ _ _ h => h) (Or.inl ⟨by rfl, ?_⟩) ?_ ?_
  rotate_left
  · intro w'; go_simp; with_reducible rfl
  rotate_left
  · simp only [Act.put, xA, xZ, xS, i64_w, i32_w]; rfl
  refine take_ (i := 5) (N := some 132) (v := ?_) (a' := ?_) #[true, true, true, false, true, true, false, false, false, false, false, false] rfl rfl (by kernel_rfl) (fun _ _ _ h => h) (Or.inl ⟨by rfl, ?_⟩) hHeld ?_ ?_
  rotate_left
  · rintro w' ⟨b2, b3, b8⟩; obtain ⟨z20, z21, z22, f20, f21, f22⟩ := cells3 b2; obtain ⟨z30, z31, z32, z33, z34, z35, z36, z37, z38, z39, z310, z311, f30, f31, f32, f33, f34, f35, f36, f37, f38, f39, f310, f311⟩ := cells12 b3; obtain ⟨z80, z81, z82, z83, z84, z85, z86, z87, z88, f80, f81, f82, f83, f84, f85, f86, f87, f88⟩ := cells9 b8; go_simp; with_reducible rfl
  rotate_left
  · simp only [Act.put, xA, xZ, xS, i64_w, i32_w]; rfl
  refine pure_ (i := 6) (N := some 133) (v := ?_) (a' := ?_) #[true, true, true, false, true, true, true, false, false, false, false, false] rfl rfl (by kernel_rfl) (fun _ _ _ h => h) (Or.inl ⟨by rfl, ?_⟩) ?_ ?_
  rotate_left
  · intro w'; go_simp; with_reducible rfl
  rotate_left
  · simp only [Act.put, xA, xZ, xS, i64_w, i32_w]; rfl
  refine pure_ (i := 7) (N := some 134) (v := ?_) (a' := ?_) #[true, true, true, false, true, true, true, true, false, false, false, false] rfl rfl (by kernel_rfl) (fun _ _ _ h => h) (Or.inl ⟨by rfl, ?_⟩) ?_ ?_
  rotate_left
  · intro w'; go_simp; with_reducible rfl
  rotate_left
  · simp only [Act.put, xA, xZ, xS, i64_w, i32_w]; rfl
  refine take_ (i := 8) (N := some 135) (v := ?_) (a' := ?_) #[true, true, true, false, true, true, true, true, true, false, false, false] rfl rfl (by kernel_rfl) (fun _ _ _ h => h) (Or.inl ⟨by rfl, ?_⟩) hHeld ?_ ?_
  rotate_left
  · rintro w' ⟨b2, b3, b8⟩; obtain ⟨z20, z21, z22, f20, f21, f22⟩ := cells3 b2; obtain ⟨z30, z31, z32, z33, z34, z35, z36, z37, z38, z39, z310, z311, f30, f31, f32, f33, f34, f35, f36, f37, f38, f39, f310, f311⟩ := cells12 b3; obtain ⟨z80, z81, z82, z83, z84, z85, z86, z87, z88, f80, f81, f82, f83, f84, f85, f86, f87, f88⟩ := cells9 b8; go_simp; with_reducible rfl
  rotate_left
  · simp only [Act.put, xA, xZ, xS, i64_w, i32_w]; rfl
  refine pure_ (i := 9) (N := some 136) (v := ?_) (a' := ?_) #[true, true, true, false, true, true, true, true, true, true, false, false] rfl rfl (by kernel_rfl) (fun _ _ _ h => h) (Or.inl ⟨by rfl, ?_⟩) ?_ ?_
  rotate_left
  · intro w'; go_simp; with_reducible rfl
  rotate_left
  · simp only [Act.put, xA, xZ, xS, i64_w, i32_w]; rfl
  obtain ⟨z20, z21, z22, f20, f21, f22⟩ := cells3 B2.out; obtain ⟨z30, z31, z32, z33, z34, z35, z36, z37, z38, z39, z310, z311⟩ := cells12z B3.out; obtain ⟨z40, z41, z42, f40, f41, f42⟩ := cells3 B4.out; obtain ⟨z50, z51, z52, z53, z54, z55, f50, f51, f52, f53, f54, f55⟩ := cells6 B5.out; obtain ⟨z80, z81, z82, z83, z84, z85, z86, z87, z88, f80, f81, f82, f83, f84, f85, f86, f87, f88⟩ := cells9 B8.out
  refine one_ (i := 3) (N := some 130) #[true, true, true, true, true, true, true, true, true, true, false, false] rfl rfl (by kernel_rfl) (by decide) (fun K hK => ?_)
  go_simp
  (refine (with_SF Pq w.heap.size w14.heap.size _ _ _ l0 l1 l2 i (⟨(rd_T45 l0 i).f0, (rd_T45 l0 i).f1, (rd_T45 l0 i).f2, UU, (rd_T45 l0 i).f4, (rd_T45 l0 i).f5, (rd_T45 l0 i).f6, (rd_T45 l0 i).f7, (rd_T45 l0 i).f8⟩ : S45) _ _ _ ((SF.of_slP HS0.out).below HB.out) ((SF.of_slP HS1.out).below HB.out) ((SF.of_slP HS2.out).below HB.out) ((SF.of_slP ⟨A5, c5, rfl, HL5.out, HI5.out⟩).below HB.out) ((SF.of_slP ⟨A6, c6, rfl, HL6.out, HI6.out⟩).below HB.out) (Nat.le_refl _) (fun q hq => HPQ.out q (Nat.le_trans HB.out.size hq)) (by have := HG.out.2.2.1; omega) cl).mono ?_; rintro e w1 ⟨u0, u1, u2, rfl, hu0, hu1, hu2, hb⟩; rw [if_neg (show ¬i < 0 by omega)] at hu0; obtain ⟨L0, eL⟩ : ∃ L, L = l0.set i.toNat (⟨(rd_T45 l0 i).f0, (rd_T45 l0 i).f1, (rd_T45 l0 i).f2, UU, (rd_T45 l0 i).f4, (rd_T45 l0 i).f5, (rd_T45 l0 i).f6, (rd_T45 l0 i).f7, (rd_T45 l0 i).f8⟩ : S45) := ⟨_, rfl⟩; rw [← eL] at hu0; have EL0 := qM eL; clear eL; obtain ⟨D0, d0, rfl⟩ := Kd.V_slice hu0; obtain ⟨D1, d1, rfl⟩ := Kd.V_slice hu1; obtain ⟨D2, d2, rfl⟩ := Kd.V_slice hu2; have HU0 := qM hu0; have HU1 := qM hu1; have HU2 := qM hu2; clear hu0 hu1 hu2; replace B2 := bb B2 hb; replace B3 := bb B3 hb; replace B4 := bb B4 hb; replace B5 := bb B5 hb; replace B8 := bb B8 hb; replace HB := qM (below_step HB.out hb); clear z20 z21 z22 f20 f21 f22 z30 z31 z32 z33 z34 z35 z36 z37 z38 z39 z310 z311 z40 z41 z42 f40 f41 f42 z50 z51 z52 z53 z54 z55 f50 f51 f52 f53 f54 f55 z80 z81 z82 z83 z84 z85 z86 z87 z88 f80 f81 f82 f83 f84 f85 f86 f87 f88; clear hb; obtain ⟨z20, z21, z22, f20, f21, f22⟩ := cells3 B2.out; obtain ⟨z30, z31, z32, z33, z34, z35, z36, z37, z38, z39, z310, z311⟩ := cells12z B3.out; obtain ⟨z40, z41, z42, f40, f41, f42⟩ := cells3 B4.out; obtain ⟨z50, z51, z52, z53, z54, z55, f50, f51, f52, f53, f54, f55⟩ := cells6 B5.out; obtain ⟨z80, z81, z82, z83, z84, z85, z86, z87, z88, f80, f81, f82, f83, f84, f85, f86, f87, f88⟩ := cells9 B8.out)
  dsimp only
  refine hK.out _ _ ⟨B2.out, B3.out, B8.out⟩ (fun _ => ?_)
  clear hK K
  refine one_ (i := 10) (N := none) #[true, true, true, true, true, true, true, true, true, true, true, false] rfl rfl (by kernel_rfl) (by decide) (fun K hK => ?_)
  refine skip_ (w1 := ?_) (by rfl) rfl ?_ ?_
  rotate_left
  · go_simp; rfl
  refine hK.out _ _ ⟨(blk_far (blk_far (blk_far B2.out N24.out (.slice D0 L0.length d0)) N24.out (.slice D1 l1.length d1)) N24.out (.slice D2 l2.length d2)), (blk_far (blk_far (blk_far B3.out N34.out (.slice D0 L0.length d0)) N34.out (.slice D1 l1.length d1)) N34.out (.slice D2 l2.length d2)), (blk_far (blk_far (blk_far B8.out (Ne.symm N48.out) (.slice D0 L0.length d0)) (Ne.symm N48.out) (.slice D1 l1.length d1)) (Ne.symm N48.out) (.slice D2 l2.length d2))⟩ (fun _ => ?_)
  clear hK K
  refine last_ (i := 11) (N := none) #[true, true, true, true, true, true, true, true, true, true, true, true] rfl rfl (by kernel_rfl) (by decide) (fun K hK => ?_)
  refine skip_ (w1 := ?_) (by rfl) rfl ?_ ?_
  rotate_left
  · go_simp; rfl
  refine hK.out _ _ ?_
  clear hK K
  refine done_ (by kernel_rfl) ?_
  repeat go_step
  exact fin_sf rfl (⟨0, (rd_T45 l0 i).f0, (rd_T45 l0 i).f3, c.f6, 0, false⟩ : Rep) B4 B5 N45 HB G4 G5 M4 M5 HU0 HU1 HU2 ((keep_good HG.out i ci cl (⟨(rd_T45 l0 i).f0, (rd_T45 l0 i).f1, (rd_T45 l0 i).f2, UU, (rd_T45 l0 i).f4, (rd_T45 l0 i).f5, (rd_T45 l0 i).f6, (rd_T45 l0 i).f7, (rd_T45 l0 i).f8⟩ : S45) L0 EL0.out rfl rfl rfl)) rfl rfl rfl


set_option maxHeartbeats 40000000 in
set_option maxRecDepth 100000 in
theorem does_o (Pq : Nat → Prop) (v0 v1 v2 v : Value) (l0 : List Vol) (l1 : List Nam) (l2 : List Ses) (c : Cmd) (w : World) (hPq : ∀ q, w.heap.size ≤ q → Pq q) (h0 : SlP Pq k45 w v0 l0) (h1 : SlP Pq k92 w v1 l1) (h2 : SlP Pq k64 w v2 l2) (h3 : SlP Pq k75 w v c.f11) (n : Nat) (hg : Good n l0 l1) (hn : n ≤ 1000) (k1 : (c.f0 == 1) = false) (k3 : (c.f0 == 3) = false) (k4 : (c.f0 == 4) = false) (k5 : (c.f0 == 5) = false) (k8 : (c.f0 == 8) = false) (k2 : (c.f0 == 2) = false) (k6 : (c.f0 == 6) = true) (i : Int) (hva : VolC l0 l1 l2 c.f4 i) (ci : 0 ≤ i) (cl : i < (l0.length : Int)) (cp : (rd_T45 l0 i).f4 = 1) : Calls Try.prog 21 #[.agg #[v0, v1, v2], cmdV c v] w (Back Pq (n + 1) l2 w) := by
  obtain ⟨A0, c0, rfl, hc0, hr0⟩ := h0
  obtain ⟨A1, c1, rfl, hc1, hr1⟩ := h1
  obtain ⟨A2, c2, rfl, hc2, hr2⟩ := h2
  obtain ⟨A3, c3, rfl, hc3, hr3⟩ := h3
  have HS0 := qM (show SlP Pq k45 w (.slice A0 l0.length c0) l0 from ⟨A0, c0, rfl, hc0, hr0⟩)
  have HS1 := qM (show SlP Pq k92 w (.slice A1 l1.length c1) l1 from ⟨A1, c1, rfl, hc1, hr1⟩)
  have HS2 := qM (show SlP Pq k64 w (.slice A2 l2.length c2) l2 from ⟨A2, c2, rfl, hc2, hr2⟩)
  have HS3 := qM (show SlP Pq k75 w (.slice A3 c.f11.length c3) c.f11 from ⟨A3, c3, rfl, hc3, hr3⟩)
  have HR0 := qM hr0
  have HR1 := qM (Kd.F_now hr1)
  have HR2 := qM (Kd.F_now hr2)
  have HR3 := qM (Kd.F_now hr3)
  have HG := qM hg
  have HPQ := qM hPq
  clear hc0 hr0 hc1 hr1 hc2 hr2 hc3 hr3 hg hPq
  unfold cmdV
  have HN := qM hn
  clear hn
  have HVA := qM hva
  clear hva
  have d1 : decide (i < 0) = false := decide_eq_false (by omega)
  obtain ⟨ad, A5, c5, A6, c6, e, hx0, hx1, hx2, hx3, hx4, hx5, hx6, hx7, hx8, hl5, hi5, hl6, hi6⟩ := at_F45 HR0.out i ci cl
  cases e
  have HX := qM (And.intro hx0 (And.intro hx1 (And.intro hx2 (And.intro hx3 (And.intro hx4 (And.intro hx5 (And.intro hx6 (And.intro hx7 hx8))))))))
  have HI5 := qM hi5
  have HI6 := qM hi6
  have HL5 := qM hl5
  have HL6 := qM hl6
  clear hi5 hi6 hl5 hl6 hx0 hx1 hx2 hx3 hx4 hx5 hx6 hx7 hx8
  have p0 := eq_true ci
  have p1 := eq_true cl
  have d3 : ((rd_T45 l0 i).f4 != 1) = false := bne_eq_false_iff_eq.mpr cp
  have CP := qM cp
  clear cp
  go_enter Try.func21, Try.ntmps21
  go_wp2_with (first | ((with_reducible refine gate_dst (N := 2) rfl ?_); (try (refine gate_guard (by rfl) ?_; dsimp only)); refine box_event ?hg (N := 2) ?hd (cs := #[.slice (some ad) l0.length c0, .slice A1 l1.length c1, .slice A2 l2.length c2]) (t := 26) ?hr ?_; (case hd => rfl); (case hg => rfl); (case hr => first | (go_simp; done) | (go_simp; rfl)); intro g2 hg w_2 hk hb; have G2 := qM (show w.heap.size ≤ g2 by rw [hg]; exact Nat.le_refl _); have B2 := qM hk; have HB := qM (hb); clear hk hb hg; skip) | ((with_reducible refine gate_dst (N := 3) rfl ?_); (try (refine gate_guard (by rfl) ?_; dsimp only)); refine box_event ?hg (N := 3) ?hd (cs := #[.int .i64 c.f0, .int .i64 c.f1, .int .i64 c.f2, .string c.f3, .int .i64 c.f4, .int .i64 c.f5, .int .i64 c.f6, .int .u32 c.f7, .int .i64 c.f8, .int .i64 c.f9, .int .i64 c.f10, .slice A3 c.f11.length c3]) (t := 42) ?hr ?_; (case hd => rfl); (case hg => rfl); (case hr => first | (go_simp; done) | (go_simp; rfl)); intro g3 hg w_3 hk hb; have N23 := n1 B2 hg; have G3 := qM (show w.heap.size ≤ g3 by rw [hg]; exact HB.out.size); replace B2 := bb B2 hb; have B3 := qM hk; have HB := qM (below_step HB.out hb); clear hk hb hg; have ne23 := N23.out; have ne32 := Ne.symm N23.out; skip) | ((with_reducible refine gate_dst (N := 4) rfl ?_); (try (refine gate_guard (by rfl) ?_; dsimp only)); refine box_event ?hg (N := 4) ?hd (cs := #[.slice none 0 0, .slice none 0 0, .slice none 0 0]) (t := 26) ?hr ?_; (case hd => rfl); (case hg => rfl); (case hr => first | (go_simp; done) | (go_simp; rfl)); intro g4 hg w_4 hk hb; have N24 := n1 B2 hg; have N34 := n1 B3 hg; have G4 := qM (show w.heap.size ≤ g4 by rw [hg]; exact HB.out.size); replace B2 := bb B2 hb; replace B3 := bb B3 hb; have B4 := qM hk; have HB := qM (below_step HB.out hb); clear hk hb hg; have ne24 := N24.out; have ne42 := Ne.symm N24.out; have ne34 := N34.out; have ne43 := Ne.symm N34.out; skip) | ((with_reducible refine gate_dst (N := 5) rfl ?_); (try (refine gate_guard (by rfl) ?_; dsimp only)); refine box_event ?hg (N := 5) ?hd (cs := #[.int .i64 0, .int .i64 0, .int .i64 0, .int .i64 0, .int .u32 0, .bool false]) (t := 37) ?hr ?_; (case hd => rfl); (case hg => rfl); (case hr => first | (go_simp; done) | (go_simp; rfl)); intro g5 hg w_5 hk hb; have N25 := n1 B2 hg; have N35 := n1 B3 hg; have N45 := n1 B4 hg; have G5 := qM (show w.heap.size ≤ g5 by rw [hg]; exact HB.out.size); replace B2 := bb B2 hb; replace B3 := bb B3 hb; replace B4 := bb B4 hb; have B5 := qM hk; have HB := qM (below_step HB.out hb); clear hk hb hg; have ne25 := N25.out; have ne52 := Ne.symm N25.out; have ne35 := N35.out; have ne53 := Ne.symm N35.out; have ne45 := N45.out; have ne54 := Ne.symm N45.out; obtain ⟨z20, z21, z22, f20, f21, f22⟩ := cells3 B2.out; obtain ⟨z30, z31, z32, z33, z34, z35, z36, z37, z38, z39, z310, z311⟩ := cells12z B3.out; obtain ⟨z40, z41, z42, f40, f41, f42⟩ := cells3 B4.out; obtain ⟨z50, z51, z52, z53, z54, z55, f50, f51, f52, f53, f54, f55⟩ := cells6 B5.out) | (go_at_call 32; refine (HVA.out _ _ _ _ (HS0.out.below HB.out).sl (HS1.out.below HB.out).sl (HS2.out.below HB.out).sl).mono ?_; rintro e w1 ⟨rfl, hb⟩; replace B2 := bb B2 hb; replace B3 := bb B3 hb; replace B4 := bb B4 hb; replace B5 := bb B5 hb; replace HB := qM (below_step HB.out hb); clear z20 z21 z22 f20 f21 f22 z30 z31 z32 z33 z34 z35 z36 z37 z38 z39 z310 z311 z40 z41 z42 f40 f41 f42 z50 z51 z52 z53 z54 z55 f50 f51 f52 f53 f54 f55; clear hb; obtain ⟨z20, z21, z22, f20, f21, f22⟩ := cells3 B2.out; obtain ⟨z30, z31, z32, z33, z34, z35, z36, z37, z38, z39, z310, z311⟩ := cells12z B3.out; obtain ⟨z40, z41, z42, f40, f41, f42⟩ := cells3 B4.out; obtain ⟨z50, z51, z52, z53, z54, z55, f50, f51, f52, f53, f54, f55⟩ := cells6 B5.out; obtain ⟨hx0, hx1, hx2, hx3, hx4, hx5, hx6, hx7, hx8⟩ := HX.out; replace hx0 := held HB.out hx0; replace hx1 := held HB.out hx1; replace hx2 := held HB.out hx2; replace hx3 := held HB.out hx3; replace hx4 := held HB.out hx4; replace hx5 := held HB.out hx5; replace hx6 := held HB.out hx6; replace hx7 := held HB.out hx7; replace hx8 := held HB.out hx8) | ((with_reducible refine gate_dst (N := 92) rfl ?_); obtain ⟨g8, w8, hg, hw, hk, hb⟩ := box_new w1 #[.int .i64 (rd_T45 l0 i).f0, .int .i64 (rd_T45 l0 i).f1, .int .i64 (rd_T45 l0 i).f2, .int .i64 (rd_T45 l0 i).f3, .int .i64 (rd_T45 l0 i).f4, .slice A5 (rd_T45 l0 i).f5.length c5, .slice A6 (rd_T45 l0 i).f6.length c6, .int .i64 (rd_T45 l0 i).f7, .int .i64 (rd_T45 l0 i).f8] 45; rw [hw, hg]; have N28 := n2 B2 hg; have N38 := n2 B3 hg; have N48 := n2 B4 hg; have N58 := n2 B5 hg; replace B2 := bb B2 hb; replace B3 := bb B3 hb; replace B4 := bb B4 hb; replace B5 := bb B5 hb; have G8 := qM (show w.heap.size ≤ g8 by rw [← hg]; exact HB.out.size); replace HB := qM (below_step HB.out hb); have B8 := qM hk; clear z20 z21 z22 f20 f21 f22 z30 z31 z32 z33 z34 z35 z36 z37 z38 z39 z310 z311 z40 z41 z42 f40 f41 f42 z50 z51 z52 z53 z54 z55 f50 f51 f52 f53 f54 f55; clear hk hb hg hw; obtain ⟨z20, z21, z22, f20, f21, f22⟩ := cells3 B2.out; obtain ⟨z30, z31, z32, z33, z34, z35, z36, z37, z38, z39, z310, z311⟩ := cells12z B3.out; obtain ⟨z40, z41, z42, f40, f41, f42⟩ := cells3 B4.out; obtain ⟨z50, z51, z52, z53, z54, z55, f50, f51, f52, f53, f54, f55⟩ := cells6 B5.out; obtain ⟨z80, z81, z82, z83, z84, z85, z86, z87, z88, f80, f81, f82, f83, f84, f85, f86, f87, f88⟩ := cells9 B8.out; have ne28 := N28.out; have ne82 := Ne.symm N28.out; have ne38 := N38.out; have ne83 := Ne.symm N38.out; have ne48 := N48.out; have ne84 := Ne.symm N48.out; have ne58 := N58.out; have ne85 := Ne.symm N58.out))
  generalize hst : (w8.setCell ⟨g8, 4, none⟩ (.int .i64 2)) = wf
  replace B2 := qM (show wf.heap[g2]? = _ from hst ▸ (blk_far B2.out N28.out (.int .i64 2)))
  replace B3 := qM (show wf.heap[g3]? = _ from hst ▸ (blk_far B3.out N38.out (.int .i64 2)))
  replace B4 := qM (show wf.heap[g4]? = _ from hst ▸ (blk_far B4.out N48.out (.int .i64 2)))
  replace B5 := qM (show wf.heap[g5]? = _ from hst ▸ (blk_far B5.out N58.out (.int .i64 2)))
  replace B8 := qM (show wf.heap[g8]? = some (.cells #[.int .i64 (rd_T45 l0 i).f0, .int .i64 (rd_T45 l0 i).f1, .int .i64 (rd_T45 l0 i).f2, .int .i64 (rd_T45 l0 i).f3, .int .i64 2, .slice A5 (rd_T45 l0 i).f5.length c5, .slice A6 (rd_T45 l0 i).f6.length c6, .int .i64 (rd_T45 l0 i).f7, .int .i64 (rd_T45 l0 i).f8] 45 (0, 0)) from hst ▸ (blk_put B8.out 4 (.int .i64 2) rfl))
  replace HB := qM (show Below w.heap.size w wf from hst ▸ (HB.out.setCell (p := ⟨g8, 4, none⟩) G8.out (.int .i64 2)))
  have hz : wf.heap.size = w8.heap.size := hst ▸ (Eq.trans (World.size_set _ ⟨g8, 4, none⟩ (.int .i64 2)) (rfl : w8.heap.size = _))
  clear hz
  clear hst
  clear z20 z21 z22 f20 f21 f22 z30 z31 z32 z33 z34 z35 z36 z37 z38 z39 z310 z311 z40 z41 z42 f40 f41 f42 z50 z51 z52 z53 z54 z55 f50 f51 f52 f53 f54 f55 z80 z81 z82 z83 z84 z85 z86 z87 z88 f80 f81 f82 f83 f84 f85 f86 f87 f88
  obtain ⟨z20, z21, z22, f20, f21, f22⟩ := cells3 B2.out; obtain ⟨z30, z31, z32, z33, z34, z35, z36, z37, z38, z39, z310, z311⟩ := cells12z B3.out; obtain ⟨z40, z41, z42, f40, f41, f42⟩ := cells3 B4.out; obtain ⟨z50, z51, z52, z53, z54, z55, f50, f51, f52, f53, f54, f55⟩ := cells6 B5.out; obtain ⟨z80, z81, z82, z83, z84, z85, z86, z87, z88, f80, f81, f82, f83, f84, f85, f86, f87, f88⟩ := cells9 B8.out
  refine start_ (n := 9) (S := fun w' => w'.heap[g2]? = some (.cells #[.slice (some ad) l0.length c0, .slice A1 l1.length c1, .slice A2 l2.length c2] 26 (0, 0)) ∧ w'.heap[g3]? = some (.cells #[.int .i64 c.f0, .int .i64 c.f1, .int .i64 c.f2, .string c.f3, .int .i64 c.f4, .int .i64 c.f5, .int .i64 c.f6, .int .u32 c.f7, .int .i64 c.f8, .int .i64 c.f9, .int .i64 c.f10, .slice A3 c.f11.length c3] 42 (0, 0)) ∧ w'.heap[g8]? = some (.cells #[.int .i64 (rd_T45 l0 i).f0, .int .i64 (rd_T45 l0 i).f1, .int .i64 (rd_T45 l0 i).f2, .int .i64 (rd_T45 l0 i).f3, .int .i64 2, .slice A5 (rd_T45 l0 i).f5.length c5, .slice A6 (rd_T45 l0 i).f6.length c6, .int .i64 (rd_T45 l0 i).f7, .int .i64 (rd_T45 l0 i).f8] 45 (0, 0))) (ds := [8]) #[false, false, false, false, false, false, false, false, false] (by kernel_rfl) rfl rfl ⟨qD B2.out, qD B3.out, qD B8.out⟩ (fun hHeld => ?_)
  generalize hw : wf.drew = w14 at hHeld ⊢
  replace B2 := qM (show w14.heap[g2]? = _ from hw ▸ qD B2.out)
  replace B3 := qM (show w14.heap[g3]? = _ from hw ▸ qD B3.out)
  replace B4 := qM (show w14.heap[g4]? = _ from hw ▸ qD B4.out)
  replace B5 := qM (show w14.heap[g5]? = _ from hw ▸ qD B5.out)
  replace B8 := qM (show w14.heap[g8]? = _ from hw ▸ qD B8.out)
  replace HB := qM (show Below w.heap.size w w14 from hw ▸ below_drew1 HB.out)
  have M2 := qM (blk_lt B2.out)
  have M3 := qM (blk_lt B3.out)
  have M4 := qM (blk_lt B4.out)
  have M5 := qM (blk_lt B5.out)
  have M8 := qM (blk_lt B8.out)
  clear z20 z21 z22 f20 f21 f22 z30 z31 z32 z33 z34 z35 z36 z37 z38 z39 z310 z311 z40 z41 z42 f40 f41 f42 z50 z51 z52 z53 z54 z55 f50 f51 f52 f53 f54 f55 z80 z81 z82 z83 z84 z85 z86 z87 z88 f80 f81 f82 f83 f84 f85 f86 f87 f88
  clear hw
  refine take_ (i := 0) (N := some 145) (v := ?_) (a' := ?_) #[true, false, false, false, false, false, false, false, false] rfl rfl (by kernel_rfl) (fun _ _ _ h => h) (Or.inl ⟨by rfl, ?_⟩) hHeld ?_ ?_
  rotate_left
  · rintro w' ⟨b2, b3, b8⟩; obtain ⟨z20, z21, z22, f20, f21, f22⟩ := cells3 b2; obtain ⟨z30, z31, z32, z33, z34, z35, z36, z37, z38, z39, z310, z311, f30, f31, f32, f33, f34, f35, f36, f37, f38, f39, f310, f311⟩ := cells12 b3; obtain ⟨z80, z81, z82, z83, z84, z85, z86, z87, z88, f80, f81, f82, f83, f84, f85, f86, f87, f88⟩ := cells9 b8; go_simp; with_reducible rfl
  rotate_left
  · simp only [Act.put, xA, xZ, xS, i64_w, i32_w]; rfl
  refine pure_ (i := 1) (N := some 146) (v := ?_) (a' := ?_) #[true, true, false, false, false, false, false, false, false] rfl rfl (by kernel_rfl) (fun _ _ _ h => h) (Or.inl ⟨by rfl, ?_⟩) ?_ ?_
  rotate_left
  · intro w'; go_simp; with_reducible rfl
  rotate_left
  · simp only [Act.put, xA, xZ, xS, i64_w, i32_w]; rfl
  refine take_ (i := 2) (N := some 147) (v := ?_) (a' := ?_) #[true, true, true, false, false, false, false, false, false] rfl rfl (by kernel_rfl) (fun _ _ _ h => h) (Or.inl ⟨by rfl, ?_⟩) hHeld ?_ ?_
  rotate_left
  · rintro w' ⟨b2, b3, b8⟩; obtain ⟨z20, z21, z22, f20, f21, f22⟩ := cells3 b2; obtain ⟨z30, z31, z32, z33, z34, z35, z36, z37, z38, z39, z310, z311, f30, f31, f32, f33, f34, f35, f36, f37, f38, f39, f310, f311⟩ := cells12 b3; obtain ⟨z80, z81, z82, z83, z84, z85, z86, z87, z88, f80, f81, f82, f83, f84, f85, f86, f87, f88⟩ := cells9 b8; go_simp; with_reducible rfl
  rotate_left
  · simp only [Act.put, xA, xZ, xS, i64_w, i32_w]; rfl
  refine pure_ (i := 4) (N := some 149) (v := ?_) (a' := ?_) #[true, true, true, false, true, false, false, false, false] rfl rfl (by kernel_rfl) (fun _ _ _ h => h) (Or.inl ⟨by rfl, ?_⟩) ?_ ?_
  rotate_left
  · intro w'; go_simp; with_reducible rfl
  rotate_left
  · simp only [Act.put, xA, xZ, xS, i64_w, i32_w]; rfl
  refine take_ (i := 5) (N := some 150) (v := ?_) (a' := ?_) #[true, true, true, false, true, true, false, false, false] rfl rfl (by kernel_rfl) (fun _ _ _ h => h) (Or.inl ⟨by rfl, ?_⟩) hHeld ?_ ?_
  rotate_left
  · rintro w' ⟨b2, b3, b8⟩; obtain ⟨z20, z21, z22, f20, f21, f22⟩ := cells3 b2; obtain ⟨z30, z31, z32, z33, z34, z35, z36, z37, z38, z39, z310, z311, f30, f31, f32, f33, f34, f35, f36, f37, f38, f39, f310, f311⟩ := cells12 b3; obtain ⟨z80, z81, z82, z83, z84, z85, z86, z87, z88, f80, f81, f82, f83, f84, f85, f86, f87, f88⟩ := cells9 b8; go_simp; with_reducible rfl
  rotate_left
  · simp only [Act.put, xA, xZ, xS, i64_w, i32_w]; rfl
  refine pure_ (i := 6) (N := some 151) (v := ?_) (a' := ?_) #[true, true, true, false, true, true, true, false, false] rfl rfl (by kernel_rfl) (fun _ _ _ h => h) (Or.inl ⟨by rfl, ?_⟩) ?_ ?_
  rotate_left
  · intro w'; go_simp; with_reducible rfl
  rotate_left
  · simp only [Act.put, xA, xZ, xS, i64_w, i32_w]; rfl
  obtain ⟨z20, z21, z22, f20, f21, f22⟩ := cells3 B2.out; obtain ⟨z30, z31, z32, z33, z34, z35, z36, z37, z38, z39, z310, z311⟩ := cells12z B3.out; obtain ⟨z40, z41, z42, f40, f41, f42⟩ := cells3 B4.out; obtain ⟨z50, z51, z52, z53, z54, z55, f50, f51, f52, f53, f54, f55⟩ := cells6 B5.out; obtain ⟨z80, z81, z82, z83, z84, z85, z86, z87, z88, f80, f81, f82, f83, f84, f85, f86, f87, f88⟩ := cells9 B8.out
  refine one_ (i := 3) (N := some 148) #[true, true, true, true, true, true, true, false, false] rfl rfl (by kernel_rfl) (by decide) (fun K hK => ?_)
  go_simp
  (refine (with_SF Pq w.heap.size w14.heap.size _ _ _ l0 l1 l2 i (⟨(rd_T45 l0 i).f0, (rd_T45 l0 i).f1, (rd_T45 l0 i).f2, (rd_T45 l0 i).f3, 2, (rd_T45 l0 i).f5, (rd_T45 l0 i).f6, (rd_T45 l0 i).f7, (rd_T45 l0 i).f8⟩ : S45) _ _ _ ((SF.of_slP HS0.out).below HB.out) ((SF.of_slP HS1.out).below HB.out) ((SF.of_slP HS2.out).below HB.out) ((SF.of_slP ⟨A5, c5, rfl, HL5.out, HI5.out⟩).below HB.out) ((SF.of_slP ⟨A6, c6, rfl, HL6.out, HI6.out⟩).below HB.out) (Nat.le_refl _) (fun q hq => HPQ.out q (Nat.le_trans HB.out.size hq)) (by have := HG.out.2.2.1; omega) cl).mono ?_; rintro e w1 ⟨u0, u1, u2, rfl, hu0, hu1, hu2, hb⟩; rw [if_neg (show ¬i < 0 by omega)] at hu0; obtain ⟨L0, eL⟩ : ∃ L, L = l0.set i.toNat (⟨(rd_T45 l0 i).f0, (rd_T45 l0 i).f1, (rd_T45 l0 i).f2, (rd_T45 l0 i).f3, 2, (rd_T45 l0 i).f5, (rd_T45 l0 i).f6, (rd_T45 l0 i).f7, (rd_T45 l0 i).f8⟩ : S45) := ⟨_, rfl⟩; rw [← eL] at hu0; have EL0 := qM eL; clear eL; obtain ⟨D0, d0, rfl⟩ := Kd.V_slice hu0; obtain ⟨D1, d1, rfl⟩ := Kd.V_slice hu1; obtain ⟨D2, d2, rfl⟩ := Kd.V_slice hu2; have HU0 := qM hu0; have HU1 := qM hu1; have HU2 := qM hu2; clear hu0 hu1 hu2; replace B2 := bb B2 hb; replace B3 := bb B3 hb; replace B4 := bb B4 hb; replace B5 := bb B5 hb; replace B8 := bb B8 hb; replace HB := qM (below_step HB.out hb); clear z20 z21 z22 f20 f21 f22 z30 z31 z32 z33 z34 z35 z36 z37 z38 z39 z310 z311 z40 z41 z42 f40 f41 f42 z50 z51 z52 z53 z54 z55 f50 f51 f52 f53 f54 f55 z80 z81 z82 z83 z84 z85 z86 z87 z88 f80 f81 f82 f83 f84 f85 f86 f87 f88; clear hb; obtain ⟨z20, z21, z22, f20, f21, f22⟩ := cells3 B2.out; obtain ⟨z30, z31, z32, z33, z34, z35, z36, z37, z38, z39, z310, z311⟩ := cells12z B3.out; obtain ⟨z40, z41, z42, f40, f41, f42⟩ := cells3 B4.out; obtain ⟨z50, z51, z52, z53, z54, z55, f50, f51, f52, f53, f54, f55⟩ := cells6 B5.out; obtain ⟨z80, z81, z82, z83, z84, z85, z86, z87, z88, f80, f81, f82, f83, f84, f85, f86, f87, f88⟩ := cells9 B8.out)
  dsimp only
  refine hK.out _ _ ⟨B2.out, B3.out, B8.out⟩ (fun _ => ?_)
  clear hK K
  refine one_ (i := 7) (N := none) #[true, true, true, true, true, true, true, true, false] rfl rfl (by kernel_rfl) (by decide) (fun K hK => ?_)
  refine skip_ (w1 := ?_) (by rfl) rfl ?_ ?_
  rotate_left
  · go_simp; rfl
  refine hK.out _ _ ⟨(blk_far (blk_far (blk_far B2.out N24.out (.slice D0 L0.length d0)) N24.out (.slice D1 l1.length d1)) N24.out (.slice D2 l2.length d2)), (blk_far (blk_far (blk_far B3.out N34.out (.slice D0 L0.length d0)) N34.out (.slice D1 l1.length d1)) N34.out (.slice D2 l2.length d2)), (blk_far (blk_far (blk_far B8.out (Ne.symm N48.out) (.slice D0 L0.length d0)) (Ne.symm N48.out) (.slice D1 l1.length d1)) (Ne.symm N48.out) (.slice D2 l2.length d2))⟩ (fun _ => ?_)
  clear hK K
  refine last_ (i := 8) (N := none) #[true, true, true, true, true, true, true, true, true] rfl rfl (by kernel_rfl) (by decide) (fun K hK => ?_)
  refine skip_ (w1 := ?_) (by rfl) rfl ?_ ?_
  rotate_left
  · go_simp; rfl
  refine hK.out _ _ ?_
  clear hK K
  refine done_ (by kernel_rfl) ?_
  repeat go_step
  exact fin_sf rfl (⟨0, (rd_T45 l0 i).f0, 0, 0, 0, false⟩ : Rep) B4 B5 N45 HB G4 G5 M4 M5 HU0 HU1 HU2 ((turn_good HG.out i ci cl (⟨(rd_T45 l0 i).f0, (rd_T45 l0 i).f1, (rd_T45 l0 i).f2, (rd_T45 l0 i).f3, 2, (rd_T45 l0 i).f5, (rd_T45 l0 i).f6, (rd_T45 l0 i).f7, (rd_T45 l0 i).f8⟩ : S45) L0 EL0.out ⟨by rw [CP.out]; decide, by rw [CP.out]; decide⟩ ⟨(by decide : (2 : Int) ≠ 4), (by decide : (2 : Int) ≠ 5)⟩ (fun h => .inl ⟨.inr rfl, by have := CP.out; rcases h with ⟨_, b⟩ | ⟨a, _⟩; exact b; omega⟩) rfl)) rfl rfl rfl


set_option maxHeartbeats 40000000 in
set_option maxRecDepth 100000 in
theorem does_r (Pq : Nat → Prop) (v0 v1 v2 v : Value) (l0 : List Vol) (l1 : List Nam) (l2 : List Ses) (c : Cmd) (w : World) (hPq : ∀ q, w.heap.size ≤ q → Pq q) (h0 : SlP Pq k45 w v0 l0) (h1 : SlP Pq k92 w v1 l1) (h2 : SlP Pq k64 w v2 l2) (h3 : SlP Pq k75 w v c.f11) (n : Nat) (hg : Good n l0 l1) (hn : n ≤ 1000) (k1 : (c.f0 == 1) = false) (k3 : (c.f0 == 3) = false) (k4 : (c.f0 == 4) = false) (k5 : (c.f0 == 5) = false) (k8 : (c.f0 == 8) = false) (k2 : (c.f0 == 2) = false) (k6 : (c.f0 == 6) = false) (k7 : (c.f0 == 7) = true) (i : Int) (hva : VolC l0 l1 l2 c.f4 i) (ci : 0 ≤ i) (cl : i < (l0.length : Int)) (cp : (rd_T45 l0 i).f4 = 2) (rw : Bool) (hwh : WhoC c.f11 (rd_T45 l0 i).f1 rw) (cw : rw = true) (h14 : rw = true → c.f11.length = 14) : Calls Try.prog 21 #[.agg #[v0, v1, v2], cmdV c v] w (Back Pq (n + 1) l2 w) := by
  obtain ⟨A0, c0, rfl, hc0, hr0⟩ := h0
  obtain ⟨A1, c1, rfl, hc1, hr1⟩ := h1
  obtain ⟨A2, c2, rfl, hc2, hr2⟩ := h2
  obtain ⟨A3, c3, rfl, hc3, hr3⟩ := h3
  have HS0 := qM (show SlP Pq k45 w (.slice A0 l0.length c0) l0 from ⟨A0, c0, rfl, hc0, hr0⟩)
  have HS1 := qM (show SlP Pq k92 w (.slice A1 l1.length c1) l1 from ⟨A1, c1, rfl, hc1, hr1⟩)
  have HS2 := qM (show SlP Pq k64 w (.slice A2 l2.length c2) l2 from ⟨A2, c2, rfl, hc2, hr2⟩)
  have HS3 := qM (show SlP Pq k75 w (.slice A3 c.f11.length c3) c.f11 from ⟨A3, c3, rfl, hc3, hr3⟩)
  have HR0 := qM hr0
  have HR1 := qM (Kd.F_now hr1)
  have HR2 := qM (Kd.F_now hr2)
  have HR3 := qM (Kd.F_now hr3)
  have HG := qM hg
  have HPQ := qM hPq
  clear hc0 hr0 hc1 hr1 hc2 hr2 hc3 hr3 hg hPq
  unfold cmdV
  have HN := qM hn
  clear hn
  have HVA := qM hva
  clear hva
  have d1 : decide (i < 0) = false := decide_eq_false (by omega)
  obtain ⟨ad, A5, c5, A6, c6, e, hx0, hx1, hx2, hx3, hx4, hx5, hx6, hx7, hx8, hl5, hi5, hl6, hi6⟩ := at_F45 HR0.out i ci cl
  cases e
  have HX := qM (And.intro hx0 (And.intro hx1 (And.intro hx2 (And.intro hx3 (And.intro hx4 (And.intro hx5 (And.intro hx6 (And.intro hx7 hx8))))))))
  have HI5 := qM hi5
  have HI6 := qM hi6
  have HL5 := qM hl5
  have HL6 := qM hl6
  clear hi5 hi6 hl5 hl6 hx0 hx1 hx2 hx3 hx4 hx5 hx6 hx7 hx8
  have p0 := eq_true ci
  have p1 := eq_true cl
  have HWH := qM hwh
  clear hwh
  have d3 : ((rd_T45 l0 i).f4 != 2) = false := bne_eq_false_iff_eq.mpr cp
  have CP := qM cp
  clear cp
  have CW14 := qM (h14 cw)
  clear h14
  subst cw
  go_enter Try.func21, Try.ntmps21
  go_wp2_with (first | ((with_reducible refine gate_dst (N := 2) rfl ?_); (try (refine gate_guard (by rfl) ?_; dsimp only)); refine box_event ?hg (N := 2) ?hd (cs := #[.slice (some ad) l0.length c0, .slice A1 l1.length c1, .slice A2 l2.length c2]) (t := 26) ?hr ?_; (case hd => rfl); (case hg => rfl); (case hr => first | (go_simp; done) | (go_simp; rfl)); intro g2 hg w_2 hk hb; have G2 := qM (show w.heap.size ≤ g2 by rw [hg]; exact Nat.le_refl _); have B2 := qM hk; have HB := qM (hb); clear hk hb hg; skip) | ((with_reducible refine gate_dst (N := 3) rfl ?_); (try (refine gate_guard (by rfl) ?_; dsimp only)); refine box_event ?hg (N := 3) ?hd (cs := #[.int .i64 c.f0, .int .i64 c.f1, .int .i64 c.f2, .string c.f3, .int .i64 c.f4, .int .i64 c.f5, .int .i64 c.f6, .int .u32 c.f7, .int .i64 c.f8, .int .i64 c.f9, .int .i64 c.f10, .slice A3 c.f11.length c3]) (t := 42) ?hr ?_; (case hd => rfl); (case hg => rfl); (case hr => first | (go_simp; done) | (go_simp; rfl)); intro g3 hg w_3 hk hb; have N23 := n1 B2 hg; have G3 := qM (show w.heap.size ≤ g3 by rw [hg]; exact HB.out.size); replace B2 := bb B2 hb; have B3 := qM hk; have HB := qM (below_step HB.out hb); clear hk hb hg; have ne23 := N23.out; have ne32 := Ne.symm N23.out; skip) | ((with_reducible refine gate_dst (N := 4) rfl ?_); (try (refine gate_guard (by rfl) ?_; dsimp only)); refine box_event ?hg (N := 4) ?hd (cs := #[.slice none 0 0, .slice none 0 0, .slice none 0 0]) (t := 26) ?hr ?_; (case hd => rfl); (case hg => rfl); (case hr => first | (go_simp; done) | (go_simp; rfl)); intro g4 hg w_4 hk hb; have N24 := n1 B2 hg; have N34 := n1 B3 hg; have G4 := qM (show w.heap.size ≤ g4 by rw [hg]; exact HB.out.size); replace B2 := bb B2 hb; replace B3 := bb B3 hb; have B4 := qM hk; have HB := qM (below_step HB.out hb); clear hk hb hg; have ne24 := N24.out; have ne42 := Ne.symm N24.out; have ne34 := N34.out; have ne43 := Ne.symm N34.out; skip) | ((with_reducible refine gate_dst (N := 5) rfl ?_); (try (refine gate_guard (by rfl) ?_; dsimp only)); refine box_event ?hg (N := 5) ?hd (cs := #[.int .i64 0, .int .i64 0, .int .i64 0, .int .i64 0, .int .u32 0, .bool false]) (t := 37) ?hr ?_; (case hd => rfl); (case hg => rfl); (case hr => first | (go_simp; done) | (go_simp; rfl)); intro g5 hg w_5 hk hb; have N25 := n1 B2 hg; have N35 := n1 B3 hg; have N45 := n1 B4 hg; have G5 := qM (show w.heap.size ≤ g5 by rw [hg]; exact HB.out.size); replace B2 := bb B2 hb; replace B3 := bb B3 hb; replace B4 := bb B4 hb; have B5 := qM hk; have HB := qM (below_step HB.out hb); clear hk hb hg; have ne25 := N25.out; have ne52 := Ne.symm N25.out; have ne35 := N35.out; have ne53 := Ne.symm N35.out; have ne45 := N45.out; have ne54 := Ne.symm N45.out; obtain ⟨z20, z21, z22, f20, f21, f22⟩ := cells3 B2.out; obtain ⟨z30, z31, z32, z33, z34, z35, z36, z37, z38, z39, z310, z311⟩ := cells12z B3.out; obtain ⟨z40, z41, z42, f40, f41, f42⟩ := cells3 B4.out; obtain ⟨z50, z51, z52, z53, z54, z55, f50, f51, f52, f53, f54, f55⟩ := cells6 B5.out) | (go_at_call 32; refine (HVA.out _ _ _ _ (HS0.out.below HB.out).sl (HS1.out.below HB.out).sl (HS2.out.below HB.out).sl).mono ?_; rintro e w1 ⟨rfl, hb⟩; replace B2 := bb B2 hb; replace B3 := bb B3 hb; replace B4 := bb B4 hb; replace B5 := bb B5 hb; replace HB := qM (below_step HB.out hb); clear z20 z21 z22 f20 f21 f22 z30 z31 z32 z33 z34 z35 z36 z37 z38 z39 z310 z311 z40 z41 z42 f40 f41 f42 z50 z51 z52 z53 z54 z55 f50 f51 f52 f53 f54 f55; clear hb; obtain ⟨z20, z21, z22, f20, f21, f22⟩ := cells3 B2.out; obtain ⟨z30, z31, z32, z33, z34, z35, z36, z37, z38, z39, z310, z311⟩ := cells12z B3.out; obtain ⟨z40, z41, z42, f40, f41, f42⟩ := cells3 B4.out; obtain ⟨z50, z51, z52, z53, z54, z55, f50, f51, f52, f53, f54, f55⟩ := cells6 B5.out; obtain ⟨hx0, hx1, hx2, hx3, hx4, hx5, hx6, hx7, hx8⟩ := HX.out; replace hx0 := held HB.out hx0; replace hx1 := held HB.out hx1; replace hx2 := held HB.out hx2; replace hx3 := held HB.out hx3; replace hx4 := held HB.out hx4; replace hx5 := held HB.out hx5; replace hx6 := held HB.out hx6; replace hx7 := held HB.out hx7; replace hx8 := held HB.out hx8) | ((with_reducible refine gate_dst (N := 92) rfl ?_); obtain ⟨g8, w8, hg, hw, hk, hb⟩ := box_new w1 #[.int .i64 (rd_T45 l0 i).f0, .int .i64 (rd_T45 l0 i).f1, .int .i64 (rd_T45 l0 i).f2, .int .i64 (rd_T45 l0 i).f3, .int .i64 (rd_T45 l0 i).f4, .slice A5 (rd_T45 l0 i).f5.length c5, .slice A6 (rd_T45 l0 i).f6.length c6, .int .i64 (rd_T45 l0 i).f7, .int .i64 (rd_T45 l0 i).f8] 45; rw [hw, hg]; have N28 := n2 B2 hg; have N38 := n2 B3 hg; have N48 := n2 B4 hg; have N58 := n2 B5 hg; replace B2 := bb B2 hb; replace B3 := bb B3 hb; replace B4 := bb B4 hb; replace B5 := bb B5 hb; have G8 := qM (show w.heap.size ≤ g8 by rw [← hg]; exact HB.out.size); replace HB := qM (below_step HB.out hb); have B8 := qM hk; clear z20 z21 z22 f20 f21 f22 z30 z31 z32 z33 z34 z35 z36 z37 z38 z39 z310 z311 z40 z41 z42 f40 f41 f42 z50 z51 z52 z53 z54 z55 f50 f51 f52 f53 f54 f55; clear hk hb hg hw; obtain ⟨z20, z21, z22, f20, f21, f22⟩ := cells3 B2.out; obtain ⟨z30, z31, z32, z33, z34, z35, z36, z37, z38, z39, z310, z311⟩ := cells12z B3.out; obtain ⟨z40, z41, z42, f40, f41, f42⟩ := cells3 B4.out; obtain ⟨z50, z51, z52, z53, z54, z55, f50, f51, f52, f53, f54, f55⟩ := cells6 B5.out; obtain ⟨z80, z81, z82, z83, z84, z85, z86, z87, z88, f80, f81, f82, f83, f84, f85, f86, f87, f88⟩ := cells9 B8.out; have ne28 := N28.out; have ne82 := Ne.symm N28.out; have ne38 := N38.out; have ne83 := Ne.symm N38.out; have ne48 := N48.out; have ne84 := Ne.symm N48.out; have ne58 := N58.out; have ne85 := Ne.symm N58.out) | (go_at_call 33; refine (HWH.out _ _ (HS3.out.below HB.out).sl).mono ?_; rintro e w1 ⟨rfl, hd⟩; have hb := hd.below; clear hd; replace B2 := bb B2 hb; replace B3 := bb B3 hb; replace B4 := bb B4 hb; replace B5 := bb B5 hb; replace B8 := bb B8 hb; replace HB := qM (below_step HB.out hb); clear z20 z21 z22 f20 f21 f22 z30 z31 z32 z33 z34 z35 z36 z37 z38 z39 z310 z311 z40 z41 z42 f40 f41 f42 z50 z51 z52 z53 z54 z55 f50 f51 f52 f53 f54 f55 z80 z81 z82 z83 z84 z85 z86 z87 z88 f80 f81 f82 f83 f84 f85 f86 f87 f88; clear hb; obtain ⟨z20, z21, z22, f20, f21, f22⟩ := cells3 B2.out; obtain ⟨z30, z31, z32, z33, z34, z35, z36, z37, z38, z39, z310, z311⟩ := cells12z B3.out; obtain ⟨z40, z41, z42, f40, f41, f42⟩ := cells3 B4.out; obtain ⟨z50, z51, z52, z53, z54, z55, f50, f51, f52, f53, f54, f55⟩ := cells6 B5.out; obtain ⟨z80, z81, z82, z83, z84, z85, z86, z87, z88, f80, f81, f82, f83, f84, f85, f86, f87, f88⟩ := cells9 B8.out))
  generalize hst : ((w1.setCell ⟨g8, 4, none⟩ (.int .i64 3)).setCell ⟨g8, 6, none⟩ (.slice A3 c.f11.length c3)) = wf
  replace B2 := qM (show wf.heap[g2]? = _ from hst ▸ (blk_far (blk_far B2.out N28.out (.int .i64 3)) N28.out (.slice A3 c.f11.length c3)))
  replace B3 := qM (show wf.heap[g3]? = _ from hst ▸ (blk_far (blk_far B3.out N38.out (.int .i64 3)) N38.out (.slice A3 c.f11.length c3)))
  replace B4 := qM (show wf.heap[g4]? = _ from hst ▸ (blk_far (blk_far B4.out N48.out (.int .i64 3)) N48.out (.slice A3 c.f11.length c3)))
  replace B5 := qM (show wf.heap[g5]? = _ from hst ▸ (blk_far (blk_far B5.out N58.out (.int .i64 3)) N58.out (.slice A3 c.f11.length c3)))
  replace B8 := qM (show wf.heap[g8]? = some (.cells #[.int .i64 (rd_T45 l0 i).f0, .int .i64 (rd_T45 l0 i).f1, .int .i64 (rd_T45 l0 i).f2, .int .i64 (rd_T45 l0 i).f3, .int .i64 3, .slice A5 (rd_T45 l0 i).f5.length c5, .slice A3 c.f11.length c3, .int .i64 (rd_T45 l0 i).f7, .int .i64 (rd_T45 l0 i).f8] 45 (0, 0)) from hst ▸ (blk_put (blk_put B8.out 4 (.int .i64 3) rfl) 6 (.slice A3 c.f11.length c3) rfl))
  replace HB := qM (show Below w.heap.size w wf from hst ▸ ((HB.out.setCell (p := ⟨g8, 4, none⟩) G8.out (.int .i64 3)).setCell (p := ⟨g8, 6, none⟩) G8.out (.slice A3 c.f11.length c3)))
  have hz : wf.heap.size = w1.heap.size := hst ▸ (Eq.trans (World.size_set _ ⟨g8, 6, none⟩ (.slice A3 c.f11.length c3)) (Eq.trans (World.size_set _ ⟨g8, 4, none⟩ (.int .i64 3)) (rfl : w1.heap.size = _)))
  clear hz
  clear hst
  clear z20 z21 z22 f20 f21 f22 z30 z31 z32 z33 z34 z35 z36 z37 z38 z39 z310 z311 z40 z41 z42 f40 f41 f42 z50 z51 z52 z53 z54 z55 f50 f51 f52 f53 f54 f55 z80 z81 z82 z83 z84 z85 z86 z87 z88 f80 f81 f82 f83 f84 f85 f86 f87 f88
  obtain ⟨z20, z21, z22, f20, f21, f22⟩ := cells3 B2.out; obtain ⟨z30, z31, z32, z33, z34, z35, z36, z37, z38, z39, z310, z311⟩ := cells12z B3.out; obtain ⟨z40, z41, z42, f40, f41, f42⟩ := cells3 B4.out; obtain ⟨z50, z51, z52, z53, z54, z55, f50, f51, f52, f53, f54, f55⟩ := cells6 B5.out; obtain ⟨z80, z81, z82, z83, z84, z85, z86, z87, z88, f80, f81, f82, f83, f84, f85, f86, f87, f88⟩ := cells9 B8.out
  refine start_ (n := 9) (S := fun w' => w'.heap[g2]? = some (.cells #[.slice (some ad) l0.length c0, .slice A1 l1.length c1, .slice A2 l2.length c2] 26 (0, 0)) ∧ w'.heap[g3]? = some (.cells #[.int .i64 c.f0, .int .i64 c.f1, .int .i64 c.f2, .string c.f3, .int .i64 c.f4, .int .i64 c.f5, .int .i64 c.f6, .int .u32 c.f7, .int .i64 c.f8, .int .i64 c.f9, .int .i64 c.f10, .slice A3 c.f11.length c3] 42 (0, 0)) ∧ w'.heap[g8]? = some (.cells #[.int .i64 (rd_T45 l0 i).f0, .int .i64 (rd_T45 l0 i).f1, .int .i64 (rd_T45 l0 i).f2, .int .i64 (rd_T45 l0 i).f3, .int .i64 3, .slice A5 (rd_T45 l0 i).f5.length c5, .slice A3 c.f11.length c3, .int .i64 (rd_T45 l0 i).f7, .int .i64 (rd_T45 l0 i).f8] 45 (0, 0))) (ds := [8]) #[false, false, false, false, false, false, false, false, false] (by kernel_rfl) rfl rfl ⟨qD B2.out, qD B3.out, qD B8.out⟩ (fun hHeld => ?_)
  generalize hw : wf.drew = w14 at hHeld ⊢
  replace B2 := qM (show w14.heap[g2]? = _ from hw ▸ qD B2.out)
  replace B3 := qM (show w14.heap[g3]? = _ from hw ▸ qD B3.out)
  replace B4 := qM (show w14.heap[g4]? = _ from hw ▸ qD B4.out)
  replace B5 := qM (show w14.heap[g5]? = _ from hw ▸ qD B5.out)
  replace B8 := qM (show w14.heap[g8]? = _ from hw ▸ qD B8.out)
  replace HB := qM (show Below w.heap.size w w14 from hw ▸ below_drew1 HB.out)
  have M2 := qM (blk_lt B2.out)
  have M3 := qM (blk_lt B3.out)
  have M4 := qM (blk_lt B4.out)
  have M5 := qM (blk_lt B5.out)
  have M8 := qM (blk_lt B8.out)
  clear z20 z21 z22 f20 f21 f22 z30 z31 z32 z33 z34 z35 z36 z37 z38 z39 z310 z311 z40 z41 z42 f40 f41 f42 z50 z51 z52 z53 z54 z55 f50 f51 f52 f53 f54 f55 z80 z81 z82 z83 z84 z85 z86 z87 z88 f80 f81 f82 f83 f84 f85 f86 f87 f88
  clear hw
  refine take_ (i := 0) (N := some 172) (v := ?_) (a' := ?_) #[true, false, false, false, false, false, false, false, false] rfl rfl (by kernel_rfl) (fun _ _ _ h => h) (Or.inl ⟨by rfl, ?_⟩) hHeld ?_ ?_
  rotate_left
  · rintro w' ⟨b2, b3, b8⟩; obtain ⟨z20, z21, z22, f20, f21, f22⟩ := cells3 b2; obtain ⟨z30, z31, z32, z33, z34, z35, z36, z37, z38, z39, z310, z311, f30, f31, f32, f33, f34, f35, f36, f37, f38, f39, f310, f311⟩ := cells12 b3; obtain ⟨z80, z81, z82, z83, z84, z85, z86, z87, z88, f80, f81, f82, f83, f84, f85, f86, f87, f88⟩ := cells9 b8; go_simp; with_reducible rfl
  rotate_left
  · simp only [Act.put, xA, xZ, xS, i64_w, i32_w]; rfl
  refine pure_ (i := 1) (N := some 173) (v := ?_) (a' := ?_) #[true, true, false, false, false, false, false, false, false] rfl rfl (by kernel_rfl) (fun _ _ _ h => h) (Or.inl ⟨by rfl, ?_⟩) ?_ ?_
  rotate_left
  · intro w'; go_simp; with_reducible rfl
  rotate_left
  · simp only [Act.put, xA, xZ, xS, i64_w, i32_w]; rfl
  refine take_ (i := 2) (N := some 174) (v := ?_) (a' := ?_) #[true, true, true, false, false, false, false, false, false] rfl rfl (by kernel_rfl) (fun _ _ _ h => h) (Or.inl ⟨by rfl, ?_⟩) hHeld ?_ ?_
  rotate_left
  · rintro w' ⟨b2, b3, b8⟩; obtain ⟨z20, z21, z22, f20, f21, f22⟩ := cells3 b2; obtain ⟨z30, z31, z32, z33, z34, z35, z36, z37, z38, z39, z310, z311, f30, f31, f32, f33, f34, f35, f36, f37, f38, f39, f310, f311⟩ := cells12 b3; obtain ⟨z80, z81, z82, z83, z84, z85, z86, z87, z88, f80, f81, f82, f83, f84, f85, f86, f87, f88⟩ := cells9 b8; go_simp; with_reducible rfl
  rotate_left
  · simp only [Act.put, xA, xZ, xS, i64_w, i32_w]; rfl
  refine pure_ (i := 4) (N := some 176) (v := ?_) (a' := ?_) #[true, true, true, false, true, false, false, false, false] rfl rfl (by kernel_rfl) (fun _ _ _ h => h) (Or.inl ⟨by rfl, ?_⟩) ?_ ?_
  rotate_left
  · intro w'; go_simp; with_reducible rfl
  rotate_left
  · simp only [Act.put, xA, xZ, xS, i64_w, i32_w]; rfl
  refine take_ (i := 5) (N := some 177) (v := ?_) (a' := ?_) #[true, true, true, false, true, true, false, false, false] rfl rfl (by kernel_rfl) (fun _ _ _ h => h) (Or.inl ⟨by rfl, ?_⟩) hHeld ?_ ?_
  rotate_left
  · rintro w' ⟨b2, b3, b8⟩; obtain ⟨z20, z21, z22, f20, f21, f22⟩ := cells3 b2; obtain ⟨z30, z31, z32, z33, z34, z35, z36, z37, z38, z39, z310, z311, f30, f31, f32, f33, f34, f35, f36, f37, f38, f39, f310, f311⟩ := cells12 b3; obtain ⟨z80, z81, z82, z83, z84, z85, z86, z87, z88, f80, f81, f82, f83, f84, f85, f86, f87, f88⟩ := cells9 b8; go_simp; with_reducible rfl
  rotate_left
  · simp only [Act.put, xA, xZ, xS, i64_w, i32_w]; rfl
  refine pure_ (i := 6) (N := some 178) (v := ?_) (a' := ?_) #[true, true, true, false, true, true, true, false, false] rfl rfl (by kernel_rfl) (fun _ _ _ h => h) (Or.inl ⟨by rfl, ?_⟩) ?_ ?_
  rotate_left
  · intro w'; go_simp; with_reducible rfl
  rotate_left
  · simp only [Act.put, xA, xZ, xS, i64_w, i32_w]; rfl
  obtain ⟨z20, z21, z22, f20, f21, f22⟩ := cells3 B2.out; obtain ⟨z30, z31, z32, z33, z34, z35, z36, z37, z38, z39, z310, z311⟩ := cells12z B3.out; obtain ⟨z40, z41, z42, f40, f41, f42⟩ := cells3 B4.out; obtain ⟨z50, z51, z52, z53, z54, z55, f50, f51, f52, f53, f54, f55⟩ := cells6 B5.out; obtain ⟨z80, z81, z82, z83, z84, z85, z86, z87, z88, f80, f81, f82, f83, f84, f85, f86, f87, f88⟩ := cells9 B8.out
  refine one_ (i := 3) (N := some 175) #[true, true, true, true, true, true, true, false, false] rfl rfl (by kernel_rfl) (by decide) (fun K hK => ?_)
  go_simp
  (refine (with_SF Pq w.heap.size w14.heap.size _ _ _ l0 l1 l2 i (⟨(rd_T45 l0 i).f0, (rd_T45 l0 i).f1, (rd_T45 l0 i).f2, (rd_T45 l0 i).f3, 3, (rd_T45 l0 i).f5, c.f11, (rd_T45 l0 i).f7, (rd_T45 l0 i).f8⟩ : S45) _ _ _ ((SF.of_slP HS0.out).below HB.out) ((SF.of_slP HS1.out).below HB.out) ((SF.of_slP HS2.out).below HB.out) ((SF.of_slP ⟨A5, c5, rfl, HL5.out, HI5.out⟩).below HB.out) ((SF.of_slP HS3.out).below HB.out) (Nat.le_refl _) (fun q hq => HPQ.out q (Nat.le_trans HB.out.size hq)) (by have := HG.out.2.2.1; omega) cl).mono ?_; rintro e w1 ⟨u0, u1, u2, rfl, hu0, hu1, hu2, hb⟩; rw [if_neg (show ¬i < 0 by omega)] at hu0; obtain ⟨L0, eL⟩ : ∃ L, L = l0.set i.toNat (⟨(rd_T45 l0 i).f0, (rd_T45 l0 i).f1, (rd_T45 l0 i).f2, (rd_T45 l0 i).f3, 3, (rd_T45 l0 i).f5, c.f11, (rd_T45 l0 i).f7, (rd_T45 l0 i).f8⟩ : S45) := ⟨_, rfl⟩; rw [← eL] at hu0; have EL0 := qM eL; clear eL; obtain ⟨D0, d0, rfl⟩ := Kd.V_slice hu0; obtain ⟨D1, d1, rfl⟩ := Kd.V_slice hu1; obtain ⟨D2, d2, rfl⟩ := Kd.V_slice hu2; have HU0 := qM hu0; have HU1 := qM hu1; have HU2 := qM hu2; clear hu0 hu1 hu2; replace B2 := bb B2 hb; replace B3 := bb B3 hb; replace B4 := bb B4 hb; replace B5 := bb B5 hb; replace B8 := bb B8 hb; replace HB := qM (below_step HB.out hb); clear z20 z21 z22 f20 f21 f22 z30 z31 z32 z33 z34 z35 z36 z37 z38 z39 z310 z311 z40 z41 z42 f40 f41 f42 z50 z51 z52 z53 z54 z55 f50 f51 f52 f53 f54 f55 z80 z81 z82 z83 z84 z85 z86 z87 z88 f80 f81 f82 f83 f84 f85 f86 f87 f88; clear hb; obtain ⟨z20, z21, z22, f20, f21, f22⟩ := cells3 B2.out; obtain ⟨z30, z31, z32, z33, z34, z35, z36, z37, z38, z39, z310, z311⟩ := cells12z B3.out; obtain ⟨z40, z41, z42, f40, f41, f42⟩ := cells3 B4.out; obtain ⟨z50, z51, z52, z53, z54, z55, f50, f51, f52, f53, f54, f55⟩ := cells6 B5.out; obtain ⟨z80, z81, z82, z83, z84, z85, z86, z87, z88, f80, f81, f82, f83, f84, f85, f86, f87, f88⟩ := cells9 B8.out)
  dsimp only
  refine hK.out _ _ ⟨B2.out, B3.out, B8.out⟩ (fun _ => ?_)
  clear hK K
  refine one_ (i := 7) (N := none) #[true, true, true, true, true, true, true, true, false] rfl rfl (by kernel_rfl) (by decide) (fun K hK => ?_)
  refine skip_ (w1 := ?_) (by rfl) rfl ?_ ?_
  rotate_left
  · go_simp; rfl
  refine hK.out _ _ ⟨(blk_far (blk_far (blk_far B2.out N24.out (.slice D0 L0.length d0)) N24.out (.slice D1 l1.length d1)) N24.out (.slice D2 l2.length d2)), (blk_far (blk_far (blk_far B3.out N34.out (.slice D0 L0.length d0)) N34.out (.slice D1 l1.length d1)) N34.out (.slice D2 l2.length d2)), (blk_far (blk_far (blk_far B8.out (Ne.symm N48.out) (.slice D0 L0.length d0)) (Ne.symm N48.out) (.slice D1 l1.length d1)) (Ne.symm N48.out) (.slice D2 l2.length d2))⟩ (fun _ => ?_)
  clear hK K
  refine last_ (i := 8) (N := none) #[true, true, true, true, true, true, true, true, true] rfl rfl (by kernel_rfl) (by decide) (fun K hK => ?_)
  refine skip_ (w1 := ?_) (by rfl) rfl ?_ ?_
  rotate_left
  · go_simp; rfl
  refine hK.out _ _ ?_
  clear hK K
  refine done_ (by kernel_rfl) ?_
  repeat go_step
  exact fin_sf rfl (⟨0, (rd_T45 l0 i).f0, 0, 0, 0, false⟩ : Rep) B4 B5 N45 HB G4 G5 M4 M5 HU0 HU1 HU2 ((turn_good HG.out i ci cl (⟨(rd_T45 l0 i).f0, (rd_T45 l0 i).f1, (rd_T45 l0 i).f2, (rd_T45 l0 i).f3, 3, (rd_T45 l0 i).f5, c.f11, (rd_T45 l0 i).f7, (rd_T45 l0 i).f8⟩ : S45) L0 EL0.out ⟨by rw [CP.out]; decide, by rw [CP.out]; decide⟩ ⟨(by decide : (3 : Int) ≠ 4), (by decide : (3 : Int) ≠ 5)⟩ (fun h => .inr ⟨.inl rfl, CW14.out⟩) rfl)) rfl rfl rfl


set_option maxHeartbeats 40000000 in
set_option maxRecDepth 100000 in
theorem does_v (Pq : Nat → Prop) (v0 v1 v2 v : Value) (l0 : List Vol) (l1 : List Nam) (l2 : List Ses) (c : Cmd) (w : World) (hPq : ∀ q, w.heap.size ≤ q → Pq q) (h0 : SlP Pq k45 w v0 l0) (h1 : SlP Pq k92 w v1 l1) (h2 : SlP Pq k64 w v2 l2) (h3 : SlP Pq k75 w v c.f11) (n : Nat) (hg : Good n l0 l1) (hn : n ≤ 1000) (k1 : (c.f0 == 1) = false) (k3 : (c.f0 == 3) = false) (k4 : (c.f0 == 4) = false) (k5 : (c.f0 == 5) = false) (k8 : (c.f0 == 8) = false) (k2 : (c.f0 == 2) = false) (k6 : (c.f0 == 6) = false) (k7 : (c.f0 == 7) = false) (h10 : 0 ≤ c.f10) (i : Int) (hva : VolC l0 l1 l2 c.f4 i) (ci : 0 ≤ i) (cl : i < (l0.length : Int)) (cp : 3 ≤ (rd_T45 l0 i).f4) (cz : c.f10 < ((rd_T45 l0 i).f6.length : Int)) (cy : c.f11.length = 1) (cx : ¬(rd_T75 c.f11 0).f0 = (rd_T45 l0 i).f1) : Calls Try.prog 21 #[.agg #[v0, v1, v2], cmdV c v] w (Back Pq (n + 1) l2 w) := by
  obtain ⟨A0, c0, rfl, hc0, hr0⟩ := h0
  obtain ⟨A1, c1, rfl, hc1, hr1⟩ := h1
  obtain ⟨A2, c2, rfl, hc2, hr2⟩ := h2
  obtain ⟨A3, c3, rfl, hc3, hr3⟩ := h3
  have HS0 := qM (show SlP Pq k45 w (.slice A0 l0.length c0) l0 from ⟨A0, c0, rfl, hc0, hr0⟩)
  have HS1 := qM (show SlP Pq k92 w (.slice A1 l1.length c1) l1 from ⟨A1, c1, rfl, hc1, hr1⟩)
  have HS2 := qM (show SlP Pq k64 w (.slice A2 l2.length c2) l2 from ⟨A2, c2, rfl, hc2, hr2⟩)
  have HS3 := qM (show SlP Pq k75 w (.slice A3 c.f11.length c3) c.f11 from ⟨A3, c3, rfl, hc3, hr3⟩)
  have HR0 := qM hr0
  have HR1 := qM (Kd.F_now hr1)
  have HR2 := qM (Kd.F_now hr2)
  have HR3 := qM (Kd.F_now hr3)
  have HG := qM hg
  have HPQ := qM hPq
  clear hc0 hr0 hc1 hr1 hc2 hr2 hc3 hr3 hg hPq
  unfold cmdV
  have HN := qM hn
  clear hn
  have HVA := qM hva
  clear hva
  have d1 : decide (i < 0) = false := decide_eq_false (by omega)
  obtain ⟨ad, A5, c5, A6, c6, e, hx0, hx1, hx2, hx3, hx4, hx5, hx6, hx7, hx8, hl5, hi5, hl6, hi6⟩ := at_F45 HR0.out i ci cl
  cases e
  have HX := qM (And.intro hx0 (And.intro hx1 (And.intro hx2 (And.intro hx3 (And.intro hx4 (And.intro hx5 (And.intro hx6 (And.intro hx7 hx8))))))))
  have HI5 := qM hi5
  have HI6 := qM hi6
  have HL5 := qM hl5
  have HL6 := qM hl6
  clear hi5 hi6 hl5 hl6 hx0 hx1 hx2 hx3 hx4 hx5 hx6 hx7 hx8
  have p0 := eq_true ci
  have p1 := eq_true cl
  have d3 : decide ((rd_T45 l0 i).f4 < 3) = false := decide_eq_false (by omega)
  have d4 : decide (c.f10 ≥ ((rd_T45 l0 i).f6.length : Int)) = false := decide_eq_false (by omega)
  have d5 : ((c.f11.length : Int) != 1) = false := bne_eq_false_iff_eq.mpr (by omega)
  obtain ⟨ad0, e3, hp0, hp1⟩ := at_T75 HR3.out 0 (by decide) (by omega)
  cases e3
  have HP0 := qM (show w.cell? ad0 = some (.int .i64 (rd_T75 c.f11 0).f0) from hp0)
  have HP1 := qM (show w.cell? ⟨ad0.block, ad0.off + 1, none⟩ = some (.int .i64 (rd_T75 c.f11 0).f1) from hp1)
  clear hp0 hp1
  have d6 : ((rd_T75 c.f11 0).f0 != (rd_T45 l0 i).f1) = true := bne_iff_ne.mpr cx
  have CX := qM cx
  clear cx
  go_enter Try.func21, Try.ntmps21
  go_wp2_with (first | ((with_reducible refine gate_dst (N := 2) rfl ?_); (try (refine gate_guard (by rfl) ?_; dsimp only)); refine box_event ?hg (N := 2) ?hd (cs := #[.slice (some ad) l0.length c0, .slice A1 l1.length c1, .slice A2 l2.length c2]) (t := 26) ?hr ?_; (case hd => rfl); (case hg => rfl); (case hr => first | (go_simp; done) | (go_simp; rfl)); intro g2 hg w_2 hk hb; have G2 := qM (show w.heap.size ≤ g2 by rw [hg]; exact Nat.le_refl _); have B2 := qM hk; have HB := qM (hb); clear hk hb hg; skip) | ((with_reducible refine gate_dst (N := 3) rfl ?_); (try (refine gate_guard (by rfl) ?_; dsimp only)); refine box_event ?hg (N := 3) ?hd (cs := #[.int .i64 c.f0, .int .i64 c.f1, .int .i64 c.f2, .string c.f3, .int .i64 c.f4, .int .i64 c.f5, .int .i64 c.f6, .int .u32 c.f7, .int .i64 c.f8, .int .i64 c.f9, .int .i64 c.f10, .slice (some ad0) c.f11.length c3]) (t := 42) ?hr ?_; (case hd => rfl); (case hg => rfl); (case hr => first | (go_simp; done) | (go_simp; rfl)); intro g3 hg w_3 hk hb; have N23 := n1 B2 hg; have G3 := qM (show w.heap.size ≤ g3 by rw [hg]; exact HB.out.size); replace B2 := bb B2 hb; have B3 := qM hk; have HB := qM (below_step HB.out hb); clear hk hb hg; have ne23 := N23.out; have ne32 := Ne.symm N23.out; skip) | ((with_reducible refine gate_dst (N := 4) rfl ?_); (try (refine gate_guard (by rfl) ?_; dsimp only)); refine box_event ?hg (N := 4) ?hd (cs := #[.slice none 0 0, .slice none 0 0, .slice none 0 0]) (t := 26) ?hr ?_; (case hd => rfl); (case hg => rfl); (case hr => first | (go_simp; done) | (go_simp; rfl)); intro g4 hg w_4 hk hb; have N24 := n1 B2 hg; have N34 := n1 B3 hg; have G4 := qM (show w.heap.size ≤ g4 by rw [hg]; exact HB.out.size); replace B2 := bb B2 hb; replace B3 := bb B3 hb; have B4 := qM hk; have HB := qM (below_step HB.out hb); clear hk hb hg; have ne24 := N24.out; have ne42 := Ne.symm N24.out; have ne34 := N34.out; have ne43 := Ne.symm N34.out; skip) | ((with_reducible refine gate_dst (N := 5) rfl ?_); (try (refine gate_guard (by rfl) ?_; dsimp only)); refine box_event ?hg (N := 5) ?hd (cs := #[.int .i64 0, .int .i64 0, .int .i64 0, .int .i64 0, .int .u32 0, .bool false]) (t := 37) ?hr ?_; (case hd => rfl); (case hg => rfl); (case hr => first | (go_simp; done) | (go_simp; rfl)); intro g5 hg w_5 hk hb; have N25 := n1 B2 hg; have N35 := n1 B3 hg; have N45 := n1 B4 hg; have G5 := qM (show w.heap.size ≤ g5 by rw [hg]; exact HB.out.size); replace B2 := bb B2 hb; replace B3 := bb B3 hb; replace B4 := bb B4 hb; have B5 := qM hk; have HB := qM (below_step HB.out hb); clear hk hb hg; have ne25 := N25.out; have ne52 := Ne.symm N25.out; have ne35 := N35.out; have ne53 := Ne.symm N35.out; have ne45 := N45.out; have ne54 := Ne.symm N45.out; obtain ⟨z20, z21, z22, f20, f21, f22⟩ := cells3 B2.out; obtain ⟨z30, z31, z32, z33, z34, z35, z36, z37, z38, z39, z310, z311⟩ := cells12z B3.out; obtain ⟨z40, z41, z42, f40, f41, f42⟩ := cells3 B4.out; obtain ⟨z50, z51, z52, z53, z54, z55, f50, f51, f52, f53, f54, f55⟩ := cells6 B5.out) | (go_at_call 32; refine (HVA.out _ _ _ _ (HS0.out.below HB.out).sl (HS1.out.below HB.out).sl (HS2.out.below HB.out).sl).mono ?_; rintro e w1 ⟨rfl, hb⟩; replace B2 := bb B2 hb; replace B3 := bb B3 hb; replace B4 := bb B4 hb; replace B5 := bb B5 hb; replace HB := qM (below_step HB.out hb); clear z20 z21 z22 f20 f21 f22 z30 z31 z32 z33 z34 z35 z36 z37 z38 z39 z310 z311 z40 z41 z42 f40 f41 f42 z50 z51 z52 z53 z54 z55 f50 f51 f52 f53 f54 f55; clear hb; obtain ⟨z20, z21, z22, f20, f21, f22⟩ := cells3 B2.out; obtain ⟨z30, z31, z32, z33, z34, z35, z36, z37, z38, z39, z310, z311⟩ := cells12z B3.out; obtain ⟨z40, z41, z42, f40, f41, f42⟩ := cells3 B4.out; obtain ⟨z50, z51, z52, z53, z54, z55, f50, f51, f52, f53, f54, f55⟩ := cells6 B5.out; obtain ⟨hx0, hx1, hx2, hx3, hx4, hx5, hx6, hx7, hx8⟩ := HX.out; replace hx0 := held HB.out hx0; replace hx1 := held HB.out hx1; replace hx2 := held HB.out hx2; replace hx3 := held HB.out hx3; replace hx4 := held HB.out hx4; replace hx5 := held HB.out hx5; replace hx6 := held HB.out hx6; replace hx7 := held HB.out hx7; replace hx8 := held HB.out hx8) | ((with_reducible refine gate_dst (N := 92) rfl ?_); obtain ⟨g8, w8, hg, hw, hk, hb⟩ := box_new w1 #[.int .i64 (rd_T45 l0 i).f0, .int .i64 (rd_T45 l0 i).f1, .int .i64 (rd_T45 l0 i).f2, .int .i64 (rd_T45 l0 i).f3, .int .i64 (rd_T45 l0 i).f4, .slice A5 (rd_T45 l0 i).f5.length c5, .slice A6 (rd_T45 l0 i).f6.length c6, .int .i64 (rd_T45 l0 i).f7, .int .i64 (rd_T45 l0 i).f8] 45; rw [hw, hg]; have N28 := n2 B2 hg; have N38 := n2 B3 hg; have N48 := n2 B4 hg; have N58 := n2 B5 hg; replace B2 := bb B2 hb; replace B3 := bb B3 hb; replace B4 := bb B4 hb; replace B5 := bb B5 hb; have G8 := qM (show w.heap.size ≤ g8 by rw [← hg]; exact HB.out.size); replace HB := qM (below_step HB.out hb); have B8 := qM hk; clear z20 z21 z22 f20 f21 f22 z30 z31 z32 z33 z34 z35 z36 z37 z38 z39 z310 z311 z40 z41 z42 f40 f41 f42 z50 z51 z52 z53 z54 z55 f50 f51 f52 f53 f54 f55; clear hk hb hg hw; obtain ⟨z20, z21, z22, f20, f21, f22⟩ := cells3 B2.out; obtain ⟨z30, z31, z32, z33, z34, z35, z36, z37, z38, z39, z310, z311⟩ := cells12z B3.out; obtain ⟨z40, z41, z42, f40, f41, f42⟩ := cells3 B4.out; obtain ⟨z50, z51, z52, z53, z54, z55, f50, f51, f52, f53, f54, f55⟩ := cells6 B5.out; obtain ⟨z80, z81, z82, z83, z84, z85, z86, z87, z88, f80, f81, f82, f83, f84, f85, f86, f87, f88⟩ := cells9 B8.out; have ne28 := N28.out; have ne82 := Ne.symm N28.out; have ne38 := N38.out; have ne83 := Ne.symm N38.out; have ne48 := N48.out; have ne84 := Ne.symm N48.out; have ne58 := N58.out; have ne85 := Ne.symm N58.out))
  have hp0 := held HB.out HP0.out
  have hp1 := held HB.out HP1.out
  go_quiet (fail)
  replace B2 := qM (show (w8.drewN nq).heap[g2]? = _ from B2.out)
  replace B3 := qM (show (w8.drewN nq).heap[g3]? = _ from B3.out)
  replace B4 := qM (show (w8.drewN nq).heap[g4]? = _ from B4.out)
  replace B5 := qM (show (w8.drewN nq).heap[g5]? = _ from B5.out)
  replace B8 := qM (show (w8.drewN nq).heap[g8]? = _ from B8.out)
  replace HB := qM (pw_below_drewN HB.out nq)
  generalize w8.drewN nq = wq at HB B2 B3 B4 B5 B8 ⊢
  clear z20 z21 z22 f20 f21 f22 z30 z31 z32 z33 z34 z35 z36 z37 z38 z39 z310 z311 z40 z41 z42 f40 f41 f42 z50 z51 z52 z53 z54 z55 f50 f51 f52 f53 f54 f55 z80 z81 z82 z83 z84 z85 z86 z87 z88 f80 f81 f82 f83 f84 f85 f86 f87 f88
  obtain ⟨z20, z21, z22, f20, f21, f22⟩ := cells3 B2.out; obtain ⟨z30, z31, z32, z33, z34, z35, z36, z37, z38, z39, z310, z311⟩ := cells12z B3.out; obtain ⟨z40, z41, z42, f40, f41, f42⟩ := cells3 B4.out; obtain ⟨z50, z51, z52, z53, z54, z55, f50, f51, f52, f53, f54, f55⟩ := cells6 B5.out; obtain ⟨z80, z81, z82, z83, z84, z85, z86, z87, z88, f80, f81, f82, f83, f84, f85, f86, f87, f88⟩ := cells9 B8.out
  go_wp2
  refine wp_region_any (by kernel_rfl) ?_
  change wpAny _ _ _ _ _ _ _ (World.drew _)
  refine wpAny_ready (rs := [0, 1]) (by kernel_rfl) (by simp) ?_
  refine AllReady.cons rfl (fun K hK => ?_) (AllReady.cons rfl (fun K hK => ?_) AllReady.nil)
  · go_simp
    refine hK _ _ ?_
    clear hK K
    refine wpAny_ready (rs := [1]) (by kernel_rfl) (by simp) ?_
    refine AllReady.cons rfl (fun K hK => ?_) AllReady.nil
    go_simp
    refine (no_reads _ _).mono ?_
    rintro e w9 ⟨rfl, hb⟩
    replace B2 := bd B2 hb; replace B4 := bd B4 hb; replace B5 := bd B5 hb; replace HB := qM (below_step (below_drew1 HB.out) hb); clear z20 z21 z22 f20 f21 f22 z30 z31 z32 z33 z34 z35 z36 z37 z38 z39 z310 z311 z40 z41 z42 f40 f41 f42 z50 z51 z52 z53 z54 z55 f50 f51 f52 f53 f54 f55 z80 z81 z82 z83 z84 z85 z86 z87 z88 f80 f81 f82 f83 f84 f85 f86 f87 f88; clear hb; obtain ⟨z20, z21, z22, f20, f21, f22⟩ := cells3 B2.out; obtain ⟨z40, z41, z42, f40, f41, f42⟩ := cells3 B4.out; obtain ⟨z50, z51, z52, z53, z54, z55, f50, f51, f52, f53, f54, f55⟩ := cells6 B5.out
    dsimp only
    refine hK _ _ ?_
    clear hK K
    refine wpAny_ready (rs := [2]) (by kernel_rfl) (by simp) ?_
    refine AllReady.cons rfl (fun K hK => ?_) AllReady.nil
    go_simp
    refine hK _ _ ?_
    clear hK K
    refine wpAny_ready (rs := [3]) (by kernel_rfl) (by simp) ?_
    refine AllReady.cons rfl (fun K hK => ?_) AllReady.nil
    go_simp
    refine hK _ _ ?_
    clear hK K
    refine wpAny_done (by kernel_rfl) ?_ _
    repeat go_step
    exact fin_no rfl B4 B5 N45 HB G4 G5 HS0 HS1 HS2 HG rfl rfl rfl
  · go_simp
    refine (no_reads _ _).mono ?_
    rintro e w9 ⟨rfl, hb⟩
    replace B2 := bd B2 hb; replace B4 := bd B4 hb; replace B5 := bd B5 hb; replace HB := qM (below_step (below_drew1 HB.out) hb); clear z20 z21 z22 f20 f21 f22 z30 z31 z32 z33 z34 z35 z36 z37 z38 z39 z310 z311 z40 z41 z42 f40 f41 f42 z50 z51 z52 z53 z54 z55 f50 f51 f52 f53 f54 f55 z80 z81 z82 z83 z84 z85 z86 z87 z88 f80 f81 f82 f83 f84 f85 f86 f87 f88; clear hb; obtain ⟨z20, z21, z22, f20, f21, f22⟩ := cells3 B2.out; obtain ⟨z40, z41, z42, f40, f41, f42⟩ := cells3 B4.out; obtain ⟨z50, z51, z52, z53, z54, z55, f50, f51, f52, f53, f54, f55⟩ := cells6 B5.out
    dsimp only
    refine hK _ _ ?_
    clear hK K
    refine wpAny_ready (rs := [0]) (by kernel_rfl) (by simp) ?_
    refine AllReady.cons rfl (fun K hK => ?_) AllReady.nil
    go_simp
    refine hK _ _ ?_
    clear hK K
    refine wpAny_ready (rs := [2]) (by kernel_rfl) (by simp) ?_
    refine AllReady.cons rfl (fun K hK => ?_) AllReady.nil
    go_simp
    refine hK _ _ ?_
    clear hK K
    refine wpAny_ready (rs := [3]) (by kernel_rfl) (by simp) ?_
    refine AllReady.cons rfl (fun K hK => ?_) AllReady.nil
    go_simp
    refine hK _ _ ?_
    clear hK K
    refine wpAny_done (by kernel_rfl) ?_ _
    repeat go_step
    exact fin_no rfl B4 B5 N45 HB G4 G5 HS0 HS1 HS2 HG rfl rfl rfl
end Go.Proofs.Ytlfonfceaiiinaa.PAll
