/- A step: Do. -/
import Derived.Test.YtlfonfceaiiinaaIxDoes
namespace Go.Proofs.Ytlfonfceaiiinaa.PAll
open Go.RowKit Go.Proofs.YtlfonfceaiiinaaW.PrintWords Go.Proofs.YtlfonfceaiiinaaW.PrintLast Go.Proofs.YtlfonfceaiiinaaW.PrintMore
set_option linter.unusedVariables false
set_option linter.unusedSimpArgs false
attribute [local irreducible] World.setCell
attribute [local go_sem high] eqA75
/-- What a step hands back. -/
def DoBack (P : Nat → Prop) (n m : Nat) (w : World) (e : Ending) (w' : World) : Prop := ∃ (u0 u1 u2 : Value) (l0 : List Vol) (l1 : List Nam) (l2 : List Ses) (r : Rep), e = .returned (.tuple #[.agg #[u0, u1, u2], repV r]) ∧ SlP P k45 w' u0 l0 ∧ SlP P k92 w' u1 l1 ∧ SlP P k64 w' u2 l2 ∧ l2.length ≤ m ∧ Good n l0 l1 ∧ Below w.heap.size w w'
theorem infoSes : (Try.prog.info? 64).map (fun i => (i.zero, i.size, i.bytes)) = some (some (.agg #[.int .i64 0, .int .i64 0, .int .i64 0, .int .i64 0, .int .i64 0, .int .i64 0, .int .u32 0, .bool false]), 8, 56) := by kernel_rfl
theorem cells8 {w : World} {g t : Nat} {a0 a1 a2 a3 a4 a5 a6 a7 : Value} (h : w.heap[g]? = some (.cells #[a0, a1, a2, a3, a4, a5, a6, a7] t (0, 0))) : w.cell? ⟨g, 0, none⟩ = some a0 ∧ w.cell? ⟨g, 1, none⟩ = some a1 ∧ w.cell? ⟨g, 2, none⟩ = some a2 ∧ w.cell? ⟨g, 3, none⟩ = some a3 ∧ w.cell? ⟨g, 4, none⟩ = some a4 ∧ w.cell? ⟨g, 5, none⟩ = some a5 ∧ w.cell? ⟨g, 6, none⟩ = some a6 ∧ w.cell? ⟨g, 7, none⟩ = some a7 ∧ w.frozen? ⟨g, 0, none⟩ = false ∧ w.frozen? ⟨g, 1, none⟩ = false ∧ w.frozen? ⟨g, 2, none⟩ = false ∧ w.frozen? ⟨g, 3, none⟩ = false ∧ w.frozen? ⟨g, 4, none⟩ = false ∧ w.frozen? ⟨g, 5, none⟩ = false ∧ w.frozen? ⟨g, 6, none⟩ = false ∧ w.frozen? ⟨g, 7, none⟩ = false :=
  ⟨(blk_cell h 0).trans rfl, (blk_cell h 1).trans rfl, (blk_cell h 2).trans rfl, (blk_cell h 3).trans rfl, (blk_cell h 4).trans rfl, (blk_cell h 5).trans rfl, (blk_cell h 6).trans rfl, (blk_cell h 7).trans rfl, blk_frozen h 0, blk_frozen h 1, blk_frozen h 2, blk_frozen h 3, blk_frozen h 4, blk_frozen h 5, blk_frozen h 6, blk_frozen h 7⟩
theorem fin_nod {fn : Func} (hf : fn.results = #[.cell 4 26, .cell 5 37]) {P : Nat → Prop} {n m : Nat} {l0 : List Vol} {l1 : List Nam} {l2 : List Ses} {a : Act} {w w0 : World} {g4 g5 t4 t5 : Nat} {a0 a1 a2 b0 b1 b2 b3 b4 b5 x0 x1 x2 : Value} {c : Int} (HM : Aside0 (l2.length ≤ m)) (B4 : Aside0 (w.heap[g4]? = some (.cells #[a0, a1, a2] t4 (0, 0)))) (B5 : Aside0 (w.heap[g5]? = some (.cells #[b0, b1, b2, b3, b4, b5] t5 (0, 0)))) (ne : Aside0 (g4 ≠ g5)) (HB : Aside0 (Below w0.heap.size w0 w)) (G4 : Aside0 (w0.heap.size ≤ g4)) (G5 : Aside0 (w0.heap.size ≤ g5))
    (HS0 : Aside0 (SlP P k45 w0 x0 l0)) (HS1 : Aside0 (SlP P k92 w0 x1 l1)) (HS2 : Aside0 (SlP P k64 w0 x2 l2)) (HG : Aside0 (Good n l0 l1))
    (hp : a.tmps.getD 4 undef = .pointer (some ⟨g4, 0, none⟩)) (hp' : a.tmps.getD 5 undef = .pointer (some ⟨g5, 0, none⟩)) (hd : a.defers = []) : bodyPost Try.prog fn (DoBack P (n + 1) (m + 1) w0) .ret a (((((((((w.setCell ⟨g4, 0, none⟩ x0).setCell ⟨g4, 1, none⟩ x1).setCell ⟨g4, 2, none⟩ x2).setCell ⟨g5, 0, none⟩ (.int .i64 c)).setCell ⟨g5, 1, none⟩ (.int .i64 0)).setCell ⟨g5, 2, none⟩ (.int .i64 0)).setCell ⟨g5, 3, none⟩ (.int .i64 0)).setCell ⟨g5, 4, none⟩ (.int .u32 0)).setCell ⟨g5, 5, none⟩ (.bool false)) :=
  fin_cc hf B4 B5 ne HB G4 G5 hp hp' hd (fun hbf => ⟨_, _, _, l0, l1, l2, ⟨c, 0, 0, 0, 0, false⟩, rfl, HS0.out.below hbf, HS1.out.below hbf, HS2.out.below hbf, Nat.le_succ_of_le HM.out, HG.out.more (by omega), hbf⟩)
theorem SlP.of_own {P : Nat → Prop} {α : Type} {k : Kd α} {e b : Nat} {w : World} {v : Value} {l : List α} (h : Own k e w b v l) (hp : ∀ q, b ≤ q → P q) : SlP P k w v l := show Kd.V k e w 0 P v l from Kd.V_mono (Kd.N_V (Kd.R_N h)) hp
theorem below_less {a b : Nat} {w w1 : World} (h : Below b w w1) (hab : a ≤ b) : Below a w w1 := ⟨h.os, h.tape, h.output, h.size, fun k hk => h.block k (Nat.lt_of_lt_of_le hk hab)⟩
theorem SlP.outP {P P' : Nat → Prop} {α : Type} {k : Kd α} {w : World} {v : Value} {l : List α} (h : SlP P k w v l) {g4 g5 : Nat} (hp : ∀ q, P q → P' q) (h4 : ∀ q, P q → q ≠ g4) (h5 : ∀ q, P q → q ≠ g5) (x0 x1 x2 y0 y1 y2 y3 y4 y5 : Value) :
    SlP P' k (((((((((w.setCell ⟨g4, 0, none⟩ x0).setCell ⟨g4, 1, none⟩ x1).setCell ⟨g4, 2, none⟩ x2).setCell ⟨g5, 0, none⟩ y0).setCell ⟨g5, 1, none⟩ y1).setCell ⟨g5, 2, none⟩ y2).setCell ⟨g5, 3, none⟩ y3).setCell ⟨g5, 4, none⟩ y4).setCell ⟨g5, 5, none⟩ y5) v l :=
  (((((((((h.far (p := ⟨g4, 0, none⟩) h4 x0).far (p := ⟨g4, 1, none⟩) h4 x1).far (p := ⟨g4, 2, none⟩) h4 x2).far (p := ⟨g5, 0, none⟩) h5 y0).far (p := ⟨g5, 1, none⟩) h5 y1).far (p := ⟨g5, 2, none⟩) h5 y2).far (p := ⟨g5, 3, none⟩) h5 y3).far (p := ⟨g5, 4, none⟩) h5 y4).far (p := ⟨g5, 5, none⟩) h5 y5).mono hp

set_option maxHeartbeats 40000000 in
set_option maxRecDepth 100000 in
theorem do_a (Pq : Nat → Prop) (v0 v1 v2 v : Value) (l0 : List Vol) (l1 : List Nam) (l2 : List Ses) (c : Cmd) (w : World) (hPq : ∀ q, w.heap.size ≤ q → Pq q) (h0 : SlP Pq k45 w v0 l0) (h1 : SlP Pq k92 w v1 l1) (h2 : SlP Pq k64 w v2 l2) (h3 : SlP Pq k75 w v c.f11) (n m : Nat) (hg : Good n l0 l1) (hn : n ≤ 1000) (hm : l2.length ≤ m) (hm2 : m ≤ 1000) (rm : Bool) (hmay : ∀ (v : Value) (w : World), Sl k75 w v c.f11 → Calls Try.prog 18 #[cmdV c v] w fun e w' => e = .returned (.bool rm) ∧ Below w.heap.size w w') (cm : rm = false) : Calls Try.prog 13 #[.agg #[v0, v1, v2], cmdV c v] w (DoBack Pq (n + 1) (m + 1) w) := by
  obtain ⟨A0, c0, rfl, hc0, hr0⟩ := h0
  obtain ⟨A1, c1, rfl, hc1, hr1⟩ := h1
  obtain ⟨A2, c2, rfl, hc2, hr2⟩ := h2
  obtain ⟨A3, c3, rfl, hc3, hr3⟩ := h3
  have HS0 := qM (show SlP Pq k45 w (.slice A0 l0.length c0) l0 from ⟨A0, c0, rfl, hc0, hr0⟩)
  have HS1 := qM (show SlP Pq k92 w (.slice A1 l1.length c1) l1 from ⟨A1, c1, rfl, hc1, hr1⟩)
  have HS2 := qM (show SlP Pq k64 w (.slice A2 l2.length c2) l2 from ⟨A2, c2, rfl, hc2, hr2⟩)
  have HS3 := qM (show SlP Pq k75 w (.slice A3 c.f11.length c3) c.f11 from ⟨A3, c3, rfl, hc3, hr3⟩)
  have HR0 := qM hr0
  have HR1 := qM (Kd.F_now hr1)
  have HR2 := qM (Kd.F_now hr2)
  have HR3 := qM (Kd.F_now hr3)
  have HG := qM hg
  have HPQ := qM hPq
  clear hc0 hr0 hc1 hr1 hc2 hr2 hc3 hr3 hg hPq
  unfold cmdV
  have HN := qM hn
  have HM := qM hm
  have HM2 := qM hm2
  clear hn hm hm2
  have HMAY := qM hmay
  clear hmay
  subst cm
  go_enter Try.func13, Try.ntmps13
  go_wp2_with (first | ((with_reducible refine gate_dst (N := 2) rfl ?_); (try (refine gate_guard (by rfl) ?_; dsimp only)); refine box_event ?hg (N := 2) ?hd (cs := #[.slice A0 l0.length c0, .slice A1 l1.length c1, .slice A2 l2.length c2]) (t := 26) ?hr ?_; (case hd => rfl); (case hg => rfl); (case hr => first | (go_simp; done) | (go_simp; rfl)); intro g2 hg w_2 hk hb; have G2 := qM (show w.heap.size ≤ g2 by rw [hg]; exact Nat.le_refl _); have B2 := qM hk; have HB := qM (hb); clear hk hb hg; skip) | ((with_reducible refine gate_dst (N := 3) rfl ?_); (try (refine gate_guard (by rfl) ?_; dsimp only)); refine box_event ?hg (N := 3) ?hd (cs := #[.int .i64 c.f0, .int .i64 c.f1, .int .i64 c.f2, .string c.f3, .int .i64 c.f4, .int .i64 c.f5, .int .i64 c.f6, .int .u32 c.f7, .int .i64 c.f8, .int .i64 c.f9, .int .i64 c.f10, .slice A3 c.f11.length c3]) (t := 42) ?hr ?_; (case hd => rfl); (case hg => rfl); (case hr => first | (go_simp; done) | (go_simp; rfl)); intro g3 hg w_3 hk hb; have N23 := n1 B2 hg; have G3 := qM (show w.heap.size ≤ g3 by rw [hg]; exact HB.out.size); replace B2 := bb B2 hb; have B3 := qM hk; have HB := qM (below_step HB.out hb); clear hk hb hg; have ne23 := N23.out; have ne32 := Ne.symm N23.out; skip) | ((with_reducible refine gate_dst (N := 4) rfl ?_); (try (refine gate_guard (by rfl) ?_; dsimp only)); refine box_event ?hg (N := 4) ?hd (cs := #[.slice none 0 0, .slice none 0 0, .slice none 0 0]) (t := 26) ?hr ?_; (case hd => rfl); (case hg => rfl); (case hr => first | (go_simp; done) | (go_simp; rfl)); intro g4 hg w_4 hk hb; have N24 := n1 B2 hg; have N34 := n1 B3 hg; have G4 := qM (show w.heap.size ≤ g4 by rw [hg]; exact HB.out.size); replace B2 := bb B2 hb; replace B3 := bb B3 hb; have B4 := qM hk; have HB := qM (below_step HB.out hb); clear hk hb hg; have ne24 := N24.out; have ne42 := Ne.symm N24.out; have ne34 := N34.out; have ne43 := Ne.symm N34.out; skip) | ((with_reducible refine gate_dst (N := 5) rfl ?_); (try (refine gate_guard (by rfl) ?_; dsimp only)); refine box_event ?hg (N := 5) ?hd (cs := #[.int .i64 0, .int .i64 0, .int .i64 0, .int .i64 0, .int .u32 0, .bool false]) (t := 37) ?hr ?_; (case hd => rfl); (case hg => rfl); (case hr => first | (go_simp; done) | (go_simp; rfl)); intro g5 hg w_5 hk hb; have N25 := n1 B2 hg; have N35 := n1 B3 hg; have N45 := n1 B4 hg; have G5 := qM (show w.heap.size ≤ g5 by rw [hg]; exact HB.out.size); replace B2 := bb B2 hb; replace B3 := bb B3 hb; replace B4 := bb B4 hb; have B5 := qM hk; have HB := qM (below_step HB.out hb); clear hk hb hg; have ne25 := N25.out; have ne52 := Ne.symm N25.out; have ne35 := N35.out; have ne53 := Ne.symm N35.out; have ne45 := N45.out; have ne54 := Ne.symm N45.out; obtain ⟨z20, z21, z22, f20, f21, f22⟩ := cells3 B2.out; obtain ⟨z30, z31, z32, z33, z34, z35, z36, z37, z38, z39, z310, z311⟩ := cells12z B3.out; obtain ⟨z40, z41, z42, f40, f41, f42⟩ := cells3 B4.out; obtain ⟨z50, z51, z52, z53, z54, z55, f50, f51, f52, f53, f54, f55⟩ := cells6 B5.out) | (go_at_call 18; refine (HMAY.out (.slice A3 c.f11.length c3) _ (HS3.out.below HB.out).sl).mono ?_; rintro e w1 ⟨rfl, hb⟩; replace B2 := bb B2 hb; replace B3 := bb B3 hb; replace B4 := bb B4 hb; replace B5 := bb B5 hb; replace HB := qM (below_step HB.out hb); clear z20 z21 z22 f20 f21 f22 z30 z31 z32 z33 z34 z35 z36 z37 z38 z39 z310 z311 z40 z41 z42 f40 f41 f42 z50 z51 z52 z53 z54 z55 f50 f51 f52 f53 f54 f55; clear hb; obtain ⟨z20, z21, z22, f20, f21, f22⟩ := cells3 B2.out; obtain ⟨z30, z31, z32, z33, z34, z35, z36, z37, z38, z39, z310, z311⟩ := cells12z B3.out; obtain ⟨z40, z41, z42, f40, f41, f42⟩ := cells3 B4.out; obtain ⟨z50, z51, z52, z53, z54, z55, f50, f51, f52, f53, f54, f55⟩ := cells6 B5.out))
  refine wp_region_any (by kernel_rfl) ?_
  change wpAny _ _ _ _ _ _ _ (World.drew _)
  refine wpAny_ready (rs := [0, 1]) (by kernel_rfl) (by simp) ?_
  refine AllReady.cons rfl (fun K hK => ?_) (AllReady.cons rfl (fun K hK => ?_) AllReady.nil)
  · go_simp
    refine hK _ _ ?_
    clear hK K
    refine wpAny_ready (rs := [1]) (by kernel_rfl) (by simp) ?_
    refine AllReady.cons rfl (fun K hK => ?_) AllReady.nil
    go_simp
    refine (no_reads _ _).mono ?_
    rintro e w9 ⟨rfl, hb⟩
    replace B2 := bd B2 hb; replace B4 := bd B4 hb; replace B5 := bd B5 hb; replace HB := qM (below_step (below_drew1 HB.out) hb); clear z20 z21 z22 f20 f21 f22 z30 z31 z32 z33 z34 z35 z36 z37 z38 z39 z310 z311 z40 z41 z42 f40 f41 f42 z50 z51 z52 z53 z54 z55 f50 f51 f52 f53 f54 f55; clear hb; obtain ⟨z20, z21, z22, f20, f21, f22⟩ := cells3 B2.out; obtain ⟨z40, z41, z42, f40, f41, f42⟩ := cells3 B4.out; obtain ⟨z50, z51, z52, z53, z54, z55, f50, f51, f52, f53, f54, f55⟩ := cells6 B5.out
    dsimp only
    refine hK _ _ ?_
    clear hK K
    refine wpAny_ready (rs := [2]) (by kernel_rfl) (by simp) ?_
    refine AllReady.cons rfl (fun K hK => ?_) AllReady.nil
    go_simp
    refine hK _ _ ?_
    clear hK K
    refine wpAny_ready (rs := [3]) (by kernel_rfl) (by simp) ?_
    refine AllReady.cons rfl (fun K hK => ?_) AllReady.nil
    go_simp
    refine hK _ _ ?_
    clear hK K
    refine wpAny_done (by kernel_rfl) ?_ _
    repeat go_step
    exact fin_nod rfl HM B4 B5 N45 HB G4 G5 HS0 HS1 HS2 HG rfl rfl rfl
  · go_simp
    refine (no_reads _ _).mono ?_
    rintro e w9 ⟨rfl, hb⟩
    replace B2 := bd B2 hb; replace B4 := bd B4 hb; replace B5 := bd B5 hb; replace HB := qM (below_step (below_drew1 HB.out) hb); clear z20 z21 z22 f20 f21 f22 z30 z31 z32 z33 z34 z35 z36 z37 z38 z39 z310 z311 z40 z41 z42 f40 f41 f42 z50 z51 z52 z53 z54 z55 f50 f51 f52 f53 f54 f55; clear hb; obtain ⟨z20, z21, z22, f20, f21, f22⟩ := cells3 B2.out; obtain ⟨z40, z41, z42, f40, f41, f42⟩ := cells3 B4.out; obtain ⟨z50, z51, z52, z53, z54, z55, f50, f51, f52, f53, f54, f55⟩ := cells6 B5.out
    dsimp only
    refine hK _ _ ?_
    clear hK K
    refine wpAny_ready (rs := [0]) (by kernel_rfl) (by simp) ?_
    refine AllReady.cons rfl (fun K hK => ?_) AllReady.nil
    go_simp
    refine hK _ _ ?_
    clear hK K
    refine wpAny_ready (rs := [2]) (by kernel_rfl) (by simp) ?_
    refine AllReady.cons rfl (fun K hK => ?_) AllReady.nil
    go_simp
    refine hK _ _ ?_
    clear hK K
    refine wpAny_ready (rs := [3]) (by kernel_rfl) (by simp) ?_
    refine AllReady.cons rfl (fun K hK => ?_) AllReady.nil
    go_simp
    refine hK _ _ ?_
    clear hK K
    refine wpAny_done (by kernel_rfl) ?_ _
    repeat go_step
    exact fin_nod rfl HM B4 B5 N45 HB G4 G5 HS0 HS1 HS2 HG rfl rfl rfl

set_option maxHeartbeats 40000000 in
set_option maxRecDepth 100000 in
theorem do_b (Pq : Nat → Prop) (v0 v1 v2 v : Value) (l0 : List Vol) (l1 : List Nam) (l2 : List Ses) (c : Cmd) (w : World) (hPq : ∀ q, w.heap.size ≤ q → Pq q) (h0 : SlP Pq k45 w v0 l0) (h1 : SlP Pq k92 w v1 l1) (h2 : SlP Pq k64 w v2 l2) (h3 : SlP Pq k75 w v c.f11) (n m : Nat) (hg : Good n l0 l1) (hn : n ≤ 1000) (hm : l2.length ≤ m) (hm2 : m ≤ 1000) (rm : Bool) (hmay : ∀ (v : Value) (w : World), Sl k75 w v c.f11 → Calls Try.prog 18 #[cmdV c v] w fun e w' => e = .returned (.bool rm) ∧ Below w.heap.size w w') (cm : rm = true) (h10 : rm = true → 0 ≤ c.f10) (at_ : Int) (hla : LasC l0 l1 l2 c.f1 at_) (cc : ¬c.f1 > 0) : Calls Try.prog 13 #[.agg #[v0, v1, v2], cmdV c v] w (DoBack Pq (n + 1) (m + 1) w) := by
  obtain ⟨A0, c0, rfl, hc0, hr0⟩ := h0
  obtain ⟨A1, c1, rfl, hc1, hr1⟩ := h1
  obtain ⟨A2, c2, rfl, hc2, hr2⟩ := h2
  obtain ⟨A3, c3, rfl, hc3, hr3⟩ := h3
  have HS0 := qM (show SlP Pq k45 w (.slice A0 l0.length c0) l0 from ⟨A0, c0, rfl, hc0, hr0⟩)
  have HS1 := qM (show SlP Pq k92 w (.slice A1 l1.length c1) l1 from ⟨A1, c1, rfl, hc1, hr1⟩)
  have HS2 := qM (show SlP Pq k64 w (.slice A2 l2.length c2) l2 from ⟨A2, c2, rfl, hc2, hr2⟩)
  have HS3 := qM (show SlP Pq k75 w (.slice A3 c.f11.length c3) c.f11 from ⟨A3, c3, rfl, hc3, hr3⟩)
  have HR0 := qM hr0
  have HR1 := qM (Kd.F_now hr1)
  have HR2 := qM (Kd.F_now hr2)
  have HR3 := qM (Kd.F_now hr3)
  have HG := qM hg
  have HPQ := qM hPq
  clear hc0 hr0 hc1 hr1 hc2 hr2 hc3 hr3 hg hPq
  unfold cmdV
  have HN := qM hn
  have HM := qM hm
  have HM2 := qM hm2
  clear hn hm hm2
  have HMAY := qM hmay
  clear hmay
  have H10 := qM (h10 cm)
  clear h10
  subst cm
  have HLA := qM hla
  clear hla
  have d1 : decide (c.f1 > 0) = false := decide_eq_false cc
  go_enter Try.func13, Try.ntmps13
  go_wp2_with (first | ((with_reducible refine gate_dst (N := 2) rfl ?_); (try (refine gate_guard (by rfl) ?_; dsimp only)); refine box_event ?hg (N := 2) ?hd (cs := #[.slice A0 l0.length c0, .slice A1 l1.length c1, .slice A2 l2.length c2]) (t := 26) ?hr ?_; (case hd => rfl); (case hg => rfl); (case hr => first | (go_simp; done) | (go_simp; rfl)); intro g2 hg w_2 hk hb; have G2 := qM (show w.heap.size ≤ g2 by rw [hg]; exact Nat.le_refl _); have B2 := qM hk; have HB := qM (hb); clear hk hb hg; skip) | ((with_reducible refine gate_dst (N := 3) rfl ?_); (try (refine gate_guard (by rfl) ?_; dsimp only)); refine box_event ?hg (N := 3) ?hd (cs := #[.int .i64 c.f0, .int .i64 c.f1, .int .i64 c.f2, .string c.f3, .int .i64 c.f4, .int .i64 c.f5, .int .i64 c.f6, .int .u32 c.f7, .int .i64 c.f8, .int .i64 c.f9, .int .i64 c.f10, .slice A3 c.f11.length c3]) (t := 42) ?hr ?_; (case hd => rfl); (case hg => rfl); (case hr => first | (go_simp; done) | (go_simp; rfl)); intro g3 hg w_3 hk hb; have N23 := n1 B2 hg; have G3 := qM (show w.heap.size ≤ g3 by rw [hg]; exact HB.out.size); replace B2 := bb B2 hb; have B3 := qM hk; have HB := qM (below_step HB.out hb); clear hk hb hg; have ne23 := N23.out; have ne32 := Ne.symm N23.out; skip) | ((with_reducible refine gate_dst (N := 4) rfl ?_); (try (refine gate_guard (by rfl) ?_; dsimp only)); refine box_event ?hg (N := 4) ?hd (cs := #[.slice none 0 0, .slice none 0 0, .slice none 0 0]) (t := 26) ?hr ?_; (case hd => rfl); (case hg => rfl); (case hr => first | (go_simp; done) | (go_simp; rfl)); intro g4 hg w_4 hk hb; have N24 := n1 B2 hg; have N34 := n1 B3 hg; have G4 := qM (show w.heap.size ≤ g4 by rw [hg]; exact HB.out.size); replace B2 := bb B2 hb; replace B3 := bb B3 hb; have B4 := qM hk; have HB := qM (below_step HB.out hb); clear hk hb hg; have ne24 := N24.out; have ne42 := Ne.symm N24.out; have ne34 := N34.out; have ne43 := Ne.symm N34.out; skip) | ((with_reducible refine gate_dst (N := 5) rfl ?_); (try (refine gate_guard (by rfl) ?_; dsimp only)); refine box_event ?hg (N := 5) ?hd (cs := #[.int .i64 0, .int .i64 0, .int .i64 0, .int .i64 0, .int .u32 0, .bool false]) (t := 37) ?hr ?_; (case hd => rfl); (case hg => rfl); (case hr => first | (go_simp; done) | (go_simp; rfl)); intro g5 hg w_5 hk hb; have N25 := n1 B2 hg; have N35 := n1 B3 hg; have N45 := n1 B4 hg; have G5 := qM (show w.heap.size ≤ g5 by rw [hg]; exact HB.out.size); replace B2 := bb B2 hb; replace B3 := bb B3 hb; replace B4 := bb B4 hb; have B5 := qM hk; have HB := qM (below_step HB.out hb); clear hk hb hg; have ne25 := N25.out; have ne52 := Ne.symm N25.out; have ne35 := N35.out; have ne53 := Ne.symm N35.out; have ne45 := N45.out; have ne54 := Ne.symm N45.out; obtain ⟨z20, z21, z22, f20, f21, f22⟩ := cells3 B2.out; obtain ⟨z30, z31, z32, z33, z34, z35, z36, z37, z38, z39, z310, z311⟩ := cells12z B3.out; obtain ⟨z40, z41, z42, f40, f41, f42⟩ := cells3 B4.out; obtain ⟨z50, z51, z52, z53, z54, z55, f50, f51, f52, f53, f54, f55⟩ := cells6 B5.out) | (go_at_call 18; refine (HMAY.out (.slice A3 c.f11.length c3) _ (HS3.out.below HB.out).sl).mono ?_; rintro e w1 ⟨rfl, hb⟩; replace B2 := bb B2 hb; replace B3 := bb B3 hb; replace B4 := bb B4 hb; replace B5 := bb B5 hb; replace HB := qM (below_step HB.out hb); clear z20 z21 z22 f20 f21 f22 z30 z31 z32 z33 z34 z35 z36 z37 z38 z39 z310 z311 z40 z41 z42 f40 f41 f42 z50 z51 z52 z53 z54 z55 f50 f51 f52 f53 f54 f55; clear hb; obtain ⟨z20, z21, z22, f20, f21, f22⟩ := cells3 B2.out; obtain ⟨z30, z31, z32, z33, z34, z35, z36, z37, z38, z39, z310, z311⟩ := cells12z B3.out; obtain ⟨z40, z41, z42, f40, f41, f42⟩ := cells3 B4.out; obtain ⟨z50, z51, z52, z53, z54, z55, f50, f51, f52, f53, f54, f55⟩ := cells6 B5.out) | (go_at_call 20; refine (HLA.out _ _ _ _ (HS0.out.below HB.out).sl (HS1.out.below HB.out).sl (HS2.out.below HB.out).sl).mono ?_; rintro e w1 ⟨rfl, hb⟩; replace B2 := bb B2 hb; replace B3 := bb B3 hb; replace B4 := bb B4 hb; replace B5 := bb B5 hb; replace HB := qM (below_step HB.out hb); clear z20 z21 z22 f20 f21 f22 z30 z31 z32 z33 z34 z35 z36 z37 z38 z39 z310 z311 z40 z41 z42 f40 f41 f42 z50 z51 z52 z53 z54 z55 f50 f51 f52 f53 f54 f55; clear hb; obtain ⟨z20, z21, z22, f20, f21, f22⟩ := cells3 B2.out; obtain ⟨z30, z31, z32, z33, z34, z35, z36, z37, z38, z39, z310, z311⟩ := cells12z B3.out; obtain ⟨z40, z41, z42, f40, f41, f42⟩ := cells3 B4.out; obtain ⟨z50, z51, z52, z53, z54, z55, f50, f51, f52, f53, f54, f55⟩ := cells6 B5.out))
  go_quiet (fail)
  replace B2 := qM (show (w1.drewN nq).heap[g2]? = _ from B2.out)
  replace B3 := qM (show (w1.drewN nq).heap[g3]? = _ from B3.out)
  replace B4 := qM (show (w1.drewN nq).heap[g4]? = _ from B4.out)
  replace B5 := qM (show (w1.drewN nq).heap[g5]? = _ from B5.out)
  replace HB := qM (pw_below_drewN HB.out nq)
  generalize w1.drewN nq = wq at HB B2 B3 B4 B5 ⊢
  clear z20 z21 z22 f20 f21 f22 z30 z31 z32 z33 z34 z35 z36 z37 z38 z39 z310 z311 z40 z41 z42 f40 f41 f42 z50 z51 z52 z53 z54 z55 f50 f51 f52 f53 f54 f55
  obtain ⟨z20, z21, z22, f20, f21, f22⟩ := cells3 B2.out; obtain ⟨z30, z31, z32, z33, z34, z35, z36, z37, z38, z39, z310, z311⟩ := cells12z B3.out; obtain ⟨z40, z41, z42, f40, f41, f42⟩ := cells3 B4.out; obtain ⟨z50, z51, z52, z53, z54, z55, f50, f51, f52, f53, f54, f55⟩ := cells6 B5.out
  go_wp2
  go_quiet (fail)
  replace B2 := qM (show (wq.drewN nq).heap[g2]? = _ from B2.out)
  replace B3 := qM (show (wq.drewN nq).heap[g3]? = _ from B3.out)
  replace B4 := qM (show (wq.drewN nq).heap[g4]? = _ from B4.out)
  replace B5 := qM (show (wq.drewN nq).heap[g5]? = _ from B5.out)
  replace HB := qM (pw_below_drewN HB.out nq)
  generalize wq.drewN nq = wr at HB B2 B3 B4 B5 ⊢
  clear z20 z21 z22 f20 f21 f22 z30 z31 z32 z33 z34 z35 z36 z37 z38 z39 z310 z311 z40 z41 z42 f40 f41 f42 z50 z51 z52 z53 z54 z55 f50 f51 f52 f53 f54 f55
  obtain ⟨z20, z21, z22, f20, f21, f22⟩ := cells3 B2.out; obtain ⟨z30, z31, z32, z33, z34, z35, z36, z37, z38, z39, z310, z311⟩ := cells12z B3.out; obtain ⟨z40, z41, z42, f40, f41, f42⟩ := cells3 B4.out; obtain ⟨z50, z51, z52, z53, z54, z55, f50, f51, f52, f53, f54, f55⟩ := cells6 B5.out
  go_wp2_with (first | (go_at_call 21; obtain ⟨S1, hS1⟩ : ∃ S, wr.heap.size = S := ⟨_, rfl⟩; have Z := qM (show S1 ≤ wr.heap.size from Nat.le_of_eq hS1.symm); have M2 := qM (show g2 < S1 from hS1 ▸ blk_lt B2.out); have M3 := qM (show g3 < S1 from hS1 ▸ blk_lt B3.out); have M4 := qM (show g4 < S1 from hS1 ▸ blk_lt B4.out); have M5 := qM (show g5 < S1 from hS1 ▸ blk_lt B5.out); clear hS1; refine (does_reads (fun q => Pq q ∧ (q < w.heap.size ∨ S1 ≤ q)) _ _ _ (.slice A3 c.f11.length c3) l0 l1 l2 c _ (fun q hq => ⟨HPQ.out q (Nat.le_trans HB.out.size hq), .inr (Nat.le_trans Z.out hq)⟩) ((SF.of_slP HS0.out).below HB.out) ((SF.of_slP HS1.out).below HB.out) ((SF.of_slP HS2.out).below HB.out) ((SF.of_slP HS3.out).below HB.out) n HG.out HN.out H10.out).mono ?_; rintro e w1 ⟨u0, u1, u2, L0, L1, r, rfl, hu0, hu1, hu2, hG2, hb⟩; unfold repV; obtain ⟨D0, d0, rfl⟩ := Kd.V_slice hu0; obtain ⟨D1, d1_, rfl⟩ := Kd.V_slice hu1; obtain ⟨D2, d2_, rfl⟩ := Kd.V_slice hu2; have HU0 := qM hu0; have HU1 := qM hu1; have HU2 := qM hu2; have HG2 := qM hG2; clear hu0 hu1 hu2 hG2; replace B2 := bb B2 hb; replace B3 := bb B3 hb; replace B4 := bb B4 hb; replace B5 := bb B5 hb; replace HB := qM (below_step HB.out hb); clear z20 z21 z22 f20 f21 f22 z30 z31 z32 z33 z34 z35 z36 z37 z38 z39 z310 z311 z40 z41 z42 f40 f41 f42 z50 z51 z52 z53 z54 z55 f50 f51 f52 f53 f54 f55; clear hb; obtain ⟨z20, z21, z22, f20, f21, f22⟩ := cells3 B2.out; obtain ⟨z30, z31, z32, z33, z34, z35, z36, z37, z38, z39, z310, z311⟩ := cells12z B3.out; obtain ⟨z40, z41, z42, f40, f41, f42⟩ := cells3 B4.out; obtain ⟨z50, z51, z52, z53, z54, z55, f50, f51, f52, f53, f54, f55⟩ := cells6 B5.out) | ((with_reducible refine gate_dst (N := 8) rfl ?_); (try (refine gate_guard (by rfl) ?_; dsimp only)); refine box_event ?hg (N := 8) ?hd (cs := #[.int .i64 0, .int .i64 0, .int .i64 0, .int .i64 0, .int .u32 0, .bool false]) (t := 37) ?hr ?_; (case hd => rfl); (case hg => rfl); (case hr => first | (go_simp; done) | (go_simp; rfl)); intro g8 hg w_8 hk hb; clear z20 z21 z22 f20 f21 f22 z30 z31 z32 z33 z34 z35 z36 z37 z38 z39 z310 z311 z40 z41 z42 f40 f41 f42 z50 z51 z52 z53 z54 z55 f50 f51 f52 f53 f54 f55; have N28 := n1 B2 hg; have N38 := n1 B3 hg; have N48 := n1 B4 hg; have N58 := n1 B5 hg; have G8 := qM (show w.heap.size ≤ g8 by rw [hg]; exact HB.out.size); replace B2 := bb B2 hb; replace B3 := bb B3 hb; replace B4 := bb B4 hb; replace B5 := bb B5 hb; have B8 := qM hk; have HB := qM (below_step HB.out hb); obtain ⟨BW, hBW⟩ : ∃ b, w_8.heap.size = b := ⟨_, rfl⟩; have HWB := qM hBW; clear hBW; have hsz := hb.size; have hwb := HWB.out; replace HU0 := qM (show SlP (fun q => Pq q ∧ q ≠ g2 ∧ q ≠ g4 ∧ q ≠ g5 ∧ q ≠ g8 ∧ q < BW) _ _ _ _ from (HU0.out.old (fun q hq hl => ⟨hq.1, by have := hq.2; have := G2.out; have := M2.out; omega, by have := hq.2; have := G4.out; have := M4.out; omega, by have := hq.2; have := G5.out; have := M5.out; omega, by omega, by omega⟩)).below hb); replace HU1 := qM (show SlP (fun q => Pq q ∧ q ≠ g2 ∧ q ≠ g4 ∧ q ≠ g5 ∧ q ≠ g8 ∧ q < BW) _ _ _ _ from (HU1.out.old (fun q hq hl => ⟨hq.1, by have := hq.2; have := G2.out; have := M2.out; omega, by have := hq.2; have := G4.out; have := M4.out; omega, by have := hq.2; have := G5.out; have := M5.out; omega, by omega, by omega⟩)).below hb); replace HU2 := qM (show SlP (fun q => Pq q ∧ q ≠ g2 ∧ q ≠ g4 ∧ q ≠ g5 ∧ q ≠ g8 ∧ q < BW) _ _ _ _ from (HU2.out.old (fun q hq hl => ⟨hq.1, by have := hq.2; have := G2.out; have := M2.out; omega, by have := hq.2; have := G4.out; have := M4.out; omega, by have := hq.2; have := G5.out; have := M5.out; omega, by omega, by omega⟩)).below hb); clear hsz hwb hk hb hg; have ne28 := N28.out; have ne82 := Ne.symm N28.out; have ne38 := N38.out; have ne83 := Ne.symm N38.out; have ne48 := N48.out; have ne84 := Ne.symm N48.out; have ne58 := N58.out; have ne85 := Ne.symm N58.out; obtain ⟨z20, z21, z22, f20, f21, f22⟩ := cells3 B2.out; obtain ⟨z30, z31, z32, z33, z34, z35, z36, z37, z38, z39, z310, z311⟩ := cells12z B3.out; obtain ⟨z40, z41, z42, f40, f41, f42⟩ := cells3 B4.out; obtain ⟨z50, z51, z52, z53, z54, z55, f50, f51, f52, f53, f54, f55⟩ := cells6 B5.out; obtain ⟨z80, z81, z82, z83, z84, z85, f80, f81, f82, f83, f84, f85⟩ := cells6 B8.out) | ((with_reducible refine gate_dst (N := 71) rfl ?_); generalize hst : (((((((((w_8.setCell ⟨g2, 0, none⟩ (.slice D0 L0.length d0)).setCell ⟨g2, 1, none⟩ (.slice D1 L1.length d1_)).setCell ⟨g2, 2, none⟩ (.slice D2 l2.length d2_)).setCell ⟨g8, 0, none⟩ (.int .i64 (r.f0))).setCell ⟨g8, 1, none⟩ (.int .i64 (r.f1))).setCell ⟨g8, 2, none⟩ (.int .i64 (r.f2))).setCell ⟨g8, 3, none⟩ (.int .i64 (r.f3))).setCell ⟨g8, 4, none⟩ (.int .u32 (r.f4))).setCell ⟨g8, 5, none⟩ (.bool r.f5)) = wf; replace B2 := qM (show wf.heap[g2]? = some (.cells #[.slice D0 L0.length d0, .slice D1 L1.length d1_, .slice D2 l2.length d2_] 26 (0, 0)) from hst ▸ (blk_far (blk_far (blk_far (blk_far (blk_far (blk_far (blk_put (blk_put (blk_put B2.out 0 (.slice D0 L0.length d0) rfl) 1 (.slice D1 L1.length d1_) rfl) 2 (.slice D2 l2.length d2_) rfl) N28.out (.int .i64 (r.f0))) N28.out (.int .i64 (r.f1))) N28.out (.int .i64 (r.f2))) N28.out (.int .i64 (r.f3))) N28.out (.int .u32 (r.f4))) N28.out (.bool r.f5))); replace B3 := qM (show wf.heap[g3]? = _ from hst ▸ (blk_far (blk_far (blk_far (blk_far (blk_far (blk_far (blk_far (blk_far (blk_far B3.out (Ne.symm N23.out) (.slice D0 L0.length d0)) (Ne.symm N23.out) (.slice D1 L1.length d1_)) (Ne.symm N23.out) (.slice D2 l2.length d2_)) N38.out (.int .i64 (r.f0))) N38.out (.int .i64 (r.f1))) N38.out (.int .i64 (r.f2))) N38.out (.int .i64 (r.f3))) N38.out (.int .u32 (r.f4))) N38.out (.bool r.f5))); replace B4 := qM (show wf.heap[g4]? = _ from hst ▸ (blk_far (blk_far (blk_far (blk_far (blk_far (blk_far (blk_far (blk_far (blk_far B4.out (Ne.symm N24.out) (.slice D0 L0.length d0)) (Ne.symm N24.out) (.slice D1 L1.length d1_)) (Ne.symm N24.out) (.slice D2 l2.length d2_)) N48.out (.int .i64 (r.f0))) N48.out (.int .i64 (r.f1))) N48.out (.int .i64 (r.f2))) N48.out (.int .i64 (r.f3))) N48.out (.int .u32 (r.f4))) N48.out (.bool r.f5))); replace B5 := qM (show wf.heap[g5]? = _ from hst ▸ (blk_far (blk_far (blk_far (blk_far (blk_far (blk_far (blk_far (blk_far (blk_far B5.out (Ne.symm N25.out) (.slice D0 L0.length d0)) (Ne.symm N25.out) (.slice D1 L1.length d1_)) (Ne.symm N25.out) (.slice D2 l2.length d2_)) N58.out (.int .i64 (r.f0))) N58.out (.int .i64 (r.f1))) N58.out (.int .i64 (r.f2))) N58.out (.int .i64 (r.f3))) N58.out (.int .u32 (r.f4))) N58.out (.bool r.f5))); replace B8 := qM (show wf.heap[g8]? = some (.cells #[.int .i64 (r.f0), .int .i64 (r.f1), .int .i64 (r.f2), .int .i64 (r.f3), .int .u32 (r.f4), .bool r.f5] 37 (0, 0)) from hst ▸ (blk_put (blk_put (blk_put (blk_put (blk_put (blk_put (blk_far (blk_far (blk_far B8.out (Ne.symm N28.out) (.slice D0 L0.length d0)) (Ne.symm N28.out) (.slice D1 L1.length d1_)) (Ne.symm N28.out) (.slice D2 l2.length d2_)) 0 (.int .i64 (r.f0)) rfl) 1 (.int .i64 (r.f1)) rfl) 2 (.int .i64 (r.f2)) rfl) 3 (.int .i64 (r.f3)) rfl) 4 (.int .u32 (r.f4)) rfl) 5 (.bool r.f5) rfl)); replace HB := qM (show Below w.heap.size w wf from hst ▸ (((((((((HB.out.setCell (p := ⟨g2, 0, none⟩) G2.out (.slice D0 L0.length d0)).setCell (p := ⟨g2, 1, none⟩) G2.out (.slice D1 L1.length d1_)).setCell (p := ⟨g2, 2, none⟩) G2.out (.slice D2 l2.length d2_)).setCell (p := ⟨g8, 0, none⟩) G8.out (.int .i64 (r.f0))).setCell (p := ⟨g8, 1, none⟩) G8.out (.int .i64 (r.f1))).setCell (p := ⟨g8, 2, none⟩) G8.out (.int .i64 (r.f2))).setCell (p := ⟨g8, 3, none⟩) G8.out (.int .i64 (r.f3))).setCell (p := ⟨g8, 4, none⟩) G8.out (.int .u32 (r.f4))).setCell (p := ⟨g8, 5, none⟩) G8.out (.bool r.f5))); replace HU0 := qM (show SlP (fun q => Pq q ∧ q ≠ g2 ∧ q ≠ g4 ∧ q ≠ g5 ∧ q ≠ g8 ∧ q < BW) k45 wf (.slice D0 L0.length d0) L0 from hst ▸ (SlP.far (p := ⟨g8, 5, none⟩) (SlP.far (p := ⟨g8, 4, none⟩) (SlP.far (p := ⟨g8, 3, none⟩) (SlP.far (p := ⟨g8, 2, none⟩) (SlP.far (p := ⟨g8, 1, none⟩) (SlP.far (p := ⟨g8, 0, none⟩) (SlP.far (p := ⟨g2, 2, none⟩) (SlP.far (p := ⟨g2, 1, none⟩) (SlP.far (p := ⟨g2, 0, none⟩) HU0.out (fun q hq => hq.2.1) (.slice D0 L0.length d0)) (fun q hq => hq.2.1) (.slice D1 L1.length d1_)) (fun q hq => hq.2.1) (.slice D2 l2.length d2_)) (fun q hq => hq.2.2.2.2.1) (.int .i64 (r.f0))) (fun q hq => hq.2.2.2.2.1) (.int .i64 (r.f1))) (fun q hq => hq.2.2.2.2.1) (.int .i64 (r.f2))) (fun q hq => hq.2.2.2.2.1) (.int .i64 (r.f3))) (fun q hq => hq.2.2.2.2.1) (.int .u32 (r.f4))) (fun q hq => hq.2.2.2.2.1) (.bool r.f5))); replace HU1 := qM (show SlP (fun q => Pq q ∧ q ≠ g2 ∧ q ≠ g4 ∧ q ≠ g5 ∧ q ≠ g8 ∧ q < BW) k92 wf (.slice D1 L1.length d1_) L1 from hst ▸ (SlP.far (p := ⟨g8, 5, none⟩) (SlP.far (p := ⟨g8, 4, none⟩) (SlP.far (p := ⟨g8, 3, none⟩) (SlP.far (p := ⟨g8, 2, none⟩) (SlP.far (p := ⟨g8, 1, none⟩) (SlP.far (p := ⟨g8, 0, none⟩) (SlP.far (p := ⟨g2, 2, none⟩) (SlP.far (p := ⟨g2, 1, none⟩) (SlP.far (p := ⟨g2, 0, none⟩) HU1.out (fun q hq => hq.2.1) (.slice D0 L0.length d0)) (fun q hq => hq.2.1) (.slice D1 L1.length d1_)) (fun q hq => hq.2.1) (.slice D2 l2.length d2_)) (fun q hq => hq.2.2.2.2.1) (.int .i64 (r.f0))) (fun q hq => hq.2.2.2.2.1) (.int .i64 (r.f1))) (fun q hq => hq.2.2.2.2.1) (.int .i64 (r.f2))) (fun q hq => hq.2.2.2.2.1) (.int .i64 (r.f3))) (fun q hq => hq.2.2.2.2.1) (.int .u32 (r.f4))) (fun q hq => hq.2.2.2.2.1) (.bool r.f5))); replace HU2 := qM (show SlP (fun q => Pq q ∧ q ≠ g2 ∧ q ≠ g4 ∧ q ≠ g5 ∧ q ≠ g8 ∧ q < BW) k64 wf (.slice D2 l2.length d2_) l2 from hst ▸ (SlP.far (p := ⟨g8, 5, none⟩) (SlP.far (p := ⟨g8, 4, none⟩) (SlP.far (p := ⟨g8, 3, none⟩) (SlP.far (p := ⟨g8, 2, none⟩) (SlP.far (p := ⟨g8, 1, none⟩) (SlP.far (p := ⟨g8, 0, none⟩) (SlP.far (p := ⟨g2, 2, none⟩) (SlP.far (p := ⟨g2, 1, none⟩) (SlP.far (p := ⟨g2, 0, none⟩) HU2.out (fun q hq => hq.2.1) (.slice D0 L0.length d0)) (fun q hq => hq.2.1) (.slice D1 L1.length d1_)) (fun q hq => hq.2.1) (.slice D2 l2.length d2_)) (fun q hq => hq.2.2.2.2.1) (.int .i64 (r.f0))) (fun q hq => hq.2.2.2.2.1) (.int .i64 (r.f1))) (fun q hq => hq.2.2.2.2.1) (.int .i64 (r.f2))) (fun q hq => hq.2.2.2.2.1) (.int .i64 (r.f3))) (fun q hq => hq.2.2.2.2.1) (.int .u32 (r.f4))) (fun q hq => hq.2.2.2.2.1) (.bool r.f5))); have hz : wf.heap.size = w_8.heap.size := hst ▸ (Eq.trans (World.size_set _ ⟨g8, 5, none⟩ (.bool r.f5)) (Eq.trans (World.size_set _ ⟨g8, 4, none⟩ (.int .u32 (r.f4))) (Eq.trans (World.size_set _ ⟨g8, 3, none⟩ (.int .i64 (r.f3))) (Eq.trans (World.size_set _ ⟨g8, 2, none⟩ (.int .i64 (r.f2))) (Eq.trans (World.size_set _ ⟨g8, 1, none⟩ (.int .i64 (r.f1))) (Eq.trans (World.size_set _ ⟨g8, 0, none⟩ (.int .i64 (r.f0))) (Eq.trans (World.size_set _ ⟨g2, 2, none⟩ (.slice D2 l2.length d2_)) (Eq.trans (World.size_set _ ⟨g2, 1, none⟩ (.slice D1 L1.length d1_)) (Eq.trans (World.size_set _ ⟨g2, 0, none⟩ (.slice D0 L0.length d0)) (rfl : w_8.heap.size = _)))))))))); replace HWB := qM (hz.trans HWB.out); clear hz; have LT2 := qM (show g2 < BW from HWB.out ▸ blk_lt B2.out); have LT3 := qM (show g3 < BW from HWB.out ▸ blk_lt B3.out); have LT4 := qM (show g4 < BW from HWB.out ▸ blk_lt B4.out); have LT5 := qM (show g5 < BW from HWB.out ▸ blk_lt B5.out); have LT8 := qM (show g8 < BW from HWB.out ▸ blk_lt B8.out); clear hst; clear z20 z21 z22 f20 f21 f22 z30 z31 z32 z33 z34 z35 z36 z37 z38 z39 z310 z311 z40 z41 z42 f40 f41 f42 z50 z51 z52 z53 z54 z55 f50 f51 f52 f53 f54 f55 z80 z81 z82 z83 z84 z85 f80 f81 f82 f83 f84 f85; obtain ⟨z20, z21, z22, f20, f21, f22⟩ := cells3 B2.out; obtain ⟨z30, z31, z32, z33, z34, z35, z36, z37, z38, z39, z310, z311⟩ := cells12z B3.out; obtain ⟨z40, z41, z42, f40, f41, f42⟩ := cells3 B4.out; obtain ⟨z50, z51, z52, z53, z54, z55, f50, f51, f52, f53, f54, f55⟩ := cells6 B5.out; obtain ⟨z80, z81, z82, z83, z84, z85, f80, f81, f82, f83, f84, f85⟩ := cells6 B8.out))
  refine start_ (n := 4) (S := fun w' => w'.heap[g2]? = some (.cells #[.slice D0 L0.length d0, .slice D1 L1.length d1_, .slice D2 l2.length d2_] 26 (0, 0)) ∧ w'.heap[g8]? = some (.cells #[.int .i64 (r.f0), .int .i64 (r.f1), .int .i64 (r.f2), .int .i64 (r.f3), .int .u32 (r.f4), .bool r.f5] 37 (0, 0))) (ds := [3]) #[false, false, false, false] (by kernel_rfl) rfl rfl ⟨qD B2.out, qD B8.out⟩ (fun hHeld => ?_)
  generalize hw : wf.drew = w14 at hHeld ⊢
  replace B2 := qM (show w14.heap[g2]? = _ from hw ▸ qD B2.out)
  replace B3 := qM (show w14.heap[g3]? = _ from hw ▸ qD B3.out)
  replace B4 := qM (show w14.heap[g4]? = _ from hw ▸ qD B4.out)
  replace B5 := qM (show w14.heap[g5]? = _ from hw ▸ qD B5.out)
  replace B8 := qM (show w14.heap[g8]? = _ from hw ▸ qD B8.out)
  replace HB := qM (show Below w.heap.size w w14 from hw ▸ below_drew1 HB.out)
  replace HU0 := qM (hw ▸ (show SlP _ _ wf.drew _ _ from Kd.V_drew HU0.out))
  replace HU1 := qM (hw ▸ (show SlP _ _ wf.drew _ _ from Kd.V_drew HU1.out))
  replace HU2 := qM (hw ▸ (show SlP _ _ wf.drew _ _ from Kd.V_drew HU2.out))
  clear z20 z21 z22 f20 f21 f22 z30 z31 z32 z33 z34 z35 z36 z37 z38 z39 z310 z311 z40 z41 z42 f40 f41 f42 z50 z51 z52 z53 z54 z55 f50 f51 f52 f53 f54 f55 z80 z81 z82 z83 z84 z85 f80 f81 f82 f83 f84 f85
  clear hw
  refine take_ (i := 0) (N := some 98) (v := ?_) (a' := ?_) #[true, false, false, false] rfl rfl (by kernel_rfl) (fun _ _ _ h => h) (Or.inl ⟨by rfl, ?_⟩) hHeld ?_ ?_
  rotate_left
  · rintro w' ⟨b2, b8⟩; obtain ⟨z20, z21, z22, f20, f21, f22⟩ := cells3 b2; obtain ⟨z80, z81, z82, z83, z84, z85, f80, f81, f82, f83, f84, f85⟩ := cells6 b8; go_simp; with_reducible rfl
  rotate_left
  · simp only [Act.put, xA, xZ, xS, i64_w, i32_w]; rfl
  refine take_ (i := 1) (N := some 99) (v := ?_) (a' := ?_) #[true, true, false, false] rfl rfl (by kernel_rfl) (fun _ _ _ h => h) (Or.inl ⟨by rfl, ?_⟩) hHeld ?_ ?_
  rotate_left
  · rintro w' ⟨b2, b8⟩; obtain ⟨z20, z21, z22, f20, f21, f22⟩ := cells3 b2; obtain ⟨z80, z81, z82, z83, z84, z85, f80, f81, f82, f83, f84, f85⟩ := cells6 b8; go_simp; with_reducible rfl
  rotate_left
  · simp only [Act.put, xA, xZ, xS, i64_w, i32_w]; rfl
  obtain ⟨z20, z21, z22, f20, f21, f22⟩ := cells3 B2.out; obtain ⟨z30, z31, z32, z33, z34, z35, z36, z37, z38, z39, z310, z311⟩ := cells12z B3.out; obtain ⟨z40, z41, z42, f40, f41, f42⟩ := cells3 B4.out; obtain ⟨z50, z51, z52, z53, z54, z55, f50, f51, f52, f53, f54, f55⟩ := cells6 B5.out; obtain ⟨z80, z81, z82, z83, z84, z85, f80, f81, f82, f83, f84, f85⟩ := cells6 B8.out
  refine one_ (i := 2) (N := none) #[true, true, true, false] rfl rfl (by kernel_rfl) (by decide) (fun K hK => ?_)
  refine skip_ (w1 := ?_) (by rfl) rfl ?_ ?_
  rotate_left
  · go_simp; rfl
  refine hK.out _ _ ⟨(blk_far (blk_far (blk_far B2.out N24.out (.slice D0 L0.length d0)) N24.out (.slice D1 L1.length d1_)) N24.out (.slice D2 l2.length d2_)), (blk_far (blk_far (blk_far B8.out (Ne.symm N48.out) (.slice D0 L0.length d0)) (Ne.symm N48.out) (.slice D1 L1.length d1_)) (Ne.symm N48.out) (.slice D2 l2.length d2_))⟩ (fun _ => ?_)
  clear hK K
  refine last_ (i := 3) (N := none) #[true, true, true, true] rfl rfl (by kernel_rfl) (by decide) (fun K hK => ?_)
  refine skip_ (w1 := ?_) (by rfl) rfl ?_ ?_
  rotate_left
  · go_simp; rfl
  refine hK.out _ _ ?_
  clear hK K
  refine done_ (by kernel_rfl) ?_
  repeat go_step
  exact fin_cc rfl B4 B5 N45 HB G4 G5 rfl rfl rfl (fun hbf => ⟨_, _, _, L0, L1, l2, ⟨r.f0, r.f1, r.f2, r.f3, r.f4, r.f5⟩, rfl, HU0.out.outP (fun q hq => hq.1) (fun q hq => hq.2.2.1) (fun q hq => hq.2.2.2.1) _ _ _ _ _ _ _ _ _, HU1.out.outP (fun q hq => hq.1) (fun q hq => hq.2.2.1) (fun q hq => hq.2.2.2.1) _ _ _ _ _ _ _ _ _, HU2.out.outP (fun q hq => hq.1) (fun q hq => hq.2.2.1) (fun q hq => hq.2.2.2.1) _ _ _ _ _ _ _ _ _, Nat.le_succ_of_le HM.out, HG2.out, hbf⟩)


set_option maxHeartbeats 40000000 in
set_option maxRecDepth 100000 in
theorem do_c (Pq : Nat → Prop) (v0 v1 v2 v : Value) (l0 : List Vol) (l1 : List Nam) (l2 : List Ses) (c : Cmd) (w : World) (hPq : ∀ q, w.heap.size ≤ q → Pq q) (h0 : SlP Pq k45 w v0 l0) (h1 : SlP Pq k92 w v1 l1) (h2 : SlP Pq k64 w v2 l2) (h3 : SlP Pq k75 w v c.f11) (n m : Nat) (hg : Good n l0 l1) (hn : n ≤ 1000) (hm : l2.length ≤ m) (hm2 : m ≤ 1000) (rm : Bool) (hmay : ∀ (v : Value) (w : World), Sl k75 w v c.f11 → Calls Try.prog 18 #[cmdV c v] w fun e w' => e = .returned (.bool rm) ∧ Below w.heap.size w w') (cm : rm = true) (h10 : rm = true → 0 ≤ c.f10) (at_ : Int) (hla : LasC l0 l1 l2 c.f1 at_) (cc : c.f1 > 0) (ca : at_ < 0) : Calls Try.prog 13 #[.agg #[v0, v1, v2], cmdV c v] w (DoBack Pq (n + 1) (m + 1) w) := by
  obtain ⟨A0, c0, rfl, hc0, hr0⟩ := h0
  obtain ⟨A1, c1, rfl, hc1, hr1⟩ := h1
  obtain ⟨A2, c2, rfl, hc2, hr2⟩ := h2
  obtain ⟨A3, c3, rfl, hc3, hr3⟩ := h3
  have HS0 := qM (show SlP Pq k45 w (.slice A0 l0.length c0) l0 from ⟨A0, c0, rfl, hc0, hr0⟩)
  have HS1 := qM (show SlP Pq k92 w (.slice A1 l1.length c1) l1 from ⟨A1, c1, rfl, hc1, hr1⟩)
  have HS2 := qM (show SlP Pq k64 w (.slice A2 l2.length c2) l2 from ⟨A2, c2, rfl, hc2, hr2⟩)
  have HS3 := qM (show SlP Pq k75 w (.slice A3 c.f11.length c3) c.f11 from ⟨A3, c3, rfl, hc3, hr3⟩)
  have HR0 := qM hr0
  have HR1 := qM (Kd.F_now hr1)
  have HR2 := qM (Kd.F_now hr2)
  have HR3 := qM (Kd.F_now hr3)
  have HG := qM hg
  have HPQ := qM hPq
  clear hc0 hr0 hc1 hr1 hc2 hr2 hc3 hr3 hg hPq
  unfold cmdV
  have HN := qM hn
  have HM := qM hm
  have HM2 := qM hm2
  clear hn hm hm2
  have HMAY := qM hmay
  clear hmay
  have H10 := qM (h10 cm)
  clear h10
  subst cm
  have HLA := qM hla
  clear hla
  have d1 : decide (c.f1 > 0) = true := decide_eq_true cc
  have d2 : decide (at_ ≥ 0) = false := decide_eq_false (by omega)
  have d2b : decide (0 ≤ at_) = false := decide_eq_false (by omega)
  have d5 : decide (at_ < 0) = true := decide_eq_true ca
  go_enter Try.func13, Try.ntmps13
  go_wp2_with (first | ((with_reducible refine gate_dst (N := 2) rfl ?_); (try (refine gate_guard (by rfl) ?_; dsimp only)); refine box_event ?hg (N := 2) ?hd (cs := #[.slice A0 l0.length c0, .slice A1 l1.length c1, .slice A2 l2.length c2]) (t := 26) ?hr ?_; (case hd => rfl); (case hg => rfl); (case hr => first | (go_simp; done) | (go_simp; rfl)); intro g2 hg w_2 hk hb; have G2 := qM (show w.heap.size ≤ g2 by rw [hg]; exact Nat.le_refl _); have B2 := qM hk; have HB := qM (hb); clear hk hb hg; skip) | ((with_reducible refine gate_dst (N := 3) rfl ?_); (try (refine gate_guard (by rfl) ?_; dsimp only)); refine box_event ?hg (N := 3) ?hd (cs := #[.int .i64 c.f0, .int .i64 c.f1, .int .i64 c.f2, .string c.f3, .int .i64 c.f4, .int .i64 c.f5, .int .i64 c.f6, .int .u32 c.f7, .int .i64 c.f8, .int .i64 c.f9, .int .i64 c.f10, .slice A3 c.f11.length c3]) (t := 42) ?hr ?_; (case hd => rfl); (case hg => rfl); (case hr => first | (go_simp; done) | (go_simp; rfl)); intro g3 hg w_3 hk hb; have N23 := n1 B2 hg; have G3 := qM (show w.heap.size ≤ g3 by rw [hg]; exact HB.out.size); replace B2 := bb B2 hb; have B3 := qM hk; have HB := qM (below_step HB.out hb); clear hk hb hg; have ne23 := N23.out; have ne32 := Ne.symm N23.out; skip) | ((with_reducible refine gate_dst (N := 4) rfl ?_); (try (refine gate_guard (by rfl) ?_; dsimp only)); refine box_event ?hg (N := 4) ?hd (cs := #[.slice none 0 0, .slice none 0 0, .slice none 0 0]) (t := 26) ?hr ?_; (case hd => rfl); (case hg => rfl); (case hr => first | (go_simp; done) | (go_simp; rfl)); intro g4 hg w_4 hk hb; have N24 := n1 B2 hg; have N34 := n1 B3 hg; have G4 := qM (show w.heap.size ≤ g4 by rw [hg]; exact HB.out.size); replace B2 := bb B2 hb; replace B3 := bb B3 hb; have B4 := qM hk; have HB := qM (below_step HB.out hb); clear hk hb hg; have ne24 := N24.out; have ne42 := Ne.symm N24.out; have ne34 := N34.out; have ne43 := Ne.symm N34.out; skip) | ((with_reducible refine gate_dst (N := 5) rfl ?_); (try (refine gate_guard (by rfl) ?_; dsimp only)); refine box_event ?hg (N := 5) ?hd (cs := #[.int .i64 0, .int .i64 0, .int .i64 0, .int .i64 0, .int .u32 0, .bool false]) (t := 37) ?hr ?_; (case hd => rfl); (case hg => rfl); (case hr => first | (go_simp; done) | (go_simp; rfl)); intro g5 hg w_5 hk hb; have N25 := n1 B2 hg; have N35 := n1 B3 hg; have N45 := n1 B4 hg; have G5 := qM (show w.heap.size ≤ g5 by rw [hg]; exact HB.out.size); replace B2 := bb B2 hb; replace B3 := bb B3 hb; replace B4 := bb B4 hb; have B5 := qM hk; have HB := qM (below_step HB.out hb); clear hk hb hg; have ne25 := N25.out; have ne52 := Ne.symm N25.out; have ne35 := N35.out; have ne53 := Ne.symm N35.out; have ne45 := N45.out; have ne54 := Ne.symm N45.out; obtain ⟨z20, z21, z22, f20, f21, f22⟩ := cells3 B2.out; obtain ⟨z30, z31, z32, z33, z34, z35, z36, z37, z38, z39, z310, z311⟩ := cells12z B3.out; obtain ⟨z40, z41, z42, f40, f41, f42⟩ := cells3 B4.out; obtain ⟨z50, z51, z52, z53, z54, z55, f50, f51, f52, f53, f54, f55⟩ := cells6 B5.out) | (go_at_call 18; refine (HMAY.out (.slice A3 c.f11.length c3) _ (HS3.out.below HB.out).sl).mono ?_; rintro e w1 ⟨rfl, hb⟩; replace B2 := bb B2 hb; replace B3 := bb B3 hb; replace B4 := bb B4 hb; replace B5 := bb B5 hb; replace HB := qM (below_step HB.out hb); clear z20 z21 z22 f20 f21 f22 z30 z31 z32 z33 z34 z35 z36 z37 z38 z39 z310 z311 z40 z41 z42 f40 f41 f42 z50 z51 z52 z53 z54 z55 f50 f51 f52 f53 f54 f55; clear hb; obtain ⟨z20, z21, z22, f20, f21, f22⟩ := cells3 B2.out; obtain ⟨z30, z31, z32, z33, z34, z35, z36, z37, z38, z39, z310, z311⟩ := cells12z B3.out; obtain ⟨z40, z41, z42, f40, f41, f42⟩ := cells3 B4.out; obtain ⟨z50, z51, z52, z53, z54, z55, f50, f51, f52, f53, f54, f55⟩ := cells6 B5.out) | (go_at_call 20; refine (HLA.out _ _ _ _ (HS0.out.below HB.out).sl (HS1.out.below HB.out).sl (HS2.out.below HB.out).sl).mono ?_; rintro e w1 ⟨rfl, hb⟩; replace B2 := bb B2 hb; replace B3 := bb B3 hb; replace B4 := bb B4 hb; replace B5 := bb B5 hb; replace HB := qM (below_step HB.out hb); clear z20 z21 z22 f20 f21 f22 z30 z31 z32 z33 z34 z35 z36 z37 z38 z39 z310 z311 z40 z41 z42 f40 f41 f42 z50 z51 z52 z53 z54 z55 f50 f51 f52 f53 f54 f55; clear hb; obtain ⟨z20, z21, z22, f20, f21, f22⟩ := cells3 B2.out; obtain ⟨z30, z31, z32, z33, z34, z35, z36, z37, z38, z39, z310, z311⟩ := cells12z B3.out; obtain ⟨z40, z41, z42, f40, f41, f42⟩ := cells3 B4.out; obtain ⟨z50, z51, z52, z53, z54, z55, f50, f51, f52, f53, f54, f55⟩ := cells6 B5.out))
  go_quiet (fail)
  replace B2 := qM (show (w1.drewN nq).heap[g2]? = _ from B2.out)
  replace B3 := qM (show (w1.drewN nq).heap[g3]? = _ from B3.out)
  replace B4 := qM (show (w1.drewN nq).heap[g4]? = _ from B4.out)
  replace B5 := qM (show (w1.drewN nq).heap[g5]? = _ from B5.out)
  replace HB := qM (pw_below_drewN HB.out nq)
  generalize w1.drewN nq = wq at HB B2 B3 B4 B5 ⊢
  clear z20 z21 z22 f20 f21 f22 z30 z31 z32 z33 z34 z35 z36 z37 z38 z39 z310 z311 z40 z41 z42 f40 f41 f42 z50 z51 z52 z53 z54 z55 f50 f51 f52 f53 f54 f55
  obtain ⟨z20, z21, z22, f20, f21, f22⟩ := cells3 B2.out; obtain ⟨z30, z31, z32, z33, z34, z35, z36, z37, z38, z39, z310, z311⟩ := cells12z B3.out; obtain ⟨z40, z41, z42, f40, f41, f42⟩ := cells3 B4.out; obtain ⟨z50, z51, z52, z53, z54, z55, f50, f51, f52, f53, f54, f55⟩ := cells6 B5.out
  go_wp2
  go_quiet (fail)
  replace B2 := qM (show (wq.drewN nq).heap[g2]? = _ from B2.out)
  replace B3 := qM (show (wq.drewN nq).heap[g3]? = _ from B3.out)
  replace B4 := qM (show (wq.drewN nq).heap[g4]? = _ from B4.out)
  replace B5 := qM (show (wq.drewN nq).heap[g5]? = _ from B5.out)
  replace HB := qM (pw_below_drewN HB.out nq)
  generalize wq.drewN nq = wr at HB B2 B3 B4 B5 ⊢
  clear z20 z21 z22 f20 f21 f22 z30 z31 z32 z33 z34 z35 z36 z37 z38 z39 z310 z311 z40 z41 z42 f40 f41 f42 z50 z51 z52 z53 z54 z55 f50 f51 f52 f53 f54 f55
  obtain ⟨z20, z21, z22, f20, f21, f22⟩ := cells3 B2.out; obtain ⟨z30, z31, z32, z33, z34, z35, z36, z37, z38, z39, z310, z311⟩ := cells12z B3.out; obtain ⟨z40, z41, z42, f40, f41, f42⟩ := cells3 B4.out; obtain ⟨z50, z51, z52, z53, z54, z55, f50, f51, f52, f53, f54, f55⟩ := cells6 B5.out
  go_wp2_with (first | (go_at_call 21; obtain ⟨S1, hS1⟩ : ∃ S, wr.heap.size = S := ⟨_, rfl⟩; have Z := qM (show S1 ≤ wr.heap.size from Nat.le_of_eq hS1.symm); have M2 := qM (show g2 < S1 from hS1 ▸ blk_lt B2.out); have M3 := qM (show g3 < S1 from hS1 ▸ blk_lt B3.out); have M4 := qM (show g4 < S1 from hS1 ▸ blk_lt B4.out); have M5 := qM (show g5 < S1 from hS1 ▸ blk_lt B5.out); clear hS1; refine (does_reads (fun q => Pq q ∧ (q < w.heap.size ∨ S1 ≤ q)) _ _ _ (.slice A3 c.f11.length c3) l0 l1 l2 c _ (fun q hq => ⟨HPQ.out q (Nat.le_trans HB.out.size hq), .inr (Nat.le_trans Z.out hq)⟩) ((SF.of_slP HS0.out).below HB.out) ((SF.of_slP HS1.out).below HB.out) ((SF.of_slP HS2.out).below HB.out) ((SF.of_slP HS3.out).below HB.out) n HG.out HN.out H10.out).mono ?_; rintro e w1 ⟨u0, u1, u2, L0, L1, r, rfl, hu0, hu1, hu2, hG2, hb⟩; unfold repV; obtain ⟨D0, d0, rfl⟩ := Kd.V_slice hu0; obtain ⟨D1, d1_, rfl⟩ := Kd.V_slice hu1; obtain ⟨D2, d2_, rfl⟩ := Kd.V_slice hu2; have HU0 := qM hu0; have HU1 := qM hu1; have HU2 := qM hu2; have HG2 := qM hG2; clear hu0 hu1 hu2 hG2; replace B2 := bb B2 hb; replace B3 := bb B3 hb; replace B4 := bb B4 hb; replace B5 := bb B5 hb; replace HB := qM (below_step HB.out hb); clear z20 z21 z22 f20 f21 f22 z30 z31 z32 z33 z34 z35 z36 z37 z38 z39 z310 z311 z40 z41 z42 f40 f41 f42 z50 z51 z52 z53 z54 z55 f50 f51 f52 f53 f54 f55; clear hb; obtain ⟨z20, z21, z22, f20, f21, f22⟩ := cells3 B2.out; obtain ⟨z30, z31, z32, z33, z34, z35, z36, z37, z38, z39, z310, z311⟩ := cells12z B3.out; obtain ⟨z40, z41, z42, f40, f41, f42⟩ := cells3 B4.out; obtain ⟨z50, z51, z52, z53, z54, z55, f50, f51, f52, f53, f54, f55⟩ := cells6 B5.out) | ((with_reducible refine gate_dst (N := 8) rfl ?_); (try (refine gate_guard (by rfl) ?_; dsimp only)); refine box_event ?hg (N := 8) ?hd (cs := #[.int .i64 0, .int .i64 0, .int .i64 0, .int .i64 0, .int .u32 0, .bool false]) (t := 37) ?hr ?_; (case hd => rfl); (case hg => rfl); (case hr => first | (go_simp; done) | (go_simp; rfl)); intro g8 hg w_8 hk hb; clear z20 z21 z22 f20 f21 f22 z30 z31 z32 z33 z34 z35 z36 z37 z38 z39 z310 z311 z40 z41 z42 f40 f41 f42 z50 z51 z52 z53 z54 z55 f50 f51 f52 f53 f54 f55; have N28 := n1 B2 hg; have N38 := n1 B3 hg; have N48 := n1 B4 hg; have N58 := n1 B5 hg; have G8 := qM (show w.heap.size ≤ g8 by rw [hg]; exact HB.out.size); replace B2 := bb B2 hb; replace B3 := bb B3 hb; replace B4 := bb B4 hb; replace B5 := bb B5 hb; have B8 := qM hk; have HB := qM (below_step HB.out hb); obtain ⟨BW, hBW⟩ : ∃ b, w_8.heap.size = b := ⟨_, rfl⟩; have HWB := qM hBW; clear hBW; have hsz := hb.size; have hwb := HWB.out; replace HU0 := qM (show SlP (fun q => Pq q ∧ q ≠ g2 ∧ q ≠ g4 ∧ q ≠ g5 ∧ q ≠ g8 ∧ q < BW) _ _ _ _ from (HU0.out.old (fun q hq hl => ⟨hq.1, by have := hq.2; have := G2.out; have := M2.out; omega, by have := hq.2; have := G4.out; have := M4.out; omega, by have := hq.2; have := G5.out; have := M5.out; omega, by omega, by omega⟩)).below hb); replace HU1 := qM (show SlP (fun q => Pq q ∧ q ≠ g2 ∧ q ≠ g4 ∧ q ≠ g5 ∧ q ≠ g8 ∧ q < BW) _ _ _ _ from (HU1.out.old (fun q hq hl => ⟨hq.1, by have := hq.2; have := G2.out; have := M2.out; omega, by have := hq.2; have := G4.out; have := M4.out; omega, by have := hq.2; have := G5.out; have := M5.out; omega, by omega, by omega⟩)).below hb); replace HU2 := qM (show SlP (fun q => Pq q ∧ q ≠ g2 ∧ q ≠ g4 ∧ q ≠ g5 ∧ q ≠ g8 ∧ q < BW) _ _ _ _ from (HU2.out.old (fun q hq hl => ⟨hq.1, by have := hq.2; have := G2.out; have := M2.out; omega, by have := hq.2; have := G4.out; have := M4.out; omega, by have := hq.2; have := G5.out; have := M5.out; omega, by omega, by omega⟩)).below hb); clear hsz hwb hk hb hg; have ne28 := N28.out; have ne82 := Ne.symm N28.out; have ne38 := N38.out; have ne83 := Ne.symm N38.out; have ne48 := N48.out; have ne84 := Ne.symm N48.out; have ne58 := N58.out; have ne85 := Ne.symm N58.out; obtain ⟨z20, z21, z22, f20, f21, f22⟩ := cells3 B2.out; obtain ⟨z30, z31, z32, z33, z34, z35, z36, z37, z38, z39, z310, z311⟩ := cells12z B3.out; obtain ⟨z40, z41, z42, f40, f41, f42⟩ := cells3 B4.out; obtain ⟨z50, z51, z52, z53, z54, z55, f50, f51, f52, f53, f54, f55⟩ := cells6 B5.out; obtain ⟨z80, z81, z82, z83, z84, z85, f80, f81, f82, f83, f84, f85⟩ := cells6 B8.out) | ((with_reducible refine gate_dst (N := 71) rfl ?_); generalize hst : (((((((((w_8.setCell ⟨g2, 0, none⟩ (.slice D0 L0.length d0)).setCell ⟨g2, 1, none⟩ (.slice D1 L1.length d1_)).setCell ⟨g2, 2, none⟩ (.slice D2 l2.length d2_)).setCell ⟨g8, 0, none⟩ (.int .i64 (r.f0))).setCell ⟨g8, 1, none⟩ (.int .i64 (r.f1))).setCell ⟨g8, 2, none⟩ (.int .i64 (r.f2))).setCell ⟨g8, 3, none⟩ (.int .i64 (r.f3))).setCell ⟨g8, 4, none⟩ (.int .u32 (r.f4))).setCell ⟨g8, 5, none⟩ (.bool r.f5)) = wf; replace B2 := qM (show wf.heap[g2]? = some (.cells #[.slice D0 L0.length d0, .slice D1 L1.length d1_, .slice D2 l2.length d2_] 26 (0, 0)) from hst ▸ (blk_far (blk_far (blk_far (blk_far (blk_far (blk_far (blk_put (blk_put (blk_put B2.out 0 (.slice D0 L0.length d0) rfl) 1 (.slice D1 L1.length d1_) rfl) 2 (.slice D2 l2.length d2_) rfl) N28.out (.int .i64 (r.f0))) N28.out (.int .i64 (r.f1))) N28.out (.int .i64 (r.f2))) N28.out (.int .i64 (r.f3))) N28.out (.int .u32 (r.f4))) N28.out (.bool r.f5))); replace B3 := qM (show wf.heap[g3]? = _ from hst ▸ (blk_far (blk_far (blk_far (blk_far (blk_far (blk_far (blk_far (blk_far (blk_far B3.out (Ne.symm N23.out) (.slice D0 L0.length d0)) (Ne.symm N23.out) (.slice D1 L1.length d1_)) (Ne.symm N23.out) (.slice D2 l2.length d2_)) N38.out (.int .i64 (r.f0))) N38.out (.int .i64 (r.f1))) N38.out (.int .i64 (r.f2))) N38.out (.int .i64 (r.f3))) N38.out (.int .u32 (r.f4))) N38.out (.bool r.f5))); replace B4 := qM (show wf.heap[g4]? = _ from hst ▸ (blk_far (blk_far (blk_far (blk_far (blk_far (blk_far (blk_far (blk_far (blk_far B4.out (Ne.symm N24.out) (.slice D0 L0.length d0)) (Ne.symm N24.out) (.slice D1 L1.length d1_)) (Ne.symm N24.out) (.slice D2 l2.length d2_)) N48.out (.int .i64 (r.f0))) N48.out (.int .i64 (r.f1))) N48.out (.int .i64 (r.f2))) N48.out (.int .i64 (r.f3))) N48.out (.int .u32 (r.f4))) N48.out (.bool r.f5))); replace B5 := qM (show wf.heap[g5]? = _ from hst ▸ (blk_far (blk_far (blk_far (blk_far (blk_far (blk_far (blk_far (blk_far (blk_far B5.out (Ne.symm N25.out) (.slice D0 L0.length d0)) (Ne.symm N25.out) (.slice D1 L1.length d1_)) (Ne.symm N25.out) (.slice D2 l2.length d2_)) N58.out (.int .i64 (r.f0))) N58.out (.int .i64 (r.f1))) N58.out (.int .i64 (r.f2))) N58.out (.int .i64 (r.f3))) N58.out (.int .u32 (r.f4))) N58.out (.bool r.f5))); replace B8 := qM (show wf.heap[g8]? = some (.cells #[.int .i64 (r.f0), .int .i64 (r.f1), .int .i64 (r.f2), .int .i64 (r.f3), .int .u32 (r.f4), .bool r.f5] 37 (0, 0)) from hst ▸ (blk_put (blk_put (blk_put (blk_put (blk_put (blk_put (blk_far (blk_far (blk_far B8.out (Ne.symm N28.out) (.slice D0 L0.length d0)) (Ne.symm N28.out) (.slice D1 L1.length d1_)) (Ne.symm N28.out) (.slice D2 l2.length d2_)) 0 (.int .i64 (r.f0)) rfl) 1 (.int .i64 (r.f1)) rfl) 2 (.int .i64 (r.f2)) rfl) 3 (.int .i64 (r.f3)) rfl) 4 (.int .u32 (r.f4)) rfl) 5 (.bool r.f5) rfl)); replace HB := qM (show Below w.heap.size w wf from hst ▸ (((((((((HB.out.setCell (p := ⟨g2, 0, none⟩) G2.out (.slice D0 L0.length d0)).setCell (p := ⟨g2, 1, none⟩) G2.out (.slice D1 L1.length d1_)).setCell (p := ⟨g2, 2, none⟩) G2.out (.slice D2 l2.length d2_)).setCell (p := ⟨g8, 0, none⟩) G8.out (.int .i64 (r.f0))).setCell (p := ⟨g8, 1, none⟩) G8.out (.int .i64 (r.f1))).setCell (p := ⟨g8, 2, none⟩) G8.out (.int .i64 (r.f2))).setCell (p := ⟨g8, 3, none⟩) G8.out (.int .i64 (r.f3))).setCell (p := ⟨g8, 4, none⟩) G8.out (.int .u32 (r.f4))).setCell (p := ⟨g8, 5, none⟩) G8.out (.bool r.f5))); replace HU0 := qM (show SlP (fun q => Pq q ∧ q ≠ g2 ∧ q ≠ g4 ∧ q ≠ g5 ∧ q ≠ g8 ∧ q < BW) k45 wf (.slice D0 L0.length d0) L0 from hst ▸ (SlP.far (p := ⟨g8, 5, none⟩) (SlP.far (p := ⟨g8, 4, none⟩) (SlP.far (p := ⟨g8, 3, none⟩) (SlP.far (p := ⟨g8, 2, none⟩) (SlP.far (p := ⟨g8, 1, none⟩) (SlP.far (p := ⟨g8, 0, none⟩) (SlP.far (p := ⟨g2, 2, none⟩) (SlP.far (p := ⟨g2, 1, none⟩) (SlP.far (p := ⟨g2, 0, none⟩) HU0.out (fun q hq => hq.2.1) (.slice D0 L0.length d0)) (fun q hq => hq.2.1) (.slice D1 L1.length d1_)) (fun q hq => hq.2.1) (.slice D2 l2.length d2_)) (fun q hq => hq.2.2.2.2.1) (.int .i64 (r.f0))) (fun q hq => hq.2.2.2.2.1) (.int .i64 (r.f1))) (fun q hq => hq.2.2.2.2.1) (.int .i64 (r.f2))) (fun q hq => hq.2.2.2.2.1) (.int .i64 (r.f3))) (fun q hq => hq.2.2.2.2.1) (.int .u32 (r.f4))) (fun q hq => hq.2.2.2.2.1) (.bool r.f5))); replace HU1 := qM (show SlP (fun q => Pq q ∧ q ≠ g2 ∧ q ≠ g4 ∧ q ≠ g5 ∧ q ≠ g8 ∧ q < BW) k92 wf (.slice D1 L1.length d1_) L1 from hst ▸ (SlP.far (p := ⟨g8, 5, none⟩) (SlP.far (p := ⟨g8, 4, none⟩) (SlP.far (p := ⟨g8, 3, none⟩) (SlP.far (p := ⟨g8, 2, none⟩) (SlP.far (p := ⟨g8, 1, none⟩) (SlP.far (p := ⟨g8, 0, none⟩) (SlP.far (p := ⟨g2, 2, none⟩) (SlP.far (p := ⟨g2, 1, none⟩) (SlP.far (p := ⟨g2, 0, none⟩) HU1.out (fun q hq => hq.2.1) (.slice D0 L0.length d0)) (fun q hq => hq.2.1) (.slice D1 L1.length d1_)) (fun q hq => hq.2.1) (.slice D2 l2.length d2_)) (fun q hq => hq.2.2.2.2.1) (.int .i64 (r.f0))) (fun q hq => hq.2.2.2.2.1) (.int .i64 (r.f1))) (fun q hq => hq.2.2.2.2.1) (.int .i64 (r.f2))) (fun q hq => hq.2.2.2.2.1) (.int .i64 (r.f3))) (fun q hq => hq.2.2.2.2.1) (.int .u32 (r.f4))) (fun q hq => hq.2.2.2.2.1) (.bool r.f5))); replace HU2 := qM (show SlP (fun q => Pq q ∧ q ≠ g2 ∧ q ≠ g4 ∧ q ≠ g5 ∧ q ≠ g8 ∧ q < BW) k64 wf (.slice D2 l2.length d2_) l2 from hst ▸ (SlP.far (p := ⟨g8, 5, none⟩) (SlP.far (p := ⟨g8, 4, none⟩) (SlP.far (p := ⟨g8, 3, none⟩) (SlP.far (p := ⟨g8, 2, none⟩) (SlP.far (p := ⟨g8, 1, none⟩) (SlP.far (p := ⟨g8, 0, none⟩) (SlP.far (p := ⟨g2, 2, none⟩) (SlP.far (p := ⟨g2, 1, none⟩) (SlP.far (p := ⟨g2, 0, none⟩) HU2.out (fun q hq => hq.2.1) (.slice D0 L0.length d0)) (fun q hq => hq.2.1) (.slice D1 L1.length d1_)) (fun q hq => hq.2.1) (.slice D2 l2.length d2_)) (fun q hq => hq.2.2.2.2.1) (.int .i64 (r.f0))) (fun q hq => hq.2.2.2.2.1) (.int .i64 (r.f1))) (fun q hq => hq.2.2.2.2.1) (.int .i64 (r.f2))) (fun q hq => hq.2.2.2.2.1) (.int .i64 (r.f3))) (fun q hq => hq.2.2.2.2.1) (.int .u32 (r.f4))) (fun q hq => hq.2.2.2.2.1) (.bool r.f5))); have hz : wf.heap.size = w_8.heap.size := hst ▸ (Eq.trans (World.size_set _ ⟨g8, 5, none⟩ (.bool r.f5)) (Eq.trans (World.size_set _ ⟨g8, 4, none⟩ (.int .u32 (r.f4))) (Eq.trans (World.size_set _ ⟨g8, 3, none⟩ (.int .i64 (r.f3))) (Eq.trans (World.size_set _ ⟨g8, 2, none⟩ (.int .i64 (r.f2))) (Eq.trans (World.size_set _ ⟨g8, 1, none⟩ (.int .i64 (r.f1))) (Eq.trans (World.size_set _ ⟨g8, 0, none⟩ (.int .i64 (r.f0))) (Eq.trans (World.size_set _ ⟨g2, 2, none⟩ (.slice D2 l2.length d2_)) (Eq.trans (World.size_set _ ⟨g2, 1, none⟩ (.slice D1 L1.length d1_)) (Eq.trans (World.size_set _ ⟨g2, 0, none⟩ (.slice D0 L0.length d0)) (rfl : w_8.heap.size = _)))))))))); replace HWB := qM (hz.trans HWB.out); clear hz; have HB0 := qM (show w.heap.size ≤ wf.heap.size from HB.out.size); have LT2 := qM (show g2 < BW from HWB.out ▸ blk_lt B2.out); have LT3 := qM (show g3 < BW from HWB.out ▸ blk_lt B3.out); have LT4 := qM (show g4 < BW from HWB.out ▸ blk_lt B4.out); have LT5 := qM (show g5 < BW from HWB.out ▸ blk_lt B5.out); have LT8 := qM (show g8 < BW from HWB.out ▸ blk_lt B8.out); clear hst; clear z20 z21 z22 f20 f21 f22 z30 z31 z32 z33 z34 z35 z36 z37 z38 z39 z310 z311 z40 z41 z42 f40 f41 f42 z50 z51 z52 z53 z54 z55 f50 f51 f52 f53 f54 f55 z80 z81 z82 z83 z84 z85 f80 f81 f82 f83 f84 f85; obtain ⟨z20, z21, z22, f20, f21, f22⟩ := cells3 B2.out; obtain ⟨z30, z31, z32, z33, z34, z35, z36, z37, z38, z39, z310, z311⟩ := cells12z B3.out; obtain ⟨z40, z41, z42, f40, f41, f42⟩ := cells3 B4.out; obtain ⟨z50, z51, z52, z53, z54, z55, f50, f51, f52, f53, f54, f55⟩ := cells6 B5.out; obtain ⟨z80, z81, z82, z83, z84, z85, f80, f81, f82, f83, f84, f85⟩ := cells6 B8.out) | ((with_reducible refine gate_dst (N := 74) rfl ?_); refine own_litL k64 64 rfl (N := 74) rfl (xs := []) (inner := []) (by first | (go_simp; done) | (go_simp; rfl)) (Reps.none _ _) (by simp) ?_; intro vt w3 ho hb; replace ho := Own.lower ho (Nat.le_of_eq HWB.out.symm); obtain ⟨At, ct3, et, hct, hrt⟩ := Kd.R_reads ho; dsimp only [List.length_nil] at et; subst et; have HO := qM ho; have HW3 := qM (show BW ≤ w3.heap.size from HWB.out ▸ hb.size); clear ho hct hrt; replace HU0 := qM (HU0.out.below hb); replace HU1 := qM (HU1.out.below hb); replace HU2 := qM (HU2.out.below hb); replace B2 := bb B2 hb; replace B3 := bb B3 hb; replace B4 := bb B4 hb; replace B5 := bb B5 hb; replace B8 := bb B8 hb; replace HB := qM (below_step HB.out hb); clear z20 z21 z22 f20 f21 f22 z30 z31 z32 z33 z34 z35 z36 z37 z38 z39 z310 z311 z40 z41 z42 f40 f41 f42 z50 z51 z52 z53 z54 z55 f50 f51 f52 f53 f54 f55 z80 z81 z82 z83 z84 z85 f80 f81 f82 f83 f84 f85; clear hb; obtain ⟨z20, z21, z22, f20, f21, f22⟩ := cells3 B2.out; obtain ⟨z30, z31, z32, z33, z34, z35, z36, z37, z38, z39, z310, z311⟩ := cells12z B3.out; obtain ⟨z40, z41, z42, f40, f41, f42⟩ := cells3 B4.out; obtain ⟨z50, z51, z52, z53, z54, z55, f50, f51, f52, f53, f54, f55⟩ := cells6 B5.out; obtain ⟨z80, z81, z82, z83, z84, z85, f80, f81, f82, f83, f84, f85⟩ := cells6 B8.out) | ((with_reducible refine gate_dst (N := 77) rfl ?_); refine own_appL k64 BW rfl (N := 77) rfl (.tmp 74) (.tmp 76) 24 64 (.agg #[.int .i64 0, .int .i64 0, .int .i64 0, .int .i64 0, .int .i64 0, .int .i64 0, .int .u32 0, .bool false]) 56 rfl Try.underlying24 infoSes rfl (by decide) (by omega) _ [] l2 D2 _ d2_ (by rfl) (by rfl) HO.out (Kd.V_reads' HU2.out).2.2 (fun _ _ h => h) HW3.out (by have := HM.out; have := HM2.out; simp only [List.length_nil]; omega) ?_; intro v1 w4 ho hb hg; obtain ⟨LS, eLS⟩ : ∃ L : List Ses, L = [] ++ l2 := ⟨_, rfl⟩; rw [← eLS] at ho; have HLS := qM (show LS.length = l2.length by rw [eLS]; rfl); clear eLS; obtain ⟨AS, cS, eS, hcS, hrS⟩ := Kd.R_reads ho; subst eS; clear hcS hrS; have HO2 := qM ho; have HW4 := qM (Nat.le_trans HW3.out hb.size); replace HU0 := qM (show SlP (fun q => Pq q ∧ q ≠ g2 ∧ q ≠ g4 ∧ q ≠ g5 ∧ q ≠ g8 ∧ q < BW) _ _ _ _ from Kd.V_step HU0.out (fun k hk _ => hb.block k hk.2.2.2.2.2)); replace HU1 := qM (show SlP (fun q => Pq q ∧ q ≠ g2 ∧ q ≠ g4 ∧ q ≠ g5 ∧ q ≠ g8 ∧ q < BW) _ _ _ _ from Kd.V_step HU1.out (fun k hk _ => hb.block k hk.2.2.2.2.2)); replace B2 := qM ((hb.block g2 LT2.out).trans B2.out); replace B3 := qM ((hb.block g3 LT3.out).trans B3.out); replace B4 := qM ((hb.block g4 LT4.out).trans B4.out); replace B5 := qM ((hb.block g5 LT5.out).trans B5.out); replace B8 := qM ((hb.block g8 LT8.out).trans B8.out); replace HB := qM (HB.out.trans (below_less hb (Nat.le_trans HB0.out (Nat.le_of_eq HWB.out)))); clear ho hb hg HO HW3 HU2; clear z20 z21 z22 f20 f21 f22 z30 z31 z32 z33 z34 z35 z36 z37 z38 z39 z310 z311 z40 z41 z42 f40 f41 f42 z50 z51 z52 z53 z54 z55 f50 f51 f52 f53 f54 f55 z80 z81 z82 z83 z84 z85 f80 f81 f82 f83 f84 f85; obtain ⟨z20, z21, z22, f20, f21, f22⟩ := cells3 B2.out; obtain ⟨z30, z31, z32, z33, z34, z35, z36, z37, z38, z39, z310, z311⟩ := cells12z B3.out; obtain ⟨z40, z41, z42, f40, f41, f42⟩ := cells3 B4.out; obtain ⟨z50, z51, z52, z53, z54, z55, f50, f51, f52, f53, f54, f55⟩ := cells6 B5.out; obtain ⟨z80, z81, z82, z83, z84, z85, f80, f81, f82, f83, f84, f85⟩ := cells6 B8.out) | ((with_reducible refine gate_dst (N := 79) rfl ?_); generalize hst : (w4.setCell ⟨g2, 2, none⟩ (.slice AS LS.length cS)) = w5; replace B2 := qM (show w5.heap[g2]? = some (.cells #[.slice D0 L0.length d0, .slice D1 L1.length d1_, .slice AS LS.length cS] 26 (0, 0)) from hst ▸ (blk_put B2.out 2 (.slice AS LS.length cS) rfl)); replace B3 := qM (show w5.heap[g3]? = _ from hst ▸ (blk_far B3.out (Ne.symm N23.out) (.slice AS LS.length cS))); replace B4 := qM (show w5.heap[g4]? = _ from hst ▸ (blk_far B4.out (Ne.symm N24.out) (.slice AS LS.length cS))); replace B5 := qM (show w5.heap[g5]? = _ from hst ▸ (blk_far B5.out (Ne.symm N25.out) (.slice AS LS.length cS))); replace B8 := qM (show w5.heap[g8]? = some (.cells #[.int .i64 (r.f0), .int .i64 (r.f1), .int .i64 (r.f2), .int .i64 (r.f3), .int .u32 (r.f4), .bool r.f5] 37 (0, 0)) from hst ▸ (blk_far B8.out (Ne.symm N28.out) (.slice AS LS.length cS))); replace HB := qM (show Below w.heap.size w w5 from hst ▸ (HB.out.setCell (p := ⟨g2, 2, none⟩) G2.out (.slice AS LS.length cS))); replace HU0 := qM (show SlP (fun q => Pq q ∧ q ≠ g2 ∧ q ≠ g4 ∧ q ≠ g5 ∧ q ≠ g8 ∧ q < BW) k45 w5 (.slice D0 L0.length d0) L0 from hst ▸ (SlP.far (p := ⟨g2, 2, none⟩) HU0.out (fun q hq => hq.2.1) (.slice AS LS.length cS))); replace HU1 := qM (show SlP (fun q => Pq q ∧ q ≠ g2 ∧ q ≠ g4 ∧ q ≠ g5 ∧ q ≠ g8 ∧ q < BW) k92 w5 (.slice D1 L1.length d1_) L1 from hst ▸ (SlP.far (p := ⟨g2, 2, none⟩) HU1.out (fun q hq => hq.2.1) (.slice AS LS.length cS))); have hz : w5.heap.size = w4.heap.size := hst ▸ (Eq.trans (World.size_set _ ⟨g2, 2, none⟩ (.slice AS LS.length cS)) (rfl : w4.heap.size = _)); replace HO2 := qM (show Own k64 64 w5 BW (.slice AS LS.length cS) LS from hst ▸ Kd.R_far (p := ⟨g2, 2, none⟩) HO2.out (fun q hq => by have := LT2.out; show q ≠ g2; omega) (.slice AS LS.length cS)); replace HW4 := qM (show BW ≤ w5.heap.size by rw [hz]; exact HW4.out); clear hz; clear hst; clear z20 z21 z22 f20 f21 f22 z30 z31 z32 z33 z34 z35 z36 z37 z38 z39 z310 z311 z40 z41 z42 f40 f41 f42 z50 z51 z52 z53 z54 z55 f50 f51 f52 f53 f54 f55 z80 z81 z82 z83 z84 z85 f80 f81 f82 f83 f84 f85; obtain ⟨z20, z21, z22, f20, f21, f22⟩ := cells3 B2.out; obtain ⟨z30, z31, z32, z33, z34, z35, z36, z37, z38, z39, z310, z311⟩ := cells12z B3.out; obtain ⟨z40, z41, z42, f40, f41, f42⟩ := cells3 B4.out; obtain ⟨z50, z51, z52, z53, z54, z55, f50, f51, f52, f53, f54, f55⟩ := cells6 B5.out; obtain ⟨z80, z81, z82, z83, z84, z85, f80, f81, f82, f83, f84, f85⟩ := cells6 B8.out) | ((with_reducible refine gate_dst (N := 87) rfl ?_); obtain ⟨g9, w9, hg, hw, hk, hb⟩ := box_new w5 #[.int .i64 c.f1, .int .i64 c.f2, .int .i64 (r.f0), .int .i64 (r.f1), .int .i64 (r.f2), .int .i64 (r.f3), .int .u32 (r.f4), .bool r.f5] 64; rw [hw, hg]; have N29 := n2 B2 hg; have N39 := n2 B3 hg; have N49 := n2 B4 hg; have N59 := n2 B5 hg; have N89 := n2 B8 hg; replace B2 := bb B2 hb; replace B3 := bb B3 hb; replace B4 := bb B4 hb; replace B5 := bb B5 hb; replace B8 := bb B8 hb; have G9 := qM (show w.heap.size ≤ g9 by rw [← hg]; exact HB.out.size); replace HB := qM (below_step HB.out hb); have B9 := qM hk; clear z20 z21 z22 f20 f21 f22 z30 z31 z32 z33 z34 z35 z36 z37 z38 z39 z310 z311 z40 z41 z42 f40 f41 f42 z50 z51 z52 z53 z54 z55 f50 f51 f52 f53 f54 f55 z80 z81 z82 z83 z84 z85 f80 f81 f82 f83 f84 f85; replace HO2 := qM (Own.below HO2.out hb); replace HW4 := qM (Nat.le_trans HW4.out hb.size); replace HU0 := qM (HU0.out.below hb); replace HU1 := qM (HU1.out.below hb); clear hk hb hg hw; obtain ⟨z20, z21, z22, f20, f21, f22⟩ := cells3 B2.out; obtain ⟨z30, z31, z32, z33, z34, z35, z36, z37, z38, z39, z310, z311⟩ := cells12z B3.out; obtain ⟨z40, z41, z42, f40, f41, f42⟩ := cells3 B4.out; obtain ⟨z50, z51, z52, z53, z54, z55, f50, f51, f52, f53, f54, f55⟩ := cells6 B5.out; obtain ⟨z80, z81, z82, z83, z84, z85, f80, f81, f82, f83, f84, f85⟩ := cells6 B8.out; obtain ⟨z90, z91, z92, z93, z94, z95, z96, z97, f90, f91, f92, f93, f94, f95, f96, f97⟩ := cells8 B9.out; have ne29 := N29.out; have ne92 := Ne.symm N29.out; have ne39 := N39.out; have ne93 := Ne.symm N39.out; have ne49 := N49.out; have ne94 := Ne.symm N49.out; have ne59 := N59.out; have ne95 := Ne.symm N59.out; have ne89 := N89.out; have ne98 := Ne.symm N89.out) | ((with_reducible refine gate_dst (N := 90) rfl ?_); refine own_litL k64 64 rfl (N := 90) rfl (xs := [(⟨c.f1, c.f2, r⟩ : Ses)]) (inner := [.int .i64 c.f1, .int .i64 c.f2, .int .i64 (r.f0), .int .i64 (r.f1), .int .i64 (r.f2), .int .i64 (r.f3), .int .u32 (r.f4), .bool r.f5]) (by first | (go_simp; done) | (go_simp; rfl)) (Reps.c8 (k64_mkM _ _ _ (⟨c.f1, c.f2, r⟩ : Ses)) (Reps.none _ _)) (by simp) ?_; intro vt w6 ho hb; obtain ⟨At, ct, et, hct, hrt⟩ := Kd.R_reads ho; dsimp only [List.length_cons, List.length_nil] at et; subst et; have HT := qM hrt; replace HO2 := qM (Own.below HO2.out hb); replace HW4 := qM (Nat.le_trans HW4.out hb.size); replace HU0 := qM (HU0.out.below hb); replace HU1 := qM (HU1.out.below hb); clear ho hct hrt; replace B2 := bb B2 hb; replace B3 := bb B3 hb; replace B4 := bb B4 hb; replace B5 := bb B5 hb; replace B8 := bb B8 hb; replace B9 := bb B9 hb; replace HB := qM (below_step HB.out hb); clear z20 z21 z22 f20 f21 f22 z30 z31 z32 z33 z34 z35 z36 z37 z38 z39 z310 z311 z40 z41 z42 f40 f41 f42 z50 z51 z52 z53 z54 z55 f50 f51 f52 f53 f54 f55 z80 z81 z82 z83 z84 z85 f80 f81 f82 f83 f84 f85 z90 z91 z92 z93 z94 z95 z96 z97 f90 f91 f92 f93 f94 f95 f96 f97; clear hb; obtain ⟨z20, z21, z22, f20, f21, f22⟩ := cells3 B2.out; obtain ⟨z30, z31, z32, z33, z34, z35, z36, z37, z38, z39, z310, z311⟩ := cells12z B3.out; obtain ⟨z40, z41, z42, f40, f41, f42⟩ := cells3 B4.out; obtain ⟨z50, z51, z52, z53, z54, z55, f50, f51, f52, f53, f54, f55⟩ := cells6 B5.out; obtain ⟨z80, z81, z82, z83, z84, z85, f80, f81, f82, f83, f84, f85⟩ := cells6 B8.out; obtain ⟨z90, z91, z92, z93, z94, z95, z96, z97, f90, f91, f92, f93, f94, f95, f96, f97⟩ := cells8 B9.out) | ((with_reducible refine gate_dst (N := 91) rfl ?_); refine own_appL k64 BW rfl (N := 91) rfl (.tmp 88) (.tmp 90) 24 64 (.agg #[.int .i64 0, .int .i64 0, .int .i64 0, .int .i64 0, .int .i64 0, .int .i64 0, .int .u32 0, .bool false]) 56 rfl Try.underlying24 infoSes rfl (by decide) (by omega) _ LS [(⟨c.f1, c.f2, r⟩ : Ses)] At 1 ct (by rfl) (by rfl) HO2.out HT.out (fun _ _ h => h) HW4.out (by have := HM.out; have := HM2.out; have := HLS.out; omega) ?_; intro v1 w7 ho hb hg; obtain ⟨LT, eLT⟩ : ∃ L : List Ses, L = LS ++ [(⟨c.f1, c.f2, r⟩ : Ses)] := ⟨_, rfl⟩; rw [← eLT] at ho; have HLT := qM (show LT.length = LS.length + 1 by rw [eLT, List.length_append]; rfl); clear eLT; obtain ⟨AT, cT, eT, hcT, hrT⟩ := Kd.R_reads ho; subst eT; clear hcT hrT; have HO3 := qM ho; replace HU0 := qM (show SlP (fun q => Pq q ∧ q ≠ g2 ∧ q ≠ g4 ∧ q ≠ g5 ∧ q ≠ g8 ∧ q < BW) _ _ _ _ from Kd.V_step HU0.out (fun k hk _ => hb.block k hk.2.2.2.2.2)); replace HU1 := qM (show SlP (fun q => Pq q ∧ q ≠ g2 ∧ q ≠ g4 ∧ q ≠ g5 ∧ q ≠ g8 ∧ q < BW) _ _ _ _ from Kd.V_step HU1.out (fun k hk _ => hb.block k hk.2.2.2.2.2)); replace B2 := qM ((hb.block g2 LT2.out).trans B2.out); replace B3 := qM ((hb.block g3 LT3.out).trans B3.out); replace B4 := qM ((hb.block g4 LT4.out).trans B4.out); replace B5 := qM ((hb.block g5 LT5.out).trans B5.out); replace B8 := qM ((hb.block g8 LT8.out).trans B8.out); replace HB := qM (HB.out.trans (below_less hb (Nat.le_trans HB0.out (Nat.le_of_eq HWB.out)))); clear ho hb hg HO2 HT HW4; clear B9 z90 f90 z91 f91 z92 f92 z93 f93 z94 f94 z95 f95 z96 f96 z97 f97; clear z20 z21 z22 f20 f21 f22 z30 z31 z32 z33 z34 z35 z36 z37 z38 z39 z310 z311 z40 z41 z42 f40 f41 f42 z50 z51 z52 z53 z54 z55 f50 f51 f52 f53 f54 f55 z80 z81 z82 z83 z84 z85 f80 f81 f82 f83 f84 f85; obtain ⟨z20, z21, z22, f20, f21, f22⟩ := cells3 B2.out; obtain ⟨z30, z31, z32, z33, z34, z35, z36, z37, z38, z39, z310, z311⟩ := cells12z B3.out; obtain ⟨z40, z41, z42, f40, f41, f42⟩ := cells3 B4.out; obtain ⟨z50, z51, z52, z53, z54, z55, f50, f51, f52, f53, f54, f55⟩ := cells6 B5.out; obtain ⟨z80, z81, z82, z83, z84, z85, f80, f81, f82, f83, f84, f85⟩ := cells6 B8.out))
  have HS3x := qM (SlP.of_own (P := (fun q => Pq q ∧ q ≠ g2 ∧ q ≠ g4 ∧ q ≠ g5 ∧ q ≠ g8)) HO3.out (fun q hq => ⟨HPQ.out q (Nat.le_trans HB0.out (Nat.le_trans (Nat.le_of_eq HWB.out) hq)), Nat.ne_of_gt (Nat.lt_of_lt_of_le LT2.out hq), Nat.ne_of_gt (Nat.lt_of_lt_of_le LT4.out hq), Nat.ne_of_gt (Nat.lt_of_lt_of_le LT5.out hq), Nat.ne_of_gt (Nat.lt_of_lt_of_le LT8.out hq)⟩))
  clear HO3
  generalize hst : (w7.setCell ⟨g2, 2, none⟩ (.slice AT LT.length cT)) = w8
  replace B2 := qM (show w8.heap[g2]? = some (.cells #[.slice D0 L0.length d0, .slice D1 L1.length d1_, .slice AT LT.length cT] 26 (0, 0)) from hst ▸ (blk_put B2.out 2 (.slice AT LT.length cT) rfl))
  replace B3 := qM (show w8.heap[g3]? = _ from hst ▸ (blk_far B3.out (Ne.symm N23.out) (.slice AT LT.length cT)))
  replace B4 := qM (show w8.heap[g4]? = _ from hst ▸ (blk_far B4.out (Ne.symm N24.out) (.slice AT LT.length cT)))
  replace B5 := qM (show w8.heap[g5]? = _ from hst ▸ (blk_far B5.out (Ne.symm N25.out) (.slice AT LT.length cT)))
  replace B8 := qM (show w8.heap[g8]? = some (.cells #[.int .i64 (r.f0), .int .i64 (r.f1), .int .i64 (r.f2), .int .i64 (r.f3), .int .u32 (r.f4), .bool r.f5] 37 (0, 0)) from hst ▸ (blk_far B8.out (Ne.symm N28.out) (.slice AT LT.length cT)))
  replace HB := qM (show Below w.heap.size w w8 from hst ▸ (HB.out.setCell (p := ⟨g2, 2, none⟩) G2.out (.slice AT LT.length cT)))
  replace HU0 := qM (show SlP (fun q => Pq q ∧ q ≠ g2 ∧ q ≠ g4 ∧ q ≠ g5 ∧ q ≠ g8 ∧ q < BW) k45 w8 (.slice D0 L0.length d0) L0 from hst ▸ (SlP.far (p := ⟨g2, 2, none⟩) HU0.out (fun q hq => hq.2.1) (.slice AT LT.length cT)))
  replace HU1 := qM (show SlP (fun q => Pq q ∧ q ≠ g2 ∧ q ≠ g4 ∧ q ≠ g5 ∧ q ≠ g8 ∧ q < BW) k92 w8 (.slice D1 L1.length d1_) L1 from hst ▸ (SlP.far (p := ⟨g2, 2, none⟩) HU1.out (fun q hq => hq.2.1) (.slice AT LT.length cT)))
  replace HS3x := qM (show SlP (fun q => Pq q ∧ q ≠ g2 ∧ q ≠ g4 ∧ q ≠ g5 ∧ q ≠ g8) k64 w8 (.slice AT LT.length cT) LT from hst ▸ (SlP.far (p := ⟨g2, 2, none⟩) HS3x.out (fun q hq => hq.2.1) (.slice AT LT.length cT)))
  have hz : w8.heap.size = w7.heap.size := hst ▸ (Eq.trans (World.size_set _ ⟨g2, 2, none⟩ (.slice AT LT.length cT)) (rfl : w7.heap.size = _))
  clear hz
  clear hst
  clear z20 z21 z22 f20 f21 f22 z30 z31 z32 z33 z34 z35 z36 z37 z38 z39 z310 z311 z40 z41 z42 f40 f41 f42 z50 z51 z52 z53 z54 z55 f50 f51 f52 f53 f54 f55 z80 z81 z82 z83 z84 z85 f80 f81 f82 f83 f84 f85
  obtain ⟨z20, z21, z22, f20, f21, f22⟩ := cells3 B2.out; obtain ⟨z30, z31, z32, z33, z34, z35, z36, z37, z38, z39, z310, z311⟩ := cells12z B3.out; obtain ⟨z40, z41, z42, f40, f41, f42⟩ := cells3 B4.out; obtain ⟨z50, z51, z52, z53, z54, z55, f50, f51, f52, f53, f54, f55⟩ := cells6 B5.out; obtain ⟨z80, z81, z82, z83, z84, z85, f80, f81, f82, f83, f84, f85⟩ := cells6 B8.out
  refine start_ (n := 4) (S := fun w' => w'.heap[g2]? = some (.cells #[.slice D0 L0.length d0, .slice D1 L1.length d1_, .slice AT LT.length cT] 26 (0, 0)) ∧ w'.heap[g8]? = some (.cells #[.int .i64 (r.f0), .int .i64 (r.f1), .int .i64 (r.f2), .int .i64 (r.f3), .int .u32 (r.f4), .bool r.f5] 37 (0, 0))) (ds := [3]) #[false, false, false, false] (by kernel_rfl) rfl rfl ⟨qD B2.out, qD B8.out⟩ (fun hHeld => ?_)
  generalize hw : w8.drew = w14 at hHeld ⊢
  replace B2 := qM (show w14.heap[g2]? = _ from hw ▸ qD B2.out)
  replace B3 := qM (show w14.heap[g3]? = _ from hw ▸ qD B3.out)
  replace B4 := qM (show w14.heap[g4]? = _ from hw ▸ qD B4.out)
  replace B5 := qM (show w14.heap[g5]? = _ from hw ▸ qD B5.out)
  replace B8 := qM (show w14.heap[g8]? = _ from hw ▸ qD B8.out)
  replace HB := qM (show Below w.heap.size w w14 from hw ▸ below_drew1 HB.out)
  replace HU0 := qM (hw ▸ (show SlP _ _ w8.drew _ _ from Kd.V_drew HU0.out))
  replace HU1 := qM (hw ▸ (show SlP _ _ w8.drew _ _ from Kd.V_drew HU1.out))
  replace HS3x := qM (hw ▸ (show SlP _ _ w8.drew _ _ from Kd.V_drew HS3x.out))
  clear z20 z21 z22 f20 f21 f22 z30 z31 z32 z33 z34 z35 z36 z37 z38 z39 z310 z311 z40 z41 z42 f40 f41 f42 z50 z51 z52 z53 z54 z55 f50 f51 f52 f53 f54 f55 z80 z81 z82 z83 z84 z85 f80 f81 f82 f83 f84 f85
  clear hw
  refine take_ (i := 0) (N := some 98) (v := ?_) (a' := ?_) #[true, false, false, false] rfl rfl (by kernel_rfl) (fun _ _ _ h => h) (Or.inl ⟨by rfl, ?_⟩) hHeld ?_ ?_
  rotate_left
  · rintro w' ⟨b2, b8⟩; obtain ⟨z20, z21, z22, f20, f21, f22⟩ := cells3 b2; obtain ⟨z80, z81, z82, z83, z84, z85, f80, f81, f82, f83, f84, f85⟩ := cells6 b8; go_simp; with_reducible rfl
  rotate_left
  · simp only [Act.put, xA, xZ, xS, i64_w, i32_w]; rfl
  refine take_ (i := 1) (N := some 99) (v := ?_) (a' := ?_) #[true, true, false, false] rfl rfl (by kernel_rfl) (fun _ _ _ h => h) (Or.inl ⟨by rfl, ?_⟩) hHeld ?_ ?_
  rotate_left
  · rintro w' ⟨b2, b8⟩; obtain ⟨z20, z21, z22, f20, f21, f22⟩ := cells3 b2; obtain ⟨z80, z81, z82, z83, z84, z85, f80, f81, f82, f83, f84, f85⟩ := cells6 b8; go_simp; with_reducible rfl
  rotate_left
  · simp only [Act.put, xA, xZ, xS, i64_w, i32_w]; rfl
  obtain ⟨z20, z21, z22, f20, f21, f22⟩ := cells3 B2.out; obtain ⟨z30, z31, z32, z33, z34, z35, z36, z37, z38, z39, z310, z311⟩ := cells12z B3.out; obtain ⟨z40, z41, z42, f40, f41, f42⟩ := cells3 B4.out; obtain ⟨z50, z51, z52, z53, z54, z55, f50, f51, f52, f53, f54, f55⟩ := cells6 B5.out; obtain ⟨z80, z81, z82, z83, z84, z85, f80, f81, f82, f83, f84, f85⟩ := cells6 B8.out
  refine one_ (i := 2) (N := none) #[true, true, true, false] rfl rfl (by kernel_rfl) (by decide) (fun K hK => ?_)
  refine skip_ (w1 := ?_) (by rfl) rfl ?_ ?_
  rotate_left
  · go_simp; rfl
  refine hK.out _ _ ⟨(blk_far (blk_far (blk_far B2.out N24.out (.slice D0 L0.length d0)) N24.out (.slice D1 L1.length d1_)) N24.out (.slice AT LT.length cT)), (blk_far (blk_far (blk_far B8.out (Ne.symm N48.out) (.slice D0 L0.length d0)) (Ne.symm N48.out) (.slice D1 L1.length d1_)) (Ne.symm N48.out) (.slice AT LT.length cT))⟩ (fun _ => ?_)
  clear hK K
  refine last_ (i := 3) (N := none) #[true, true, true, true] rfl rfl (by kernel_rfl) (by decide) (fun K hK => ?_)
  refine skip_ (w1 := ?_) (by rfl) rfl ?_ ?_
  rotate_left
  · go_simp; rfl
  refine hK.out _ _ ?_
  clear hK K
  refine done_ (by kernel_rfl) ?_
  repeat go_step
  exact fin_cc rfl B4 B5 N45 HB G4 G5 rfl rfl rfl (fun hbf => ⟨_, _, _, L0, L1, LT, ⟨r.f0, r.f1, r.f2, r.f3, r.f4, r.f5⟩, rfl, HU0.out.outP (fun q hq => hq.1) (fun q hq => hq.2.2.1) (fun q hq => hq.2.2.2.1) _ _ _ _ _ _ _ _ _, HU1.out.outP (fun q hq => hq.1) (fun q hq => hq.2.2.1) (fun q hq => hq.2.2.2.1) _ _ _ _ _ _ _ _ _, HS3x.out.outP (fun q hq => hq.1) (fun q hq => hq.2.2.1) (fun q hq => hq.2.2.2.1) _ _ _ _ _ _ _ _ _, (by have := HLT.out; have := HLS.out; have := HM.out; omega), HG2.out, hbf⟩)


set_option maxHeartbeats 40000000 in
set_option maxRecDepth 100000 in
theorem do_d (Pq : Nat → Prop) (v0 v1 v2 v : Value) (l0 : List Vol) (l1 : List Nam) (l2 : List Ses) (c : Cmd) (w : World) (hPq : ∀ q, w.heap.size ≤ q → Pq q) (h0 : SlP Pq k45 w v0 l0) (h1 : SlP Pq k92 w v1 l1) (h2 : SlP Pq k64 w v2 l2) (h3 : SlP Pq k75 w v c.f11) (n m : Nat) (hg : Good n l0 l1) (hn : n ≤ 1000) (hm : l2.length ≤ m) (hm2 : m ≤ 1000) (rm : Bool) (hmay : ∀ (v : Value) (w : World), Sl k75 w v c.f11 → Calls Try.prog 18 #[cmdV c v] w fun e w' => e = .returned (.bool rm) ∧ Below w.heap.size w w') (cm : rm = true) (at_ : Int) (hla : LasC l0 l1 l2 c.f1 at_) (cc : c.f1 > 0) (ca : 0 ≤ at_) (cl : at_ < (l2.length : Int)) (ce : (rd_T64 l2 at_).f1 = c.f2) : Calls Try.prog 13 #[.agg #[v0, v1, v2], cmdV c v] w (DoBack Pq (n + 1) (m + 1) w) := by
  obtain ⟨A0, c0, rfl, hc0, hr0⟩ := h0
  obtain ⟨A1, c1, rfl, hc1, hr1⟩ := h1
  obtain ⟨A2, c2, rfl, hc2, hr2⟩ := h2
  obtain ⟨A3, c3, rfl, hc3, hr3⟩ := h3
  have HS0 := qM (show SlP Pq k45 w (.slice A0 l0.length c0) l0 from ⟨A0, c0, rfl, hc0, hr0⟩)
  have HS1 := qM (show SlP Pq k92 w (.slice A1 l1.length c1) l1 from ⟨A1, c1, rfl, hc1, hr1⟩)
  have HS2 := qM (show SlP Pq k64 w (.slice A2 l2.length c2) l2 from ⟨A2, c2, rfl, hc2, hr2⟩)
  have HS3 := qM (show SlP Pq k75 w (.slice A3 c.f11.length c3) c.f11 from ⟨A3, c3, rfl, hc3, hr3⟩)
  have HR0 := qM hr0
  have HR1 := qM (Kd.F_now hr1)
  have HR2 := qM (Kd.F_now hr2)
  have HR3 := qM (Kd.F_now hr3)
  have HG := qM hg
  have HPQ := qM hPq
  clear hc0 hr0 hc1 hr1 hc2 hr2 hc3 hr3 hg hPq
  unfold cmdV
  have HN := qM hn
  have HM := qM hm
  have HM2 := qM hm2
  clear hn hm hm2
  have HMAY := qM hmay
  clear hmay
  subst cm
  have HLA := qM hla
  clear hla
  have d1 : decide (c.f1 > 0) = true := decide_eq_true cc
  have d2 : decide (at_ ≥ 0) = true := decide_eq_true ca
  have d2b : decide (0 ≤ at_) = true := decide_eq_true ca
  obtain ⟨ad, e, hx0, hx1, hx2, hx3, hx4, hx5, hx6, hx7⟩ := at_T64 HR2.out at_ ca cl
  cases e
  have HX := qM (And.intro hx0 (And.intro hx1 (And.intro hx2 (And.intro hx3 (And.intro hx4 (And.intro hx5 (And.intro hx6 hx7)))))))
  clear hx0 hx1 hx2 hx3 hx4 hx5 hx6 hx7
  have p0 := eq_true ca
  have p1 := eq_true cl
  have d3 : ((rd_T64 l2 at_).f1 == c.f2) = true := beq_iff_eq.mpr ce
  have CE := qM ce
  clear ce
  go_enter Try.func13, Try.ntmps13
  go_wp2_with (first | ((with_reducible refine gate_dst (N := 2) rfl ?_); (try (refine gate_guard (by rfl) ?_; dsimp only)); refine box_event ?hg (N := 2) ?hd (cs := #[.slice A0 l0.length c0, .slice A1 l1.length c1, .slice (some ad) l2.length c2]) (t := 26) ?hr ?_; (case hd => rfl); (case hg => rfl); (case hr => first | (go_simp; done) | (go_simp; rfl)); intro g2 hg w_2 hk hb; have G2 := qM (show w.heap.size ≤ g2 by rw [hg]; exact Nat.le_refl _); have B2 := qM hk; have HB := qM (hb); clear hk hb hg; skip) | ((with_reducible refine gate_dst (N := 3) rfl ?_); (try (refine gate_guard (by rfl) ?_; dsimp only)); refine box_event ?hg (N := 3) ?hd (cs := #[.int .i64 c.f0, .int .i64 c.f1, .int .i64 c.f2, .string c.f3, .int .i64 c.f4, .int .i64 c.f5, .int .i64 c.f6, .int .u32 c.f7, .int .i64 c.f8, .int .i64 c.f9, .int .i64 c.f10, .slice A3 c.f11.length c3]) (t := 42) ?hr ?_; (case hd => rfl); (case hg => rfl); (case hr => first | (go_simp; done) | (go_simp; rfl)); intro g3 hg w_3 hk hb; have N23 := n1 B2 hg; have G3 := qM (show w.heap.size ≤ g3 by rw [hg]; exact HB.out.size); replace B2 := bb B2 hb; have B3 := qM hk; have HB := qM (below_step HB.out hb); clear hk hb hg; have ne23 := N23.out; have ne32 := Ne.symm N23.out; skip) | ((with_reducible refine gate_dst (N := 4) rfl ?_); (try (refine gate_guard (by rfl) ?_; dsimp only)); refine box_event ?hg (N := 4) ?hd (cs := #[.slice none 0 0, .slice none 0 0, .slice none 0 0]) (t := 26) ?hr ?_; (case hd => rfl); (case hg => rfl); (case hr => first | (go_simp; done) | (go_simp; rfl)); intro g4 hg w_4 hk hb; have N24 := n1 B2 hg; have N34 := n1 B3 hg; have G4 := qM (show w.heap.size ≤ g4 by rw [hg]; exact HB.out.size); replace B2 := bb B2 hb; replace B3 := bb B3 hb; have B4 := qM hk; have HB := qM (below_step HB.out hb); clear hk hb hg; have ne24 := N24.out; have ne42 := Ne.symm N24.out; have ne34 := N34.out; have ne43 := Ne.symm N34.out; skip) | ((with_reducible refine gate_dst (N := 5) rfl ?_); (try (refine gate_guard (by rfl) ?_; dsimp only)); refine box_event ?hg (N := 5) ?hd (cs := #[.int .i64 0, .int .i64 0, .int .i64 0, .int .i64 0, .int .u32 0, .bool false]) (t := 37) ?hr ?_; (case hd => rfl); (case hg => rfl); (case hr => first | (go_simp; done) | (go_simp; rfl)); intro g5 hg w_5 hk hb; have N25 := n1 B2 hg; have N35 := n1 B3 hg; have N45 := n1 B4 hg; have G5 := qM (show w.heap.size ≤ g5 by rw [hg]; exact HB.out.size); replace B2 := bb B2 hb; replace B3 := bb B3 hb; replace B4 := bb B4 hb; have B5 := qM hk; have HB := qM (below_step HB.out hb); clear hk hb hg; have ne25 := N25.out; have ne52 := Ne.symm N25.out; have ne35 := N35.out; have ne53 := Ne.symm N35.out; have ne45 := N45.out; have ne54 := Ne.symm N45.out; obtain ⟨z20, z21, z22, f20, f21, f22⟩ := cells3 B2.out; obtain ⟨z30, z31, z32, z33, z34, z35, z36, z37, z38, z39, z310, z311⟩ := cells12z B3.out; obtain ⟨z40, z41, z42, f40, f41, f42⟩ := cells3 B4.out; obtain ⟨z50, z51, z52, z53, z54, z55, f50, f51, f52, f53, f54, f55⟩ := cells6 B5.out) | (go_at_call 18; refine (HMAY.out (.slice A3 c.f11.length c3) _ (HS3.out.below HB.out).sl).mono ?_; rintro e w1 ⟨rfl, hb⟩; replace B2 := bb B2 hb; replace B3 := bb B3 hb; replace B4 := bb B4 hb; replace B5 := bb B5 hb; replace HB := qM (below_step HB.out hb); clear z20 z21 z22 f20 f21 f22 z30 z31 z32 z33 z34 z35 z36 z37 z38 z39 z310 z311 z40 z41 z42 f40 f41 f42 z50 z51 z52 z53 z54 z55 f50 f51 f52 f53 f54 f55; clear hb; obtain ⟨z20, z21, z22, f20, f21, f22⟩ := cells3 B2.out; obtain ⟨z30, z31, z32, z33, z34, z35, z36, z37, z38, z39, z310, z311⟩ := cells12z B3.out; obtain ⟨z40, z41, z42, f40, f41, f42⟩ := cells3 B4.out; obtain ⟨z50, z51, z52, z53, z54, z55, f50, f51, f52, f53, f54, f55⟩ := cells6 B5.out) | (go_at_call 20; refine (HLA.out _ _ _ _ (HS0.out.below HB.out).sl (HS1.out.below HB.out).sl (HS2.out.below HB.out).sl).mono ?_; rintro e w1 ⟨rfl, hb⟩; replace B2 := bb B2 hb; replace B3 := bb B3 hb; replace B4 := bb B4 hb; replace B5 := bb B5 hb; replace HB := qM (below_step HB.out hb); clear z20 z21 z22 f20 f21 f22 z30 z31 z32 z33 z34 z35 z36 z37 z38 z39 z310 z311 z40 z41 z42 f40 f41 f42 z50 z51 z52 z53 z54 z55 f50 f51 f52 f53 f54 f55; clear hb; obtain ⟨z20, z21, z22, f20, f21, f22⟩ := cells3 B2.out; obtain ⟨z30, z31, z32, z33, z34, z35, z36, z37, z38, z39, z310, z311⟩ := cells12z B3.out; obtain ⟨z40, z41, z42, f40, f41, f42⟩ := cells3 B4.out; obtain ⟨z50, z51, z52, z53, z54, z55, f50, f51, f52, f53, f54, f55⟩ := cells6 B5.out))
  obtain ⟨hx0, hx1, hx2, hx3, hx4, hx5, hx6, hx7⟩ := HX.out
  replace hx0 := held HB.out hx0
  replace hx1 := held HB.out hx1
  replace hx2 := held HB.out hx2
  replace hx3 := held HB.out hx3
  replace hx4 := held HB.out hx4
  replace hx5 := held HB.out hx5
  replace hx6 := held HB.out hx6
  replace hx7 := held HB.out hx7
  go_quiet (fail)
  replace B2 := qM (show (w1.drewN nq).heap[g2]? = _ from B2.out)
  replace B3 := qM (show (w1.drewN nq).heap[g3]? = _ from B3.out)
  replace B4 := qM (show (w1.drewN nq).heap[g4]? = _ from B4.out)
  replace B5 := qM (show (w1.drewN nq).heap[g5]? = _ from B5.out)
  replace HB := qM (pw_below_drewN HB.out nq)
  generalize w1.drewN nq = wq at HB B2 B3 B4 B5 ⊢
  clear z20 z21 z22 f20 f21 f22 z30 z31 z32 z33 z34 z35 z36 z37 z38 z39 z310 z311 z40 z41 z42 f40 f41 f42 z50 z51 z52 z53 z54 z55 f50 f51 f52 f53 f54 f55
  obtain ⟨z20, z21, z22, f20, f21, f22⟩ := cells3 B2.out; obtain ⟨z30, z31, z32, z33, z34, z35, z36, z37, z38, z39, z310, z311⟩ := cells12z B3.out; obtain ⟨z40, z41, z42, f40, f41, f42⟩ := cells3 B4.out; obtain ⟨z50, z51, z52, z53, z54, z55, f50, f51, f52, f53, f54, f55⟩ := cells6 B5.out
  clear hx0 hx1 hx2 hx3 hx4 hx5 hx6 hx7
  go_wp2
  obtain ⟨hx0, hx1, hx2, hx3, hx4, hx5, hx6, hx7⟩ := HX.out
  refine start_ (n := 9) (S := fun w' => w'.heap[g2]? = some (.cells #[.slice A0 l0.length c0, .slice A1 l1.length c1, .slice (some ad) l2.length c2] 26 (0, 0)) ∧ w'.cell? ⟨(ad.add (at_.toNat * 8)).block, (ad.add (at_.toNat * 8)).off + 2, none⟩ = some (.int .i64 (rd_T64 l2 at_).f2.f0) ∧ w'.cell? ⟨(ad.add (at_.toNat * 8)).block, (ad.add (at_.toNat * 8)).off + 3, none⟩ = some (.int .i64 (rd_T64 l2 at_).f2.f1) ∧ w'.cell? ⟨(ad.add (at_.toNat * 8)).block, (ad.add (at_.toNat * 8)).off + 4, none⟩ = some (.int .i64 (rd_T64 l2 at_).f2.f2) ∧ w'.cell? ⟨(ad.add (at_.toNat * 8)).block, (ad.add (at_.toNat * 8)).off + 5, none⟩ = some (.int .i64 (rd_T64 l2 at_).f2.f3) ∧ w'.cell? ⟨(ad.add (at_.toNat * 8)).block, (ad.add (at_.toNat * 8)).off + 6, none⟩ = some (.int .u32 (rd_T64 l2 at_).f2.f4) ∧ w'.cell? ⟨(ad.add (at_.toNat * 8)).block, (ad.add (at_.toNat * 8)).off + 7, none⟩ = some (.bool (rd_T64 l2 at_).f2.f5)) (ds := [8]) #[false, false, false, false, false, false, false, false, false] (by kernel_rfl) rfl rfl ⟨qD B2.out, held (below_drew1 HB.out) hx2, held (below_drew1 HB.out) hx3, held (below_drew1 HB.out) hx4, held (below_drew1 HB.out) hx5, held (below_drew1 HB.out) hx6, held (below_drew1 HB.out) hx7⟩ (fun hHeld => ?_)
  generalize hw : wq.drew = w14 at hHeld ⊢
  replace B2 := qM (show w14.heap[g2]? = _ from hw ▸ qD B2.out)
  replace B3 := qM (show w14.heap[g3]? = _ from hw ▸ qD B3.out)
  replace B4 := qM (show w14.heap[g4]? = _ from hw ▸ qD B4.out)
  replace B5 := qM (show w14.heap[g5]? = _ from hw ▸ qD B5.out)
  replace HB := qM (show Below w.heap.size w w14 from hw ▸ below_drew1 HB.out)
  clear z20 z21 z22 f20 f21 f22 z30 z31 z32 z33 z34 z35 z36 z37 z38 z39 z310 z311 z40 z41 z42 f40 f41 f42 z50 z51 z52 z53 z54 z55 f50 f51 f52 f53 f54 f55
  clear hw hx0 hx1 hx2 hx3 hx4 hx5 hx6 hx7
  refine take_ (i := 0) (N := some 38) (v := ?_) (a' := ?_) #[true, false, false, false, false, false, false, false, false] rfl rfl (by kernel_rfl) (fun _ _ _ h => h) (Or.inl ⟨by rfl, ?_⟩) hHeld ?_ ?_
  rotate_left
  · rintro w' ⟨b2, s2, s3, s4, s5, s6, s7⟩; obtain ⟨z20, z21, z22, f20, f21, f22⟩ := cells3 b2; go_simp; with_reducible rfl
  rotate_left
  · simp only [Act.put, xA, xZ, xS, i64_w, i32_w]; rfl
  refine pure_ (i := 1) (N := some 39) (v := ?_) (a' := ?_) #[true, true, false, false, false, false, false, false, false] rfl rfl (by kernel_rfl) (fun _ _ _ h => h) (Or.inl ⟨by rfl, ?_⟩) ?_ ?_
  rotate_left
  · intro w'; go_simp; with_reducible rfl
  rotate_left
  · simp only [Act.put, xA, xZ, xS, i64_w, i32_w]; rfl
  refine take_ (i := 2) (N := some 40) (v := ?_) (a' := ?_) #[true, true, true, false, false, false, false, false, false] rfl rfl (by kernel_rfl) (fun _ _ _ h => h) (Or.inl ⟨by rfl, ?_⟩) hHeld ?_ ?_
  rotate_left
  · rintro w' ⟨b2, s2, s3, s4, s5, s6, s7⟩; obtain ⟨z20, z21, z22, f20, f21, f22⟩ := cells3 b2; go_simp; with_reducible rfl
  rotate_left
  · simp only [Act.put, xA, xZ, xS, i64_w, i32_w]; rfl
  refine pure_ (i := 3) (N := some 41) (v := ?_) (a' := ?_) #[true, true, true, true, false, false, false, false, false] rfl rfl (by kernel_rfl) (fun _ _ _ h => h) (Or.inl ⟨by rfl, ?_⟩) ?_ ?_
  rotate_left
  · intro w'; go_simp; with_reducible rfl
  rotate_left
  · simp only [Act.put, xA, xZ, xS, i64_w, i32_w]; rfl
  refine pure_ (i := 4) (N := some 42) (v := ?_) (a' := ?_) #[true, true, true, true, true, false, false, false, false] rfl rfl (by kernel_rfl) (fun _ _ _ h => h) (Or.inl ⟨by rfl, ?_⟩) ?_ ?_
  rotate_left
  · intro w'; go_simp; with_reducible rfl
  rotate_left
  · simp only [Act.put, xA, xZ, xS, i64_w, i32_w]; rfl
  refine pure_ (i := 5) (N := some 43) (v := ?_) (a' := ?_) #[true, true, true, true, true, true, false, false, false] rfl rfl (by kernel_rfl) (fun _ _ _ h => h) (Or.inl ⟨by rfl, ?_⟩) ?_ ?_
  rotate_left
  · intro w'; go_simp; with_reducible rfl
  rotate_left
  · simp only [Act.put, xA, xZ, xS, i64_w, i32_w]; rfl
  refine take_ (i := 6) (N := some 44) (v := ?_) (a' := ?_) #[true, true, true, true, true, true, true, false, false] rfl rfl (by kernel_rfl) (fun _ _ _ h => h) (Or.inl ⟨by rfl, ?_⟩) hHeld ?_ ?_
  rotate_left
  · rintro w' ⟨b2, s2, s3, s4, s5, s6, s7⟩; obtain ⟨z20, z21, z22, f20, f21, f22⟩ := cells3 b2; go_simp; with_reducible rfl
  rotate_left
  · simp only [Act.put, xA, xZ, xS, i64_w, i32_w]; rfl
  obtain ⟨z20, z21, z22, f20, f21, f22⟩ := cells3 B2.out; obtain ⟨z30, z31, z32, z33, z34, z35, z36, z37, z38, z39, z310, z311⟩ := cells12z B3.out; obtain ⟨z40, z41, z42, f40, f41, f42⟩ := cells3 B4.out; obtain ⟨z50, z51, z52, z53, z54, z55, f50, f51, f52, f53, f54, f55⟩ := cells6 B5.out
  have HBX := qM ((((HB.out).setCell (p := ⟨g4, 0, none⟩) G4.out (.slice A0 l0.length c0)).setCell (p := ⟨g4, 1, none⟩) G4.out (.slice A1 l1.length c1)).setCell (p := ⟨g4, 2, none⟩) G4.out (.slice (some ad) l2.length c2))
  obtain ⟨hx0, hx1, hx2, hx3, hx4, hx5, hx6, hx7⟩ := HX.out
  refine one_ (i := 7) (N := none) #[true, true, true, true, true, true, true, true, false] rfl rfl (by kernel_rfl) (by decide) (fun K hK => ?_)
  refine skip_ (w1 := ?_) (by rfl) rfl ?_ ?_
  rotate_left
  · go_simp; rfl
  refine hK.out _ _ ⟨(blk_far (blk_far (blk_far B2.out N24.out (.slice A0 l0.length c0)) N24.out (.slice A1 l1.length c1)) N24.out (.slice (some ad) l2.length c2)), held HBX.out hx2, held HBX.out hx3, held HBX.out hx4, held HBX.out hx5, held HBX.out hx6, held HBX.out hx7⟩ (fun _ => ?_)
  clear hK K
  refine last_ (i := 8) (N := none) #[true, true, true, true, true, true, true, true, true] rfl rfl (by kernel_rfl) (by decide) (fun K hK => ?_)
  refine skip_ (w1 := ?_) (by rfl) rfl ?_ ?_
  rotate_left
  · go_simp; rfl
  refine hK.out _ _ ?_
  clear hK K
  refine done_ (by kernel_rfl) ?_
  clear hx0 hx1 hx2 hx3 hx4 hx5 hx6 hx7
  repeat go_step
  exact fin_cc rfl B4 B5 N45 HB G4 G5 rfl rfl rfl (fun hbf => ⟨_, _, _, l0, l1, l2, ⟨(rd_T64 l2 at_).f2.f0, (rd_T64 l2 at_).f2.f1, (rd_T64 l2 at_).f2.f2, (rd_T64 l2 at_).f2.f3, (rd_T64 l2 at_).f2.f4, (rd_T64 l2 at_).f2.f5⟩, rfl, HS0.out.below hbf, HS1.out.below hbf, HS2.out.below hbf, Nat.le_succ_of_le HM.out, HG.out.more (by omega), hbf⟩)


set_option maxHeartbeats 40000000 in
set_option maxRecDepth 100000 in
theorem do_e (Pq : Nat → Prop) (v0 v1 v2 v : Value) (l0 : List Vol) (l1 : List Nam) (l2 : List Ses) (c : Cmd) (w : World) (hPq : ∀ q, w.heap.size ≤ q → Pq q) (h0 : SlP Pq k45 w v0 l0) (h1 : SlP Pq k92 w v1 l1) (h2 : SlP Pq k64 w v2 l2) (h3 : SlP Pq k75 w v c.f11) (n m : Nat) (hg : Good n l0 l1) (hn : n ≤ 1000) (hm : l2.length ≤ m) (hm2 : m ≤ 1000) (rm : Bool) (hmay : ∀ (v : Value) (w : World), Sl k75 w v c.f11 → Calls Try.prog 18 #[cmdV c v] w fun e w' => e = .returned (.bool rm) ∧ Below w.heap.size w w') (cm : rm = true) (at_ : Int) (hla : LasC l0 l1 l2 c.f1 at_) (cc : c.f1 > 0) (ca : 0 ≤ at_) (cl : at_ < (l2.length : Int)) (ce : ¬(rd_T64 l2 at_).f1 = c.f2) (cg : (rd_T64 l2 at_).f1 > c.f2) : Calls Try.prog 13 #[.agg #[v0, v1, v2], cmdV c v] w (DoBack Pq (n + 1) (m + 1) w) := by
  obtain ⟨A0, c0, rfl, hc0, hr0⟩ := h0
  obtain ⟨A1, c1, rfl, hc1, hr1⟩ := h1
  obtain ⟨A2, c2, rfl, hc2, hr2⟩ := h2
  obtain ⟨A3, c3, rfl, hc3, hr3⟩ := h3
  have HS0 := qM (show SlP Pq k45 w (.slice A0 l0.length c0) l0 from ⟨A0, c0, rfl, hc0, hr0⟩)
  have HS1 := qM (show SlP Pq k92 w (.slice A1 l1.length c1) l1 from ⟨A1, c1, rfl, hc1, hr1⟩)
  have HS2 := qM (show SlP Pq k64 w (.slice A2 l2.length c2) l2 from ⟨A2, c2, rfl, hc2, hr2⟩)
  have HS3 := qM (show SlP Pq k75 w (.slice A3 c.f11.length c3) c.f11 from ⟨A3, c3, rfl, hc3, hr3⟩)
  have HR0 := qM hr0
  have HR1 := qM (Kd.F_now hr1)
  have HR2 := qM (Kd.F_now hr2)
  have HR3 := qM (Kd.F_now hr3)
  have HG := qM hg
  have HPQ := qM hPq
  clear hc0 hr0 hc1 hr1 hc2 hr2 hc3 hr3 hg hPq
  unfold cmdV
  have HN := qM hn
  have HM := qM hm
  have HM2 := qM hm2
  clear hn hm hm2
  have HMAY := qM hmay
  clear hmay
  subst cm
  have HLA := qM hla
  clear hla
  have d1 : decide (c.f1 > 0) = true := decide_eq_true cc
  have d2 : decide (at_ ≥ 0) = true := decide_eq_true ca
  have d2b : decide (0 ≤ at_) = true := decide_eq_true ca
  obtain ⟨ad, e, hx0, hx1, hx2, hx3, hx4, hx5, hx6, hx7⟩ := at_T64 HR2.out at_ ca cl
  cases e
  have HX := qM (And.intro hx0 (And.intro hx1 (And.intro hx2 (And.intro hx3 (And.intro hx4 (And.intro hx5 (And.intro hx6 hx7)))))))
  clear hx0 hx1 hx2 hx3 hx4 hx5 hx6 hx7
  have p0 := eq_true ca
  have p1 := eq_true cl
  have d3 : ((rd_T64 l2 at_).f1 == c.f2) = false := beq_eq_false_iff_ne.mpr ce
  have CE := qM ce
  clear ce
  have d4 : decide ((rd_T64 l2 at_).f1 > c.f2) = true := decide_eq_true cg
  have CG := qM cg
  clear cg
  go_enter Try.func13, Try.ntmps13
  go_wp2_with (first | ((with_reducible refine gate_dst (N := 2) rfl ?_); (try (refine gate_guard (by rfl) ?_; dsimp only)); refine box_event ?hg (N := 2) ?hd (cs := #[.slice A0 l0.length c0, .slice A1 l1.length c1, .slice (some ad) l2.length c2]) (t := 26) ?hr ?_; (case hd => rfl); (case hg => rfl); (case hr => first | (go_simp; done) | (go_simp; rfl)); intro g2 hg w_2 hk hb; have G2 := qM (show w.heap.size ≤ g2 by rw [hg]; exact Nat.le_refl _); have B2 := qM hk; have HB := qM (hb); clear hk hb hg; skip) | ((with_reducible refine gate_dst (N := 3) rfl ?_); (try (refine gate_guard (by rfl) ?_; dsimp only)); refine box_event ?hg (N := 3) ?hd (cs := #[.int .i64 c.f0, .int .i64 c.f1, .int .i64 c.f2, .string c.f3, .int .i64 c.f4, .int .i64 c.f5, .int .i64 c.f6, .int .u32 c.f7, .int .i64 c.f8, .int .i64 c.f9, .int .i64 c.f10, .slice A3 c.f11.length c3]) (t := 42) ?hr ?_; (case hd => rfl); (case hg => rfl); (case hr => first | (go_simp; done) | (go_simp; rfl)); intro g3 hg w_3 hk hb; have N23 := n1 B2 hg; have G3 := qM (show w.heap.size ≤ g3 by rw [hg]; exact HB.out.size); replace B2 := bb B2 hb; have B3 := qM hk; have HB := qM (below_step HB.out hb); clear hk hb hg; have ne23 := N23.out; have ne32 := Ne.symm N23.out; skip) | ((with_reducible refine gate_dst (N := 4) rfl ?_); (try (refine gate_guard (by rfl) ?_; dsimp only)); refine box_event ?hg (N := 4) ?hd (cs := #[.slice none 0 0, .slice none 0 0, .slice none 0 0]) (t := 26) ?hr ?_; (case hd => rfl); (case hg => rfl); (case hr => first | (go_simp; done) | (go_simp; rfl)); intro g4 hg w_4 hk hb; have N24 := n1 B2 hg; have N34 := n1 B3 hg; have G4 := qM (show w.heap.size ≤ g4 by rw [hg]; exact HB.out.size); replace B2 := bb B2 hb; replace B3 := bb B3 hb; have B4 := qM hk; have HB := qM (below_step HB.out hb); clear hk hb hg; have ne24 := N24.out; have ne42 := Ne.symm N24.out; have ne34 := N34.out; have ne43 := Ne.symm N34.out; skip) | ((with_reducible refine gate_dst (N := 5) rfl ?_); (try (refine gate_guard (by rfl) ?_; dsimp only)); refine box_event ?hg (N := 5) ?hd (cs := #[.int .i64 0, .int .i64 0, .int .i64 0, .int .i64 0, .int .u32 0, .bool false]) (t := 37) ?hr ?_; (case hd => rfl); (case hg => rfl); (case hr => first | (go_simp; done) | (go_simp; rfl)); intro g5 hg w_5 hk hb; have N25 := n1 B2 hg; have N35 := n1 B3 hg; have N45 := n1 B4 hg; have G5 := qM (show w.heap.size ≤ g5 by rw [hg]; exact HB.out.size); replace B2 := bb B2 hb; replace B3 := bb B3 hb; replace B4 := bb B4 hb; have B5 := qM hk; have HB := qM (below_step HB.out hb); clear hk hb hg; have ne25 := N25.out; have ne52 := Ne.symm N25.out; have ne35 := N35.out; have ne53 := Ne.symm N35.out; have ne45 := N45.out; have ne54 := Ne.symm N45.out; obtain ⟨z20, z21, z22, f20, f21, f22⟩ := cells3 B2.out; obtain ⟨z30, z31, z32, z33, z34, z35, z36, z37, z38, z39, z310, z311⟩ := cells12z B3.out; obtain ⟨z40, z41, z42, f40, f41, f42⟩ := cells3 B4.out; obtain ⟨z50, z51, z52, z53, z54, z55, f50, f51, f52, f53, f54, f55⟩ := cells6 B5.out) | (go_at_call 18; refine (HMAY.out (.slice A3 c.f11.length c3) _ (HS3.out.below HB.out).sl).mono ?_; rintro e w1 ⟨rfl, hb⟩; replace B2 := bb B2 hb; replace B3 := bb B3 hb; replace B4 := bb B4 hb; replace B5 := bb B5 hb; replace HB := qM (below_step HB.out hb); clear z20 z21 z22 f20 f21 f22 z30 z31 z32 z33 z34 z35 z36 z37 z38 z39 z310 z311 z40 z41 z42 f40 f41 f42 z50 z51 z52 z53 z54 z55 f50 f51 f52 f53 f54 f55; clear hb; obtain ⟨z20, z21, z22, f20, f21, f22⟩ := cells3 B2.out; obtain ⟨z30, z31, z32, z33, z34, z35, z36, z37, z38, z39, z310, z311⟩ := cells12z B3.out; obtain ⟨z40, z41, z42, f40, f41, f42⟩ := cells3 B4.out; obtain ⟨z50, z51, z52, z53, z54, z55, f50, f51, f52, f53, f54, f55⟩ := cells6 B5.out) | (go_at_call 20; refine (HLA.out _ _ _ _ (HS0.out.below HB.out).sl (HS1.out.below HB.out).sl (HS2.out.below HB.out).sl).mono ?_; rintro e w1 ⟨rfl, hb⟩; replace B2 := bb B2 hb; replace B3 := bb B3 hb; replace B4 := bb B4 hb; replace B5 := bb B5 hb; replace HB := qM (below_step HB.out hb); clear z20 z21 z22 f20 f21 f22 z30 z31 z32 z33 z34 z35 z36 z37 z38 z39 z310 z311 z40 z41 z42 f40 f41 f42 z50 z51 z52 z53 z54 z55 f50 f51 f52 f53 f54 f55; clear hb; obtain ⟨z20, z21, z22, f20, f21, f22⟩ := cells3 B2.out; obtain ⟨z30, z31, z32, z33, z34, z35, z36, z37, z38, z39, z310, z311⟩ := cells12z B3.out; obtain ⟨z40, z41, z42, f40, f41, f42⟩ := cells3 B4.out; obtain ⟨z50, z51, z52, z53, z54, z55, f50, f51, f52, f53, f54, f55⟩ := cells6 B5.out))
  obtain ⟨hx0, hx1, hx2, hx3, hx4, hx5, hx6, hx7⟩ := HX.out
  replace hx0 := held HB.out hx0
  replace hx1 := held HB.out hx1
  replace hx2 := held HB.out hx2
  replace hx3 := held HB.out hx3
  replace hx4 := held HB.out hx4
  replace hx5 := held HB.out hx5
  replace hx6 := held HB.out hx6
  replace hx7 := held HB.out hx7
  go_quiet (fail)
  replace B2 := qM (show (w1.drewN nq).heap[g2]? = _ from B2.out)
  replace B3 := qM (show (w1.drewN nq).heap[g3]? = _ from B3.out)
  replace B4 := qM (show (w1.drewN nq).heap[g4]? = _ from B4.out)
  replace B5 := qM (show (w1.drewN nq).heap[g5]? = _ from B5.out)
  replace HB := qM (pw_below_drewN HB.out nq)
  generalize w1.drewN nq = wq at HB B2 B3 B4 B5 ⊢
  clear z20 z21 z22 f20 f21 f22 z30 z31 z32 z33 z34 z35 z36 z37 z38 z39 z310 z311 z40 z41 z42 f40 f41 f42 z50 z51 z52 z53 z54 z55 f50 f51 f52 f53 f54 f55
  obtain ⟨z20, z21, z22, f20, f21, f22⟩ := cells3 B2.out; obtain ⟨z30, z31, z32, z33, z34, z35, z36, z37, z38, z39, z310, z311⟩ := cells12z B3.out; obtain ⟨z40, z41, z42, f40, f41, f42⟩ := cells3 B4.out; obtain ⟨z50, z51, z52, z53, z54, z55, f50, f51, f52, f53, f54, f55⟩ := cells6 B5.out
  clear hx0 hx1 hx2 hx3 hx4 hx5 hx6 hx7
  go_wp2
  obtain ⟨hx0, hx1, hx2, hx3, hx4, hx5, hx6, hx7⟩ := HX.out
  replace hx0 := held HB.out hx0
  replace hx1 := held HB.out hx1
  replace hx2 := held HB.out hx2
  replace hx3 := held HB.out hx3
  replace hx4 := held HB.out hx4
  replace hx5 := held HB.out hx5
  replace hx6 := held HB.out hx6
  replace hx7 := held HB.out hx7
  go_quiet (fail)
  replace B2 := qM (show (wq.drewN nq).heap[g2]? = _ from B2.out)
  replace B3 := qM (show (wq.drewN nq).heap[g3]? = _ from B3.out)
  replace B4 := qM (show (wq.drewN nq).heap[g4]? = _ from B4.out)
  replace B5 := qM (show (wq.drewN nq).heap[g5]? = _ from B5.out)
  replace HB := qM (pw_below_drewN HB.out nq)
  generalize wq.drewN nq = wr at HB B2 B3 B4 B5 ⊢
  clear z20 z21 z22 f20 f21 f22 z30 z31 z32 z33 z34 z35 z36 z37 z38 z39 z310 z311 z40 z41 z42 f40 f41 f42 z50 z51 z52 z53 z54 z55 f50 f51 f52 f53 f54 f55
  obtain ⟨z20, z21, z22, f20, f21, f22⟩ := cells3 B2.out; obtain ⟨z30, z31, z32, z33, z34, z35, z36, z37, z38, z39, z310, z311⟩ := cells12z B3.out; obtain ⟨z40, z41, z42, f40, f41, f42⟩ := cells3 B4.out; obtain ⟨z50, z51, z52, z53, z54, z55, f50, f51, f52, f53, f54, f55⟩ := cells6 B5.out
  clear hx0 hx1 hx2 hx3 hx4 hx5 hx6 hx7
  go_wp2
  refine wp_region_any (by kernel_rfl) ?_
  change wpAny _ _ _ _ _ _ _ (World.drew _)
  refine wpAny_ready (rs := [0, 1]) (by kernel_rfl) (by simp) ?_
  refine AllReady.cons rfl (fun K hK => ?_) (AllReady.cons rfl (fun K hK => ?_) AllReady.nil)
  · go_simp
    refine hK _ _ ?_
    clear hK K
    refine wpAny_ready (rs := [1]) (by kernel_rfl) (by simp) ?_
    refine AllReady.cons rfl (fun K hK => ?_) AllReady.nil
    go_simp
    refine (no_reads _ _).mono ?_
    rintro e w9 ⟨rfl, hb⟩
    replace B2 := bd B2 hb; replace B4 := bd B4 hb; replace B5 := bd B5 hb; replace HB := qM (below_step (below_drew1 HB.out) hb); clear z20 z21 z22 f20 f21 f22 z30 z31 z32 z33 z34 z35 z36 z37 z38 z39 z310 z311 z40 z41 z42 f40 f41 f42 z50 z51 z52 z53 z54 z55 f50 f51 f52 f53 f54 f55; clear hb; obtain ⟨z20, z21, z22, f20, f21, f22⟩ := cells3 B2.out; obtain ⟨z40, z41, z42, f40, f41, f42⟩ := cells3 B4.out; obtain ⟨z50, z51, z52, z53, z54, z55, f50, f51, f52, f53, f54, f55⟩ := cells6 B5.out
    dsimp only
    refine hK _ _ ?_
    clear hK K
    refine wpAny_ready (rs := [2]) (by kernel_rfl) (by simp) ?_
    refine AllReady.cons rfl (fun K hK => ?_) AllReady.nil
    go_simp
    refine hK _ _ ?_
    clear hK K
    refine wpAny_ready (rs := [3]) (by kernel_rfl) (by simp) ?_
    refine AllReady.cons rfl (fun K hK => ?_) AllReady.nil
    go_simp
    refine hK _ _ ?_
    clear hK K
    refine wpAny_done (by kernel_rfl) ?_ _
    repeat go_step
    exact fin_nod rfl HM B4 B5 N45 HB G4 G5 HS0 HS1 HS2 HG rfl rfl rfl
  · go_simp
    refine (no_reads _ _).mono ?_
    rintro e w9 ⟨rfl, hb⟩
    replace B2 := bd B2 hb; replace B4 := bd B4 hb; replace B5 := bd B5 hb; replace HB := qM (below_step (below_drew1 HB.out) hb); clear z20 z21 z22 f20 f21 f22 z30 z31 z32 z33 z34 z35 z36 z37 z38 z39 z310 z311 z40 z41 z42 f40 f41 f42 z50 z51 z52 z53 z54 z55 f50 f51 f52 f53 f54 f55; clear hb; obtain ⟨z20, z21, z22, f20, f21, f22⟩ := cells3 B2.out; obtain ⟨z40, z41, z42, f40, f41, f42⟩ := cells3 B4.out; obtain ⟨z50, z51, z52, z53, z54, z55, f50, f51, f52, f53, f54, f55⟩ := cells6 B5.out
    dsimp only
    refine hK _ _ ?_
    clear hK K
    refine wpAny_ready (rs := [0]) (by kernel_rfl) (by simp) ?_
    refine AllReady.cons rfl (fun K hK => ?_) AllReady.nil
    go_simp
    refine hK _ _ ?_
    clear hK K
    refine wpAny_ready (rs := [2]) (by kernel_rfl) (by simp) ?_
    refine AllReady.cons rfl (fun K hK => ?_) AllReady.nil
    go_simp
    refine hK _ _ ?_
    clear hK K
    refine wpAny_ready (rs := [3]) (by kernel_rfl) (by simp) ?_
    refine AllReady.cons rfl (fun K hK => ?_) AllReady.nil
    go_simp
    refine hK _ _ ?_
    clear hK K
    refine wpAny_done (by kernel_rfl) ?_ _
    repeat go_step
    exact fin_nod rfl HM B4 B5 N45 HB G4 G5 HS0 HS1 HS2 HG rfl rfl rfl

set_option maxHeartbeats 40000000 in
set_option maxRecDepth 100000 in
theorem do_f (Pq : Nat → Prop) (v0 v1 v2 v : Value) (l0 : List Vol) (l1 : List Nam) (l2 : List Ses) (c : Cmd) (w : World) (hPq : ∀ q, w.heap.size ≤ q → Pq q) (h0 : SlP Pq k45 w v0 l0) (h1 : SlP Pq k92 w v1 l1) (h2 : SlP Pq k64 w v2 l2) (h3 : SlP Pq k75 w v c.f11) (n m : Nat) (hg : Good n l0 l1) (hn : n ≤ 1000) (hm : l2.length ≤ m) (hm2 : m ≤ 1000) (rm : Bool) (hmay : ∀ (v : Value) (w : World), Sl k75 w v c.f11 → Calls Try.prog 18 #[cmdV c v] w fun e w' => e = .returned (.bool rm) ∧ Below w.heap.size w w') (cm : rm = true) (h10 : rm = true → 0 ≤ c.f10) (at_ : Int) (hla : LasC l0 l1 l2 c.f1 at_) (cc : c.f1 > 0) (ca : 0 ≤ at_) (cl : at_ < (l2.length : Int)) (ce : ¬(rd_T64 l2 at_).f1 = c.f2) (cg : ¬(rd_T64 l2 at_).f1 > c.f2) : Calls Try.prog 13 #[.agg #[v0, v1, v2], cmdV c v] w (DoBack Pq (n + 1) (m + 1) w) := by
  obtain ⟨A0, c0, rfl, hc0, hr0⟩ := h0
  obtain ⟨A1, c1, rfl, hc1, hr1⟩ := h1
  obtain ⟨A2, c2, rfl, hc2, hr2⟩ := h2
  obtain ⟨A3, c3, rfl, hc3, hr3⟩ := h3
  have HS0 := qM (show SlP Pq k45 w (.slice A0 l0.length c0) l0 from ⟨A0, c0, rfl, hc0, hr0⟩)
  have HS1 := qM (show SlP Pq k92 w (.slice A1 l1.length c1) l1 from ⟨A1, c1, rfl, hc1, hr1⟩)
  have HS2 := qM (show SlP Pq k64 w (.slice A2 l2.length c2) l2 from ⟨A2, c2, rfl, hc2, hr2⟩)
  have HS3 := qM (show SlP Pq k75 w (.slice A3 c.f11.length c3) c.f11 from ⟨A3, c3, rfl, hc3, hr3⟩)
  have HR0 := qM hr0
  have HR1 := qM (Kd.F_now hr1)
  have HR2 := qM (Kd.F_now hr2)
  have HR3 := qM (Kd.F_now hr3)
  have HG := qM hg
  have HPQ := qM hPq
  clear hc0 hr0 hc1 hr1 hc2 hr2 hc3 hr3 hg hPq
  unfold cmdV
  have HN := qM hn
  have HM := qM hm
  have HM2 := qM hm2
  clear hn hm hm2
  have HMAY := qM hmay
  clear hmay
  have H10 := qM (h10 cm)
  clear h10
  subst cm
  have HLA := qM hla
  clear hla
  have d1 : decide (c.f1 > 0) = true := decide_eq_true cc
  have d2 : decide (at_ ≥ 0) = true := decide_eq_true ca
  have d2b : decide (0 ≤ at_) = true := decide_eq_true ca
  obtain ⟨ad, e, hx0, hx1, hx2, hx3, hx4, hx5, hx6, hx7⟩ := at_T64 HR2.out at_ ca cl
  cases e
  have HX := qM (And.intro hx0 (And.intro hx1 (And.intro hx2 (And.intro hx3 (And.intro hx4 (And.intro hx5 (And.intro hx6 hx7)))))))
  clear hx0 hx1 hx2 hx3 hx4 hx5 hx6 hx7
  have p0 := eq_true ca
  have p1 := eq_true cl
  have d3 : ((rd_T64 l2 at_).f1 == c.f2) = false := beq_eq_false_iff_ne.mpr ce
  have CE := qM ce
  clear ce
  have d4 : decide ((rd_T64 l2 at_).f1 > c.f2) = false := decide_eq_false cg
  have CG := qM cg
  clear cg
  have d5 : decide (at_ < 0) = false := decide_eq_false (by omega)
  go_enter Try.func13, Try.ntmps13
  go_wp2_with (first | ((with_reducible refine gate_dst (N := 2) rfl ?_); (try (refine gate_guard (by rfl) ?_; dsimp only)); refine box_event ?hg (N := 2) ?hd (cs := #[.slice A0 l0.length c0, .slice A1 l1.length c1, .slice (some ad) l2.length c2]) (t := 26) ?hr ?_; (case hd => rfl); (case hg => rfl); (case hr => first | (go_simp; done) | (go_simp; rfl)); intro g2 hg w_2 hk hb; have G2 := qM (show w.heap.size ≤ g2 by rw [hg]; exact Nat.le_refl _); have B2 := qM hk; have HB := qM (hb); clear hk hb hg; skip) | ((with_reducible refine gate_dst (N := 3) rfl ?_); (try (refine gate_guard (by rfl) ?_; dsimp only)); refine box_event ?hg (N := 3) ?hd (cs := #[.int .i64 c.f0, .int .i64 c.f1, .int .i64 c.f2, .string c.f3, .int .i64 c.f4, .int .i64 c.f5, .int .i64 c.f6, .int .u32 c.f7, .int .i64 c.f8, .int .i64 c.f9, .int .i64 c.f10, .slice A3 c.f11.length c3]) (t := 42) ?hr ?_; (case hd => rfl); (case hg => rfl); (case hr => first | (go_simp; done) | (go_simp; rfl)); intro g3 hg w_3 hk hb; have N23 := n1 B2 hg; have G3 := qM (show w.heap.size ≤ g3 by rw [hg]; exact HB.out.size); replace B2 := bb B2 hb; have B3 := qM hk; have HB := qM (below_step HB.out hb); clear hk hb hg; have ne23 := N23.out; have ne32 := Ne.symm N23.out; skip) | ((with_reducible refine gate_dst (N := 4) rfl ?_); (try (refine gate_guard (by rfl) ?_; dsimp only)); refine box_event ?hg (N := 4) ?hd (cs := #[.slice none 0 0, .slice none 0 0, .slice none 0 0]) (t := 26) ?hr ?_; (case hd => rfl); (case hg => rfl); (case hr => first | (go_simp; done) | (go_simp; rfl)); intro g4 hg w_4 hk hb; have N24 := n1 B2 hg; have N34 := n1 B3 hg; have G4 := qM (show w.heap.size ≤ g4 by rw [hg]; exact HB.out.size); replace B2 := bb B2 hb; replace B3 := bb B3 hb; have B4 := qM hk; have HB := qM (below_step HB.out hb); clear hk hb hg; have ne24 := N24.out; have ne42 := Ne.symm N24.out; have ne34 := N34.out; have ne43 := Ne.symm N34.out; skip) | ((with_reducible refine gate_dst (N := 5) rfl ?_); (try (refine gate_guard (by rfl) ?_; dsimp only)); refine box_event ?hg (N := 5) ?hd (cs := #[.int .i64 0, .int .i64 0, .int .i64 0, .int .i64 0, .int .u32 0, .bool false]) (t := 37) ?hr ?_; (case hd => rfl); (case hg => rfl); (case hr => first | (go_simp; done) | (go_simp; rfl)); intro g5 hg w_5 hk hb; have N25 := n1 B2 hg; have N35 := n1 B3 hg; have N45 := n1 B4 hg; have G5 := qM (show w.heap.size ≤ g5 by rw [hg]; exact HB.out.size); replace B2 := bb B2 hb; replace B3 := bb B3 hb; replace B4 := bb B4 hb; have B5 := qM hk; have HB := qM (below_step HB.out hb); clear hk hb hg; have ne25 := N25.out; have ne52 := Ne.symm N25.out; have ne35 := N35.out; have ne53 := Ne.symm N35.out; have ne45 := N45.out; have ne54 := Ne.symm N45.out; obtain ⟨z20, z21, z22, f20, f21, f22⟩ := cells3 B2.out; obtain ⟨z30, z31, z32, z33, z34, z35, z36, z37, z38, z39, z310, z311⟩ := cells12z B3.out; obtain ⟨z40, z41, z42, f40, f41, f42⟩ := cells3 B4.out; obtain ⟨z50, z51, z52, z53, z54, z55, f50, f51, f52, f53, f54, f55⟩ := cells6 B5.out) | (go_at_call 18; refine (HMAY.out (.slice A3 c.f11.length c3) _ (HS3.out.below HB.out).sl).mono ?_; rintro e w1 ⟨rfl, hb⟩; replace B2 := bb B2 hb; replace B3 := bb B3 hb; replace B4 := bb B4 hb; replace B5 := bb B5 hb; replace HB := qM (below_step HB.out hb); clear z20 z21 z22 f20 f21 f22 z30 z31 z32 z33 z34 z35 z36 z37 z38 z39 z310 z311 z40 z41 z42 f40 f41 f42 z50 z51 z52 z53 z54 z55 f50 f51 f52 f53 f54 f55; clear hb; obtain ⟨z20, z21, z22, f20, f21, f22⟩ := cells3 B2.out; obtain ⟨z30, z31, z32, z33, z34, z35, z36, z37, z38, z39, z310, z311⟩ := cells12z B3.out; obtain ⟨z40, z41, z42, f40, f41, f42⟩ := cells3 B4.out; obtain ⟨z50, z51, z52, z53, z54, z55, f50, f51, f52, f53, f54, f55⟩ := cells6 B5.out) | (go_at_call 20; refine (HLA.out _ _ _ _ (HS0.out.below HB.out).sl (HS1.out.below HB.out).sl (HS2.out.below HB.out).sl).mono ?_; rintro e w1 ⟨rfl, hb⟩; replace B2 := bb B2 hb; replace B3 := bb B3 hb; replace B4 := bb B4 hb; replace B5 := bb B5 hb; replace HB := qM (below_step HB.out hb); clear z20 z21 z22 f20 f21 f22 z30 z31 z32 z33 z34 z35 z36 z37 z38 z39 z310 z311 z40 z41 z42 f40 f41 f42 z50 z51 z52 z53 z54 z55 f50 f51 f52 f53 f54 f55; clear hb; obtain ⟨z20, z21, z22, f20, f21, f22⟩ := cells3 B2.out; obtain ⟨z30, z31, z32, z33, z34, z35, z36, z37, z38, z39, z310, z311⟩ := cells12z B3.out; obtain ⟨z40, z41, z42, f40, f41, f42⟩ := cells3 B4.out; obtain ⟨z50, z51, z52, z53, z54, z55, f50, f51, f52, f53, f54, f55⟩ := cells6 B5.out))
  obtain ⟨hx0, hx1, hx2, hx3, hx4, hx5, hx6, hx7⟩ := HX.out
  replace hx0 := held HB.out hx0
  replace hx1 := held HB.out hx1
  replace hx2 := held HB.out hx2
  replace hx3 := held HB.out hx3
  replace hx4 := held HB.out hx4
  replace hx5 := held HB.out hx5
  replace hx6 := held HB.out hx6
  replace hx7 := held HB.out hx7
  go_quiet (fail)
  replace B2 := qM (show (w1.drewN nq).heap[g2]? = _ from B2.out)
  replace B3 := qM (show (w1.drewN nq).heap[g3]? = _ from B3.out)
  replace B4 := qM (show (w1.drewN nq).heap[g4]? = _ from B4.out)
  replace B5 := qM (show (w1.drewN nq).heap[g5]? = _ from B5.out)
  replace HB := qM (pw_below_drewN HB.out nq)
  generalize w1.drewN nq = wq at HB B2 B3 B4 B5 ⊢
  clear z20 z21 z22 f20 f21 f22 z30 z31 z32 z33 z34 z35 z36 z37 z38 z39 z310 z311 z40 z41 z42 f40 f41 f42 z50 z51 z52 z53 z54 z55 f50 f51 f52 f53 f54 f55
  obtain ⟨z20, z21, z22, f20, f21, f22⟩ := cells3 B2.out; obtain ⟨z30, z31, z32, z33, z34, z35, z36, z37, z38, z39, z310, z311⟩ := cells12z B3.out; obtain ⟨z40, z41, z42, f40, f41, f42⟩ := cells3 B4.out; obtain ⟨z50, z51, z52, z53, z54, z55, f50, f51, f52, f53, f54, f55⟩ := cells6 B5.out
  clear hx0 hx1 hx2 hx3 hx4 hx5 hx6 hx7
  go_wp2
  obtain ⟨hx0, hx1, hx2, hx3, hx4, hx5, hx6, hx7⟩ := HX.out
  replace hx0 := held HB.out hx0
  replace hx1 := held HB.out hx1
  replace hx2 := held HB.out hx2
  replace hx3 := held HB.out hx3
  replace hx4 := held HB.out hx4
  replace hx5 := held HB.out hx5
  replace hx6 := held HB.out hx6
  replace hx7 := held HB.out hx7
  go_quiet (fail)
  replace B2 := qM (show (wq.drewN nq).heap[g2]? = _ from B2.out)
  replace B3 := qM (show (wq.drewN nq).heap[g3]? = _ from B3.out)
  replace B4 := qM (show (wq.drewN nq).heap[g4]? = _ from B4.out)
  replace B5 := qM (show (wq.drewN nq).heap[g5]? = _ from B5.out)
  replace HB := qM (pw_below_drewN HB.out nq)
  generalize wq.drewN nq = wr at HB B2 B3 B4 B5 ⊢
  clear z20 z21 z22 f20 f21 f22 z30 z31 z32 z33 z34 z35 z36 z37 z38 z39 z310 z311 z40 z41 z42 f40 f41 f42 z50 z51 z52 z53 z54 z55 f50 f51 f52 f53 f54 f55
  obtain ⟨z20, z21, z22, f20, f21, f22⟩ := cells3 B2.out; obtain ⟨z30, z31, z32, z33, z34, z35, z36, z37, z38, z39, z310, z311⟩ := cells12z B3.out; obtain ⟨z40, z41, z42, f40, f41, f42⟩ := cells3 B4.out; obtain ⟨z50, z51, z52, z53, z54, z55, f50, f51, f52, f53, f54, f55⟩ := cells6 B5.out
  clear hx0 hx1 hx2 hx3 hx4 hx5 hx6 hx7
  go_wp2_with (first | (go_at_call 21; obtain ⟨S1, hS1⟩ : ∃ S, wr.heap.size = S := ⟨_, rfl⟩; have Z := qM (show S1 ≤ wr.heap.size from Nat.le_of_eq hS1.symm); have M2 := qM (show g2 < S1 from hS1 ▸ blk_lt B2.out); have M3 := qM (show g3 < S1 from hS1 ▸ blk_lt B3.out); have M4 := qM (show g4 < S1 from hS1 ▸ blk_lt B4.out); have M5 := qM (show g5 < S1 from hS1 ▸ blk_lt B5.out); clear hS1; refine (does_reads (fun q => Pq q ∧ (q < w.heap.size ∨ S1 ≤ q)) _ _ _ (.slice A3 c.f11.length c3) l0 l1 l2 c _ (fun q hq => ⟨HPQ.out q (Nat.le_trans HB.out.size hq), .inr (Nat.le_trans Z.out hq)⟩) ((SF.of_slP HS0.out).below HB.out) ((SF.of_slP HS1.out).below HB.out) ((SF.of_slP HS2.out).below HB.out) ((SF.of_slP HS3.out).below HB.out) n HG.out HN.out H10.out).mono ?_; rintro e w1 ⟨u0, u1, u2, L0, L1, r, rfl, hu0, hu1, hu2, hG2, hb⟩; unfold repV; obtain ⟨D0, d0, rfl⟩ := Kd.V_slice hu0; obtain ⟨D1, d1_, rfl⟩ := Kd.V_slice hu1; obtain ⟨D2, d2_, rfl⟩ := Kd.V_slice hu2; have HU0 := qM hu0; have HU1 := qM hu1; have HU2 := qM hu2; have HG2 := qM hG2; clear hu0 hu1 hu2 hG2; replace B2 := bb B2 hb; replace B3 := bb B3 hb; replace B4 := bb B4 hb; replace B5 := bb B5 hb; replace HB := qM (below_step HB.out hb); clear z20 z21 z22 f20 f21 f22 z30 z31 z32 z33 z34 z35 z36 z37 z38 z39 z310 z311 z40 z41 z42 f40 f41 f42 z50 z51 z52 z53 z54 z55 f50 f51 f52 f53 f54 f55; clear hb; obtain ⟨z20, z21, z22, f20, f21, f22⟩ := cells3 B2.out; obtain ⟨z30, z31, z32, z33, z34, z35, z36, z37, z38, z39, z310, z311⟩ := cells12z B3.out; obtain ⟨z40, z41, z42, f40, f41, f42⟩ := cells3 B4.out; obtain ⟨z50, z51, z52, z53, z54, z55, f50, f51, f52, f53, f54, f55⟩ := cells6 B5.out) | ((with_reducible refine gate_dst (N := 8) rfl ?_); (try (refine gate_guard (by rfl) ?_; dsimp only)); refine box_event ?hg (N := 8) ?hd (cs := #[.int .i64 0, .int .i64 0, .int .i64 0, .int .i64 0, .int .u32 0, .bool false]) (t := 37) ?hr ?_; (case hd => rfl); (case hg => rfl); (case hr => first | (go_simp; done) | (go_simp; rfl)); intro g8 hg w_8 hk hb; clear z20 z21 z22 f20 f21 f22 z30 z31 z32 z33 z34 z35 z36 z37 z38 z39 z310 z311 z40 z41 z42 f40 f41 f42 z50 z51 z52 z53 z54 z55 f50 f51 f52 f53 f54 f55; have N28 := n1 B2 hg; have N38 := n1 B3 hg; have N48 := n1 B4 hg; have N58 := n1 B5 hg; have G8 := qM (show w.heap.size ≤ g8 by rw [hg]; exact HB.out.size); replace B2 := bb B2 hb; replace B3 := bb B3 hb; replace B4 := bb B4 hb; replace B5 := bb B5 hb; have B8 := qM hk; have HB := qM (below_step HB.out hb); obtain ⟨BW, hBW⟩ : ∃ b, w_8.heap.size = b := ⟨_, rfl⟩; have HWB := qM hBW; clear hBW; have hsz := hb.size; have hwb := HWB.out; replace HU0 := qM (show SlP (fun q => Pq q ∧ q ≠ g2 ∧ q ≠ g4 ∧ q ≠ g5 ∧ q ≠ g8 ∧ q < BW) _ _ _ _ from (HU0.out.old (fun q hq hl => ⟨hq.1, by have := hq.2; have := G2.out; have := M2.out; omega, by have := hq.2; have := G4.out; have := M4.out; omega, by have := hq.2; have := G5.out; have := M5.out; omega, by omega, by omega⟩)).below hb); replace HU1 := qM (show SlP (fun q => Pq q ∧ q ≠ g2 ∧ q ≠ g4 ∧ q ≠ g5 ∧ q ≠ g8 ∧ q < BW) _ _ _ _ from (HU1.out.old (fun q hq hl => ⟨hq.1, by have := hq.2; have := G2.out; have := M2.out; omega, by have := hq.2; have := G4.out; have := M4.out; omega, by have := hq.2; have := G5.out; have := M5.out; omega, by omega, by omega⟩)).below hb); replace HU2 := qM (show SlP (fun q => Pq q ∧ q ≠ g2 ∧ q ≠ g4 ∧ q ≠ g5 ∧ q ≠ g8 ∧ q < BW) _ _ _ _ from (HU2.out.old (fun q hq hl => ⟨hq.1, by have := hq.2; have := G2.out; have := M2.out; omega, by have := hq.2; have := G4.out; have := M4.out; omega, by have := hq.2; have := G5.out; have := M5.out; omega, by omega, by omega⟩)).below hb); clear hsz hwb hk hb hg; have ne28 := N28.out; have ne82 := Ne.symm N28.out; have ne38 := N38.out; have ne83 := Ne.symm N38.out; have ne48 := N48.out; have ne84 := Ne.symm N48.out; have ne58 := N58.out; have ne85 := Ne.symm N58.out; obtain ⟨z20, z21, z22, f20, f21, f22⟩ := cells3 B2.out; obtain ⟨z30, z31, z32, z33, z34, z35, z36, z37, z38, z39, z310, z311⟩ := cells12z B3.out; obtain ⟨z40, z41, z42, f40, f41, f42⟩ := cells3 B4.out; obtain ⟨z50, z51, z52, z53, z54, z55, f50, f51, f52, f53, f54, f55⟩ := cells6 B5.out; obtain ⟨z80, z81, z82, z83, z84, z85, f80, f81, f82, f83, f84, f85⟩ := cells6 B8.out) | ((with_reducible refine gate_dst (N := 71) rfl ?_); generalize hst : (((((((((w_8.setCell ⟨g2, 0, none⟩ (.slice D0 L0.length d0)).setCell ⟨g2, 1, none⟩ (.slice D1 L1.length d1_)).setCell ⟨g2, 2, none⟩ (.slice D2 l2.length d2_)).setCell ⟨g8, 0, none⟩ (.int .i64 (r.f0))).setCell ⟨g8, 1, none⟩ (.int .i64 (r.f1))).setCell ⟨g8, 2, none⟩ (.int .i64 (r.f2))).setCell ⟨g8, 3, none⟩ (.int .i64 (r.f3))).setCell ⟨g8, 4, none⟩ (.int .u32 (r.f4))).setCell ⟨g8, 5, none⟩ (.bool r.f5)) = wf; replace B2 := qM (show wf.heap[g2]? = some (.cells #[.slice D0 L0.length d0, .slice D1 L1.length d1_, .slice D2 l2.length d2_] 26 (0, 0)) from hst ▸ (blk_far (blk_far (blk_far (blk_far (blk_far (blk_far (blk_put (blk_put (blk_put B2.out 0 (.slice D0 L0.length d0) rfl) 1 (.slice D1 L1.length d1_) rfl) 2 (.slice D2 l2.length d2_) rfl) N28.out (.int .i64 (r.f0))) N28.out (.int .i64 (r.f1))) N28.out (.int .i64 (r.f2))) N28.out (.int .i64 (r.f3))) N28.out (.int .u32 (r.f4))) N28.out (.bool r.f5))); replace B3 := qM (show wf.heap[g3]? = _ from hst ▸ (blk_far (blk_far (blk_far (blk_far (blk_far (blk_far (blk_far (blk_far (blk_far B3.out (Ne.symm N23.out) (.slice D0 L0.length d0)) (Ne.symm N23.out) (.slice D1 L1.length d1_)) (Ne.symm N23.out) (.slice D2 l2.length d2_)) N38.out (.int .i64 (r.f0))) N38.out (.int .i64 (r.f1))) N38.out (.int .i64 (r.f2))) N38.out (.int .i64 (r.f3))) N38.out (.int .u32 (r.f4))) N38.out (.bool r.f5))); replace B4 := qM (show wf.heap[g4]? = _ from hst ▸ (blk_far (blk_far (blk_far (blk_far (blk_far (blk_far (blk_far (blk_far (blk_far B4.out (Ne.symm N24.out) (.slice D0 L0.length d0)) (Ne.symm N24.out) (.slice D1 L1.length d1_)) (Ne.symm N24.out) (.slice D2 l2.length d2_)) N48.out (.int .i64 (r.f0))) N48.out (.int .i64 (r.f1))) N48.out (.int .i64 (r.f2))) N48.out (.int .i64 (r.f3))) N48.out (.int .u32 (r.f4))) N48.out (.bool r.f5))); replace B5 := qM (show wf.heap[g5]? = _ from hst ▸ (blk_far (blk_far (blk_far (blk_far (blk_far (blk_far (blk_far (blk_far (blk_far B5.out (Ne.symm N25.out) (.slice D0 L0.length d0)) (Ne.symm N25.out) (.slice D1 L1.length d1_)) (Ne.symm N25.out) (.slice D2 l2.length d2_)) N58.out (.int .i64 (r.f0))) N58.out (.int .i64 (r.f1))) N58.out (.int .i64 (r.f2))) N58.out (.int .i64 (r.f3))) N58.out (.int .u32 (r.f4))) N58.out (.bool r.f5))); replace B8 := qM (show wf.heap[g8]? = some (.cells #[.int .i64 (r.f0), .int .i64 (r.f1), .int .i64 (r.f2), .int .i64 (r.f3), .int .u32 (r.f4), .bool r.f5] 37 (0, 0)) from hst ▸ (blk_put (blk_put (blk_put (blk_put (blk_put (blk_put (blk_far (blk_far (blk_far B8.out (Ne.symm N28.out) (.slice D0 L0.length d0)) (Ne.symm N28.out) (.slice D1 L1.length d1_)) (Ne.symm N28.out) (.slice D2 l2.length d2_)) 0 (.int .i64 (r.f0)) rfl) 1 (.int .i64 (r.f1)) rfl) 2 (.int .i64 (r.f2)) rfl) 3 (.int .i64 (r.f3)) rfl) 4 (.int .u32 (r.f4)) rfl) 5 (.bool r.f5) rfl)); replace HB := qM (show Below w.heap.size w wf from hst ▸ (((((((((HB.out.setCell (p := ⟨g2, 0, none⟩) G2.out (.slice D0 L0.length d0)).setCell (p := ⟨g2, 1, none⟩) G2.out (.slice D1 L1.length d1_)).setCell (p := ⟨g2, 2, none⟩) G2.out (.slice D2 l2.length d2_)).setCell (p := ⟨g8, 0, none⟩) G8.out (.int .i64 (r.f0))).setCell (p := ⟨g8, 1, none⟩) G8.out (.int .i64 (r.f1))).setCell (p := ⟨g8, 2, none⟩) G8.out (.int .i64 (r.f2))).setCell (p := ⟨g8, 3, none⟩) G8.out (.int .i64 (r.f3))).setCell (p := ⟨g8, 4, none⟩) G8.out (.int .u32 (r.f4))).setCell (p := ⟨g8, 5, none⟩) G8.out (.bool r.f5))); replace HU0 := qM (show SlP (fun q => Pq q ∧ q ≠ g2 ∧ q ≠ g4 ∧ q ≠ g5 ∧ q ≠ g8 ∧ q < BW) k45 wf (.slice D0 L0.length d0) L0 from hst ▸ (SlP.far (p := ⟨g8, 5, none⟩) (SlP.far (p := ⟨g8, 4, none⟩) (SlP.far (p := ⟨g8, 3, none⟩) (SlP.far (p := ⟨g8, 2, none⟩) (SlP.far (p := ⟨g8, 1, none⟩) (SlP.far (p := ⟨g8, 0, none⟩) (SlP.far (p := ⟨g2, 2, none⟩) (SlP.far (p := ⟨g2, 1, none⟩) (SlP.far (p := ⟨g2, 0, none⟩) HU0.out (fun q hq => hq.2.1) (.slice D0 L0.length d0)) (fun q hq => hq.2.1) (.slice D1 L1.length d1_)) (fun q hq => hq.2.1) (.slice D2 l2.length d2_)) (fun q hq => hq.2.2.2.2.1) (.int .i64 (r.f0))) (fun q hq => hq.2.2.2.2.1) (.int .i64 (r.f1))) (fun q hq => hq.2.2.2.2.1) (.int .i64 (r.f2))) (fun q hq => hq.2.2.2.2.1) (.int .i64 (r.f3))) (fun q hq => hq.2.2.2.2.1) (.int .u32 (r.f4))) (fun q hq => hq.2.2.2.2.1) (.bool r.f5))); replace HU1 := qM (show SlP (fun q => Pq q ∧ q ≠ g2 ∧ q ≠ g4 ∧ q ≠ g5 ∧ q ≠ g8 ∧ q < BW) k92 wf (.slice D1 L1.length d1_) L1 from hst ▸ (SlP.far (p := ⟨g8, 5, none⟩) (SlP.far (p := ⟨g8, 4, none⟩) (SlP.far (p := ⟨g8, 3, none⟩) (SlP.far (p := ⟨g8, 2, none⟩) (SlP.far (p := ⟨g8, 1, none⟩) (SlP.far (p := ⟨g8, 0, none⟩) (SlP.far (p := ⟨g2, 2, none⟩) (SlP.far (p := ⟨g2, 1, none⟩) (SlP.far (p := ⟨g2, 0, none⟩) HU1.out (fun q hq => hq.2.1) (.slice D0 L0.length d0)) (fun q hq => hq.2.1) (.slice D1 L1.length d1_)) (fun q hq => hq.2.1) (.slice D2 l2.length d2_)) (fun q hq => hq.2.2.2.2.1) (.int .i64 (r.f0))) (fun q hq => hq.2.2.2.2.1) (.int .i64 (r.f1))) (fun q hq => hq.2.2.2.2.1) (.int .i64 (r.f2))) (fun q hq => hq.2.2.2.2.1) (.int .i64 (r.f3))) (fun q hq => hq.2.2.2.2.1) (.int .u32 (r.f4))) (fun q hq => hq.2.2.2.2.1) (.bool r.f5))); replace HU2 := qM (show SlP (fun q => Pq q ∧ q ≠ g2 ∧ q ≠ g4 ∧ q ≠ g5 ∧ q ≠ g8 ∧ q < BW) k64 wf (.slice D2 l2.length d2_) l2 from hst ▸ (SlP.far (p := ⟨g8, 5, none⟩) (SlP.far (p := ⟨g8, 4, none⟩) (SlP.far (p := ⟨g8, 3, none⟩) (SlP.far (p := ⟨g8, 2, none⟩) (SlP.far (p := ⟨g8, 1, none⟩) (SlP.far (p := ⟨g8, 0, none⟩) (SlP.far (p := ⟨g2, 2, none⟩) (SlP.far (p := ⟨g2, 1, none⟩) (SlP.far (p := ⟨g2, 0, none⟩) HU2.out (fun q hq => hq.2.1) (.slice D0 L0.length d0)) (fun q hq => hq.2.1) (.slice D1 L1.length d1_)) (fun q hq => hq.2.1) (.slice D2 l2.length d2_)) (fun q hq => hq.2.2.2.2.1) (.int .i64 (r.f0))) (fun q hq => hq.2.2.2.2.1) (.int .i64 (r.f1))) (fun q hq => hq.2.2.2.2.1) (.int .i64 (r.f2))) (fun q hq => hq.2.2.2.2.1) (.int .i64 (r.f3))) (fun q hq => hq.2.2.2.2.1) (.int .u32 (r.f4))) (fun q hq => hq.2.2.2.2.1) (.bool r.f5))); have hz : wf.heap.size = w_8.heap.size := hst ▸ (Eq.trans (World.size_set _ ⟨g8, 5, none⟩ (.bool r.f5)) (Eq.trans (World.size_set _ ⟨g8, 4, none⟩ (.int .u32 (r.f4))) (Eq.trans (World.size_set _ ⟨g8, 3, none⟩ (.int .i64 (r.f3))) (Eq.trans (World.size_set _ ⟨g8, 2, none⟩ (.int .i64 (r.f2))) (Eq.trans (World.size_set _ ⟨g8, 1, none⟩ (.int .i64 (r.f1))) (Eq.trans (World.size_set _ ⟨g8, 0, none⟩ (.int .i64 (r.f0))) (Eq.trans (World.size_set _ ⟨g2, 2, none⟩ (.slice D2 l2.length d2_)) (Eq.trans (World.size_set _ ⟨g2, 1, none⟩ (.slice D1 L1.length d1_)) (Eq.trans (World.size_set _ ⟨g2, 0, none⟩ (.slice D0 L0.length d0)) (rfl : w_8.heap.size = _)))))))))); replace HWB := qM (hz.trans HWB.out); clear hz; have HB0 := qM (show w.heap.size ≤ wf.heap.size from HB.out.size); have LT2 := qM (show g2 < BW from HWB.out ▸ blk_lt B2.out); have LT3 := qM (show g3 < BW from HWB.out ▸ blk_lt B3.out); have LT4 := qM (show g4 < BW from HWB.out ▸ blk_lt B4.out); have LT5 := qM (show g5 < BW from HWB.out ▸ blk_lt B5.out); have LT8 := qM (show g8 < BW from HWB.out ▸ blk_lt B8.out); clear hst; clear z20 z21 z22 f20 f21 f22 z30 z31 z32 z33 z34 z35 z36 z37 z38 z39 z310 z311 z40 z41 z42 f40 f41 f42 z50 z51 z52 z53 z54 z55 f50 f51 f52 f53 f54 f55 z80 z81 z82 z83 z84 z85 f80 f81 f82 f83 f84 f85; obtain ⟨z20, z21, z22, f20, f21, f22⟩ := cells3 B2.out; obtain ⟨z30, z31, z32, z33, z34, z35, z36, z37, z38, z39, z310, z311⟩ := cells12z B3.out; obtain ⟨z40, z41, z42, f40, f41, f42⟩ := cells3 B4.out; obtain ⟨z50, z51, z52, z53, z54, z55, f50, f51, f52, f53, f54, f55⟩ := cells6 B5.out; obtain ⟨z80, z81, z82, z83, z84, z85, f80, f81, f82, f83, f84, f85⟩ := cells6 B8.out) | ((with_reducible refine gate_dst (N := 74) rfl ?_); refine own_litL k64 64 rfl (N := 74) rfl (xs := []) (inner := []) (by first | (go_simp; done) | (go_simp; rfl)) (Reps.none _ _) (by simp) ?_; intro vt w3 ho hb; replace ho := Own.lower ho (Nat.le_of_eq HWB.out.symm); obtain ⟨At, ct3, et, hct, hrt⟩ := Kd.R_reads ho; dsimp only [List.length_nil] at et; subst et; have HO := qM ho; have HW3 := qM (show BW ≤ w3.heap.size from HWB.out ▸ hb.size); clear ho hct hrt; replace HU0 := qM (HU0.out.below hb); replace HU1 := qM (HU1.out.below hb); replace HU2 := qM (HU2.out.below hb); replace B2 := bb B2 hb; replace B3 := bb B3 hb; replace B4 := bb B4 hb; replace B5 := bb B5 hb; replace B8 := bb B8 hb; replace HB := qM (below_step HB.out hb); clear z20 z21 z22 f20 f21 f22 z30 z31 z32 z33 z34 z35 z36 z37 z38 z39 z310 z311 z40 z41 z42 f40 f41 f42 z50 z51 z52 z53 z54 z55 f50 f51 f52 f53 f54 f55 z80 z81 z82 z83 z84 z85 f80 f81 f82 f83 f84 f85; clear hb; obtain ⟨z20, z21, z22, f20, f21, f22⟩ := cells3 B2.out; obtain ⟨z30, z31, z32, z33, z34, z35, z36, z37, z38, z39, z310, z311⟩ := cells12z B3.out; obtain ⟨z40, z41, z42, f40, f41, f42⟩ := cells3 B4.out; obtain ⟨z50, z51, z52, z53, z54, z55, f50, f51, f52, f53, f54, f55⟩ := cells6 B5.out; obtain ⟨z80, z81, z82, z83, z84, z85, f80, f81, f82, f83, f84, f85⟩ := cells6 B8.out) | ((with_reducible refine gate_dst (N := 77) rfl ?_); refine own_appL k64 BW rfl (N := 77) rfl (.tmp 74) (.tmp 76) 24 64 (.agg #[.int .i64 0, .int .i64 0, .int .i64 0, .int .i64 0, .int .i64 0, .int .i64 0, .int .u32 0, .bool false]) 56 rfl Try.underlying24 infoSes rfl (by decide) (by omega) _ [] l2 D2 _ d2_ (by rfl) (by rfl) HO.out (Kd.V_reads' HU2.out).2.2 (fun _ _ h => h) HW3.out (by have := HM.out; have := HM2.out; simp only [List.length_nil]; omega) ?_; intro v1 w4 ho hb hg; obtain ⟨LS, eLS⟩ : ∃ L : List Ses, L = [] ++ l2 := ⟨_, rfl⟩; rw [← eLS] at ho; have HLS := qM (show LS.length = l2.length by rw [eLS]; rfl); clear eLS; obtain ⟨gS, cS, eS, hgS, hlS, curS, hcS⟩ := Kd.R_form ho (by have := HLS.out; omega); subst eS; have HGS := qM hgS; clear hgS hlS hcS; have p3 : (at_ < (LS.length : Int)) = True := eq_true (by have := HLS.out; omega); have HO2 := qM ho; have HW4 := qM (Nat.le_trans HW3.out hb.size); replace HU0 := qM (show SlP (fun q => Pq q ∧ q ≠ g2 ∧ q ≠ g4 ∧ q ≠ g5 ∧ q ≠ g8 ∧ q < BW) _ _ _ _ from Kd.V_step HU0.out (fun k hk _ => hb.block k hk.2.2.2.2.2)); replace HU1 := qM (show SlP (fun q => Pq q ∧ q ≠ g2 ∧ q ≠ g4 ∧ q ≠ g5 ∧ q ≠ g8 ∧ q < BW) _ _ _ _ from Kd.V_step HU1.out (fun k hk _ => hb.block k hk.2.2.2.2.2)); replace B2 := qM ((hb.block g2 LT2.out).trans B2.out); replace B3 := qM ((hb.block g3 LT3.out).trans B3.out); replace B4 := qM ((hb.block g4 LT4.out).trans B4.out); replace B5 := qM ((hb.block g5 LT5.out).trans B5.out); replace B8 := qM ((hb.block g8 LT8.out).trans B8.out); replace HB := qM (HB.out.trans (below_less hb (Nat.le_trans HB0.out (Nat.le_of_eq HWB.out)))); clear ho hb hg HO HW3 HU2; clear z20 z21 z22 f20 f21 f22 z30 z31 z32 z33 z34 z35 z36 z37 z38 z39 z310 z311 z40 z41 z42 f40 f41 f42 z50 z51 z52 z53 z54 z55 f50 f51 f52 f53 f54 f55 z80 z81 z82 z83 z84 z85 f80 f81 f82 f83 f84 f85; obtain ⟨z20, z21, z22, f20, f21, f22⟩ := cells3 B2.out; obtain ⟨z30, z31, z32, z33, z34, z35, z36, z37, z38, z39, z310, z311⟩ := cells12z B3.out; obtain ⟨z40, z41, z42, f40, f41, f42⟩ := cells3 B4.out; obtain ⟨z50, z51, z52, z53, z54, z55, f50, f51, f52, f53, f54, f55⟩ := cells6 B5.out; obtain ⟨z80, z81, z82, z83, z84, z85, f80, f81, f82, f83, f84, f85⟩ := cells6 B8.out) | ((with_reducible refine gate_dst (N := 79) rfl ?_); generalize hst : (w4.setCell ⟨g2, 2, none⟩ (.slice (some ⟨gS, 0, none⟩) LS.length cS)) = w5; replace B2 := qM (show w5.heap[g2]? = some (.cells #[.slice D0 L0.length d0, .slice D1 L1.length d1_, .slice (some ⟨gS, 0, none⟩) LS.length cS] 26 (0, 0)) from hst ▸ (blk_put B2.out 2 (.slice (some ⟨gS, 0, none⟩) LS.length cS) rfl)); replace B3 := qM (show w5.heap[g3]? = _ from hst ▸ (blk_far B3.out (Ne.symm N23.out) (.slice (some ⟨gS, 0, none⟩) LS.length cS))); replace B4 := qM (show w5.heap[g4]? = _ from hst ▸ (blk_far B4.out (Ne.symm N24.out) (.slice (some ⟨gS, 0, none⟩) LS.length cS))); replace B5 := qM (show w5.heap[g5]? = _ from hst ▸ (blk_far B5.out (Ne.symm N25.out) (.slice (some ⟨gS, 0, none⟩) LS.length cS))); replace B8 := qM (show w5.heap[g8]? = some (.cells #[.int .i64 (r.f0), .int .i64 (r.f1), .int .i64 (r.f2), .int .i64 (r.f3), .int .u32 (r.f4), .bool r.f5] 37 (0, 0)) from hst ▸ (blk_far B8.out (Ne.symm N28.out) (.slice (some ⟨gS, 0, none⟩) LS.length cS))); replace HB := qM (show Below w.heap.size w w5 from hst ▸ (HB.out.setCell (p := ⟨g2, 2, none⟩) G2.out (.slice (some ⟨gS, 0, none⟩) LS.length cS))); replace HU0 := qM (show SlP (fun q => Pq q ∧ q ≠ g2 ∧ q ≠ g4 ∧ q ≠ g5 ∧ q ≠ g8 ∧ q < BW) k45 w5 (.slice D0 L0.length d0) L0 from hst ▸ (SlP.far (p := ⟨g2, 2, none⟩) HU0.out (fun q hq => hq.2.1) (.slice (some ⟨gS, 0, none⟩) LS.length cS))); replace HU1 := qM (show SlP (fun q => Pq q ∧ q ≠ g2 ∧ q ≠ g4 ∧ q ≠ g5 ∧ q ≠ g8 ∧ q < BW) k92 w5 (.slice D1 L1.length d1_) L1 from hst ▸ (SlP.far (p := ⟨g2, 2, none⟩) HU1.out (fun q hq => hq.2.1) (.slice (some ⟨gS, 0, none⟩) LS.length cS))); have hz : w5.heap.size = w4.heap.size := hst ▸ (Eq.trans (World.size_set _ ⟨g2, 2, none⟩ (.slice (some ⟨gS, 0, none⟩) LS.length cS)) (rfl : w4.heap.size = _)); replace HO2 := qM (show Own k64 64 w5 BW (.slice (some ⟨gS, 0, none⟩) LS.length cS) LS from hst ▸ Kd.R_far (p := ⟨g2, 2, none⟩) HO2.out (fun q hq => by have := LT2.out; show q ≠ g2; omega) (.slice (some ⟨gS, 0, none⟩) LS.length cS)); replace HW4 := qM (show BW ≤ w5.heap.size by rw [hz]; exact HW4.out); clear hz; clear hst; clear z20 z21 z22 f20 f21 f22 z30 z31 z32 z33 z34 z35 z36 z37 z38 z39 z310 z311 z40 z41 z42 f40 f41 f42 z50 z51 z52 z53 z54 z55 f50 f51 f52 f53 f54 f55 z80 z81 z82 z83 z84 z85 f80 f81 f82 f83 f84 f85; obtain ⟨z20, z21, z22, f20, f21, f22⟩ := cells3 B2.out; obtain ⟨z30, z31, z32, z33, z34, z35, z36, z37, z38, z39, z310, z311⟩ := cells12z B3.out; obtain ⟨z40, z41, z42, f40, f41, f42⟩ := cells3 B4.out; obtain ⟨z50, z51, z52, z53, z54, z55, f50, f51, f52, f53, f54, f55⟩ := cells6 B5.out; obtain ⟨z80, z81, z82, z83, z84, z85, f80, f81, f82, f83, f84, f85⟩ := cells6 B8.out) | ((with_reducible refine gate_dst (N := 93) rfl ?_); obtain ⟨g9, w9, hg, hw, hk, hb⟩ := box_new w5 #[.int .i64 c.f1, .int .i64 c.f2, .int .i64 (r.f0), .int .i64 (r.f1), .int .i64 (r.f2), .int .i64 (r.f3), .int .u32 (r.f4), .bool r.f5] 64; rw [hw, hg]; have N29 := n2 B2 hg; have N39 := n2 B3 hg; have N49 := n2 B4 hg; have N59 := n2 B5 hg; have N89 := n2 B8 hg; replace B2 := bb B2 hb; replace B3 := bb B3 hb; replace B4 := bb B4 hb; replace B5 := bb B5 hb; replace B8 := bb B8 hb; have G9 := qM (show w.heap.size ≤ g9 by rw [← hg]; exact HB.out.size); replace HB := qM (below_step HB.out hb); have B9 := qM hk; clear z20 z21 z22 f20 f21 f22 z30 z31 z32 z33 z34 z35 z36 z37 z38 z39 z310 z311 z40 z41 z42 f40 f41 f42 z50 z51 z52 z53 z54 z55 f50 f51 f52 f53 f54 f55 z80 z81 z82 z83 z84 z85 f80 f81 f82 f83 f84 f85; replace HO2 := qM (Own.below HO2.out hb); replace HW4 := qM (Nat.le_trans HW4.out hb.size); replace HU0 := qM (HU0.out.below hb); replace HU1 := qM (HU1.out.below hb); clear hk hb hg hw; obtain ⟨z20, z21, z22, f20, f21, f22⟩ := cells3 B2.out; obtain ⟨z30, z31, z32, z33, z34, z35, z36, z37, z38, z39, z310, z311⟩ := cells12z B3.out; obtain ⟨z40, z41, z42, f40, f41, f42⟩ := cells3 B4.out; obtain ⟨z50, z51, z52, z53, z54, z55, f50, f51, f52, f53, f54, f55⟩ := cells6 B5.out; obtain ⟨z80, z81, z82, z83, z84, z85, f80, f81, f82, f83, f84, f85⟩ := cells6 B8.out; obtain ⟨z90, z91, z92, z93, z94, z95, z96, z97, f90, f91, f92, f93, f94, f95, f96, f97⟩ := cells8 B9.out; have ne29 := N29.out; have ne92 := Ne.symm N29.out; have ne39 := N39.out; have ne93 := Ne.symm N39.out; have ne49 := N49.out; have ne94 := Ne.symm N49.out; have ne59 := N59.out; have ne95 := Ne.symm N59.out; have ne89 := N89.out; have ne98 := Ne.symm N89.out) | ((refine gate_ (.store 64 (.tmp 97) (.tmp 96)) rfl ?_); obtain ⟨adS, cOld, eS2, hclS, hKS, hccS⟩ := Kd.C_get (Kd.R_reads' HO2.out).2.2 z64 at_ ca (by have := HLS.out; omega); cases eS2; simp only [add_off] at hccS; have hMM : cOld.take 0 ++ [.int .i64 c.f1, .int .i64 c.f2, .int .i64 (r.f0), .int .i64 (r.f1), .int .i64 (r.f2), .int .i64 (r.f3), .int .u32 (r.f4), .bool r.f5] ++ cOld.drop (0 + 8) = [.int .i64 c.f1, .int .i64 c.f2, .int .i64 (r.f0), .int .i64 (r.f1), .int .i64 (r.f2), .int .i64 (r.f3), .int .u32 (r.f4), .bool r.f5] := (by rw [List.take_zero, List.nil_append, List.drop_of_length_le (by rw [hclS]; exact Nat.le_refl 8), List.append_nil]); refine Kd.R_store k64 BW rfl rfl 64 (.tmp 97) (.tmp 96) rfl 64 at_ 0 LS (⟨c.f1, c.f2, r⟩ : Ses) (.agg #[.int .i64 c.f1, .int .i64 c.f2, .int .i64 (r.f0), .int .i64 (r.f1), .int .i64 (r.f2), .int .i64 (r.f3), .int .u32 (r.f4), .bool r.f5]) [.int .i64 c.f1, .int .i64 c.f2, .int .i64 (r.f0), .int .i64 (r.f1), .int .i64 (r.f2), .int .i64 (r.f3), .int .u32 (r.f4), .bool r.f5] cOld (fun k => BW ≤ k) (fun _ => False) (by rfl) (by rfl) (by rfl) rfl (by kernel_rfl) (by intro q hq; simp only [List.mem_cons, List.not_mem_nil, or_false] at hq; rcases hq with rfl | rfl | rfl | rfl | rfl | rfl | rfl | rfl <;> rfl) HO2.out ca (by have := HLS.out; omega) hclS hccS (show (8 : Nat) ≤ 8 from Nat.le_refl 8) (by show k64.M _ _ _ _ (cOld.take 0 ++ [.int .i64 c.f1, .int .i64 c.f2, .int .i64 (r.f0), .int .i64 (r.f1), .int .i64 (r.f2), .int .i64 (r.f3), .int .u32 (r.f4), .bool r.f5] ++ cOld.drop (0 + 8)); rw [hMM]; exact k64_mkM _ _ _ (⟨c.f1, c.f2, r⟩ : Ses)) (fun _ h => h.elim) (Below.refl _ _) ?_; intro w7 ho hb hg; clear hclS hKS hccS hMM; obtain ⟨LT, eLT⟩ : ∃ L : List Ses, L = LS.set at_.toNat (⟨c.f1, c.f2, r⟩ : Ses) := ⟨_, rfl⟩; rw [← eLT] at ho; have HLT := qM (show LT.length = LS.length by rw [eLT, List.length_set]); clear eLT; have HO3 := qM ho; replace HU0 := qM (show SlP (fun q => Pq q ∧ q ≠ g2 ∧ q ≠ g4 ∧ q ≠ g5 ∧ q ≠ g8 ∧ q < BW) _ _ _ _ from Kd.V_step HU0.out (fun k hk _ => hb.block k hk.2.2.2.2.2)); replace HU1 := qM (show SlP (fun q => Pq q ∧ q ≠ g2 ∧ q ≠ g4 ∧ q ≠ g5 ∧ q ≠ g8 ∧ q < BW) _ _ _ _ from Kd.V_step HU1.out (fun k hk _ => hb.block k hk.2.2.2.2.2)); replace B2 := qM ((hb.block g2 LT2.out).trans B2.out); replace B3 := qM ((hb.block g3 LT3.out).trans B3.out); replace B4 := qM ((hb.block g4 LT4.out).trans B4.out); replace B5 := qM ((hb.block g5 LT5.out).trans B5.out); replace B8 := qM ((hb.block g8 LT8.out).trans B8.out); replace HB := qM (HB.out.trans (below_less hb (Nat.le_trans HB0.out (Nat.le_of_eq HWB.out)))); clear ho hb hg HO2 HW4; clear B9 z90 f90 z91 f91 z92 f92 z93 f93 z94 f94 z95 f95 z96 f96 z97 f97; clear z20 z21 z22 f20 f21 f22 z30 z31 z32 z33 z34 z35 z36 z37 z38 z39 z310 z311 z40 z41 z42 f40 f41 f42 z50 z51 z52 z53 z54 z55 f50 f51 f52 f53 f54 f55 z80 z81 z82 z83 z84 z85 f80 f81 f82 f83 f84 f85; obtain ⟨z20, z21, z22, f20, f21, f22⟩ := cells3 B2.out; obtain ⟨z30, z31, z32, z33, z34, z35, z36, z37, z38, z39, z310, z311⟩ := cells12z B3.out; obtain ⟨z40, z41, z42, f40, f41, f42⟩ := cells3 B4.out; obtain ⟨z50, z51, z52, z53, z54, z55, f50, f51, f52, f53, f54, f55⟩ := cells6 B5.out; obtain ⟨z80, z81, z82, z83, z84, z85, f80, f81, f82, f83, f84, f85⟩ := cells6 B8.out))
  have HS3x := qM (SlP.of_own (P := (fun q => Pq q ∧ q ≠ g2 ∧ q ≠ g4 ∧ q ≠ g5 ∧ q ≠ g8)) HO3.out (fun q hq => ⟨HPQ.out q (Nat.le_trans HB0.out (Nat.le_trans (Nat.le_of_eq HWB.out) hq)), Nat.ne_of_gt (Nat.lt_of_lt_of_le LT2.out hq), Nat.ne_of_gt (Nat.lt_of_lt_of_le LT4.out hq), Nat.ne_of_gt (Nat.lt_of_lt_of_le LT5.out hq), Nat.ne_of_gt (Nat.lt_of_lt_of_le LT8.out hq)⟩))
  clear HO3
  refine start_ (n := 4) (S := fun w' => w'.heap[g2]? = some (.cells #[.slice D0 L0.length d0, .slice D1 L1.length d1_, .slice (some ⟨gS, 0, none⟩) LS.length cS] 26 (0, 0)) ∧ w'.heap[g8]? = some (.cells #[.int .i64 (r.f0), .int .i64 (r.f1), .int .i64 (r.f2), .int .i64 (r.f3), .int .u32 (r.f4), .bool r.f5] 37 (0, 0))) (ds := [3]) #[false, false, false, false] (by kernel_rfl) rfl rfl ⟨qD B2.out, qD B8.out⟩ (fun hHeld => ?_)
  generalize hw : w7.drew = w14 at hHeld ⊢
  replace B2 := qM (show w14.heap[g2]? = _ from hw ▸ qD B2.out)
  replace B3 := qM (show w14.heap[g3]? = _ from hw ▸ qD B3.out)
  replace B4 := qM (show w14.heap[g4]? = _ from hw ▸ qD B4.out)
  replace B5 := qM (show w14.heap[g5]? = _ from hw ▸ qD B5.out)
  replace B8 := qM (show w14.heap[g8]? = _ from hw ▸ qD B8.out)
  replace HB := qM (show Below w.heap.size w w14 from hw ▸ below_drew1 HB.out)
  replace HU0 := qM (hw ▸ (show SlP _ _ w7.drew _ _ from Kd.V_drew HU0.out))
  replace HU1 := qM (hw ▸ (show SlP _ _ w7.drew _ _ from Kd.V_drew HU1.out))
  replace HS3x := qM (hw ▸ (show SlP _ _ w7.drew _ _ from Kd.V_drew HS3x.out))
  clear z20 z21 z22 f20 f21 f22 z30 z31 z32 z33 z34 z35 z36 z37 z38 z39 z310 z311 z40 z41 z42 f40 f41 f42 z50 z51 z52 z53 z54 z55 f50 f51 f52 f53 f54 f55 z80 z81 z82 z83 z84 z85 f80 f81 f82 f83 f84 f85
  clear hw
  refine take_ (i := 0) (N := some 98) (v := ?_) (a' := ?_) #[true, false, false, false] rfl rfl (by kernel_rfl) (fun _ _ _ h => h) (Or.inl ⟨by rfl, ?_⟩) hHeld ?_ ?_
  rotate_left
  · rintro w' ⟨b2, b8⟩; obtain ⟨z20, z21, z22, f20, f21, f22⟩ := cells3 b2; obtain ⟨z80, z81, z82, z83, z84, z85, f80, f81, f82, f83, f84, f85⟩ := cells6 b8; go_simp; with_reducible rfl
  rotate_left
  · simp only [Act.put, xA, xZ, xS, i64_w, i32_w]; rfl
  refine take_ (i := 1) (N := some 99) (v := ?_) (a' := ?_) #[true, true, false, false] rfl rfl (by kernel_rfl) (fun _ _ _ h => h) (Or.inl ⟨by rfl, ?_⟩) hHeld ?_ ?_
  rotate_left
  · rintro w' ⟨b2, b8⟩; obtain ⟨z20, z21, z22, f20, f21, f22⟩ := cells3 b2; obtain ⟨z80, z81, z82, z83, z84, z85, f80, f81, f82, f83, f84, f85⟩ := cells6 b8; go_simp; with_reducible rfl
  rotate_left
  · simp only [Act.put, xA, xZ, xS, i64_w, i32_w]; rfl
  obtain ⟨z20, z21, z22, f20, f21, f22⟩ := cells3 B2.out; obtain ⟨z30, z31, z32, z33, z34, z35, z36, z37, z38, z39, z310, z311⟩ := cells12z B3.out; obtain ⟨z40, z41, z42, f40, f41, f42⟩ := cells3 B4.out; obtain ⟨z50, z51, z52, z53, z54, z55, f50, f51, f52, f53, f54, f55⟩ := cells6 B5.out; obtain ⟨z80, z81, z82, z83, z84, z85, f80, f81, f82, f83, f84, f85⟩ := cells6 B8.out
  refine one_ (i := 2) (N := none) #[true, true, true, false] rfl rfl (by kernel_rfl) (by decide) (fun K hK => ?_)
  refine skip_ (w1 := ?_) (by rfl) rfl ?_ ?_
  rotate_left
  · go_simp; rfl
  refine hK.out _ _ ⟨(blk_far (blk_far (blk_far B2.out N24.out (.slice D0 L0.length d0)) N24.out (.slice D1 L1.length d1_)) N24.out (.slice (some ⟨gS, 0, none⟩) LS.length cS)), (blk_far (blk_far (blk_far B8.out (Ne.symm N48.out) (.slice D0 L0.length d0)) (Ne.symm N48.out) (.slice D1 L1.length d1_)) (Ne.symm N48.out) (.slice (some ⟨gS, 0, none⟩) LS.length cS))⟩ (fun _ => ?_)
  clear hK K
  refine last_ (i := 3) (N := none) #[true, true, true, true] rfl rfl (by kernel_rfl) (by decide) (fun K hK => ?_)
  refine skip_ (w1 := ?_) (by rfl) rfl ?_ ?_
  rotate_left
  · go_simp; rfl
  refine hK.out _ _ ?_
  clear hK K
  refine done_ (by kernel_rfl) ?_
  repeat go_step
  exact fin_cc rfl B4 B5 N45 HB G4 G5 rfl rfl rfl (fun hbf => ⟨_, _, _, L0, L1, LT, ⟨r.f0, r.f1, r.f2, r.f3, r.f4, r.f5⟩, rfl, HU0.out.outP (fun q hq => hq.1) (fun q hq => hq.2.2.1) (fun q hq => hq.2.2.2.1) _ _ _ _ _ _ _ _ _, HU1.out.outP (fun q hq => hq.1) (fun q hq => hq.2.2.1) (fun q hq => hq.2.2.2.1) _ _ _ _ _ _ _ _ _, HS3x.out.outP (fun q hq => hq.1) (fun q hq => hq.2.2.1) (fun q hq => hq.2.2.2.1) _ _ _ _ _ _ _ _ _, (by have := HLT.out; have := HLS.out; have := HM.out; omega), HG2.out, hbf⟩)


theorem do_reads (Pq : Nat → Prop) (v0 v1 v2 v : Value) (l0 : List Vol) (l1 : List Nam) (l2 : List Ses) (c : Cmd) (w : World) (hPq : ∀ q, w.heap.size ≤ q → Pq q) (h0 : SlP Pq k45 w v0 l0) (h1 : SlP Pq k92 w v1 l1) (h2 : SlP Pq k64 w v2 l2) (h3 : SlP Pq k75 w v c.f11) (n m : Nat) (hg : Good n l0 l1) (hn : n ≤ 1000) (hm : l2.length ≤ m) (hm2 : m ≤ 1000) :
    Calls Try.prog 13 #[.agg #[v0, v1, v2], cmdV c v] w (DoBack Pq (n + 1) (m + 1) w) := by
  obtain ⟨rm, h10, hmay⟩ := may_reads c
  cases cm : rm with
  | false => exact do_a Pq v0 v1 v2 v l0 l1 l2 c w hPq h0 h1 h2 h3 n m hg hn hm hm2 rm hmay cm
  | true =>
  obtain ⟨at_, hcl, hla⟩ := last_reads l0 l1 l2 c.f1 (by omega)
  by_cases cc : c.f1 > 0
  · by_cases ca : at_ < 0
    · exact do_c Pq v0 v1 v2 v l0 l1 l2 c w hPq h0 h1 h2 h3 n m hg hn hm hm2 rm hmay cm h10 at_ hla cc ca
    · by_cases ce : (rd_T64 l2 at_).f1 = c.f2
      · exact do_d Pq v0 v1 v2 v l0 l1 l2 c w hPq h0 h1 h2 h3 n m hg hn hm hm2 rm hmay cm at_ hla cc (by omega) hcl ce
      · by_cases cg : (rd_T64 l2 at_).f1 > c.f2
        · exact do_e Pq v0 v1 v2 v l0 l1 l2 c w hPq h0 h1 h2 h3 n m hg hn hm hm2 rm hmay cm at_ hla cc (by omega) hcl ce cg
        · exact do_f Pq v0 v1 v2 v l0 l1 l2 c w hPq h0 h1 h2 h3 n m hg hn hm hm2 rm hmay cm h10 at_ hla cc (by omega) hcl ce cg
  · exact do_b Pq v0 v1 v2 v l0 l1 l2 c w hPq h0 h1 h2 h3 n m hg hn hm hm2 rm hmay cm h10 at_ hla cc
end Go.Proofs.Ytlfonfceaiiinaa.PAll
