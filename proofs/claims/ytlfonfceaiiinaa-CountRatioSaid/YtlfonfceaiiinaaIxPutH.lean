/- put, the name not known. -/
import Derived.Test.YtlfonfceaiiinaaIxOps
namespace Go.Proofs.Ytlfonfceaiiinaa.PAll
open Go.RowKit Go.Proofs.YtlfonfceaiiinaaW.PrintWords Go.Proofs.YtlfonfceaiiinaaW.PrintLast Go.Proofs.YtlfonfceaiiinaaW.PrintMore
set_option linter.unusedVariables false
set_option linter.unusedSimpArgs false
attribute [local irreducible] World.setCell
attribute [local go_sem high] eqA75
set_option maxHeartbeats 40000000 in
set_option maxRecDepth 100000 in
theorem put_h (Pq : Nat → Prop) (v0 v1 v2 v : Value) (l0 : List Vol) (l1 : List Nam) (l2 : List Ses) (c : Cmd) (w : World) (hPq : ∀ q, w.heap.size ≤ q → Pq q) (h0 : SlP Pq k45 w v0 l0) (h1 : SlP Pq k92 w v1 l1) (h2 : SlP Pq k64 w v2 l2) (h3 : SlP Pq k75 w v c.f11) (n : Nat) (hg : Good n l0 l1) (hn : n ≤ 1000) (i k : Int)
    (hva : VolC l0 l1 l2 c.f4 i)
    (hna : NamC l0 l1 l2 c.f3 k)
    (ce : ¬c.f3.toList = []) (ci : 0 ≤ i) (cl : i < (l0.length : Int)) (cp : (rd_T45 l0 i).f4 = 1) (cz : ¬c.f6 = 0) (cu : ¬wrap64 (c.f5 + c.f6) > (rd_T45 l0 i).f3) (ck : k < 0) (cm : l1.length < 64) (pn : (rd_T45 l0 i).f5.length ≤ n) : Calls Try.prog 29 #[.agg #[v0, v1, v2], cmdV c v] w (Back Pq (n + 1) l2 w) := by
  obtain ⟨A0, c0, rfl, hc0, hr0⟩ := h0
  obtain ⟨A1, c1, rfl, hc1, hr1⟩ := h1
  obtain ⟨A2, c2, rfl, hc2, hr2⟩ := h2
  obtain ⟨A3, c3, rfl, hc3, hr3⟩ := h3
  have HS0 := qM (show SlP Pq k45 w (.slice A0 l0.length c0) l0 from ⟨A0, c0, rfl, hc0, hr0⟩)
  have HS1 := qM (show SlP Pq k92 w (.slice A1 l1.length c1) l1 from ⟨A1, c1, rfl, hc1, hr1⟩)
  have HS2 := qM (show SlP Pq k64 w (.slice A2 l2.length c2) l2 from ⟨A2, c2, rfl, hc2, hr2⟩)
  have HS3 := qM (show SlP Pq k75 w (.slice A3 c.f11.length c3) c.f11 from ⟨A3, c3, rfl, hc3, hr3⟩)
  have HR0 := qM hr0
  have HR1 := qM (Kd.F_now hr1)
  have HR2 := qM (Kd.F_now hr2)
  have HR3 := qM (Kd.F_now hr3)
  have HG := qM hg
  have HPQ := qM hPq
  clear hc0 hr0 hc1 hr1 hc2 hr2 hc3 hr3 hg hPq
  unfold cmdV
  have HVA := qM hva
  have HNA := qM hna
  clear hva hna
  have d1 : (c.f3.toList == []) = false := beq_eq_false_iff_ne.mpr ce
  clear ce
  have d2 : decide (i < 0) = false := decide_eq_false (by omega)
  obtain ⟨ad, A5, c5, A6, c6, e, hx0, hx1, hx2, hx3, hx4, hx5, hx6, hx7, hx8, hl5, hi5, hl6, hi6⟩ := at_F45 HR0.out i ci cl
  cases e
  have HX := qM (And.intro hx0 (And.intro hx1 (And.intro hx2 (And.intro hx3 (And.intro hx4 (And.intro hx5 (And.intro hx6 (And.intro hx7 hx8))))))))
  have HI5 := qM hi5
  have HI6 := qM hi6
  have HL5 := qM hl5
  have HL6 := qM hl6
  clear hi5 hi6 hl5 hl6 hx0 hx1 hx2 hx3 hx4 hx5 hx6 hx7 hx8
  have p0 := eq_true ci
  have p1 := eq_true cl
  have d3 : ((rd_T45 l0 i).f4 != 1) = false := bne_eq_false_iff_eq.mpr cp
  have CP := qM cp
  clear cp
  have d4 : (c.f6 == 0) = false := beq_eq_false_iff_ne.mpr cz
  have CZ := qM cz
  clear cz
  have d5 : decide (wrap64 (c.f5 + c.f6) > (rd_T45 l0 i).f3) = false := decide_eq_false cu
  have CU := qM cu
  clear cu
  have d6 : decide (k < 0) = true := decide_eq_true ck
  have d7 : decide ((l1.length : Int) ≥ 64) = false := decide_eq_false (by omega)
  have CK := qM ck
  have CM := qM cm
  have PN := qM pn
  clear ck cm pn
  go_enter Try.func29, Try.ntmps29
  go_wp2_with (first | ((with_reducible refine gate_dst (N := 2) rfl ?_); (try (refine gate_guard (by rfl) ?_; dsimp only)); refine box_event ?hg (N := 2) ?hd (cs := #[.slice (some ad) l0.length c0, .slice A1 l1.length c1, .slice A2 l2.length c2]) (t := 26) ?hr ?_; (case hd => rfl); (case hg => rfl); (case hr => first | (go_simp; done) | (go_simp; rfl)); intro g2 hg w_2 hk hb; have G2 := qM (show w.heap.size ≤ g2 by rw [hg]; exact Nat.le_refl _); have B2 := qM hk; have HB := qM (hb); clear hk hb hg; skip) | ((with_reducible refine gate_dst (N := 3) rfl ?_); (try (refine gate_guard (by rfl) ?_; dsimp only)); refine box_event ?hg (N := 3) ?hd (cs := #[.int .i64 c.f0, .int .i64 c.f1, .int .i64 c.f2, .string c.f3, .int .i64 c.f4, .int .i64 c.f5, .int .i64 c.f6, .int .u32 c.f7, .int .i64 c.f8, .int .i64 c.f9, .int .i64 c.f10, .slice A3 c.f11.length c3]) (t := 42) ?hr ?_; (case hd => rfl); (case hg => rfl); (case hr => first | (go_simp; done) | (go_simp; rfl)); intro g3 hg w_3 hk hb; have N23 := n1 B2 hg; have G3 := qM (show w.heap.size ≤ g3 by rw [hg]; exact HB.out.size); replace B2 := bb B2 hb; have B3 := qM hk; have HB := qM (below_step HB.out hb); clear hk hb hg; have ne23 := N23.out; have ne32 := Ne.symm N23.out; skip) | ((with_reducible refine gate_dst (N := 4) rfl ?_); (try (refine gate_guard (by rfl) ?_; dsimp only)); refine box_event ?hg (N := 4) ?hd (cs := #[.slice none 0 0, .slice none 0 0, .slice none 0 0]) (t := 26) ?hr ?_; (case hd => rfl); (case hg => rfl); (case hr => first | (go_simp; done) | (go_simp; rfl)); intro g4 hg w_4 hk hb; have N24 := n1 B2 hg; have N34 := n1 B3 hg; have G4 := qM (show w.heap.size ≤ g4 by rw [hg]; exact HB.out.size); replace B2 := bb B2 hb; replace B3 := bb B3 hb; have B4 := qM hk; have HB := qM (below_step HB.out hb); clear hk hb hg; have ne24 := N24.out; have ne42 := Ne.symm N24.out; have ne34 := N34.out; have ne43 := Ne.symm N34.out; skip) | ((with_reducible refine gate_dst (N := 5) rfl ?_); (try (refine gate_guard (by rfl) ?_; dsimp only)); refine box_event ?hg (N := 5) ?hd (cs := #[.int .i64 0, .int .i64 0, .int .i64 0, .int .i64 0, .int .u32 0, .bool false]) (t := 37) ?hr ?_; (case hd => rfl); (case hg => rfl); (case hr => first | (go_simp; done) | (go_simp; rfl)); intro g5 hg w_5 hk hb; have N25 := n1 B2 hg; have N35 := n1 B3 hg; have N45 := n1 B4 hg; have G5 := qM (show w.heap.size ≤ g5 by rw [hg]; exact HB.out.size); replace B2 := bb B2 hb; replace B3 := bb B3 hb; replace B4 := bb B4 hb; have B5 := qM hk; have HB := qM (below_step HB.out hb); clear hk hb hg; have ne25 := N25.out; have ne52 := Ne.symm N25.out; have ne35 := N35.out; have ne53 := Ne.symm N35.out; have ne45 := N45.out; have ne54 := Ne.symm N45.out; obtain ⟨z20, z21, z22, f20, f21, f22⟩ := cells3 B2.out; obtain ⟨z30, z31, z32, z33, z34, z35, z36, z37, z38, z39, z310, z311⟩ := cells12z B3.out; obtain ⟨z40, z41, z42, f40, f41, f42⟩ := cells3 B4.out; obtain ⟨z50, z51, z52, z53, z54, z55, f50, f51, f52, f53, f54, f55⟩ := cells6 B5.out) | (go_at_call 32; refine (HVA.out _ _ _ _ (HS0.out.below HB.out).sl (HS1.out.below HB.out).sl (HS2.out.below HB.out).sl).mono ?_; rintro e w1 ⟨rfl, hb⟩; replace B2 := bb B2 hb; replace B3 := bb B3 hb; replace B4 := bb B4 hb; replace B5 := bb B5 hb; replace HB := qM (below_step HB.out hb); clear z20 z21 z22 f20 f21 f22 z30 z31 z32 z33 z34 z35 z36 z37 z38 z39 z310 z311 z40 z41 z42 f40 f41 f42 z50 z51 z52 z53 z54 z55 f50 f51 f52 f53 f54 f55; clear hb; obtain ⟨z20, z21, z22, f20, f21, f22⟩ := cells3 B2.out; obtain ⟨z30, z31, z32, z33, z34, z35, z36, z37, z38, z39, z310, z311⟩ := cells12z B3.out; obtain ⟨z40, z41, z42, f40, f41, f42⟩ := cells3 B4.out; obtain ⟨z50, z51, z52, z53, z54, z55, f50, f51, f52, f53, f54, f55⟩ := cells6 B5.out) | (go_at_call 37; refine (HNA.out _ _ _ _ (HS0.out.below HB.out).sl (HS1.out.below HB.out).sl (HS2.out.below HB.out).sl).mono ?_; rintro e w1 ⟨rfl, hb⟩; replace B2 := bb B2 hb; replace B3 := bb B3 hb; replace B4 := bb B4 hb; replace B5 := bb B5 hb; replace HB := qM (below_step HB.out hb); clear z20 z21 z22 f20 f21 f22 z30 z31 z32 z33 z34 z35 z36 z37 z38 z39 z310 z311 z40 z41 z42 f40 f41 f42 z50 z51 z52 z53 z54 z55 f50 f51 f52 f53 f54 f55; clear hb; obtain ⟨z20, z21, z22, f20, f21, f22⟩ := cells3 B2.out; obtain ⟨z30, z31, z32, z33, z34, z35, z36, z37, z38, z39, z310, z311⟩ := cells12z B3.out; obtain ⟨z40, z41, z42, f40, f41, f42⟩ := cells3 B4.out; obtain ⟨z50, z51, z52, z53, z54, z55, f50, f51, f52, f53, f54, f55⟩ := cells6 B5.out; obtain ⟨hx0, hx1, hx2, hx3, hx4, hx5, hx6, hx7, hx8⟩ := HX.out; replace hx0 := held HB.out hx0; replace hx1 := held HB.out hx1; replace hx2 := held HB.out hx2; replace hx3 := held HB.out hx3; replace hx4 := held HB.out hx4; replace hx5 := held HB.out hx5; replace hx6 := held HB.out hx6; replace hx7 := held HB.out hx7; replace hx8 := held HB.out hx8) | ((with_reducible refine gate_dst (N := 35) rfl ?_); obtain ⟨g8, w8, hg, hw, hk, hb⟩ := box_new w1 #[.int .i64 (rd_T45 l0 i).f0, .int .i64 (rd_T45 l0 i).f1, .int .i64 (rd_T45 l0 i).f2, .int .i64 (rd_T45 l0 i).f3, .int .i64 (rd_T45 l0 i).f4, .slice A5 (rd_T45 l0 i).f5.length c5, .slice A6 (rd_T45 l0 i).f6.length c6, .int .i64 (rd_T45 l0 i).f7, .int .i64 (rd_T45 l0 i).f8] 45; rw [hw, hg]; have N28 := n2 B2 hg; have N38 := n2 B3 hg; have N48 := n2 B4 hg; have N58 := n2 B5 hg; replace B2 := bb B2 hb; replace B3 := bb B3 hb; replace B4 := bb B4 hb; replace B5 := bb B5 hb; have G8 := qM (show w.heap.size ≤ g8 by rw [← hg]; exact HB.out.size); replace HB := qM (below_step HB.out hb); have B8 := qM hk; clear z20 z21 z22 f20 f21 f22 z30 z31 z32 z33 z34 z35 z36 z37 z38 z39 z310 z311 z40 z41 z42 f40 f41 f42 z50 z51 z52 z53 z54 z55 f50 f51 f52 f53 f54 f55; clear hk hb hg hw; obtain ⟨z20, z21, z22, f20, f21, f22⟩ := cells3 B2.out; obtain ⟨z30, z31, z32, z33, z34, z35, z36, z37, z38, z39, z310, z311⟩ := cells12z B3.out; obtain ⟨z40, z41, z42, f40, f41, f42⟩ := cells3 B4.out; obtain ⟨z50, z51, z52, z53, z54, z55, f50, f51, f52, f53, f54, f55⟩ := cells6 B5.out; obtain ⟨z80, z81, z82, z83, z84, z85, z86, z87, z88, f80, f81, f82, f83, f84, f85, f86, f87, f88⟩ := cells9 B8.out; have ne28 := N28.out; have ne82 := Ne.symm N28.out; have ne38 := N38.out; have ne83 := Ne.symm N38.out; have ne48 := N48.out; have ne84 := Ne.symm N48.out; have ne58 := N58.out; have ne85 := Ne.symm N58.out))
  refine start_ (n := 13) (S := fun w' => w'.cell? ⟨g8, 5, none⟩ = some (.slice A5 (rd_T45 l0 i).f5.length c5) ∧ w'.cell? ⟨g3, 5, none⟩ = some (.int .i64 c.f5) ∧ w'.cell? ⟨g3, 6, none⟩ = some (.int .i64 c.f6)) (ds := [12]) #[false, false, false, false, false, false, false, false, false, false, false, false, false] (by kernel_rfl) rfl rfl ⟨(qC (qD B8.out) 5).trans rfl, (qC (qD B3.out) 5).trans rfl, (qC (qD B3.out) 6).trans rfl⟩ (fun hHeld => ?_)
  generalize hw : w8.drew = w14 at hHeld ⊢
  replace B2 := qM (show w14.heap[g2]? = _ from hw ▸ qD B2.out)
  replace B3 := qM (show w14.heap[g3]? = _ from hw ▸ qD B3.out)
  replace B4 := qM (show w14.heap[g4]? = _ from hw ▸ qD B4.out)
  replace B5 := qM (show w14.heap[g5]? = _ from hw ▸ qD B5.out)
  replace B8 := qM (show w14.heap[g8]? = _ from hw ▸ qD B8.out)
  replace HB := qM (show Below w.heap.size w w14 from hw ▸ below_drew1 HB.out)
  have P14 := qM (fun q (hq : w14.heap.size ≤ q) => HPQ.out q (Nat.le_trans HB.out.size hq))
  have M2 := qM (blk_lt B2.out)
  have M3 := qM (blk_lt B3.out)
  have M4 := qM (blk_lt B4.out)
  have M5 := qM (blk_lt B5.out)
  have M8 := qM (blk_lt B8.out)
  clear z20 z21 z22 f20 f21 f22 z30 z31 z32 z33 z34 z35 z36 z37 z38 z39 z310 z311 z40 z41 z42 f40 f41 f42 z50 z51 z52 z53 z54 z55 f50 f51 f52 f53 f54 f55 z80 z81 z82 z83 z84 z85 z86 z87 z88 f80 f81 f82 f83 f84 f85 f86 f87 f88
  clear hw
  refine pure_ (i := 1) (N := some 66) (v := ?_) (a' := ?_) #[false, true, false, false, false, false, false, false, false, false, false, false, false] rfl rfl (by kernel_rfl) (fun _ _ _ h => h) (Or.inl ⟨by rfl, ?_⟩) ?_ ?_
  rotate_left
  · intro w'; go_simp; with_reducible rfl
  rotate_left
  · simp only [Act.put, xA, xZ, xS, i64_w, i32_w]; rfl
  refine pure_ (i := 4) (N := some 69) (v := ?_) (a' := ?_) #[false, true, false, false, true, false, false, false, false, false, false, false, false] rfl rfl (by kernel_rfl) (fun _ _ _ h => h) (Or.inl ⟨by rfl, ?_⟩) ?_ ?_
  rotate_left
  · intro w'; go_simp; with_reducible rfl
  rotate_left
  · simp only [Act.put, xA, xZ, xS, i64_w, i32_w]; rfl
  refine pure_ (i := 6) (N := some 71) (v := ?_) (a' := ?_) #[false, true, false, false, true, false, true, false, false, false, false, false, false] rfl rfl (by kernel_rfl) (fun _ _ _ h => h) (Or.inl ⟨by rfl, ?_⟩) ?_ ?_
  rotate_left
  · intro w'; go_simp; with_reducible rfl
  rotate_left
  · simp only [Act.put, xA, xZ, xS, i64_w, i32_w]; rfl
  refine take_ (i := 2) (N := some 67) (v := ?_) (a' := ?_) #[false, true, true, false, true, false, true, false, false, false, false, false, false] rfl rfl (by kernel_rfl) (fun _ _ _ h => h) (Or.inl ⟨by rfl, ?_⟩) hHeld ?_ ?_
  rotate_left
  · rintro w' ⟨s0, s1, s2⟩; go_simp; with_reducible rfl
  rotate_left
  · simp only [Act.put, xA, xZ, xS, i64_w, i32_w]; rfl
  refine take_ (i := 5) (N := some 70) (v := ?_) (a' := ?_) #[false, true, true, false, true, true, true, false, false, false, false, false, false] rfl rfl (by kernel_rfl) (fun _ _ _ h => h) (Or.inl ⟨by rfl, ?_⟩) hHeld ?_ ?_
  rotate_left
  · rintro w' ⟨s0, s1, s2⟩; go_simp; with_reducible rfl
  rotate_left
  · simp only [Act.put, xA, xZ, xS, i64_w, i32_w]; rfl
  refine take_ (i := 7) (N := some 72) (v := ?_) (a' := ?_) #[false, true, true, false, true, true, true, true, false, false, false, false, false] rfl rfl (by kernel_rfl) (fun _ _ _ h => h) (Or.inl ⟨by rfl, ?_⟩) hHeld ?_ ?_
  rotate_left
  · rintro w' ⟨s0, s1, s2⟩; go_simp; with_reducible rfl
  rotate_left
  · simp only [Act.put, xA, xZ, xS, i64_w, i32_w]; rfl
  refine pure_ (i := 8) (N := some 73) (v := ?_) (a' := ?_) #[false, true, true, false, true, true, true, true, true, false, false, false, false] rfl rfl (by kernel_rfl) (fun _ _ _ h => h) (Or.inl ⟨by rfl, ?_⟩) ?_ ?_
  rotate_left
  · intro w'; go_simp; with_reducible rfl
  rotate_left
  · simp only [Act.put, xA, xZ, xS, i64_w, i32_w]; rfl
  have HF := qM (Kd.C_below (Kd.F_now HI5.out) HB.out)
  have HN5 := qM (show (rd_T45 l0 i).f5.length ≤ n from PN.out)
  refine join_ (σ := Value × Value × Value) 3 #[true, true, true, true, true, true, true, true, true, true, false, false, false] (fun s => [(65, s.1), (68, s.2.1), (74, s.2.2)]) (fun s w' => Aside0 (Own k59 59 w' w14.heap.size s.2.1 (rd_T45 l0 i).f5) ∧ Aside0 (Sl k59 w' s.2.2 [(⟨c.f5, c.f6⟩ : S59)]) ∧ Aside0 (Below w14.heap.size w14 w')) (fun s w' hF => ?_) (fun J => ?_)
  rotate_left
  refine two_ (i := 0) (j := 9) (Ni := some 65) (Nj := some 74) #[true, true, true, false, true, true, true, true, true, false, false, false, false] #[false, true, true, false, true, true, true, true, true, true, false, false, false] rfl rfl rfl rfl (by kernel_rfl) (by decide) (by decide) (fun K hK => ?_) (fun K hK => ?_)
  · refine own_lit k59 59 rfl (N := 65) rfl (xs := []) (inner := []) (by first | (go_simp; done) | (go_simp; rfl)) (Reps.none _ _) (by simp) (fun v65 wa ho hb => ?_)
    have O65 := qM ho
    have HA := qM hb
    clear ho hb
    refine hK.out _ _ ⟨held HA.out hHeld.1, held HA.out hHeld.2.1, held HA.out hHeld.2.2⟩ (fun _ => ?_)
    clear hK K
    refine two_ (i := 3) (j := 9) (Ni := some 68) (Nj := some 74) #[true, true, true, true, true, true, true, true, true, false, false, false, false] #[true, true, true, false, true, true, true, true, true, true, false, false, false] rfl rfl rfl rfl (by kernel_rfl) (by decide) (by decide) (fun K hK => ?_) (fun K hK => ?_)
    · refine own_app k59 w14.heap.size rfl (N := 68) rfl (.tmp 65) (.tmp 67) 43 59 (.agg #[.int .i64 0, .int .i64 0]) 16 rfl Try.underlying43 infoSpan rfl (by decide) (by omega) v65 [] (rd_T45 l0 i).f5 A5 _ c5 (by rfl) (by rfl) O65.out (Kd.C_below HF.out (HA.out)) (fun _ _ h => h) HA.out.size (by have := HN5.out; simp only [List.length_nil]; omega) (fun v68 wb ho hb hg => ?_)
      have HB2 := qM (HA.out.trans hb)
      have O68 := qM ho
      clear ho hb hg
      refine hK.out _ _ ⟨held HB2.out hHeld.1, held HB2.out hHeld.2.1, held HB2.out hHeld.2.2⟩ (fun _ => ?_)
      clear hK K
      refine one_ (i := 9) (N := some 74) #[true, true, true, true, true, true, true, true, true, true, false, false, false] rfl rfl (by kernel_rfl) (by decide) (fun K hK => ?_)
      refine own_lit k59 59 rfl (N := 74) rfl (xs := [(⟨c.f5, c.f6⟩ : S59)]) (inner := [.int .i64 c.f5, .int .i64 c.f6]) (by first | (go_simp; done) | (go_simp; rfl)) (Reps.c2 (k59_mkM _ _ _ (⟨c.f5, c.f6⟩ : S59)) (Reps.none _ _)) (by simp) (fun v74 wc ho hb => ?_)
      have HC := qM (below_step HB2.out hb)
      refine hK.out _ _ ⟨held HC.out hHeld.1, held HC.out hHeld.2.1, held HC.out hHeld.2.2⟩ (fun _ => ?_)
      clear hK K
      refine norm_ ?_ (J (v65, v68, v74) _ ⟨qM (O68.out.below hb), qM (Sl.of_R ho), qM (HC.out)⟩)
      simp only [putAll, Act.put, xA, xZ, xS, i64_w, i32_w]
    · refine own_lit k59 59 rfl (N := 74) rfl (xs := [(⟨c.f5, c.f6⟩ : S59)]) (inner := [.int .i64 c.f5, .int .i64 c.f6]) (by first | (go_simp; done) | (go_simp; rfl)) (Reps.c2 (k59_mkM _ _ _ (⟨c.f5, c.f6⟩ : S59)) (Reps.none _ _)) (by simp) (fun v74 wb ho hb => ?_)
      have HB2 := qM (below_step HA.out hb)
      have O74 := qM ho
      have O65b := qM (O65.out.below hb)
      clear ho hb
      refine hK.out _ _ ⟨held HB2.out hHeld.1, held HB2.out hHeld.2.1, held HB2.out hHeld.2.2⟩ (fun _ => ?_)
      clear hK K
      refine one_ (i := 3) (N := some 68) #[true, true, true, true, true, true, true, true, true, true, false, false, false] rfl rfl (by kernel_rfl) (by decide) (fun K hK => ?_)
      refine own_app k59 w14.heap.size rfl (N := 68) rfl (.tmp 65) (.tmp 67) 43 59 (.agg #[.int .i64 0, .int .i64 0]) 16 rfl Try.underlying43 infoSpan rfl (by decide) (by omega) v65 [] (rd_T45 l0 i).f5 A5 _ c5 (by rfl) (by rfl) O65b.out (Kd.C_below HF.out (HB2.out)) (fun _ _ h => h) HB2.out.size (by have := HN5.out; simp only [List.length_nil]; omega) (fun v68 wc ho hb hg => ?_)
      have HC := qM (HB2.out.trans hb)
      refine hK.out _ _ ⟨held HC.out hHeld.1, held HC.out hHeld.2.1, held HC.out hHeld.2.2⟩ (fun _ => ?_)
      clear hK K
      refine norm_ ?_ (J (v65, v68, v74) _ ⟨qM (ho), qM (Sl.of_R (O74.out.grown O65.out hg)), qM (HC.out)⟩)
      simp only [putAll, Act.put, xA, xZ, xS, i64_w, i32_w]
  · refine own_lit k59 59 rfl (N := 74) rfl (xs := [(⟨c.f5, c.f6⟩ : S59)]) (inner := [.int .i64 c.f5, .int .i64 c.f6]) (by first | (go_simp; done) | (go_simp; rfl)) (Reps.c2 (k59_mkM _ _ _ (⟨c.f5, c.f6⟩ : S59)) (Reps.none _ _)) (by simp) (fun v74 wa ho hb => ?_)
    have HA := qM hb
    have S74 := qM (Sl.of_R ho)
    clear ho hb
    refine hK.out _ _ ⟨held HA.out hHeld.1, held HA.out hHeld.2.1, held HA.out hHeld.2.2⟩ (fun _ => ?_)
    clear hK K
    refine one_ (i := 0) (N := some 65) #[true, true, true, false, true, true, true, true, true, true, false, false, false] rfl rfl (by kernel_rfl) (by decide) (fun K hK => ?_)
    refine own_lit k59 59 rfl (N := 65) rfl (xs := []) (inner := []) (by first | (go_simp; done) | (go_simp; rfl)) (Reps.none _ _) (by simp) (fun v65 wb ho hb => ?_)
    have HB2 := qM (below_step HA.out hb)
    have O65 := qM ho
    have HAB := qM hb
    clear ho hb
    refine hK.out _ _ ⟨held HB2.out hHeld.1, held HB2.out hHeld.2.1, held HB2.out hHeld.2.2⟩ (fun _ => ?_)
    clear hK K
    refine one_ (i := 3) (N := some 68) #[true, true, true, true, true, true, true, true, true, true, false, false, false] rfl rfl (by kernel_rfl) (by decide) (fun K hK => ?_)
    refine own_app k59 wa.heap.size rfl (N := 68) rfl (.tmp 65) (.tmp 67) 43 59 (.agg #[.int .i64 0, .int .i64 0]) 16 rfl Try.underlying43 infoSpan rfl (by decide) (by omega) v65 [] (rd_T45 l0 i).f5 A5 _ c5 (by rfl) (by rfl) O65.out (Kd.C_below HF.out (HB2.out)) (fun _ _ h => h) HAB.out.size (by have := HN5.out; simp only [List.length_nil]; omega) (fun v68 wc ho hb hg => ?_)
    have HAC := qM (HAB.out.trans hb)
    have HC := qM (below_step HA.out HAC.out)
    refine hK.out _ _ ⟨held HC.out hHeld.1, held HC.out hHeld.2.1, held HC.out hHeld.2.2⟩ (fun _ => ?_)
    clear hK K
    refine norm_ ?_ (J (v65, v68, v74) _ ⟨qM (ho.lower HA.out.size), qM (S74.out.below HAC.out), qM (HC.out)⟩)
    simp only [putAll, Act.put, xA, xZ, xS, i64_w, i32_w]
  obtain ⟨v65, v68, v74⟩ := s
  obtain ⟨O68, S74, HJ⟩ := hF
  obtain ⟨A74, c74, e74, hc74, hr74⟩ := S74.out
  dsimp only at e74
  subst e74
  refine norm_ (a' := ?_) ?_ ?_
  rotate_left
  · simp only [putAll, Act.put, xA, xZ, xS, i64_w, i32_w]; rfl
  refine one_ (i := 10) (N := some 75) #[true, true, true, true, true, true, true, true, true, true, true, false, false] rfl rfl (by kernel_rfl) (by decide) (fun K hK => ?_)
  refine own_app k59 w14.heap.size rfl (N := 75) rfl (.tmp 68) (.tmp 74) 43 59 (.agg #[.int .i64 0, .int .i64 0]) 16 rfl Try.underlying43 infoSpan rfl (by decide) (by omega) v68 (rd_T45 l0 i).f5 [(⟨c.f5, c.f6⟩ : S59)] A74 1 c74 (by rfl) (by rfl) O68.out hr74 (fun _ _ h => h) HJ.out.size (by have := HN5.out; omega) (fun v75 wd ho hb hg => ?_)
  have HD := qM (HJ.out.trans hb)
  obtain ⟨L5, e5⟩ : ∃ L : List S59, L = (rd_T45 l0 i).f5 ++ [(⟨c.f5, c.f6⟩ : S59)] := ⟨_, rfl⟩
  rw [← e5] at ho
  have E5 := qM (show L5.length = (rd_T45 l0 i).f5.length + 1 by rw [e5, List.length_append]; rfl)
  clear e5
  obtain ⟨A75, c75, e75, hc75, hr75⟩ := Kd.R_reads ho
  subst e75
  have O75 := qM ho
  clear hc75 hr75
  skip
  clear ho hb hg
  refine hK.out _ _ ⟨held HD.out hHeld.1, held HD.out hHeld.2.1, held HD.out hHeld.2.2⟩ (fun _ => ?_)
  clear hK K
  refine pure_ (i := 11) (N := some 76) (v := ?_) (a' := ?_) #[true, true, true, true, true, true, true, true, true, true, true, true, false] rfl rfl (by kernel_rfl) (fun _ _ _ h => h) (Or.inl ⟨by rfl, ?_⟩) ?_ ?_
  rotate_left
  · intro w'; go_simp; with_reducible rfl
  rotate_left
  · simp only [Act.put, xA, xZ, xS, i64_w, i32_w]; rfl
  refine last_ (i := 12) (N := none) #[true, true, true, true, true, true, true, true, true, true, true, true, true] rfl rfl (by kernel_rfl) (by decide) (fun K hK => ?_)
  replace B2 := qM (blk_below B2.out HD.out)
  replace B3 := qM (blk_below B3.out HD.out)
  replace B4 := qM (blk_below B4.out HD.out)
  replace B5 := qM (blk_below B5.out HD.out)
  replace B8 := qM (blk_below B8.out HD.out)
  replace HB := qM (below_step HB.out HD.out)
  obtain ⟨z80, z81, z82, z83, z84, z85, z86, z87, z88, f80, f81, f82, f83, f84, f85, f86, f87, f88⟩ := cells9 B8.out
  refine skip_ (w1 := ?_) (by rfl) rfl ?_ ?_
  rotate_left
  · go_simp; rfl
  refine hK.out _ _ ?_
  clear hK K
  refine done_ (by kernel_rfl) ?_
  clear z80 z81 z82 z83 z84 z85 z86 z87 z88 f80 f81 f82 f83 f84 f85 f86 f87 f88
  generalize hst : wd.setCell ⟨g8, 5, none⟩ (.slice A75 L5.length c75) = we
  replace B8 := qM (show we.heap[g8]? = some (.cells #[.int .i64 (rd_T45 l0 i).f0, .int .i64 (rd_T45 l0 i).f1, .int .i64 (rd_T45 l0 i).f2, .int .i64 (rd_T45 l0 i).f3, .int .i64 (rd_T45 l0 i).f4, .slice A75 L5.length c75, .slice A6 (rd_T45 l0 i).f6.length c6, .int .i64 (rd_T45 l0 i).f7, .int .i64 (rd_T45 l0 i).f8] 45 (0, 0)) from hst ▸ blk_put B8.out 5 (.slice A75 L5.length c75) rfl)
  replace B2 := qM (show we.heap[g2]? = _ from hst ▸ blk_far B2.out N28.out (.slice A75 L5.length c75))
  replace B3 := qM (show we.heap[g3]? = _ from hst ▸ blk_far B3.out N38.out (.slice A75 L5.length c75))
  replace B4 := qM (show we.heap[g4]? = _ from hst ▸ blk_far B4.out N48.out (.slice A75 L5.length c75))
  replace B5 := qM (show we.heap[g5]? = _ from hst ▸ blk_far B5.out N58.out (.slice A75 L5.length c75))
  replace HB := qM (show Below w.heap.size w we from hst ▸ HB.out.setCell (p := ⟨g8, 5, none⟩) G8.out (.slice A75 L5.length c75))
  replace O75 := qM (show SF Pq k59 w.heap.size w14.heap.size we (.slice A75 L5.length c75) _ from hst ▸ SF.of_own (Kd.R_far (p := ⟨g8, 5, none⟩) O75.out (fun q hq => by have := M8.out; show q ≠ g8; omega) (.slice A75 L5.length c75)) (Nat.le_refl _) P14.out)
  have Z := qM (show w14.heap.size ≤ we.heap.size from hst ▸ (Nat.le_trans HD.out.size (Nat.le_of_eq (World.size_set wd ⟨g8, 5, none⟩ (.slice A75 L5.length c75)).symm)))
  clear hst
  obtain ⟨z20, z21, z22, f20, f21, f22⟩ := cells3 B2.out; obtain ⟨z30, z31, z32, z33, z34, z35, z36, z37, z38, z39, z310, z311⟩ := cells12z B3.out; obtain ⟨z40, z41, z42, f40, f41, f42⟩ := cells3 B4.out; obtain ⟨z50, z51, z52, z53, z54, z55, f50, f51, f52, f53, f54, f55⟩ := cells6 B5.out; obtain ⟨z80, z81, z82, z83, z84, z85, z86, z87, z88, f80, f81, f82, f83, f84, f85, f86, f87, f88⟩ := cells9 B8.out
  go_wp2_with (first | (go_at_call 28; refine (with_SF Pq w.heap.size w14.heap.size _ _ _ l0 l1 l2 i (⟨(rd_T45 l0 i).f0, (rd_T45 l0 i).f1, (rd_T45 l0 i).f2, (rd_T45 l0 i).f3, (rd_T45 l0 i).f4, L5, (rd_T45 l0 i).f6, (rd_T45 l0 i).f7, (rd_T45 l0 i).f8⟩ : S45) _ _ _ ((SF.of_slP HS0.out).below HB.out) ((SF.of_slP HS1.out).below HB.out) ((SF.of_slP HS2.out).below HB.out) O75.out ((SF.of_slP ⟨A6, c6, rfl, HL6.out, HI6.out⟩).below HB.out) Z.out (fun q hq => HPQ.out q (Nat.le_trans HB.out.size hq)) (by have := HG.out.2.2.1; omega) cl).mono ?_; rintro e w1 ⟨u0, u1, u2, rfl, hu0, hu1, hu2, hb⟩; rw [if_neg (show ¬i < 0 by omega)] at hu0; obtain ⟨L0, eL0⟩ : ∃ L, L = l0.set i.toNat (⟨(rd_T45 l0 i).f0, (rd_T45 l0 i).f1, (rd_T45 l0 i).f2, (rd_T45 l0 i).f3, (rd_T45 l0 i).f4, L5, (rd_T45 l0 i).f6, (rd_T45 l0 i).f7, (rd_T45 l0 i).f8⟩ : S45) := ⟨_, rfl⟩; rw [← eL0] at hu0; have EL0 := qM eL0; clear eL0; obtain ⟨D0, d0, rfl⟩ := Kd.V_slice hu0; obtain ⟨D1, d1, rfl⟩ := Kd.V_slice hu1; obtain ⟨D2, d2, rfl⟩ := Kd.V_slice hu2; replace Z := qM (Nat.le_trans Z.out hb.size); have HU0 := qM hu0; have HU1 := qM hu1; have HU2 := qM hu2; clear hu0 hu1 hu2; replace B2 := bb B2 hb; replace B3 := bb B3 hb; replace B4 := bb B4 hb; replace B5 := bb B5 hb; replace B8 := bb B8 hb; replace HB := qM (below_step HB.out hb); clear z20 z21 z22 f20 f21 f22 z30 z31 z32 z33 z34 z35 z36 z37 z38 z39 z310 z311 z40 z41 z42 f40 f41 f42 z50 z51 z52 z53 z54 z55 f50 f51 f52 f53 f54 f55 z80 z81 z82 z83 z84 z85 z86 z87 z88 f80 f81 f82 f83 f84 f85 f86 f87 f88; clear hb; obtain ⟨z20, z21, z22, f20, f21, f22⟩ := cells3 B2.out; obtain ⟨z30, z31, z32, z33, z34, z35, z36, z37, z38, z39, z310, z311⟩ := cells12z B3.out; obtain ⟨z40, z41, z42, f40, f41, f42⟩ := cells3 B4.out; obtain ⟨z50, z51, z52, z53, z54, z55, f50, f51, f52, f53, f54, f55⟩ := cells6 B5.out; obtain ⟨z80, z81, z82, z83, z84, z85, z86, z87, z88, f80, f81, f82, f83, f84, f85, f86, f87, f88⟩ := cells9 B8.out) | ((with_reducible refine gate_dst (N := 81) rfl ?_); generalize hst : (((w1.setCell ⟨g2, 0, none⟩ (.slice D0 L0.length d0)).setCell ⟨g2, 1, none⟩ (.slice D1 l1.length d1)).setCell ⟨g2, 2, none⟩ (.slice D2 l2.length d2)) = wf; replace B2 := qM (show wf.heap[g2]? = some (.cells #[.slice D0 L0.length d0, .slice D1 l1.length d1, .slice D2 l2.length d2] 26 (0, 0)) from hst ▸ (blk_put (blk_put (blk_put B2.out 0 (.slice D0 L0.length d0) rfl) 1 (.slice D1 l1.length d1) rfl) 2 (.slice D2 l2.length d2) rfl)); replace B3 := qM (show wf.heap[g3]? = _ from hst ▸ (blk_far (blk_far (blk_far B3.out (Ne.symm N23.out) (.slice D0 L0.length d0)) (Ne.symm N23.out) (.slice D1 l1.length d1)) (Ne.symm N23.out) (.slice D2 l2.length d2))); replace B4 := qM (show wf.heap[g4]? = _ from hst ▸ (blk_far (blk_far (blk_far B4.out (Ne.symm N24.out) (.slice D0 L0.length d0)) (Ne.symm N24.out) (.slice D1 l1.length d1)) (Ne.symm N24.out) (.slice D2 l2.length d2))); replace B5 := qM (show wf.heap[g5]? = _ from hst ▸ (blk_far (blk_far (blk_far B5.out (Ne.symm N25.out) (.slice D0 L0.length d0)) (Ne.symm N25.out) (.slice D1 l1.length d1)) (Ne.symm N25.out) (.slice D2 l2.length d2))); replace B8 := qM (show wf.heap[g8]? = _ from hst ▸ (blk_far (blk_far (blk_far B8.out (Ne.symm N28.out) (.slice D0 L0.length d0)) (Ne.symm N28.out) (.slice D1 l1.length d1)) (Ne.symm N28.out) (.slice D2 l2.length d2))); replace HB := qM (show Below w.heap.size w wf from hst ▸ (((HB.out.setCell (p := ⟨g2, 0, none⟩) G2.out (.slice D0 L0.length d0)).setCell (p := ⟨g2, 1, none⟩) G2.out (.slice D1 l1.length d1)).setCell (p := ⟨g2, 2, none⟩) G2.out (.slice D2 l2.length d2))); replace HU0 := qM (show SF Pq k45 w.heap.size w14.heap.size wf (.slice D0 L0.length d0) L0 from hst ▸ (SF.far (p := ⟨g2, 2, none⟩) (SF.far (p := ⟨g2, 1, none⟩) (SF.far (p := ⟨g2, 0, none⟩) HU0.out G2.out M2.out (.slice D0 L0.length d0)) G2.out M2.out (.slice D1 l1.length d1)) G2.out M2.out (.slice D2 l2.length d2))); replace HU1 := qM (show SF Pq k92 w.heap.size w14.heap.size wf (.slice D1 l1.length d1) l1 from hst ▸ (SF.far (p := ⟨g2, 2, none⟩) (SF.far (p := ⟨g2, 1, none⟩) (SF.far (p := ⟨g2, 0, none⟩) HU1.out G2.out M2.out (.slice D0 L0.length d0)) G2.out M2.out (.slice D1 l1.length d1)) G2.out M2.out (.slice D2 l2.length d2))); replace HU2 := qM (show SF Pq k64 w.heap.size w14.heap.size wf (.slice D2 l2.length d2) l2 from hst ▸ (SF.far (p := ⟨g2, 2, none⟩) (SF.far (p := ⟨g2, 1, none⟩) (SF.far (p := ⟨g2, 0, none⟩) HU2.out G2.out M2.out (.slice D0 L0.length d0)) G2.out M2.out (.slice D1 l1.length d1)) G2.out M2.out (.slice D2 l2.length d2))); have hz : wf.heap.size = w1.heap.size := hst ▸ (Eq.trans (World.size_set _ ⟨g2, 2, none⟩ (.slice D2 l2.length d2)) (Eq.trans (World.size_set _ ⟨g2, 1, none⟩ (.slice D1 l1.length d1)) (Eq.trans (World.size_set _ ⟨g2, 0, none⟩ (.slice D0 L0.length d0)) (rfl : w1.heap.size = _)))); replace Z := qM (show w14.heap.size ≤ wf.heap.size by rw [hz]; exact Z.out); clear hz; clear hst; clear z20 z21 z22 f20 f21 f22 z30 z31 z32 z33 z34 z35 z36 z37 z38 z39 z310 z311 z40 z41 z42 f40 f41 f42 z50 z51 z52 z53 z54 z55 f50 f51 f52 f53 f54 f55 z80 z81 z82 z83 z84 z85 z86 z87 z88 f80 f81 f82 f83 f84 f85 f86 f87 f88; obtain ⟨z20, z21, z22, f20, f21, f22⟩ := cells3 B2.out; obtain ⟨z30, z31, z32, z33, z34, z35, z36, z37, z38, z39, z310, z311⟩ := cells12z B3.out; obtain ⟨z40, z41, z42, f40, f41, f42⟩ := cells3 B4.out; obtain ⟨z50, z51, z52, z53, z54, z55, f50, f51, f52, f53, f54, f55⟩ := cells6 B5.out; obtain ⟨z80, z81, z82, z83, z84, z85, z86, z87, z88, f80, f81, f82, f83, f84, f85, f86, f87, f88⟩ := cells9 B8.out))
  replace Z := qM (Nat.le_trans Z.out (below_alloc (Below.refl _ _) (.cells #[.string c.f3, .int .i64 c.f4, .int .i64 c.f5, .int .i64 c.f6, .int .u32 c.f7] 92 (0, 0)) : Below wf.heap.size wf _).size)
  obtain ⟨g9, w9, hg, hw, hk, hb⟩ := box_new wf #[.string c.f3, .int .i64 c.f4, .int .i64 c.f5, .int .i64 c.f6, .int .u32 c.f7] 92
  rw [hw, hg]
  have N29 := n2 B2 hg
  have N39 := n2 B3 hg
  have N49 := n2 B4 hg
  have N59 := n2 B5 hg
  have N89 := n2 B8 hg
  replace B2 := bb B2 hb
  replace B3 := bb B3 hb
  replace B4 := bb B4 hb
  replace B5 := bb B5 hb
  replace B8 := bb B8 hb
  have G9 := qM (show w.heap.size ≤ g9 by rw [← hg]; exact HB.out.size)
  replace HB := qM (below_step HB.out hb)
  have B9 := qM hk
  clear z20 z21 z22 f20 f21 f22 z30 z31 z32 z33 z34 z35 z36 z37 z38 z39 z310 z311 z40 z41 z42 f40 f41 f42 z50 z51 z52 z53 z54 z55 f50 f51 f52 f53 f54 f55 z80 z81 z82 z83 z84 z85 z86 z87 z88 f80 f81 f82 f83 f84 f85 f86 f87 f88
  replace Z := qM (show w14.heap.size ≤ w9.heap.size from hw ▸ Z.out)
  replace HU0 := qM (HU0.out.below hb)
  replace HU1 := qM (HU1.out.below hb)
  replace HU2 := qM (HU2.out.below hb)
  clear hk hb hg hw
  obtain ⟨z20, z21, z22, f20, f21, f22⟩ := cells3 B2.out; obtain ⟨z30, z31, z32, z33, z34, z35, z36, z37, z38, z39, z310, z311⟩ := cells12z B3.out; obtain ⟨z40, z41, z42, f40, f41, f42⟩ := cells3 B4.out; obtain ⟨z50, z51, z52, z53, z54, z55, f50, f51, f52, f53, f54, f55⟩ := cells6 B5.out; obtain ⟨z80, z81, z82, z83, z84, z85, z86, z87, z88, f80, f81, f82, f83, f84, f85, f86, f87, f88⟩ := cells9 B8.out; obtain ⟨z90, z91, z92, z93, z94, f90, f91, f92, f93, f94⟩ := cells5 B9.out
  have ne29 := N29.out
  have ne92 := Ne.symm N29.out
  have ne39 := N39.out
  have ne93 := Ne.symm N39.out
  have ne49 := N49.out
  have ne94 := Ne.symm N49.out
  have ne59 := N59.out
  have ne95 := Ne.symm N59.out
  have ne89 := N89.out
  have ne98 := Ne.symm N89.out
  have HO := qM (show Own k92 92 w9 w9.heap.size (.slice none 0 0) ([] : List Nam) from Kd.R_nil _ _ _ _ _)
  have K2 := B2; have K3 := B3; have K4 := B4; have K5 := B5; have K8 := B8; have K9 := B9
  clear B2 B3 B4 B5 B8 B9
  clear z20 z21 z22 f20 f21 f22 z30 z31 z32 z33 z34 z35 z36 z37 z38 z39 z310 z311 z40 z41 z42 f40 f41 f42 z50 z51 z52 z53 z54 z55 f50 f51 f52 f53 f54 f55 z80 z81 z82 z83 z84 z85 z86 z87 z88 f80 f81 f82 f83 f84 f85 f86 f87 f88 z90 z91 z92 z93 z94 f90 f91 f92 f93 f94
  go_loopg [10, 11, 12] l1.length (fun kq v10 v11 v12 w' => ∃ (t : Nat) (x : Int) (dn : Bool) (A : Option Addr) (cc : Nat) (l : List Nam), v10 = .slice A l.length cc ∧ v11 = .bool dn ∧ v12 = .int .i64 x ∧ Aside0 (x = (t : Int)) ∧ Aside0 (kq + t = l1.length) ∧ Aside0 (l.length = t + dn.toNat) ∧ Aside0 (Own k92 92 w' w9.heap.size (.slice A l.length cc) l) ∧ Aside0 (Below w9.heap.size w9 w'))
  case atStart => exact ⟨0, 0, false, none, 0, [], rfl, rfl, rfl, ⟨rfl⟩, ⟨Nat.add_zero _⟩, ⟨rfl⟩, HO, ⟨Below.refl _ _⟩⟩
  case round =>
   obtain ⟨t, x, dn, A, cc, l, rfl, rfl, rfl, HXT, HK, HLn, HO, HL⟩ := hrel
   have B2 := qM (blk_below K2.out HL.out); have B3 := qM (blk_below K3.out HL.out); have B4 := qM (blk_below K4.out HL.out); have B5 := qM (blk_below K5.out HL.out); have B8 := qM (blk_below K8.out HL.out); have B9 := qM (blk_below K9.out HL.out)
   obtain ⟨z20, z21, z22, f20, f21, f22⟩ := cells3 B2.out; obtain ⟨z30, z31, z32, z33, z34, z35, z36, z37, z38, z39, z310, z311⟩ := cells12z B3.out; obtain ⟨z40, z41, z42, f40, f41, f42⟩ := cells3 B4.out; obtain ⟨z50, z51, z52, z53, z54, z55, f50, f51, f52, f53, f54, f55⟩ := cells6 B5.out; obtain ⟨z80, z81, z82, z83, z84, z85, z86, z87, z88, f80, f81, f82, f83, f84, f85, f86, f87, f88⟩ := cells9 B8.out; obtain ⟨z90, z91, z92, z93, z94, f90, f91, f92, f93, f94⟩ := cells5 B9.out
   cases dn
   · have hln := HLn.out
     simp only [Bool.toNat_true, Bool.toNat_false] at hln
     replace HLn := qM hln
     clear hln
     by_cases ct : t < l1.length
     · have dt : decide (x < (l1.length : Int)) = true := decide_eq_true (by have := HXT.out; omega)
       obtain ⟨k1, rfl⟩ : ∃ k1, gk = k1 + 1 := ⟨gk - 1, by have := HK.out; omega⟩
       have dk : (x == k) = false := beq_eq_false_iff_ne.mpr (by have := HXT.out; have := CK.out; omega)
       obtain ⟨ad1, e1, hx0, hx1, hx2, hx3, hx4⟩ := at_T92 (Kd.V_reads' HU1.out).2.2 x (by have := HXT.out; omega) (by have := HXT.out; omega)
       cases e1
       have p0 : (0 ≤ x) = True := eq_true (by have := HXT.out; omega)
       have p1 : (x < (l1.length : Int)) = True := eq_true (by have := HXT.out; omega)
       have hy0 := held HL.out hx0
       have hy1 := held HL.out hx1
       have hy2 := held HL.out hx2
       have hy3 := held HL.out hx3
       have hy4 := held HL.out hx4
       go_wp2
       obtain ⟨q1, hq1⟩ : ∃ q, Go.Op.bytesLess (rd_T92 l1 x).f0.toList c.f3.toList = q := ⟨_, rfl⟩
       obtain ⟨q2, hq2⟩ : ∃ q, ((rd_T92 l1 x).f0.toList == c.f3.toList) = q := ⟨_, rfl⟩
       cases q1
       · cases q2
         · go_quiet (fail)
           replace HL := qM (pw_below_drewN HL.out nq)
           replace HO := qM (Kd.R_drewN HO.out nq)
           generalize wr.drewN nq = wq at HL HO ⊢
           clear B2 B3 B4 B5 B8 B9
           have B2 := qM (blk_below K2.out HL.out); have B3 := qM (blk_below K3.out HL.out); have B4 := qM (blk_below K4.out HL.out); have B5 := qM (blk_below K5.out HL.out); have B8 := qM (blk_below K8.out HL.out); have B9 := qM (blk_below K9.out HL.out)
           obtain ⟨z20, z21, z22, f20, f21, f22⟩ := cells3 B2.out; obtain ⟨z30, z31, z32, z33, z34, z35, z36, z37, z38, z39, z310, z311⟩ := cells12z B3.out; obtain ⟨z40, z41, z42, f40, f41, f42⟩ := cells3 B4.out; obtain ⟨z50, z51, z52, z53, z54, z55, f50, f51, f52, f53, f54, f55⟩ := cells6 B5.out; obtain ⟨z80, z81, z82, z83, z84, z85, z86, z87, z88, f80, f81, f82, f83, f84, f85, f86, f87, f88⟩ := cells9 B8.out; obtain ⟨z90, z91, z92, z93, z94, f90, f91, f92, f93, f94⟩ := cells5 B9.out
           have hy0 := held HL.out hx0
           have hy1 := held HL.out hx1
           have hy2 := held HL.out hx2
           have hy3 := held HL.out hx3
           have hy4 := held HL.out hx4
           go_wp2_with (first | ((with_reducible refine gate_dst (N := 125) rfl ?_); refine own_litL k92 92 rfl (N := 125) rfl (xs := [(⟨c.f3, c.f4, c.f5, c.f6, c.f7⟩ : S92)]) (inner := [.string c.f3, .int .i64 c.f4, .int .i64 c.f5, .int .i64 c.f6, .int .u32 c.f7]) (by first | (go_simp; done) | (go_simp; rfl)) (Reps.c5 (k92_mkM _ _ _ (⟨c.f3, c.f4, c.f5, c.f6, c.f7⟩ : S92)) (Reps.none _ _)) (by simp) ?_; intro vt w' ho hb; obtain ⟨At, ct, et, hct, hrt⟩ := Kd.R_reads ho; dsimp only [List.length_cons, List.length_nil] at et; subst et; have HT := qM hrt; have HT2 := qM hb; replace HO := qM (Own.below HO.out hb); replace HL := qM (below_step HL.out hb); clear ho hb hct hrt) | ((with_reducible refine gate_dst (N := 126) rfl ?_); refine own_appL k92 w9.heap.size rfl (N := 126) rfl (.tmp 123) (.tmp 125) 23 92 (.agg #[.string ⟨#[]⟩, .int .i64 0, .int .i64 0, .int .i64 0, .int .u32 0]) 48 rfl Try.underlying23 info92 rfl (by decide) (by omega) _ l [(⟨c.f3, c.f4, c.f5, c.f6, c.f7⟩ : S92)] At 1 ct (by rfl) (by rfl) HO.out HT.out (fun _ _ h => h) HL.out.size (by have := HK.out; have := HLn.out; have := HG.out.2.2.2.1; omega) ?_; intro v1 w' ho hb hg; obtain ⟨L, eL⟩ : ∃ L : List Nam, L = l ++ [(⟨c.f3, c.f4, c.f5, c.f6, c.f7⟩ : S92)] := ⟨_, rfl⟩; rw [← eL] at ho; have EL := qM (show L.length = l.length + 1 by rw [eL, List.length_append]; rfl); clear eL; obtain ⟨An, cn, en, hcn, hrn⟩ := Kd.R_reads ho; subst en; have HO2 := qM ho; replace HL := qM (HL.out.trans hb); clear ho hb hg hcn hrn; clear B2 B3 B4 B5 B8 B9; have B2 := qM (blk_below K2.out HL.out); have B3 := qM (blk_below K3.out HL.out); have B4 := qM (blk_below K4.out HL.out); have B5 := qM (blk_below K5.out HL.out); have B8 := qM (blk_below K8.out HL.out); have B9 := qM (blk_below K9.out HL.out); obtain ⟨z20, z21, z22, f20, f21, f22⟩ := cells3 B2.out; obtain ⟨z30, z31, z32, z33, z34, z35, z36, z37, z38, z39, z310, z311⟩ := cells12z B3.out; obtain ⟨z40, z41, z42, f40, f41, f42⟩ := cells3 B4.out; obtain ⟨z50, z51, z52, z53, z54, z55, f50, f51, f52, f53, f54, f55⟩ := cells6 B5.out; obtain ⟨z80, z81, z82, z83, z84, z85, z86, z87, z88, f80, f81, f82, f83, f84, f85, f86, f87, f88⟩ := cells9 B8.out; obtain ⟨z90, z91, z92, z93, z94, f90, f91, f92, f93, f94⟩ := cells5 B9.out; have hy0 := held HL.out hx0; have hy1 := held HL.out hx1; have hy2 := held HL.out hx2; have hy3 := held HL.out hx3; have hy4 := held HL.out hx4) | ((with_reducible refine gate_dst (N := 133) rfl ?_); refine own_litL k92 92 rfl (N := 133) rfl (xs := [(⟨(rd_T92 l1 x).f0, (rd_T92 l1 x).f1, (rd_T92 l1 x).f2, (rd_T92 l1 x).f3, (rd_T92 l1 x).f4⟩ : S92)]) (inner := [.string (rd_T92 l1 x).f0, .int .i64 (rd_T92 l1 x).f1, .int .i64 (rd_T92 l1 x).f2, .int .i64 (rd_T92 l1 x).f3, .int .u32 (rd_T92 l1 x).f4]) (by first | (go_simp; done) | (go_simp; rfl)) (Reps.c5 (k92_mkM _ _ _ (⟨(rd_T92 l1 x).f0, (rd_T92 l1 x).f1, (rd_T92 l1 x).f2, (rd_T92 l1 x).f3, (rd_T92 l1 x).f4⟩ : S92)) (Reps.none _ _)) (by simp) ?_; intro vt w' ho hb; obtain ⟨At2, ct2, et2, hct2, hrt2⟩ := Kd.R_reads ho; dsimp only [List.length_cons, List.length_nil] at et2; subst et2; have HTT := qM hrt2; replace HO2 := qM (Own.below HO2.out hb); replace HL := qM (below_step HL.out hb); clear ho hb hct2 hrt2) | ((with_reducible refine gate_dst (N := 134) rfl ?_); refine own_appL k92 w9.heap.size rfl (N := 134) rfl (.tmp 127) (.tmp 133) 23 92 (.agg #[.string ⟨#[]⟩, .int .i64 0, .int .i64 0, .int .i64 0, .int .u32 0]) 48 rfl Try.underlying23 info92 rfl (by decide) (by omega) _ L [(⟨(rd_T92 l1 x).f0, (rd_T92 l1 x).f1, (rd_T92 l1 x).f2, (rd_T92 l1 x).f3, (rd_T92 l1 x).f4⟩ : S92)] At2 1 ct2 (by rfl) (by rfl) HO2.out HTT.out (fun _ _ h => h) HL.out.size (by have := HK.out; have := HLn.out; have := EL.out; have := HG.out.2.2.2.1; omega) ?_; intro v1 w' ho hb hg; obtain ⟨L2, eL2⟩ : ∃ L2 : List Nam, L2 = L ++ [(⟨(rd_T92 l1 x).f0, (rd_T92 l1 x).f1, (rd_T92 l1 x).f2, (rd_T92 l1 x).f3, (rd_T92 l1 x).f4⟩ : S92)] := ⟨_, rfl⟩; rw [← eL2] at ho; have EL2 := qM (show L2.length = L.length + 1 by rw [eL2, List.length_append]; rfl); clear eL2; obtain ⟨An2, cn2, en2, hcn2, hrn2⟩ := Kd.R_reads ho; subst en2; have HO3 := qM ho; replace HL := qM (HL.out.trans hb); clear ho hb hg hcn2 hrn2))
           go_roundg k1
           case measure => omega
           case rel => exact ⟨t + 1, _, true, An2, cn2, L2, rfl, rfl, rfl, ⟨by have := HXT.out; subst this; exact Go.Proofs.Ytlfonfceaiiinaa.PB.wrap_succ (n := l1.length) (by omega) (by have := HG.out.2.2.2.1; omega)⟩, ⟨by have := HK.out; omega⟩, ⟨by have := HLn.out; have := EL.out; have := EL2.out; simp only [Bool.toNat_true]; omega⟩, HO3, HL⟩
         · go_quiet (fail)
           replace HL := qM (pw_below_drewN HL.out nq)
           replace HO := qM (Kd.R_drewN HO.out nq)
           generalize wr.drewN nq = wq at HL HO ⊢
           clear B2 B3 B4 B5 B8 B9
           have B2 := qM (blk_below K2.out HL.out); have B3 := qM (blk_below K3.out HL.out); have B4 := qM (blk_below K4.out HL.out); have B5 := qM (blk_below K5.out HL.out); have B8 := qM (blk_below K8.out HL.out); have B9 := qM (blk_below K9.out HL.out)
           obtain ⟨z20, z21, z22, f20, f21, f22⟩ := cells3 B2.out; obtain ⟨z30, z31, z32, z33, z34, z35, z36, z37, z38, z39, z310, z311⟩ := cells12z B3.out; obtain ⟨z40, z41, z42, f40, f41, f42⟩ := cells3 B4.out; obtain ⟨z50, z51, z52, z53, z54, z55, f50, f51, f52, f53, f54, f55⟩ := cells6 B5.out; obtain ⟨z80, z81, z82, z83, z84, z85, z86, z87, z88, f80, f81, f82, f83, f84, f85, f86, f87, f88⟩ := cells9 B8.out; obtain ⟨z90, z91, z92, z93, z94, f90, f91, f92, f93, f94⟩ := cells5 B9.out
           have hy0 := held HL.out hx0
           have hy1 := held HL.out hx1
           have hy2 := held HL.out hx2
           have hy3 := held HL.out hx3
           have hy4 := held HL.out hx4
           go_wp2_with (first | ((with_reducible refine gate_dst (N := 133) rfl ?_); refine own_litL k92 92 rfl (N := 133) rfl (xs := [(⟨(rd_T92 l1 x).f0, (rd_T92 l1 x).f1, (rd_T92 l1 x).f2, (rd_T92 l1 x).f3, (rd_T92 l1 x).f4⟩ : S92)]) (inner := [.string (rd_T92 l1 x).f0, .int .i64 (rd_T92 l1 x).f1, .int .i64 (rd_T92 l1 x).f2, .int .i64 (rd_T92 l1 x).f3, .int .u32 (rd_T92 l1 x).f4]) (by first | (go_simp; done) | (go_simp; rfl)) (Reps.c5 (k92_mkM _ _ _ (⟨(rd_T92 l1 x).f0, (rd_T92 l1 x).f1, (rd_T92 l1 x).f2, (rd_T92 l1 x).f3, (rd_T92 l1 x).f4⟩ : S92)) (Reps.none _ _)) (by simp) ?_; intro vt w' ho hb; obtain ⟨At, ct, et, hct, hrt⟩ := Kd.R_reads ho; dsimp only [List.length_cons, List.length_nil] at et; subst et; have HT := qM hrt; have HT2 := qM hb; replace HO := qM (Own.below HO.out hb); replace HL := qM (below_step HL.out hb); clear ho hb hct hrt) | ((with_reducible refine gate_dst (N := 134) rfl ?_); refine own_appL k92 w9.heap.size rfl (N := 134) rfl (.tmp 127) (.tmp 133) 23 92 (.agg #[.string ⟨#[]⟩, .int .i64 0, .int .i64 0, .int .i64 0, .int .u32 0]) 48 rfl Try.underlying23 info92 rfl (by decide) (by omega) _ l [(⟨(rd_T92 l1 x).f0, (rd_T92 l1 x).f1, (rd_T92 l1 x).f2, (rd_T92 l1 x).f3, (rd_T92 l1 x).f4⟩ : S92)] At 1 ct (by rfl) (by rfl) HO.out HT.out (fun _ _ h => h) HL.out.size (by have := HK.out; have := HLn.out; have := HG.out.2.2.2.1; omega) ?_; intro v1 w' ho hb hg; obtain ⟨L, eL⟩ : ∃ L : List Nam, L = l ++ [(⟨(rd_T92 l1 x).f0, (rd_T92 l1 x).f1, (rd_T92 l1 x).f2, (rd_T92 l1 x).f3, (rd_T92 l1 x).f4⟩ : S92)] := ⟨_, rfl⟩; rw [← eL] at ho; have EL := qM (show L.length = l.length + 1 by rw [eL, List.length_append]; rfl); clear eL; obtain ⟨An, cn, en, hcn, hrn⟩ := Kd.R_reads ho; subst en; have HO2 := qM ho; replace HL := qM (HL.out.trans hb); clear ho hb hg hcn hrn))
           go_roundg k1
           case measure => omega
           case rel => exact ⟨t + 1, _, false, An, cn, L, rfl, rfl, rfl, ⟨by have := HXT.out; subst this; exact Go.Proofs.Ytlfonfceaiiinaa.PB.wrap_succ (n := l1.length) (by omega) (by have := HG.out.2.2.2.1; omega)⟩, ⟨by have := HK.out; omega⟩, ⟨by have := HLn.out; have := EL.out; simp only [Bool.toNat_false]; omega⟩, HO2, HL⟩
       · go_quiet (fail)
         replace HL := qM (pw_below_drewN HL.out nq)
         replace HO := qM (Kd.R_drewN HO.out nq)
         generalize wr.drewN nq = wq at HL HO ⊢
         clear B2 B3 B4 B5 B8 B9
         have B2 := qM (blk_below K2.out HL.out); have B3 := qM (blk_below K3.out HL.out); have B4 := qM (blk_below K4.out HL.out); have B5 := qM (blk_below K5.out HL.out); have B8 := qM (blk_below K8.out HL.out); have B9 := qM (blk_below K9.out HL.out)
         obtain ⟨z20, z21, z22, f20, f21, f22⟩ := cells3 B2.out; obtain ⟨z30, z31, z32, z33, z34, z35, z36, z37, z38, z39, z310, z311⟩ := cells12z B3.out; obtain ⟨z40, z41, z42, f40, f41, f42⟩ := cells3 B4.out; obtain ⟨z50, z51, z52, z53, z54, z55, f50, f51, f52, f53, f54, f55⟩ := cells6 B5.out; obtain ⟨z80, z81, z82, z83, z84, z85, z86, z87, z88, f80, f81, f82, f83, f84, f85, f86, f87, f88⟩ := cells9 B8.out; obtain ⟨z90, z91, z92, z93, z94, f90, f91, f92, f93, f94⟩ := cells5 B9.out
         have hy0 := held HL.out hx0
         have hy1 := held HL.out hx1
         have hy2 := held HL.out hx2
         have hy3 := held HL.out hx3
         have hy4 := held HL.out hx4
         go_wp2_with (first | ((with_reducible refine gate_dst (N := 133) rfl ?_); refine own_litL k92 92 rfl (N := 133) rfl (xs := [(⟨(rd_T92 l1 x).f0, (rd_T92 l1 x).f1, (rd_T92 l1 x).f2, (rd_T92 l1 x).f3, (rd_T92 l1 x).f4⟩ : S92)]) (inner := [.string (rd_T92 l1 x).f0, .int .i64 (rd_T92 l1 x).f1, .int .i64 (rd_T92 l1 x).f2, .int .i64 (rd_T92 l1 x).f3, .int .u32 (rd_T92 l1 x).f4]) (by first | (go_simp; done) | (go_simp; rfl)) (Reps.c5 (k92_mkM _ _ _ (⟨(rd_T92 l1 x).f0, (rd_T92 l1 x).f1, (rd_T92 l1 x).f2, (rd_T92 l1 x).f3, (rd_T92 l1 x).f4⟩ : S92)) (Reps.none _ _)) (by simp) ?_; intro vt w' ho hb; obtain ⟨At, ct, et, hct, hrt⟩ := Kd.R_reads ho; dsimp only [List.length_cons, List.length_nil] at et; subst et; have HT := qM hrt; have HT2 := qM hb; replace HO := qM (Own.below HO.out hb); replace HL := qM (below_step HL.out hb); clear ho hb hct hrt) | ((with_reducible refine gate_dst (N := 134) rfl ?_); refine own_appL k92 w9.heap.size rfl (N := 134) rfl (.tmp 127) (.tmp 133) 23 92 (.agg #[.string ⟨#[]⟩, .int .i64 0, .int .i64 0, .int .i64 0, .int .u32 0]) 48 rfl Try.underlying23 info92 rfl (by decide) (by omega) _ l [(⟨(rd_T92 l1 x).f0, (rd_T92 l1 x).f1, (rd_T92 l1 x).f2, (rd_T92 l1 x).f3, (rd_T92 l1 x).f4⟩ : S92)] At 1 ct (by rfl) (by rfl) HO.out HT.out (fun _ _ h => h) HL.out.size (by have := HK.out; have := HLn.out; have := HG.out.2.2.2.1; omega) ?_; intro v1 w' ho hb hg; obtain ⟨L, eL⟩ : ∃ L : List Nam, L = l ++ [(⟨(rd_T92 l1 x).f0, (rd_T92 l1 x).f1, (rd_T92 l1 x).f2, (rd_T92 l1 x).f3, (rd_T92 l1 x).f4⟩ : S92)] := ⟨_, rfl⟩; rw [← eL] at ho; have EL := qM (show L.length = l.length + 1 by rw [eL, List.length_append]; rfl); clear eL; obtain ⟨An, cn, en, hcn, hrn⟩ := Kd.R_reads ho; subst en; have HO2 := qM ho; replace HL := qM (HL.out.trans hb); clear ho hb hg hcn hrn))
         go_roundg k1
         case measure => omega
         case rel => exact ⟨t + 1, _, false, An, cn, L, rfl, rfl, rfl, ⟨by have := HXT.out; subst this; exact Go.Proofs.Ytlfonfceaiiinaa.PB.wrap_succ (n := l1.length) (by omega) (by have := HG.out.2.2.2.1; omega)⟩, ⟨by have := HK.out; omega⟩, ⟨by have := HLn.out; have := EL.out; simp only [Bool.toNat_false]; omega⟩, HO2, HL⟩
     · have dt : decide (x < (l1.length : Int)) = false := decide_eq_false (by have := HXT.out; omega)
       have d8 : decide (k ≥ 0) = false := decide_eq_false (by have := CK.out; omega)
       have d9 : decide (0 ≤ k) = false := decide_eq_false (by have := CK.out; omega)
       repeat (first | ((with_reducible refine gate_dst (N := 143) rfl ?_); refine own_litL k92 92 rfl (N := 143) rfl (xs := [(⟨c.f3, c.f4, c.f5, c.f6, c.f7⟩ : S92)]) (inner := [.string c.f3, .int .i64 c.f4, .int .i64 c.f5, .int .i64 c.f6, .int .u32 c.f7]) (by first | (go_simp; done) | (go_simp; rfl)) (Reps.c5 (k92_mkM _ _ _ (⟨c.f3, c.f4, c.f5, c.f6, c.f7⟩ : S92)) (Reps.none _ _)) (by simp) ?_; intro vt w' ho hb; obtain ⟨At, ct, et, hct, hrt⟩ := Kd.R_reads ho; dsimp only [List.length_cons, List.length_nil] at et; subst et; have HT := qM hrt; have HT2 := qM hb; replace HO := qM (Own.below HO.out hb); replace HL := qM (below_step HL.out hb); clear ho hb hct hrt) | ((with_reducible refine gate_dst (N := 144) rfl ?_); refine own_appL k92 w9.heap.size rfl (N := 144) rfl (.tmp 141) (.tmp 143) 23 92 (.agg #[.string ⟨#[]⟩, .int .i64 0, .int .i64 0, .int .i64 0, .int .u32 0]) 48 rfl Try.underlying23 info92 rfl (by decide) (by omega) _ l [(⟨c.f3, c.f4, c.f5, c.f6, c.f7⟩ : S92)] At 1 ct (by rfl) (by rfl) HO.out HT.out (fun _ _ h => h) HL.out.size (by have := HK.out; have := HLn.out; have := HG.out.2.2.2.1; omega) ?_; intro v1 w' ho hb hg; obtain ⟨L, eL⟩ : ∃ L : List Nam, L = l ++ [(⟨c.f3, c.f4, c.f5, c.f6, c.f7⟩ : S92)] := ⟨_, rfl⟩; rw [← eL] at ho; have EL := qM (show L.length = l.length + 1 by rw [eL, List.length_append]; rfl); clear eL; obtain ⟨An, cn, en, hcn, hrn⟩ := Kd.R_reads ho; subst en; have HO2 := qM ho; replace HL := qM (HL.out.trans hb); clear ho hb hg hcn hrn; clear B2 B3 B4 B5 B8 B9; have B2 := qM (blk_below K2.out HL.out); have B3 := qM (blk_below K3.out HL.out); have B4 := qM (blk_below K4.out HL.out); have B5 := qM (blk_below K5.out HL.out); have B8 := qM (blk_below K8.out HL.out); have B9 := qM (blk_below K9.out HL.out); obtain ⟨z20, z21, z22, f20, f21, f22⟩ := cells3 B2.out; obtain ⟨z30, z31, z32, z33, z34, z35, z36, z37, z38, z39, z310, z311⟩ := cells12z B3.out; obtain ⟨z40, z41, z42, f40, f41, f42⟩ := cells3 B4.out; obtain ⟨z50, z51, z52, z53, z54, z55, f50, f51, f52, f53, f54, f55⟩ := cells6 B5.out; obtain ⟨z80, z81, z82, z83, z84, z85, z86, z87, z88, f80, f81, f82, f83, f84, f85, f86, f87, f88⟩ := cells9 B8.out; obtain ⟨z90, z91, z92, z93, z94, f90, f91, f92, f93, f94⟩ := cells5 B9.out) | go_step)
       have B4' := qM (blk_far (p := ⟨g2, 1, none⟩) B4.out (Ne.symm N24.out) (.slice An L.length cn))
       have B5' := qM (blk_far (p := ⟨g2, 1, none⟩) B5.out (Ne.symm N25.out) (.slice An L.length cn))
       have HB' := qM ((below_step HB.out HL.out).setCell (p := ⟨g2, 1, none⟩) G2.out (.slice An L.length cn))
       obtain ⟨h4, h5, hbf⟩ := out_cells B4'.out B5'.out N45.out HB'.out G4.out G5.out (.slice D0 L0.length d0) (.slice An L.length cn) (.slice D2 l2.length d2) (.int .i64 (0)) (.int .i64 (0)) (.int .i64 (0)) (.int .i64 (0)) (.int .u32 (0)) (.bool false)
       have r0 := ((HU0.out.below HL.out).far (p := ⟨g2, 1, none⟩) G2.out M2.out (.slice An L.length cn)).out G4.out G5.out M4.out M5.out (.slice D0 L0.length d0) (.slice An L.length cn) (.slice D2 l2.length d2) (.int .i64 (0)) (.int .i64 (0)) (.int .i64 (0)) (.int .i64 (0)) (.int .u32 (0)) (.bool false)
       have r1 := ((SF.of_own (P := Pq) (S0 := w.heap.size) HO2.out Z.out (fun q hq => P14.out q (Nat.le_trans Z.out hq))).far (p := ⟨g2, 1, none⟩) G2.out M2.out (.slice An L.length cn)).out G4.out G5.out M4.out M5.out (.slice D0 L0.length d0) (.slice An L.length cn) (.slice D2 l2.length d2) (.int .i64 (0)) (.int .i64 (0)) (.int .i64 (0)) (.int .i64 (0)) (.int .u32 (0)) (.bool false)
       have r2 := ((HU2.out.below HL.out).far (p := ⟨g2, 1, none⟩) G2.out M2.out (.slice An L.length cn)).out G4.out G5.out M4.out M5.out (.slice D0 L0.length d0) (.slice An L.length cn) (.slice D2 l2.length d2) (.int .i64 (0)) (.int .i64 (0)) (.int .i64 (0)) (.int .i64 (0)) (.int .u32 (0)) (.bool false)
       refine bodyPost_ret (results_cc rfl _ _ g4 g5 26 37 #[.slice D0 L0.length d0, .slice An L.length cn, .slice D2 l2.length d2] #[.int .i64 (0), .int .i64 (0), .int .i64 (0), .int .i64 (0), .int .u32 (0), .bool false] (0, 0) (0, 0) _ _ rfl h4 Try.underlying26 rfl (by kernel_rfl) rfl h5 Try.underlying37 rfl (by kernel_rfl)) rfl ?_
       exact ⟨_, _, _, L0, L, ⟨0, 0, 0, 0, 0, false⟩, rfl, r0, r1, r2, (by have := HG.out.2.2.2.1; have := HLn.out; have := CM.out; have := EL.out; rw [EL0.out]; exact HG.out.keep i.toNat (by omega) _ (by show (rd_T45 l0 i).f4 = _; rw [rdVol l0 i (by omega)]) (by show (rd_T45 l0 i).f6.length = _; rw [rdVol l0 i (by omega)]) (by have := E5.out; have := PN.out; dsimp only; omega) (by omega) (by have := HK.out; omega)), hbf⟩
   · have hln := HLn.out
     simp only [Bool.toNat_true, Bool.toNat_false] at hln
     replace HLn := qM hln
     clear hln
     by_cases ct : t < l1.length
     · have dt : decide (x < (l1.length : Int)) = true := decide_eq_true (by have := HXT.out; omega)
       obtain ⟨k1, rfl⟩ : ∃ k1, gk = k1 + 1 := ⟨gk - 1, by have := HK.out; omega⟩
       have dk : (x == k) = false := beq_eq_false_iff_ne.mpr (by have := HXT.out; have := CK.out; omega)
       obtain ⟨ad1, e1, hx0, hx1, hx2, hx3, hx4⟩ := at_T92 (Kd.V_reads' HU1.out).2.2 x (by have := HXT.out; omega) (by have := HXT.out; omega)
       cases e1
       have p0 : (0 ≤ x) = True := eq_true (by have := HXT.out; omega)
       have p1 : (x < (l1.length : Int)) = True := eq_true (by have := HXT.out; omega)
       have hy0 := held HL.out hx0
       have hy1 := held HL.out hx1
       have hy2 := held HL.out hx2
       have hy3 := held HL.out hx3
       have hy4 := held HL.out hx4
       go_wp2
       go_quiet (fail)
       replace HL := qM (pw_below_drewN HL.out nq)
       replace HO := qM (Kd.R_drewN HO.out nq)
       generalize wr.drewN nq = wq at HL HO ⊢
       clear B2 B3 B4 B5 B8 B9
       have B2 := qM (blk_below K2.out HL.out); have B3 := qM (blk_below K3.out HL.out); have B4 := qM (blk_below K4.out HL.out); have B5 := qM (blk_below K5.out HL.out); have B8 := qM (blk_below K8.out HL.out); have B9 := qM (blk_below K9.out HL.out)
       obtain ⟨z20, z21, z22, f20, f21, f22⟩ := cells3 B2.out; obtain ⟨z30, z31, z32, z33, z34, z35, z36, z37, z38, z39, z310, z311⟩ := cells12z B3.out; obtain ⟨z40, z41, z42, f40, f41, f42⟩ := cells3 B4.out; obtain ⟨z50, z51, z52, z53, z54, z55, f50, f51, f52, f53, f54, f55⟩ := cells6 B5.out; obtain ⟨z80, z81, z82, z83, z84, z85, z86, z87, z88, f80, f81, f82, f83, f84, f85, f86, f87, f88⟩ := cells9 B8.out; obtain ⟨z90, z91, z92, z93, z94, f90, f91, f92, f93, f94⟩ := cells5 B9.out
       have hy0 := held HL.out hx0
       have hy1 := held HL.out hx1
       have hy2 := held HL.out hx2
       have hy3 := held HL.out hx3
       have hy4 := held HL.out hx4
       go_wp2_with (first | ((with_reducible refine gate_dst (N := 133) rfl ?_); refine own_litL k92 92 rfl (N := 133) rfl (xs := [(⟨(rd_T92 l1 x).f0, (rd_T92 l1 x).f1, (rd_T92 l1 x).f2, (rd_T92 l1 x).f3, (rd_T92 l1 x).f4⟩ : S92)]) (inner := [.string (rd_T92 l1 x).f0, .int .i64 (rd_T92 l1 x).f1, .int .i64 (rd_T92 l1 x).f2, .int .i64 (rd_T92 l1 x).f3, .int .u32 (rd_T92 l1 x).f4]) (by first | (go_simp; done) | (go_simp; rfl)) (Reps.c5 (k92_mkM _ _ _ (⟨(rd_T92 l1 x).f0, (rd_T92 l1 x).f1, (rd_T92 l1 x).f2, (rd_T92 l1 x).f3, (rd_T92 l1 x).f4⟩ : S92)) (Reps.none _ _)) (by simp) ?_; intro vt w' ho hb; obtain ⟨At, ct, et, hct, hrt⟩ := Kd.R_reads ho; dsimp only [List.length_cons, List.length_nil] at et; subst et; have HT := qM hrt; have HT2 := qM hb; replace HO := qM (Own.below HO.out hb); replace HL := qM (below_step HL.out hb); clear ho hb hct hrt) | ((with_reducible refine gate_dst (N := 134) rfl ?_); refine own_appL k92 w9.heap.size rfl (N := 134) rfl (.tmp 127) (.tmp 133) 23 92 (.agg #[.string ⟨#[]⟩, .int .i64 0, .int .i64 0, .int .i64 0, .int .u32 0]) 48 rfl Try.underlying23 info92 rfl (by decide) (by omega) _ l [(⟨(rd_T92 l1 x).f0, (rd_T92 l1 x).f1, (rd_T92 l1 x).f2, (rd_T92 l1 x).f3, (rd_T92 l1 x).f4⟩ : S92)] At 1 ct (by rfl) (by rfl) HO.out HT.out (fun _ _ h => h) HL.out.size (by have := HK.out; have := HLn.out; have := HG.out.2.2.2.1; omega) ?_; intro v1 w' ho hb hg; obtain ⟨L, eL⟩ : ∃ L : List Nam, L = l ++ [(⟨(rd_T92 l1 x).f0, (rd_T92 l1 x).f1, (rd_T92 l1 x).f2, (rd_T92 l1 x).f3, (rd_T92 l1 x).f4⟩ : S92)] := ⟨_, rfl⟩; rw [← eL] at ho; have EL := qM (show L.length = l.length + 1 by rw [eL, List.length_append]; rfl); clear eL; obtain ⟨An, cn, en, hcn, hrn⟩ := Kd.R_reads ho; subst en; have HO2 := qM ho; replace HL := qM (HL.out.trans hb); clear ho hb hg hcn hrn))
       go_roundg k1
       case measure => omega
       case rel => exact ⟨t + 1, _, true, An, cn, L, rfl, rfl, rfl, ⟨by have := HXT.out; subst this; exact Go.Proofs.Ytlfonfceaiiinaa.PB.wrap_succ (n := l1.length) (by omega) (by have := HG.out.2.2.2.1; omega)⟩, ⟨by have := HK.out; omega⟩, ⟨by have := HLn.out; have := EL.out; simp only [Bool.toNat_true]; omega⟩, HO2, HL⟩
     · have dt : decide (x < (l1.length : Int)) = false := decide_eq_false (by have := HXT.out; omega)
       have d8 : decide (k ≥ 0) = false := decide_eq_false (by have := CK.out; omega)
       have d9 : decide (0 ≤ k) = false := decide_eq_false (by have := CK.out; omega)
       repeat go_step
       have B4' := qM (blk_far (p := ⟨g2, 1, none⟩) B4.out (Ne.symm N24.out) (.slice A l.length cc))
       have B5' := qM (blk_far (p := ⟨g2, 1, none⟩) B5.out (Ne.symm N25.out) (.slice A l.length cc))
       have HB' := qM ((below_step HB.out HL.out).setCell (p := ⟨g2, 1, none⟩) G2.out (.slice A l.length cc))
       obtain ⟨h4, h5, hbf⟩ := out_cells B4'.out B5'.out N45.out HB'.out G4.out G5.out (.slice D0 L0.length d0) (.slice A l.length cc) (.slice D2 l2.length d2) (.int .i64 (0)) (.int .i64 (0)) (.int .i64 (0)) (.int .i64 (0)) (.int .u32 (0)) (.bool false)
       have r0 := ((HU0.out.below HL.out).far (p := ⟨g2, 1, none⟩) G2.out M2.out (.slice A l.length cc)).out G4.out G5.out M4.out M5.out (.slice D0 L0.length d0) (.slice A l.length cc) (.slice D2 l2.length d2) (.int .i64 (0)) (.int .i64 (0)) (.int .i64 (0)) (.int .i64 (0)) (.int .u32 (0)) (.bool false)
       have r1 := ((SF.of_own (P := Pq) (S0 := w.heap.size) HO.out Z.out (fun q hq => P14.out q (Nat.le_trans Z.out hq))).far (p := ⟨g2, 1, none⟩) G2.out M2.out (.slice A l.length cc)).out G4.out G5.out M4.out M5.out (.slice D0 L0.length d0) (.slice A l.length cc) (.slice D2 l2.length d2) (.int .i64 (0)) (.int .i64 (0)) (.int .i64 (0)) (.int .i64 (0)) (.int .u32 (0)) (.bool false)
       have r2 := ((HU2.out.below HL.out).far (p := ⟨g2, 1, none⟩) G2.out M2.out (.slice A l.length cc)).out G4.out G5.out M4.out M5.out (.slice D0 L0.length d0) (.slice A l.length cc) (.slice D2 l2.length d2) (.int .i64 (0)) (.int .i64 (0)) (.int .i64 (0)) (.int .i64 (0)) (.int .u32 (0)) (.bool false)
       refine bodyPost_ret (results_cc rfl _ _ g4 g5 26 37 #[.slice D0 L0.length d0, .slice A l.length cc, .slice D2 l2.length d2] #[.int .i64 (0), .int .i64 (0), .int .i64 (0), .int .i64 (0), .int .u32 (0), .bool false] (0, 0) (0, 0) _ _ rfl h4 Try.underlying26 rfl (by kernel_rfl) rfl h5 Try.underlying37 rfl (by kernel_rfl)) rfl ?_
       exact ⟨_, _, _, L0, l, ⟨0, 0, 0, 0, 0, false⟩, rfl, r0, r1, r2, (by have := HG.out.2.2.2.1; have := HLn.out; have := CM.out;  rw [EL0.out]; exact HG.out.keep i.toNat (by omega) _ (by show (rd_T45 l0 i).f4 = _; rw [rdVol l0 i (by omega)]) (by show (rd_T45 l0 i).f6.length = _; rw [rdVol l0 i (by omega)]) (by have := E5.out; have := PN.out; dsimp only; omega) (by omega) (by have := HK.out; omega)), hbf⟩

end Go.Proofs.Ytlfonfceaiiinaa.PAll
