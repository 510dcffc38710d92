/- Literals and appends in rows of our own, told without footprints. -/
import Derived.Test.YtlfonfceaiiinaaIxInv
import Derived.Laws.Cover1
namespace Go.Proofs.Ytlfonfceaiiinaa.PAll
open Go.RowKit Go.Proofs.YtlfonfceaiiinaaW.PrintWords Go.Proofs.YtlfonfceaiiinaaW.PrintLast Go.Proofs.YtlfonfceaiiinaaW.PrintMore

/-- Rows of our own, their block lies behind b. -/
abbrev Own {α : Type} (d : Kd α) (e : Nat) (w : World) (b : Nat) (v : Value) (xs : List α) : Prop := d.R e w b (fun k => b ≤ k) v xs
theorem Own.below {α : Type} {d : Kd α} {e b : Nat} {w w1 : World} {v : Value} {xs : List α} (h : Own d e w b v xs) (hb : Below w.heap.size w w1) : Own d e w1 b v xs := Kd.R_below h hb
theorem Own.lower {α : Type} {d : Kd α} {e b b' : Nat} {w : World} {v : Value} {xs : List α} (h : Own d e w b v xs) (hb : b' ≤ b) : Own d e w b' v xs := Kd.R_mono (Kd.R_lower h hb) (fun _ hk => Nat.le_trans hb hk)
/-- One that was made behind u, u having grown since. -/
theorem Own.grown {α β : Type} {d : Kd α} {d' : Kd β} {e e' b : Nat} {ok : Nat → Prop} {w0 w w1 : World} {u v : Value} {xs : List α} {ys : List β} (h : Own d e w w0.heap.size v xs) (hu : d'.R e' w0 b ok u ys) (hg : w.grownBy w1 u.ownBlock) : Own d e w1 w0.heap.size v xs :=
  Kd.R_grown h hg (fun k hk he => by have := Kd.R_lt hu k he.symm; omega)
theorem infoSpan : (Try.prog.info? 59).map (fun i => (i.zero, i.size, i.bytes)) = some (some (.agg #[.int .i64 0, .int .i64 0]), 2, 16) := by kernel_rfl
theorem rdVol (l0 : List Vol) (i : Int) (h1 : i.toNat < l0.length) : rd_T45 l0 i = l0[i.toNat] := by
  simp [rd_T45, h1]
theorem World.size_set (w : World) (p : Addr) (v : Value) : (w.setCell p v).heap.size = w.heap.size := by simp [World.setCell]
theorem held {w w1 : World} {p : Addr} {v : Value} (hb : Below w.heap.size w w1) (h : w.cell? p = some v) : w1.cell? p = some v := (hb.cell (World.block_lt_of_cell? w _ h)).trans h

/-! ### readings in P whose blocks are older than S0, or no older than S1 -/
def SF (P : Nat → Prop) {α : Type} (k : Kd α) (S0 S1 : Nat) (w : World) (v : Value) (l : List α) : Prop := Kd.V k 0 w 0 (fun q => P q ∧ (q < S0 ∨ S1 ≤ q)) v l
section
variable {P : Nat → Prop} {α : Type} {k : Kd α} {S0 S1 : Nat} {w w1 : World} {v : Value} {l : List α}
theorem SF.sl (h : SF P k S0 S1 w v l) : Sl k w v l := Sl.of_V h
theorem SF.slP (h : SF P k S0 S1 w v l) : SlP P k w v l := Kd.V_mono h (fun _ hq => hq.1)
theorem SF.of_slP (h : SlP P k w v l) : SF P k w.heap.size S1 w v l := Kd.V_mono (Kd.V_bound h) (fun _ hq => ⟨hq.1, .inl hq.2⟩)
theorem SF.below (h : SF P k S0 S1 w v l) (hb : Below w.heap.size w w1) : SF P k S0 S1 w1 v l := Kd.V_below h hb
theorem SF.far (h : SF P k S0 S1 w v l) {p : Addr} (h0 : S0 ≤ p.block) (h1 : p.block < S1) (u : Value) : SF P k S0 S1 (w.setCell p u) v l := Kd.V_far h (fun q hq he => by have := hq.2; omega) u
theorem SF.of_own {e b : Nat} (h : Own k e w b v l) (hb : S1 ≤ b) (hp : ∀ q, b ≤ q → P q) : SF P k S0 S1 w v l :=
  show Kd.V k e w 0 (fun q => P q ∧ (q < S0 ∨ S1 ≤ q)) v l from Kd.V_mono (Kd.N_V (Kd.R_N h)) (fun q hk => ⟨hp q hk, .inr (Nat.le_trans hb hk)⟩)
theorem SF.out (h : SF P k S0 S1 w v l) {g4 g5 : Nat} (h4 : S0 ≤ g4) (h5 : S0 ≤ g5) (k4 : g4 < S1) (k5 : g5 < S1) (x0 x1 x2 y0 y1 y2 y3 y4 y5 : Value) :
    SlP P k (((((((((w.setCell ⟨g4, 0, none⟩ x0).setCell ⟨g4, 1, none⟩ x1).setCell ⟨g4, 2, none⟩ x2).setCell ⟨g5, 0, none⟩ y0).setCell ⟨g5, 1, none⟩ y1).setCell ⟨g5, 2, none⟩ y2).setCell ⟨g5, 3, none⟩ y3).setCell ⟨g5, 4, none⟩ y4).setCell ⟨g5, 5, none⟩ y5) v l :=
  (((((((((h.far (p := ⟨g4, 0, none⟩) h4 k4 x0).far (p := ⟨g4, 1, none⟩) h4 k4 x1).far (p := ⟨g4, 2, none⟩) h4 k4 x2).far (p := ⟨g5, 0, none⟩) h5 k5 y0).far (p := ⟨g5, 1, none⟩) h5 k5 y1).far (p := ⟨g5, 2, none⟩) h5 k5 y2).far (p := ⟨g5, 3, none⟩) h5 k5 y3).far (p := ⟨g5, 4, none⟩) h5 k5 y4).far (p := ⟨g5, 5, none⟩) h5 k5 y5).slP
end
theorem with_SF (P : Nat → Prop) (S0 S1 : Nat) (v0 v1 v2 : Value) (l0 : List Vol) (l1 : List Nam) (l2 : List Ses) (i : Int) (x : Vol) (v5 v6 : Value) (w : World) (h0 : SF P k45 S0 S1 w v0 l0) (h1 : SF P k92 S0 S1 w v1 l1) (h2 : SF P k64 S0 S1 w v2 l2) (h5 : SF P k59 S0 S1 w v5 x.f5) (h6 : SF P k75 S0 S1 w v6 x.f6) (hS : S1 ≤ w.heap.size) (hP : ∀ q, w.heap.size ≤ q → P q) (hl : l0.length ≤ 1000) (hi : i < (l0.length : Int)) :
    Calls Try.prog 28 #[.agg #[v0, v1, v2], .int .i64 i, .agg #[.int .i64 x.f0, .int .i64 x.f1, .int .i64 x.f2, .int .i64 x.f3, .int .i64 x.f4, v5, v6, .int .i64 x.f7, .int .i64 x.f8]] w fun e w' => ∃ u0 u1 u2 : Value, e = .returned (.agg #[u0, u1, u2]) ∧ SF P k45 S0 S1 w' u0 (if i < 0 then l0 ++ [x] else l0.set i.toNat x) ∧ SF P k92 S0 S1 w' u1 l1 ∧ SF P k64 S0 S1 w' u2 l2 ∧ Below w.heap.size w w' := by
  obtain ⟨A0, c0, rfl⟩ := Kd.V_slice h0
  obtain ⟨A1, c1, rfl⟩ := Kd.V_slice h1
  obtain ⟨A2, c2, rfl⟩ := Kd.V_slice h2
  obtain ⟨A5, c5, rfl⟩ := Kd.V_slice h5
  obtain ⟨A6, c6, rfl⟩ := Kd.V_slice h6
  have hm : ∀ q, ((P q ∧ (q < S0 ∨ S1 ≤ q)) ∨ (P q ∧ (q < S0 ∨ S1 ≤ q)) ∨ (P q ∧ (q < S0 ∨ S1 ≤ q)) ∨ (P q ∧ (q < S0 ∨ S1 ≤ q)) ∨ (P q ∧ (q < S0 ∨ S1 ≤ q))) ∨ w.heap.size ≤ q → P q ∧ (q < S0 ∨ S1 ≤ q) := fun q hq => by
    rcases hq with (hq | hq | hq | hq | hq) | hq
    · exact hq
    · exact hq
    · exact hq
    · exact hq
    · exact hq
    · exact ⟨hP q hq, .inr (Nat.le_trans hS hq)⟩
  refine (hogsheadref15_with.calls (fun q => P q ∧ (q < S0 ∨ S1 ≤ q)) A0 c0 l0 (fun q => P q ∧ (q < S0 ∨ S1 ≤ q)) A1 c1 l1 (fun q => P q ∧ (q < S0 ∨ S1 ≤ q)) A2 c2 l2 i x.f0 x.f1 x.f2 x.f3 x.f4 (fun q => P q ∧ (q < S0 ∨ S1 ≤ q)) A5 c5 x.f5 (fun q => P q ∧ (q < S0 ∨ S1 ≤ q)) A6 c6 x.f6 x.f7 x.f8 (if i < 0 then l0 ++ [x] else l0.set i.toNat x) l1 l2 w h0 h1 h2 h5 h6 ?_).mono ?_
  · unfold hogsheadref15_with.f
    rw [Option.bind_some, if_pos (by simp; omega), Option.bind_some, List.nil_append]
    by_cases c : i < 0
    · rw [if_pos c, if_pos c, if_pos (by omega)]
    · rw [if_neg c, if_neg c, if_pos (by omega), if_pos hi]
  · rintro e w' ⟨u0, u1, u2, rfl, g0, g1, g2, hb⟩
    exact ⟨u0, u1, u2, rfl, show Kd.V k45 45 w' 0 (fun q => P q ∧ (q < S0 ∨ S1 ≤ q)) u0 _ from Kd.V_mono (Kd.N_V g0) hm, Kd.V_mono g1 (fun q hq => hm q hq.1), Kd.V_mono g2 (fun q hq => hm q hq.1), hb⟩
/-- A volume that is read: its cells, and its rows, in P. -/
theorem at_F45 {w : World} {P : Nat → Prop} {A : Option Addr} {n : Nat} {xs : List Vol} (h : Kd.F k45 w P A n xs) (i : Int) (h0 : 0 ≤ i) (h1 : i < n) : ∃ ad A5 c5 A6 c6, A = some ad ∧ w.cell? (ad.add (i.toNat * 9)) = some (.int .i64 (rd_T45 xs i).f0) ∧ w.cell? ⟨(ad.add (i.toNat * 9)).block, (ad.add (i.toNat * 9)).off + 1, none⟩ = some (.int .i64 (rd_T45 xs i).f1) ∧ w.cell? ⟨(ad.add (i.toNat * 9)).block, (ad.add (i.toNat * 9)).off + 2, none⟩ = some (.int .i64 (rd_T45 xs i).f2) ∧ w.cell? ⟨(ad.add (i.toNat * 9)).block, (ad.add (i.toNat * 9)).off + 3, none⟩ = some (.int .i64 (rd_T45 xs i).f3) ∧ w.cell? ⟨(ad.add (i.toNat * 9)).block, (ad.add (i.toNat * 9)).off + 4, none⟩ = some (.int .i64 (rd_T45 xs i).f4) ∧ w.cell? ⟨(ad.add (i.toNat * 9)).block, (ad.add (i.toNat * 9)).off + 5, none⟩ = some (.slice A5 (rd_T45 xs i).f5.length c5) ∧ w.cell? ⟨(ad.add (i.toNat * 9)).block, (ad.add (i.toNat * 9)).off + 6, none⟩ = some (.slice A6 (rd_T45 xs i).f6.length c6) ∧ w.cell? ⟨(ad.add (i.toNat * 9)).block, (ad.add (i.toNat * 9)).off + 7, none⟩ = some (.int .i64 (rd_T45 xs i).f7) ∧ w.cell? ⟨(ad.add (i.toNat * 9)).block, (ad.add (i.toNat * 9)).off + 8, none⟩ = some (.int .i64 (rd_T45 xs i).f8) ∧ (rd_T45 xs i).f5.length ≤ c5 ∧ Kd.F k59 w P A5 (rd_T45 xs i).f5.length (rd_T45 xs i).f5 ∧ (rd_T45 xs i).f6.length ≤ c6 ∧ Kd.F k75 w P A6 (rd_T45 xs i).f6.length (rd_T45 xs i).f6 := by
  obtain ⟨ad, c, e, _, hK, hc0, _⟩ := Kd.F_get h z45 i h0 h1
  have hc : ∀ j u, c[j]? = some u → w.cell? (ad.add (i.toNat * 9 + j)) = some u := hc0
  obtain ⟨A5, c5, A6, c6, rfl, l5, g5, l6, g6⟩ := k45_openF hK
  exact ⟨ad, A5, c5, A6, c6, e, hc 0 _ rfl, by rw [← add_field _ _ 1 (by omega)]; exact hc 1 _ rfl, by rw [← add_field _ _ 2 (by omega)]; exact hc 2 _ rfl, by rw [← add_field _ _ 3 (by omega)]; exact hc 3 _ rfl, by rw [← add_field _ _ 4 (by omega)]; exact hc 4 _ rfl, by rw [← add_field _ _ 5 (by omega)]; exact hc 5 _ rfl, by rw [← add_field _ _ 6 (by omega)]; exact hc 6 _ rfl, by rw [← add_field _ _ 7 (by omega)]; exact hc 7 _ rfl, by rw [← add_field _ _ 8 (by omega)]; exact hc 8 _ rfl, l5, g5, l6, g6⟩
/-- What names makes of an index, all in P. -/
theorem names_P (P : Nat → Prop) (l0 : List Vol) (l1 : List Nam) (l2 : List Ses) (c : Cmd) (h1000 : l1.length ≤ 1000) (v0 v1 v2 v : Value) (w : World) (hP : ∀ q, w.heap.size ≤ q → P q) (h0 : SlP P k45 w v0 l0) (h1 : SlP P k92 w v1 l1) (h2 : SlP P k64 w v2 l2) (h3 : SlP P k75 w v c.f11) (n : Nat) (hg : Good n l0 l1) : Calls Try.prog 30 #[.agg #[v0, v1, v2], cmdV c v] w (Back P (n + 1) l2 w) := by
  obtain ⟨l1', r4, r5, r6, r7, r8, r9, hle, hr⟩ := names_f l0 l1 l2 c h1000
  obtain ⟨A0, c0, rfl⟩ := Kd.V_slice h0
  obtain ⟨A1, c1, rfl⟩ := Kd.V_slice h1
  obtain ⟨A2, c2, rfl⟩ := Kd.V_slice h2
  obtain ⟨A3, c3, rfl⟩ := Kd.V_slice h3
  refine (hogsheadref15_names.calls (l1.length + 1) P A0 c0 l0 P A1 c1 l1 P A2 c2 l2 c.f0 c.f1 c.f2 c.f3 c.f4 c.f5 c.f6 c.f7 c.f8 c.f9 c.f10 A3 c3 c.f11 l0 l1' l2 r4 r5 r6 r7 r8 r9 w h0 h1 h2 (Kd.V_reads' h3).2.2 (Kd.V_reads' h3).2.1 hr).mono ?_
  rintro e w' ⟨u0, u1, u2, rfl, g0, g1, g2, hb⟩
  exact ⟨u0, u1, u2, l0, l1', ⟨r4, r5, r6, r7, r8, r9⟩, rfl, Kd.V_mono g0 (fun q hq => by rcases hq with (hq | hq | hq) | hq; exact hq; exact hq; exact hq; exact hP q hq), Kd.V_mono g1 (fun q hq => by rcases hq with (hq | hq | hq) | hq; exact hq; exact hq; exact hq; exact hP q hq), Kd.V_mono g2 (fun q hq => by rcases hq with (hq | hq | hq) | hq; exact hq; exact hq; exact hq; exact hP q hq), ⟨hg.1, hg.2.1, hg.2.2.1, by have := hg.2.2.2.1; omega, fun v hv => Nat.le_succ_of_le (hg.2.2.2.2 v hv)⟩, hb⟩
section
variable {P : Program} {ops : Array Oper} {o : Oper} {a : Act} {Q : Exit → Act → World → Prop} {Kc : Act → World → Prop} {α : Type}
theorem own_lit (d : Kd α) {W : World} (e : Nat) (hw : Region.wanted o (yielded ops a.tmps) = true) {N : Tmp} (hd : o.dst = some N) {xs : List α} {inner : List Value}
    (hrun : (execOp a.eval o).run P W = .ok (.value (.slice (some ⟨W.heap.size, 0, none⟩) xs.length xs.length)) (W.alloc (.cells inner.toArray e)))
    (hrep : Reps (d.M W W.heap.size (fun _ => False)) d.sz xs inner) (hm : xs.length ≤ 9223372036854775807)
    (h : ∀ v1 w1, Own d e w1 W.heap.size v1 xs → Below W.heap.size W w1 → Kc (a.put (some N) v1) w1) : if Region.wanted o (yielded ops a.tmps) = true then Oper.wp P o a W Kc Q else Kc (a.put o.dst undef) W :=
  Kd.R_lit_step d (w0 := W) W.heap.size e hw hd (okp := fun _ => False) hrun hrep (fun _ h => h.elim) (Nat.le_refl _) (Below.refl _ _) (Nat.le_refl _) hm (fun v1 w1 h1 h2 _ _ => hd ▸ h v1 w1 h1 h2)
theorem own_app (d : Kd α) {W : World} (base : Nat) (hw : Region.wanted o (yielded ops a.tmps) = true) {N : Tmp} (hd : o.dst = some N) (s x : Operand) (t e : TypeId) (z : Value) (bytes : Nat)
    (ho : o.op = .call { callee := .builtin .append, args := #[s, x], argTypes := #[t, t] })
    (ht : P.underlying t = some (.slice e)) (hinfo : (P.info? e).map (fun i => (i.zero, i.size, i.bytes)) = some (some z, d.sz, bytes)) (hz : z.cells.size = d.sz) (hs0 : 0 < d.sz) (hb0 : 0 < bytes)
    (v : Value) (xs ys : List α) (A : Option Addr) (m c : Nat) (hs : a.eval s = v) (hx : a.eval x = .slice A m c)
    (HO : Own d e W base v xs) (HR : d.C W A m ys) (hKM : ∀ x cs, d.K W x cs → d.M W base (fun _ => False) x cs) (hbase : base ≤ W.heap.size) (hl : (xs.length + m) * bytes ≤ 140737488355328)
    (h : ∀ v1 w1, Own d e w1 base v1 (xs ++ ys) → Below base W w1 → W.grownBy w1 v.ownBlock → Kc (a.put (some N) v1) w1) :
    if Region.wanted o (yielded ops a.tmps) = true then Oper.wp P o a W Kc Q else Kc (a.put o.dst undef) W :=
  Kd.R_append_rows_step d (w0 := W) base hw s x t e z bytes ho ht hinfo hz hs0 hb0 v xs ys A m c (fun k => base ≤ k) (fun _ => False) hs hx HO HR hKM (fun _ h => h.elim) (fun _ hk => Nat.le_trans hbase hk) (Below.refl _ _) hbase hl (fun v1 w1 h1 h2 h3 _ => hd ▸ h v1 w1 h1 h2 h3)
end
section
variable {P : Program} {ops : Array Oper} {rest : List Oper} {o : Oper} {a : Act} {Q : Exit → Act → World → Prop} {α : Type}
theorem own_litL (d : Kd α) {W : World} (e : Nat) (hgd : o.guard = none) {N : Tmp} (hd : o.dst = some N) {xs : List α} {inner : List Value}
    (hrun : (execOp a.eval o).run P W = .ok (.value (.slice (some ⟨W.heap.size, 0, none⟩) xs.length xs.length)) (W.alloc (.cells inner.toArray e)))
    (hrep : Reps (d.M W W.heap.size (fun _ => False)) d.sz xs inner) (hm : xs.length ≤ 9223372036854775807)
    (h : ∀ v1 w1, Own d e w1 W.heap.size v1 xs → Below W.heap.size W w1 → wpList P ops Q rest (a.put (some N) v1) w1) : wpList P ops Q (o :: rest) a W :=
  Kd.R_lit d (w0 := W) W.heap.size e hgd hd (okp := fun _ => False) hrun hrep (fun _ h => h.elim) (Nat.le_refl _) (Below.refl _ _) (Nat.le_refl _) hm (fun v1 w1 h1 h2 _ _ => hd ▸ h v1 w1 h1 h2)
theorem own_appL (d : Kd α) {W : World} (base : Nat) (hgd : o.guard = none) {N : Tmp} (hd : o.dst = some N) (s x : Operand) (t e : TypeId) (z : Value) (bytes : Nat)
    (ho : o.op = .call { callee := .builtin .append, args := #[s, x], argTypes := #[t, t] })
    (ht : P.underlying t = some (.slice e)) (hinfo : (P.info? e).map (fun i => (i.zero, i.size, i.bytes)) = some (some z, d.sz, bytes)) (hz : z.cells.size = d.sz) (hs0 : 0 < d.sz) (hb0 : 0 < bytes)
    (v : Value) (xs ys : List α) (A : Option Addr) (m c : Nat) (hs : a.eval s = v) (hx : a.eval x = .slice A m c)
    (HO : Own d e W base v xs) (HR : d.C W A m ys) (hKM : ∀ x cs, d.K W x cs → d.M W base (fun _ => False) x cs) (hbase : base ≤ W.heap.size) (hl : (xs.length + m) * bytes ≤ 140737488355328)
    (h : ∀ v1 w1, Own d e w1 base v1 (xs ++ ys) → Below base W w1 → W.grownBy w1 v.ownBlock → wpList P ops Q rest (a.put (some N) v1) w1) : wpList P ops Q (o :: rest) a W :=
  Kd.R_append_rows d (w0 := W) base hgd s x t e z bytes ho ht hinfo hz hs0 hb0 v xs ys A m c (fun k => base ≤ k) (fun _ => False) hs hx HO HR hKM (fun _ h => h.elim) (fun _ hk => Nat.le_trans hbase hk) (Below.refl _ _) hbase hl (fun v1 w1 h1 h2 h3 _ => hd ▸ h v1 w1 h1 h2 h3)
end
/-! ### what the walks say again and again, told once -/
theorem n1 {w : World} {g g' : Nat} {o : Obj} (B : Aside0 (w.heap[g]? = some o)) (hg : g' = w.heap.size) : Aside0 (g ≠ g') := ⟨by have := blk_lt B.out; omega⟩
theorem n2 {w : World} {g g' : Nat} {o : Obj} (B : Aside0 (w.heap[g]? = some o)) (hg : w.heap.size = g') : Aside0 (g ≠ g') := ⟨by have := blk_lt B.out; omega⟩
theorem bb {w w1 : World} {g t : Nat} {cs : Array Value} (B : Aside0 (w.heap[g]? = some (.cells cs t (0, 0)))) (hb : Below w.heap.size w w1) : Aside0 (w1.heap[g]? = some (.cells cs t (0, 0))) := ⟨blk_below B.out hb⟩
theorem bd {w w1 : World} {g t : Nat} {cs : Array Value} (B : Aside0 (w.heap[g]? = some (.cells cs t (0, 0)))) (hb : Below w.drew.heap.size w.drew w1) : Aside0 (w1.heap[g]? = some (.cells cs t (0, 0))) := ⟨blk_below (qD B.out) hb⟩
theorem cells12z {w : World} {g t : Nat} {a0 a1 a2 a3 a4 a5 a6 a7 a8 a9 a10 a11 : Value} (h : w.heap[g]? = some (.cells #[a0, a1, a2, a3, a4, a5, a6, a7, a8, a9, a10, a11] t (0, 0))) : w.cell? ⟨g, 0, none⟩ = some a0 ∧ w.cell? ⟨g, 1, none⟩ = some a1 ∧ w.cell? ⟨g, 2, none⟩ = some a2 ∧ w.cell? ⟨g, 3, none⟩ = some a3 ∧ w.cell? ⟨g, 4, none⟩ = some a4 ∧ w.cell? ⟨g, 5, none⟩ = some a5 ∧ w.cell? ⟨g, 6, none⟩ = some a6 ∧ w.cell? ⟨g, 7, none⟩ = some a7 ∧ w.cell? ⟨g, 8, none⟩ = some a8 ∧ w.cell? ⟨g, 9, none⟩ = some a9 ∧ w.cell? ⟨g, 10, none⟩ = some a10 ∧ w.cell? ⟨g, 11, none⟩ = some a11 :=
  ⟨(blk_cell h 0).trans rfl, (blk_cell h 1).trans rfl, (blk_cell h 2).trans rfl, (blk_cell h 3).trans rfl, (blk_cell h 4).trans rfl, (blk_cell h 5).trans rfl, (blk_cell h 6).trans rfl, (blk_cell h 7).trans rfl, (blk_cell h 8).trans rfl, (blk_cell h 9).trans rfl, (blk_cell h 10).trans rfl, (blk_cell h 11).trans rfl⟩
theorem fin_cc {fn : Func} (hf : fn.results = #[.cell 4 26, .cell 5 37]) {R : Ending → World → Prop} {a : Act} {w w0 : World} {g4 g5 t4 t5 B : Nat} {a0 a1 a2 b0 b1 b2 b3 b4 b5 x0 x1 x2 y0 y1 y2 y3 y4 y5 : Value} (B4 : Aside0 (w.heap[g4]? = some (.cells #[a0, a1, a2] t4 (0, 0)))) (B5 : Aside0 (w.heap[g5]? = some (.cells #[b0, b1, b2, b3, b4, b5] t5 (0, 0)))) (ne : Aside0 (g4 ≠ g5)) (HB : Aside0 (Below B w0 w)) (G4 : Aside0 (B ≤ g4)) (G5 : Aside0 (B ≤ g5))
    (hp : a.tmps.getD 4 undef = .pointer (some ⟨g4, 0, none⟩)) (hp' : a.tmps.getD 5 undef = .pointer (some ⟨g5, 0, none⟩)) (hd : a.defers = [])
    (hR : Below B w0 (((((((((w.setCell ⟨g4, 0, none⟩ x0).setCell ⟨g4, 1, none⟩ x1).setCell ⟨g4, 2, none⟩ x2).setCell ⟨g5, 0, none⟩ y0).setCell ⟨g5, 1, none⟩ y1).setCell ⟨g5, 2, none⟩ y2).setCell ⟨g5, 3, none⟩ y3).setCell ⟨g5, 4, none⟩ y4).setCell ⟨g5, 5, none⟩ y5) → R (.returned (.tuple #[.agg #[x0, x1, x2], .agg #[y0, y1, y2, y3, y4, y5]])) (((((((((w.setCell ⟨g4, 0, none⟩ x0).setCell ⟨g4, 1, none⟩ x1).setCell ⟨g4, 2, none⟩ x2).setCell ⟨g5, 0, none⟩ y0).setCell ⟨g5, 1, none⟩ y1).setCell ⟨g5, 2, none⟩ y2).setCell ⟨g5, 3, none⟩ y3).setCell ⟨g5, 4, none⟩ y4).setCell ⟨g5, 5, none⟩ y5)) : bodyPost Try.prog fn R .ret a (((((((((w.setCell ⟨g4, 0, none⟩ x0).setCell ⟨g4, 1, none⟩ x1).setCell ⟨g4, 2, none⟩ x2).setCell ⟨g5, 0, none⟩ y0).setCell ⟨g5, 1, none⟩ y1).setCell ⟨g5, 2, none⟩ y2).setCell ⟨g5, 3, none⟩ y3).setCell ⟨g5, 4, none⟩ y4).setCell ⟨g5, 5, none⟩ y5) := by
  obtain ⟨h4, h5, hbf⟩ := out_cells B4.out B5.out ne.out HB.out G4.out G5.out x0 x1 x2 y0 y1 y2 y3 y4 y5
  exact bodyPost_ret (results_cc hf _ _ g4 g5 _ _ _ _ (0, 0) (0, 0) _ _ hp h4 Try.underlying26 rfl (by kernel_rfl) hp' h5 Try.underlying37 rfl (by kernel_rfl)) hd (hR hbf)
theorem fin_no {fn : Func} (hf : fn.results = #[.cell 4 26, .cell 5 37]) {P : Nat → Prop} {n : Nat} {l0 : List Vol} {l1 : List Nam} {l2 : List Ses} {a : Act} {w w0 : World} {g4 g5 t4 t5 : Nat} {a0 a1 a2 b0 b1 b2 b3 b4 b5 x0 x1 x2 : Value} {c : Int} (B4 : Aside0 (w.heap[g4]? = some (.cells #[a0, a1, a2] t4 (0, 0)))) (B5 : Aside0 (w.heap[g5]? = some (.cells #[b0, b1, b2, b3, b4, b5] t5 (0, 0)))) (ne : Aside0 (g4 ≠ g5)) (HB : Aside0 (Below w0.heap.size w0 w)) (G4 : Aside0 (w0.heap.size ≤ g4)) (G5 : Aside0 (w0.heap.size ≤ g5))
    (HS0 : Aside0 (SlP P k45 w0 x0 l0)) (HS1 : Aside0 (SlP P k92 w0 x1 l1)) (HS2 : Aside0 (SlP P k64 w0 x2 l2)) (HG : Aside0 (Good n l0 l1))
    (hp : a.tmps.getD 4 undef = .pointer (some ⟨g4, 0, none⟩)) (hp' : a.tmps.getD 5 undef = .pointer (some ⟨g5, 0, none⟩)) (hd : a.defers = []) : bodyPost Try.prog fn (Back P (n + 1) l2 w0) .ret a (((((((((w.setCell ⟨g4, 0, none⟩ x0).setCell ⟨g4, 1, none⟩ x1).setCell ⟨g4, 2, none⟩ x2).setCell ⟨g5, 0, none⟩ (.int .i64 c)).setCell ⟨g5, 1, none⟩ (.int .i64 0)).setCell ⟨g5, 2, none⟩ (.int .i64 0)).setCell ⟨g5, 3, none⟩ (.int .i64 0)).setCell ⟨g5, 4, none⟩ (.int .u32 0)).setCell ⟨g5, 5, none⟩ (.bool false)) :=
  fin_cc hf B4 B5 ne HB G4 G5 hp hp' hd (fun hbf => ⟨_, _, _, l0, l1, ⟨c, 0, 0, 0, 0, false⟩, rfl, HS0.out.below hbf, HS1.out.below hbf, HS2.out.below hbf, HG.out.more (by omega), hbf⟩)
theorem fin_sf {fn : Func} (hf : fn.results = #[.cell 4 26, .cell 5 37]) {P : Nat → Prop} {n S1 : Nat} {l0 : List Vol} {l1 : List Nam} {l2 : List Ses} {a : Act} {w w0 : World} {g4 g5 t4 t5 : Nat} {a0 a1 a2 b0 b1 b2 b3 b4 b5 x0 x1 x2 : Value} (r : Rep) (B4 : Aside0 (w.heap[g4]? = some (.cells #[a0, a1, a2] t4 (0, 0)))) (B5 : Aside0 (w.heap[g5]? = some (.cells #[b0, b1, b2, b3, b4, b5] t5 (0, 0)))) (ne : Aside0 (g4 ≠ g5)) (HB : Aside0 (Below w0.heap.size w0 w)) (G4 : Aside0 (w0.heap.size ≤ g4)) (G5 : Aside0 (w0.heap.size ≤ g5)) (M4 : Aside0 (g4 < S1)) (M5 : Aside0 (g5 < S1))
    (HU0 : Aside0 (SF P k45 w0.heap.size S1 w x0 l0)) (HU1 : Aside0 (SF P k92 w0.heap.size S1 w x1 l1)) (HU2 : Aside0 (SF P k64 w0.heap.size S1 w x2 l2)) (HG : Good n l0 l1)
    (hp : a.tmps.getD 4 undef = .pointer (some ⟨g4, 0, none⟩)) (hp' : a.tmps.getD 5 undef = .pointer (some ⟨g5, 0, none⟩)) (hd : a.defers = []) : bodyPost Try.prog fn (Back P n l2 w0) .ret a (((((((((w.setCell ⟨g4, 0, none⟩ x0).setCell ⟨g4, 1, none⟩ x1).setCell ⟨g4, 2, none⟩ x2).setCell ⟨g5, 0, none⟩ (.int .i64 r.f0)).setCell ⟨g5, 1, none⟩ (.int .i64 r.f1)).setCell ⟨g5, 2, none⟩ (.int .i64 r.f2)).setCell ⟨g5, 3, none⟩ (.int .i64 r.f3)).setCell ⟨g5, 4, none⟩ (.int .u32 r.f4)).setCell ⟨g5, 5, none⟩ (.bool r.f5)) :=
  fin_cc hf B4 B5 ne HB G4 G5 hp hp' hd (fun hbf => ⟨_, _, _, l0, l1, r, rfl, HU0.out.out G4.out G5.out M4.out M5.out _ _ _ _ _ _ _ _ _, HU1.out.out G4.out G5.out M4.out M5.out _ _ _ _ _ _ _ _ _, HU2.out.out G4.out G5.out M4.out M5.out _ _ _ _ _ _ _ _ _, HG, hbf⟩)
/-- What the callees come to, as the arms ask for it. -/
def VolC (l0 : List Vol) (l1 : List Nam) (l2 : List Ses) (c i : Int) : Prop := ∀ (v0 v1 v2 : Value) (w : World), Sl k45 w v0 l0 → Sl k92 w v1 l1 → Sl k64 w v2 l2 → Calls Try.prog 32 #[.agg #[v0, v1, v2], .int .i64 c] w fun e w' => e = .returned (.int .i64 i) ∧ Below w.heap.size w w'
def NamC (l0 : List Vol) (l1 : List Nam) (l2 : List Ses) (c : ByteArray) (k : Int) : Prop := ∀ (v0 v1 v2 : Value) (w : World), Sl k45 w v0 l0 → Sl k92 w v1 l1 → Sl k64 w v2 l2 → Calls Try.prog 37 #[.agg #[v0, v1, v2], .string c] w fun e w' => e = .returned (.int .i64 k) ∧ Below w.heap.size w w'
def LasC (l0 : List Vol) (l1 : List Nam) (l2 : List Ses) (c i : Int) : Prop := ∀ (v0 v1 v2 : Value) (w : World), Sl k45 w v0 l0 → Sl k92 w v1 l1 → Sl k64 w v2 l2 → Calls Try.prog 20 #[.agg #[v0, v1, v2], .int .i64 c] w fun e w' => e = .returned (.int .i64 i) ∧ Below w.heap.size w w'
def ThiC (a b t1 t2 : Int) : Prop := ∀ w : World, Calls Try.prog 27 #[.int .i64 a, .int .i64 b] w fun e w' => e = .returned (.tuple #[.int .i64 t1, .int .i64 t2]) ∧ Drawn0 w w'
def WhoC (l : List S75) (t : Int) (rw : Bool) : Prop := ∀ (v : Value) (w : World), Sl k75 w v l → Calls Try.prog 33 #[v, .int .i64 t] w fun e w' => e = .returned (.bool rw) ∧ Drawn0 w w'
end Go.Proofs.Ytlfonfceaiiinaa.PAll
