/- A slice of bytes whose block may bear the mark of a conversion behind its cells ('[]byte(s)'): it is read, written, appended to, made a text of. -/
import Derived.Test.YtmaojfeikbdkhaaWMore
import Derived.Lib.AppendStr
import Derived.Lib.ConvBytes
import Derived.Lib.UnsafeStr
namespace Go.Proofs.Ytmaojfeikbdkhaa.Mark
open Go.RowKit Go.Proofs.YtmaojfeikbdkhaaW.PrintWords Go.Proofs.YtmaojfeikbdkhaaW.PrintLast

/-- The marked stretch does not reach into the cells. -/
def Behind (fz : Nat × Nat) (n : Nat) : Prop := fz.2 = 0 ∨ n ≤ fz.1
theorem frozen_behind {w : World} {g j : Nat} {cur : Array Value} {t : TypeId} {fz : Nat × Nat} (h : w.heap[g]? = some (.cells cur t fz)) (hf : Behind fz cur.size) (hj : j < cur.size) : w.frozen? ⟨g, j, none⟩ = false := by
  obtain ⟨lo, hi⟩ := fz
  simp only [World.frozen?, h, Bool.and_eq_false_iff, decide_eq_false_iff_not]
  rcases hf with hf | hf
  · right
    simp only at hf
    omega
  · left
    simp only at hf
    omega
theorem blk_setF {w : World} {g : Nat} {t : TypeId} {cs : Array Value} {fz : Nat × Nat} (h : w.heap[g]? = some (.cells cs t fz)) (i : Nat) (u : Value) : (w.setCell ⟨g, i, none⟩ u).heap[g]? = some (.cells (cs.setIfInBounds i u) t fz) := by
  rw [setCell_eq_setRow w g i cs t fz u h]
  exact setRow_heap w g cs _ t fz h
/-- Bytes as cells, and room behind them. -/
def mcells (l : List UInt8) (z : Nat) : Array Value := (Lib.byteCells l ++ List.replicate z (Value.int .u8 0)).toArray
theorem mcells_size (l : List UInt8) (z : Nat) : (mcells l z).size = l.length + z := by
  unfold mcells
  rw [List.size_toArray, List.length_append, Lib.byteCells_length, List.length_replicate]
theorem mcells_get (l : List UInt8) (z j : Nat) (h : j < l.length) : (mcells l z)[j]? = some (.int .u8 (l[j].toNat : Int)) := by
  unfold mcells
  rw [List.getElem?_toArray, List.getElem?_append_left (by rw [Lib.byteCells_length]; exact h)]
  simp [Lib.byteCells, h]
theorem mcells_set (l : List UInt8) (z j : Nat) (b : UInt8) (h : j < l.length) : (mcells l z).setIfInBounds j (.int .u8 (b.toNat : Int)) = mcells (l.set j b) z := by
  unfold mcells
  rw [← Array.toList_inj]
  simp only [Array.toList_setIfInBounds]
  rw [List.set_append_left _ _ (by rw [Lib.byteCells_length]; exact h)]
  congr 1
  unfold Lib.byteCells
  rw [List.map_set]
theorem mcells_take (l : List UInt8) (z : Nat) : (mcells l z).toList.take l.length = Lib.byteCells l := by
  unfold mcells
  simp only
  rw [← Lib.byteCells_length l, List.take_left]
/-- What '[]byte(s)' lays. -/
theorem bytes_block (w : World) (e : TypeId) (s : ByteArray) : (Lib.bytesWorld w e s).heap[w.heap.size]? = some (.cells (mcells s.data.toList (grownCap w s.size 0 e - s.size)) e (s.size + (grownCap w s.size 0 e - s.size), s.size + (grownCap w s.size 0 e - s.size) + 1)) := by
  have hc : Lib.bytesCells w e s = mcells s.data.toList (grownCap w s.size 0 e - s.size) := by
    unfold Lib.bytesCells mcells Lib.byteCells
    rw [← Array.toList_inj]
    simp
  have h := Lib.bytesWorld_at_new w e s
  have hs := mcells_size s.data.toList (grownCap w s.size 0 e - s.size)
  rw [data_length] at hs
  rw [hc, hs] at h
  exact h
/-- A slice of bytes that begins with its block. -/
def Bts (w : World) (base : Nat) (e : TypeId) (v : Value) (l : List UInt8) : Prop :=
  ∃ g cap cur fz, v = .slice (some ⟨g, 0, none⟩) l.length cap ∧ base ≤ g ∧ w.heap[g]? = some (.cells cur e fz) ∧ Behind fz cur.size ∧ l.length ≤ cap ∧ cap ≤ maxLen ∧ cur.size = cap ∧ cur.toList.take l.length = Lib.byteCells l
theorem bts_new (w : World) (base : Nat) (e : TypeId) (s : ByteArray) (hb : base ≤ w.heap.size) (hs : s.size ≤ maxLen) : Bts (Lib.bytesWorld w e s) base e (.slice (some ⟨w.heap.size, 0, none⟩) s.size (grownCap w s.size 0 e)) s.data.toList := by
  have h1 := grownCap_ge w s.size 0 e
  have hl := data_length s
  refine ⟨w.heap.size, grownCap w s.size 0 e, _, _, by rw [hl], hb, bytes_block w e s, .inr ?_, by rw [hl]; exact h1, grownCap_le_maxLen w s.size 0 e hs, ?_, mcells_take _ _⟩
  · rw [mcells_size, hl]
    exact Nat.le_refl _
  · rw [mcells_size, hl]
    omega
theorem bts_reads {w : World} {base : Nat} {e : TypeId} {v : Value} {l : List UInt8} (h : Bts w base e v l) : ∃ A c, v = .slice A l.length c ∧ ReadsInt w .u8 A l.length (l.map fun b => (b.toNat : Int)) := by
  obtain ⟨g, cap, cur, fz, rfl, _, hg, _, hc, hm, _, ht⟩ := h
  refine ⟨_, _, rfl, by rw [List.length_map], by unfold maxLen at hm; omega, fun _ => ⟨_, rfl, fun j hj => ?_⟩⟩
  rw [add_plain, cell_of_row w g j cur e fz hg]
  have h1 : (cur.toList.take l.length)[j]? = (Lib.byteCells l)[j]? := by rw [ht]
  rw [List.getElem?_take, if_pos hj, Array.getElem?_toList] at h1
  rw [h1]
  simp [Lib.byteCells, hj]
theorem bts_text {P : Program} {w : World} {base : Nat} {src dst e : TypeId} {v : Value} {l : List UInt8} (hs : P.underlying src = some (.slice e)) (he : P.underlying e = some (.int .u8)) (hd : P.underlying dst = some .string) (h : Bts w base e v l) :
    (convert src dst v).run P w = .ok (.string ⟨l.toArray⟩) w := by
  obtain ⟨A, c, rfl, hr⟩ := bts_reads h
  rw [string_of_reads hs he hd hr]
  have e1 : strOfNums (l.map fun b => (b.toNat : Int)) = ⟨l.toArray⟩ := by
    unfold strOfNums
    rw [List.map_map]
    have e2 : (List.map ((fun n : Int => UInt8.ofNat n.toNat) ∘ fun b : UInt8 => (b.toNat : Int)) l) = l := by
      conv => rhs; rw [← List.map_id l]
      refine List.map_congr_left fun b _ => ?_
      simp
    rw [e2]
  rw [e1]
theorem bts_kept {w w1 : World} {base : Nat} {e : TypeId} {v : Value} {l : List UInt8} (h : Bts w base e v l) (hb : Below w.heap.size w w1) : Bts w1 base e v l := by
  obtain ⟨g, cap, cur, fz, rfl, h1, hg, h2⟩ := h
  exact ⟨g, cap, cur, fz, rfl, h1, blk_below hg hb, h2⟩
theorem bts_grown {w w1 : World} {base : Nat} {e : TypeId} {v : Value} {l : List UInt8} {row : Option Nat} (h : Bts w base e v l) (hg : w.grownBy w1 row) (hne : v.ownBlock ≠ row) : Bts w1 base e v l := by
  obtain ⟨g, cap, cur, fz, rfl, h1, hk, h2⟩ := h
  exact ⟨g, cap, cur, fz, rfl, h1, (hg.block g (blk_lt hk) hne).trans hk, h2⟩
theorem bts_lt {w : World} {base : Nat} {e : TypeId} {v : Value} {l : List UInt8} (h : Bts w base e v l) : ∀ k, v.ownBlock = some k → base ≤ k ∧ k < w.heap.size := by
  obtain ⟨g, cap, cur, fz, rfl, h1, hg, _⟩ := h
  intro k hk
  simp [Value.ownBlock] at hk
  subst hk
  exact ⟨h1, blk_lt hg⟩
/-- Cells that are written one behind the other, where no mark lies. -/
theorem stores_behind (P : Program) (g o : Nat) (t : TypeId) (fz : Nat × Nat) : ∀ (vs : List Value) (i : Nat) (cur : Array Value) (w : World), w.heap[g]? = some (.cells cur t fz) → Behind fz cur.size → o + i + vs.length ≤ cur.size → (∀ v ∈ vs, v.oneCell' = true) →
    ∃ cur', (storeCells ⟨g, o, none⟩ vs i).run P w = .ok () (w.setRow g cur') ∧ cur'.size = cur.size ∧ cur'.toList = cur.toList.take (o + i) ++ vs ++ cur.toList.drop (o + i + vs.length)
  | [], i, cur, w, hg, _, _, _ => by
    refine ⟨cur, ?_, rfl, by simp⟩
    rw [setRow_self w g cur t fz hg]
    rfl
  | v :: rest, i, cur, w, hg, hf, hl, h1 => by
    have hi : o + i < cur.size := by simp at hl; omega
    have ha : (⟨g, o, none⟩ : Addr).add i = ⟨g, o + i, none⟩ := by unfold Addr.add; split <;> simp_all
    have hst : (store ((⟨g, o, none⟩ : Addr).add i) v).run P w = .ok () (w.setRow g (cur.setIfInBounds (o + i) v)) := by
      rw [ha, run_store P w _ v _ (h1 v (by simp)), show w.cell? ⟨g, o + i, none⟩ = some cur[o + i] by rw [cell_of_row w g _ cur t fz hg]; simp [hi]]
      simp [frozen_behind hg hf hi, setCell_eq_setRow w g (o + i) cur t fz v hg]
    obtain ⟨cur', h2, h3, h4⟩ := stores_behind P g o t fz rest (i + 1) (cur.setIfInBounds (o + i) v) (w.setRow g (cur.setIfInBounds (o + i) v)) (setRow_heap w g cur _ t fz hg) (by rw [Array.size_setIfInBounds]; exact hf) (by simp at hl ⊢; omega) (fun x hx => h1 x (by simp [hx]))
    refine ⟨cur', ?_, by rw [h3, Array.size_setIfInBounds], ?_⟩
    · simp only [storeCells, Sem.run_bind, hst, Result.andThen_ok, h2, setRow_setRow]
    · rw [h4, Array.toList_setIfInBounds]
      apply List.ext_getElem?
      intro j
      have hlen : (cur.toList).length = cur.size := rfl
      simp only [List.getElem?_append, List.getElem?_take, List.getElem?_drop, List.length_append, List.length_take, List.length_set, List.length_cons, List.getElem?_set, List.getElem?_cons]
      simp only [List.length_cons] at hl
      grind

/-- 'append(b, s...)', s a text. -/
theorem append_bts {P : Program} (w : World) (base : Nat) (t u ty e : TypeId) (i : TypeInfo) (ht : P.underlying t = some (.slice e)) (hu : P.underlying u = some .string) (hi : P.info? e = some i) (hz : i.zero = some (.int .u8 0))
    (hs1 : i.size = 1) (hby : i.bytes = 1) (v : Value) (l : List UInt8) (h : Bts w base e v l) (s : ByteArray) (hn : l.length + s.size ≤ 140737488355328) (hbase : base ≤ w.heap.size) :
    ∃ v' w', (Builtin.append_ #[t, u] ty #[v, .string s]).run P w = .ok v' w' ∧ Bts w' base e v' (l ++ s.data.toList) ∧ w.grownBy w' v.ownBlock := by
  obtain ⟨g, cap, cur, fz, rfl, hbg, hg, hf, hnc, hcm, hcs, htake⟩ := h
  have hl2 : (l ++ s.data.toList).length = l.length + s.size := by rw [List.length_append, data_length]
  have hbc : Lib.byteCells (l ++ s.data.toList) = Lib.byteCells l ++ Lib.strCells s := by rw [Lib.byteCells_append]; rfl
  by_cases hroom : l.length + s.size ≤ cap
  · have hfc := Lib.run_firstCells_string (P := P) w 1 s
    obtain ⟨cur', h1, h2, h3⟩ := stores_behind P g l.length e fz (Lib.strCells s) 0 cur w hg hf (by rw [Lib.strCells_length]; omega) (Lib.strCells_oneCell s)
    simp only [Nat.add_zero, Lib.strCells_length] at h1 h3
    refine ⟨.slice (some ⟨g, 0, none⟩) (l.length + s.size) cap, w.setRow g cur', ?_, ⟨g, cap, cur', fz, by rw [hl2], hbg, setRow_heap w g cur _ e _ hg, by rw [h2]; exact hf, by rw [hl2]; exact hroom, hcm, by rw [h2, hcs], ?_⟩, ⟨rfl, rfl, rfl, by simp, fun k _ hk => setRow_other w g k _ (fun e => hk (by simp [Value.ownBlock, e]))⟩⟩
    · simp [Builtin.append_, run_underlying ht, run_underlying hu, sizeOf, typeInfo, hi, hs1, Builtin.lenOf, hroom, hfc, Addr.add_lit, h1]
    · have hlen : (l ++ s.data.toList).length = (Lib.byteCells l ++ Lib.strCells s).length := by rw [List.length_append, List.length_append, Lib.byteCells_length, Lib.strCells_length, data_length]
      rw [h3, htake, hbc, hlen]
      exact List.take_left
  · have holds : ∀ j u, (Lib.byteCells l)[j]? = some u → w.cell? ((⟨g, 0, none⟩ : Addr).add j) = some u := by
      intro j u hj
      rw [add_plain, cell_of_row w g j cur e fz hg]
      rw [← htake, List.getElem?_take] at hj
      split at hj
      · rw [Array.getElem?_toList] at hj
        exact hj
      · cases hj
    have hr := Lib.run_append_grow_string (P := P) w t u ty e i (.int .u8 0) ht hu hi hz ⟨g, 0, none⟩ l.length cap (Lib.byteCells l) (by rw [hs1, Lib.byteCells_length, Nat.mul_one]) holds s (by omega) (by omega) (by rw [hby]; exact growslice_fits (by omega) (by omega))
    have hge := grownCap_ge w (l.length + s.size) cap e
    have hcm2 : grownCap w (l.length + s.size) cap e ≤ maxLen := grownCap_le_maxLen w (l.length + s.size) cap e (by unfold maxLen; omega)
    refine ⟨_, _, hr, ⟨w.heap.size, _, _, (0, 0), by rw [hl2], hbase, heap_alloc_new w.drew _, .inl rfl, by rw [hl2]; exact hge, hcm2, ?_, ?_⟩, ⟨rfl, rfl, rfl, by simp, fun k hk _ => Below.heap_alloc w.drew _ k hk⟩⟩
    · have hz1 : (Value.int IntKind.u8 0).cells.size = 1 := rfl
      simp only [Array.size_append, List.size_toArray, size_zeroCells, hz1, Lib.byteCells_length, Lib.strCells_length]
      omega
    · have hlen : (l ++ s.data.toList).length = (Lib.byteCells l ++ Lib.strCells s).length := by rw [List.length_append, List.length_append, Lib.byteCells_length, Lib.strCells_length, data_length]
      simp only [Array.toList_append]
      rw [hbc, hlen]
      exact List.take_left
section
variable {P : Program} {ops : Array Oper} {rest : List Oper} {o : Oper} {a : Act} {Q : Exit → Act → World → Prop}
theorem wpList_append_bts (w : World) (hgd : o.guard = none) (sl x : Operand) (t u : TypeId)
    (ho : o.op = .call { callee := .builtin .append, args := #[sl, x], argTypes := #[t, u] })
    (base : Nat) (e : TypeId) (i : TypeInfo) (ht : P.underlying t = some (.slice e)) (hu : P.underlying u = some .string) (hi : P.info? e = some i) (hz : i.zero = some (.int .u8 0)) (hs1 : i.size = 1) (hby : i.bytes = 1)
    (v : Value) (l : List UInt8) (hs : a.eval sl = v) (hown : Bts w base e v l) (s : ByteArray) (hx : a.eval x = .string s) (hn : l.length + s.size ≤ 140737488355328) (hbase : base ≤ w.heap.size)
    (h : ∀ v' w', Bts w' base e v' (l ++ s.data.toList) → w.grownBy w' v.ownBlock → wpList P ops Q rest (a.put o.dst v') w') : wpList P ops Q (o :: rest) a w := by
  refine wpList_plain hgd fun K hK => ?_
  obtain ⟨v', w', hr, h2, h3⟩ := append_bts (P := P) w base t u o.type e i ht hu hi hz hs1 hby v l hown s hn hbase
  unfold Oper.wp execOp
  simp only [ho, resolve, invoke, builtin, Sem.run_bind, Sem.run_pure, Result.andThen_ok, List.map_toArray, List.map_cons, List.map_nil, hs, hx, hr]
  exact hK _ _ (h v' w' h2 h3)
/-- 'b := []byte(s)', at the operation: the block itself, and the slice. -/
theorem wpList_bytes (w : World) (hgd : o.guard = none) (src dst e : TypeId) (x : Operand) (ho : o.op = .convert src dst x) {u : TypeDesc} (hs : P.underlying src = some u) (hd : P.underlying dst = some (.slice e)) (he : P.underlying e = some (.int .u8)) (s : ByteArray) (hx : a.eval x = .string s)
    (h : ∀ g c z w1, g = w.heap.size → c = s.size + z → (s.size ≤ maxLen → c ≤ maxLen) → w1.heap[g]? = some (.cells (mcells s.data.toList z) e (c, c + 1)) → Below w.heap.size w w1 → wpList P ops Q rest (a.put o.dst (.slice (some ⟨g, 0, none⟩) s.size c)) w1) : wpList P ops Q (o :: rest) a w := by
  refine wpList_plain hgd fun K hK => ?_
  have h1 := grownCap_ge w s.size 0 e
  have hb := bytes_block w e s
  have e1 : s.size + (grownCap w s.size 0 e - s.size) = grownCap w s.size 0 e := by omega
  rw [e1] at hb
  unfold Oper.wp execOp
  simp only [ho, Sem.run_bind, Sem.run_pure, Result.andThen_ok, hx, Lib.run_convert_string_bytes w src dst e s hs hd he]
  exact hK _ _ (h _ _ (grownCap w s.size 0 e - s.size) _ rfl e1.symm (fun hm => grownCap_le_maxLen w s.size 0 e hm) hb (bytes_below (Below.refl _ _) (Nat.le_refl _) e s))
theorem wpList_bytes_bts (w : World) (hgd : o.guard = none) (src dst e : TypeId) (x : Operand) (ho : o.op = .convert src dst x) {u : TypeDesc} (hs : P.underlying src = some u) (hd : P.underlying dst = some (.slice e)) (he : P.underlying e = some (.int .u8)) (s : ByteArray) (hx : a.eval x = .string s) (hm : s.size ≤ maxLen)
    (base : Nat) (hb : base ≤ w.heap.size) (h : ∀ v w1, Bts w1 base e v s.data.toList → Below w.heap.size w w1 → wpList P ops Q rest (a.put o.dst v) w1) : wpList P ops Q (o :: rest) a w := by
  refine wpList_bytes w hgd src dst e x ho hs hd he s hx ?_
  intro g c z w1 hg hc hcm hk hB
  have hl := data_length s
  refine h _ w1 ⟨g, c, _, _, by rw [hl], by omega, hk, .inr ?_, by omega, hcm hm, ?_, mcells_take _ _⟩ hB
  · rw [mcells_size, hl]
    omega
  · rw [mcells_size, hl, hc]
theorem bts_far {w : World} {base : Nat} {e : TypeId} {v : Value} {l : List UInt8} (h : Bts w base e v l) {p : Addr} (hp : v.ownBlock ≠ some p.block) (u : Value) : Bts (w.setCell p u) base e v l := by
  obtain ⟨g, cap, cur, fz, rfl, h1, hg, h2⟩ := h
  refine ⟨g, cap, cur, fz, rfl, h1, (Below.heap_setCell w p u g (fun e => hp ?_)).trans hg, h2⟩
  rw [← e]
  rfl
/-- 'string(b)', at the operation. -/
theorem wpList_text (w : World) (hgd : o.guard = none) (src dst e : TypeId) (x : Operand) (ho : o.op = .convert src dst x) (hs : P.underlying src = some (.slice e)) (he : P.underlying e = some (.int .u8)) (hd : P.underlying dst = some .string) (v : Value) (hx : a.eval x = v) (base : Nat) (l : List UInt8) (hb : Bts w base e v l)
    (h : wpList P ops Q rest (a.put o.dst (.string ⟨l.toArray⟩)) w) : wpList P ops Q (o :: rest) a w := by
  refine wpList_plain hgd fun K hK => ?_
  unfold Oper.wp execOp
  simp only [ho, Sem.run_bind, Sem.run_pure, Result.andThen_ok, hx, bts_text hs he hd hb]
  exact hK _ _ h
end
end Go.Proofs.Ytmaojfeikbdkhaa.Mark
