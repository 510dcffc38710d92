/- What holds of the volumes behind every command. -/
import Derived.Test.YtlfonfceaiiinaaIx
namespace Go.Proofs.Ytlfonfceaiiinaa.PAll
open Go.RowKit Go.Proofs.YtlfonfceaiiinaaW.PrintWords Go.Proofs.YtlfonfceaiiinaaW.PrintLast Go.Proofs.YtlfonfceaiiinaaW.PrintMore

abbrev Rep := S37
/-- A volume that is open or locked has no places; any other one has fourteen. -/
def VolOk (v : Vol) : Prop := ((v.f4 = 1 ∨ v.f4 = 2) ∧ v.f6 = []) ∨ ((v.f4 = 3 ∨ v.f4 = 4 ∨ v.f4 = 5) ∧ v.f6.length = 14)
/-- How many volumes have this phase. -/
def cnt (p : Int) : List Vol → Nat
  | [] => 0
  | v :: l => (if v.f4 = p then 1 else 0) + cnt p l
def Good (n : Nat) (l0 : List Vol) (l1 : List Nam) : Prop := (∀ v ∈ l0, VolOk v) ∧ cnt 4 l0 = 2 * cnt 5 l0 ∧ l0.length ≤ 48 ∧ l1.length ≤ 64 ∧ ∀ v ∈ l0, v.f5.length ≤ n
/-- A reply as it is handed back. -/
def repV (r : Rep) : Value := .agg #[.int .i64 r.f0, .int .i64 r.f1, .int .i64 r.f2, .int .i64 r.f3, .int .u32 r.f4, .bool r.f5]
/-- A slice that reads as l, its blocks in P. -/
def SlP (P : Nat → Prop) {α : Type} (k : Kd α) (w : World) (v : Value) (l : List α) : Prop := Kd.V k 0 w 0 P v l
theorem SlP.sl {P : Nat → Prop} {α : Type} {k : Kd α} {w : World} {v : Value} {l : List α} (h : SlP P k w v l) : Sl k w v l := Sl.of_V h
theorem SlP.below {P : Nat → Prop} {α : Type} {k : Kd α} {w w1 : World} {v : Value} {l : List α} (h : SlP P k w v l) (hb : Below w.heap.size w w1) : SlP P k w1 v l := Kd.V_below h hb
theorem SlP.mono {P P' : Nat → Prop} {α : Type} {k : Kd α} {w : World} {v : Value} {l : List α} (h : SlP P k w v l) (hp : ∀ q, P q → P' q) : SlP P' k w v l := Kd.V_mono h hp
theorem SlP.old {P P' : Nat → Prop} {α : Type} {k : Kd α} {w : World} {v : Value} {l : List α} (h : SlP P k w v l) (hp : ∀ q, P q → q < w.heap.size → P' q) : SlP P' k w v l := Kd.V_mono (Kd.V_bound h) (fun q hq => hp q hq.1 hq.2)
theorem SlP.nil (P : Nat → Prop) {α : Type} (k : Kd α) (w : World) : SlP P k w (.slice none 0 0) [] := Kd.V_nil k 0 w 0 P
theorem SlP.far {P : Nat → Prop} {α : Type} {k : Kd α} {w : World} {v : Value} {l : List α} (h : SlP P k w v l) {p : Addr} (hp : ∀ q, P q → q ≠ p.block) (u : Value) : SlP P k (w.setCell p u) v l := Kd.V_far h hp u
/-- What is handed back by what a command does; all readings lie in P. -/
def Back (P : Nat → Prop) (n : Nat) (l2 : List Ses) (w : World) (e : Ending) (w' : World) : Prop := ∃ (u0 u1 u2 : Value) (l0 : List Vol) (l1 : List Nam) (r : Rep), e = .returned (.tuple #[.agg #[u0, u1, u2], repV r]) ∧ SlP P k45 w' u0 l0 ∧ SlP P k92 w' u1 l1 ∧ SlP P k64 w' u2 l2 ∧ Good n l0 l1 ∧ Below w.heap.size w w'
/-- Both results, stored one behind the other. -/
theorem out_cells {w : World} {g4 g5 t4 t5 : Nat} {a0 a1 a2 b0 b1 b2 b3 b4 b5 : Value} (B4 : w.heap[g4]? = some (.cells #[a0, a1, a2] t4 (0, 0))) (B5 : w.heap[g5]? = some (.cells #[b0, b1, b2, b3, b4, b5] t5 (0, 0))) (ne : g4 ≠ g5) {B : Nat} {w0 : World} (HB : Below B w0 w) (G4 : B ≤ g4) (G5 : B ≤ g5) (x0 x1 x2 y0 y1 y2 y3 y4 y5 : Value) :
    (((((((((w.setCell ⟨g4, 0, none⟩ x0).setCell ⟨g4, 1, none⟩ x1).setCell ⟨g4, 2, none⟩ x2).setCell ⟨g5, 0, none⟩ y0).setCell ⟨g5, 1, none⟩ y1).setCell ⟨g5, 2, none⟩ y2).setCell ⟨g5, 3, none⟩ y3).setCell ⟨g5, 4, none⟩ y4).setCell ⟨g5, 5, none⟩ y5).heap[g4]? = some (.cells #[x0, x1, x2] t4 (0, 0)) ∧
    (((((((((w.setCell ⟨g4, 0, none⟩ x0).setCell ⟨g4, 1, none⟩ x1).setCell ⟨g4, 2, none⟩ x2).setCell ⟨g5, 0, none⟩ y0).setCell ⟨g5, 1, none⟩ y1).setCell ⟨g5, 2, none⟩ y2).setCell ⟨g5, 3, none⟩ y3).setCell ⟨g5, 4, none⟩ y4).setCell ⟨g5, 5, none⟩ y5).heap[g5]? = some (.cells #[y0, y1, y2, y3, y4, y5] t5 (0, 0)) ∧
    Below B w0 (((((((((w.setCell ⟨g4, 0, none⟩ x0).setCell ⟨g4, 1, none⟩ x1).setCell ⟨g4, 2, none⟩ x2).setCell ⟨g5, 0, none⟩ y0).setCell ⟨g5, 1, none⟩ y1).setCell ⟨g5, 2, none⟩ y2).setCell ⟨g5, 3, none⟩ y3).setCell ⟨g5, 4, none⟩ y4).setCell ⟨g5, 5, none⟩ y5) := by
  refine ⟨?_, ?_, ?_⟩
  · exact blk_far (blk_far (blk_far (blk_far (blk_far (blk_far (blk_put (blk_put (blk_put B4 0 x0 rfl) 1 x1 rfl) 2 x2 rfl) ne _) ne _) ne _) ne _) ne _) ne _
  · exact blk_put (blk_put (blk_put (blk_put (blk_put (blk_put (blk_far (blk_far (blk_far B5 (Ne.symm ne) _) (Ne.symm ne) _) (Ne.symm ne) _) 0 y0 rfl) 1 y1 rfl) 2 y2 rfl) 3 y3 rfl) 4 y4 rfl) 5 y5 rfl
  · exact (((((((((HB.setCell (p := ⟨g4, 0, none⟩) G4 _).setCell (p := ⟨g4, 1, none⟩) G4 _).setCell (p := ⟨g4, 2, none⟩) G4 _).setCell (p := ⟨g5, 0, none⟩) G5 _).setCell (p := ⟨g5, 1, none⟩) G5 _).setCell (p := ⟨g5, 2, none⟩) G5 _).setCell (p := ⟨g5, 3, none⟩) G5 _).setCell (p := ⟨g5, 4, none⟩) G5 _).setCell (p := ⟨g5, 5, none⟩) G5 _)
/-- A new box, told at once. -/
theorem box_new (w : World) (cs : Array Value) (t : Nat) : ∃ g w', w.heap.size = g ∧ w.alloc (.cells cs t (0, 0)) = w' ∧ w'.heap[g]? = some (.cells cs t (0, 0)) ∧ Below w.heap.size w w' := ⟨_, _, rfl, rfl, blk_new w _, below_alloc (Below.refl _ _) _⟩
/-- Cells of a box, stored one behind the other. -/
def stN (w : World) (g : Nat) : Nat → List Value → World
  | _, [] => w
  | i, v :: l => stN (w.setCell ⟨g, i, none⟩ v) g (i + 1) l
theorem stN_far {g g' : Nat} (hn : g' ≠ g) {t : TypeId} {cs : Array Value} : ∀ (l : List Value) (i : Nat) (w : World), w.heap[g']? = some (.cells cs t (0, 0)) → (stN w g i l).heap[g']? = some (.cells cs t (0, 0))
  | [], _, _w, h => h
  | v :: l, i, _w, h => stN_far hn l (i + 1) _ (blk_far h hn v)
theorem stN_below {B g : Nat} {w0 : World} (hg : B ≤ g) : ∀ (l : List Value) (i : Nat) (w : World), Below B w0 w → Below B w0 (stN w g i l)
  | [], _, _w, h => h
  | v :: l, i, _w, h => stN_below hg l (i + 1) _ (h.setCell (p := ⟨g, i, none⟩) hg v)
theorem stN_size {g : Nat} : ∀ (l : List Value) (i : Nat) (w : World), (stN w g i l).heap.size = w.heap.size
  | [], _, _ => rfl
  | v :: l, i, w => (stN_size l (i + 1) _).trans (by simp [World.setCell])
theorem stN_at {g : Nat} {t : TypeId} : ∀ (l : List Value) (pre old : List Value) (w : World), old.length = l.length → w.heap[g]? = some (.cells (pre ++ old).toArray t (0, 0)) → (stN w g pre.length l).heap[g]? = some (.cells (pre ++ l).toArray t (0, 0))
  | [], pre, old, w, ho, h => by rw [List.eq_nil_of_length_eq_zero ho] at h; exact h
  | v :: l, pre, [], w, ho, h => by simp at ho
  | v :: l, pre, o :: old, w, ho, h => by
    have h1 := stN_at l (pre ++ [v]) old (w.setCell ⟨g, pre.length, none⟩ v) (by simpa using ho) (blk_put h pre.length v (by simp))
    rw [List.length_append, List.append_assoc] at h1
    exact h1
theorem Good.more {n m : Nat} {l0 : List Vol} {l1 : List Nam} (h : Good n l0 l1) (hm : n ≤ m) : Good m l0 l1 := ⟨h.1, h.2.1, h.2.2.1, h.2.2.2.1, fun v hv => Nat.le_trans (h.2.2.2.2 v hv) hm⟩
theorem cnt_append (p : Int) (x : Vol) : ∀ l : List Vol, cnt p (l ++ [x]) = cnt p l + (if x.f4 = p then 1 else 0)
  | [] => by simp [cnt]
  | v :: l => by
    rw [List.cons_append, cnt, cnt, cnt_append p x l]
    omega
theorem cnt_set (p : Int) (x : Vol) : ∀ (l : List Vol) (i : Nat) (h : i < l.length), cnt p (l.set i x) + (if l[i].f4 = p then 1 else 0) = cnt p l + (if x.f4 = p then 1 else 0)
  | [], _, h => absurd h (Nat.not_lt_zero _)
  | v :: l, 0, _ => by
    rw [List.set_cons_zero, cnt, cnt, List.getElem_cons_zero]
    omega
  | v :: l, i + 1, h => by
    have ih := cnt_set p x l i (by simpa using h)
    rw [List.set_cons_succ, cnt, cnt, List.getElem_cons_succ]
    omega
/-- A volume that is put in the place of one, its phase and how many places it has being what they were. -/
theorem Good.keep {n m : Nat} {l0 : List Vol} {l1 l1' : List Nam} (h : Good n l0 l1) (i : Nat) (hi : i < l0.length) (x : Vol) (hp : x.f4 = l0[i].f4) (hl : x.f6.length = l0[i].f6.length) (h5 : x.f5.length ≤ m) (hm : n ≤ m) (h1 : l1'.length ≤ 64) : Good m (l0.set i x) l1' := by
  have hx : VolOk x := by
    have h0 := h.1 _ (List.getElem_mem hi)
    unfold VolOk at h0 ⊢
    rw [hp, hl]
    rcases h0 with ⟨a, b⟩ | ⟨a, b⟩
    · refine .inl ⟨a, List.eq_nil_of_length_eq_zero ?_⟩
      rw [hl, b]
      rfl
    · exact .inr ⟨a, b⟩
  refine ⟨fun v hv => ?_, ?_, by rw [List.length_set]; exact h.2.2.1, h1, fun v hv => ?_⟩
  · rcases List.mem_or_eq_of_mem_set hv with hv | rfl
    · exact h.1 v hv
    · exact hx
  · have h4 := cnt_set 4 x l0 i hi
    have h5 := cnt_set 5 x l0 i hi
    rw [hp] at h4 h5
    have := h.2.1
    omega
  · rcases List.mem_or_eq_of_mem_set hv with hv | rfl
    · exact Nat.le_trans (h.2.2.2.2 v hv) hm
    · exact h5
/-- A volume that is locked or sealed. -/
theorem Good.turn {n : Nat} {l0 : List Vol} {l1 : List Nam} (h : Good n l0 l1) (i : Nat) (hi : i < l0.length) (x : Vol) (hx : VolOk x) (ho : l0[i].f4 ≠ 4 ∧ l0[i].f4 ≠ 5) (hn : x.f4 ≠ 4 ∧ x.f4 ≠ 5) (h5 : x.f5.length ≤ n) : Good n (l0.set i x) l1 := by
  refine ⟨fun v hv => ?_, ?_, by rw [List.length_set]; exact h.2.2.1, h.2.2.2.1, fun v hv => ?_⟩
  · rcases List.mem_or_eq_of_mem_set hv with hv | rfl
    · exact h.1 v hv
    · exact hx
  · have h4 := cnt_set 4 x l0 i hi
    have h5 := cnt_set 5 x l0 i hi
    rw [if_neg ho.1, if_neg hn.1] at h4
    rw [if_neg ho.2, if_neg hn.2] at h5
    have := h.2.1
    omega
  · rcases List.mem_or_eq_of_mem_set hv with hv | rfl
    · exact h.2.2.2.2 v hv
    · exact h5
theorem Good.add {n : Nat} {l0 : List Vol} {l1 : List Nam} (h : Good n l0 l1) (hl : l0.length < 48) (x : Vol) (hx : VolOk x) (hn : x.f4 ≠ 4 ∧ x.f4 ≠ 5) (h5 : x.f5.length ≤ n) : Good n (l0 ++ [x]) l1 := by
  refine ⟨fun v hv => ?_, ?_, by rw [List.length_append]; simp; omega, h.2.2.2.1, fun v hv => ?_⟩
  · rcases List.mem_append.1 hv with hv | hv
    · exact h.1 v hv
    · rw [List.mem_singleton.1 hv]; exact hx
  · rw [cnt_append, cnt_append, if_neg hn.1, if_neg hn.2]
    have := h.2.1
    omega
  · rcases List.mem_append.1 hv with hv | hv
    · exact h.2.2.2.2 v hv
    · rw [List.mem_singleton.1 hv]; exact h5
/-- Two sealed volumes that are paired, and their sum. -/
theorem Good.pair {n : Nat} {l0 : List Vol} {l1 : List Nam} (h : Good n l0 l1) (hl : l0.length < 48) (i k : Nat) (hi : i < l0.length) (hk : k < l0.length) (hik : i ≠ k) (a b x : Vol) (ha : l0[i].f4 = 3) (hb : l0[k].f4 = 3) (a4 : a.f4 = 4) (b4 : b.f4 = 4) (x5 : x.f4 = 5) (aok : VolOk a) (bok : VolOk b) (xok : VolOk x) (an : a.f5.length ≤ n) (bn : b.f5.length ≤ n) (xn : x.f5.length ≤ n) : Good n (((l0.set i a).set k b) ++ [x]) l1 := by
  have hk2 : k < (l0.set i a).length := by rw [List.length_set]; exact hk
  have hbk : (l0.set i a)[k].f4 = 3 := by rw [List.getElem_set_ne hik]; exact hb
  have mem : ∀ v, v ∈ ((l0.set i a).set k b) ++ [x] → v ∈ l0 ∨ v = a ∨ v = b ∨ v = x := by
    intro v hv
    rcases List.mem_append.1 hv with hv | hv
    · rcases List.mem_or_eq_of_mem_set hv with hv | rfl
      · rcases List.mem_or_eq_of_mem_set hv with hv | rfl
        · exact .inl hv
        · exact .inr (.inl rfl)
      · exact .inr (.inr (.inl rfl))
    · exact .inr (.inr (.inr (List.mem_singleton.1 hv)))
  refine ⟨fun v hv => ?_, ?_, by rw [List.length_append, List.length_set, List.length_set]; simp; omega, h.2.2.2.1, fun v hv => ?_⟩
  · rcases mem v hv with hv | rfl | rfl | rfl
    · exact h.1 v hv
    · exact aok
    · exact bok
    · exact xok
  · have h4 := cnt_set 4 a l0 i hi
    have h5 := cnt_set 5 a l0 i hi
    have g4 := cnt_set 4 b (l0.set i a) k hk2
    have g5 := cnt_set 5 b (l0.set i a) k hk2
    rw [ha, a4] at h4 h5
    rw [hbk, b4] at g4 g5
    rw [cnt_append, cnt_append, x5]
    have := h.2.1
    simp only [Int.reduceEq, if_true, if_false, Nat.add_zero] at h4 h5 g4 g5 ⊢
    omega
  · rcases mem v hv with hv | rfl | rfl | rfl
    · exact h.2.2.2.2 v hv
    · exact an
    · exact bn
    · exact xn
end Go.Proofs.Ytlfonfceaiiinaa.PAll
