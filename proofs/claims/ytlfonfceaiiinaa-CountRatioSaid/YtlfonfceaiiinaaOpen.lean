/- What a reading of an argument gives: a value of the printed kinds that the cells hold, its numbers' bounds, its lengths, and how much of the bulk it takes. -/
import Derived.Test.YtlfonfceaiiinaaCut
import Derived.Test.YtlfonfceaiiinaaRows
import Derived.Deep.Slices
import Derived.ChangeArms
import Derived.SizedLaws
namespace Go.Proofs.Ytlfonfceaiiinaa.Open
open Go.RowKit Go.Proofs.YtlfonfceaiiinaaW.PrintWords
open Go.ChangeShapes Go.WideShapes Go.Deep

/-- Kind k is what cells of type t read as. wf: what holds of every reading; sz: what holds within the form's reach; wt: at most the bulk. -/
structure Opens (P : Program) {α : Type} (k : Kd α) (t : Nat) (wf sz : α → Prop) (wt : α → Nat) : Prop where
  cells : k.sz = P.cellsOf t
  reads : ∀ {H : Type} (enc : TypeId × Value → H) (w : World) (base : Nat) (spare : Nat → Bool) (held : Bool) (fuel : Nat) (cs : List Value) (d : DataW H) (ps : List MemPlace),
    DataW.trod enc P w base spare held fuel t cs = some (d, ps) →
      ∃ x, k.K w x cs ∧ wf x ∧ ((∀ n ∈ d.weights P t, n ≤ reachBytes) → sz x) ∧ wt x ≤ Rows.uptoBulk d

/-- The fields of a struct (types and offsets), from cell off on. -/
structure OpensF (P : Program) {α : Type} (ts : List (Nat × Nat)) (off : Nat) (k : Kd α) (wf sz : α → Prop) (wt : α → Nat) : Prop where
  reads : ∀ {H : Type} (enc : TypeId × Value → H) (w : World) (base : Nat) (spare : Nat → Bool) (held : Bool) (fuel : Nat) (cs : List Value) (xs : List (DataW H × List MemPlace)),
    xs.length = ts.length → (∀ (i t o : Nat), ts[i]? = some (t, o) → DataW.trod enc P w base spare held fuel t ((cs.drop o).take (P.cellsOf t)) = xs[i]?) → cs.length = off + k.sz →
      ∃ x, k.K w x (cs.drop off) ∧ wf x ∧ ((∀ n ∈ DataW.weightsEach P (ts.map (·.1)) (xs.map (·.1)), n ≤ reachBytes) → sz x) ∧ wt x ≤ Rows.uptoBulkAll (xs.map (·.1))

section
variable {P : Program} {α β : Type}

theorem Opens.imp {k : Kd α} {t : TypeId} {wf sz wf' sz' : α → Prop} {wt wt' : α → Nat} (h : Opens P k t wf sz wt) (hw : ∀ x, wf x → wf' x) (hs : ∀ x, sz x → sz' x) (ht : ∀ x, wt' x ≤ wt x) : Opens P k t wf' sz' wt' := by
  refine ⟨h.1, ?_⟩
  intro H enc w base spare held fuel cs d ps hd
  obtain ⟨x, h1, h2, h3, h4⟩ := h.2 enc w base spare held fuel cs d ps hd
  exact ⟨x, h1, hw x h2, fun hn => hs x (h3 hn), Nat.le_trans (ht x) h4⟩

theorem opens_int {t : TypeId} {q : IntKind} (hu : P.underlying t = some (.int q)) (hc : P.cellsOf t = 1) : Opens P (Kd.int q) t (fun x => (Lit.int q x).wf = true) (fun _ => True) (fun _ => 1) := by
  refine ⟨hc.symm ▸ rfl, ?_⟩
  intro H enc w base spare held fuel cs d ps h
  obtain ⟨n, rfl, hx, hw⟩ := DataW.trod_int hu h
  obtain ⟨rfl, rfl⟩ := Prod.mk.inj hx
  exact ⟨n, rfl, hw, fun _ => trivial, by simp [Rows.uptoBulk]⟩

theorem opens_bool {t : TypeId} (hu : P.underlying t = some .bool) (hc : P.cellsOf t = 1) : Opens P Kd.bool t (fun _ => True) (fun _ => True) (fun _ => 1) := by
  refine ⟨hc.symm ▸ rfl, ?_⟩
  intro H enc w base spare held fuel cs d ps h
  obtain ⟨b, rfl, hx⟩ := DataW.trod_bool hu h
  obtain ⟨rfl, rfl⟩ := Prod.mk.inj hx
  exact ⟨b, rfl, trivial, fun _ => trivial, by simp [Rows.uptoBulk]⟩

theorem opens_string {t : TypeId} (hu : P.underlying t = some .string) (hc : P.cellsOf t = 1) : Opens P Kd.string t (fun s => s.size ≤ maxLen) (fun s => s.size ≤ 140737488351232) (fun s => s.size + 1) := by
  refine ⟨hc.symm ▸ rfl, ?_⟩
  intro H enc w base spare held fuel cs d ps h
  obtain ⟨s, rfl, hx, hs⟩ := DataW.trod_string hu h
  obtain ⟨rfl, rfl⟩ := Prod.mk.inj hx
  have e : s.data.toList.length = s.size := by rw [Array.length_toList]; rfl
  refine ⟨s, rfl, hs, fun hw => ?_, ?_⟩
  · have := hw s.data.toList.length (by simp [DataW.weights])
    rw [e] at this
    exact this
  · rw [Rows.uptoBulk, e]
    exact Nat.le_refl _

theorem mapM_cell {w : World} {a : Addr} {n : Nat} {cs : List Value} (h : (List.range n).mapM (fun i => w.cell? (a.add i)) = some cs) : cs.length = n ∧ ∀ i u, cs[i]? = some u → w.cell? (a.add i) = some u := by
  have hl : cs.length = n := by simpa using mapM_some_length h
  refine ⟨hl, fun i u hu => ?_⟩
  have hlt : i < n := by rw [← hl]; exact (List.getElem?_eq_some_iff.1 hu).1
  rw [mapM_some_get h i i (by simp [hlt]), hu]

theorem weightsAll_mem {H : Type} {e : TypeId} {l : List (DataW H)} {d : DataW H} (h : d ∈ l) : ∀ n ∈ d.weights P e, n ∈ DataW.weightsAll P e l := by
  induction l with
  | nil => cases h
  | cons x r ih =>
    intro n hn
    simp only [DataW.weightsAll, List.mem_append]
    cases List.mem_cons.1 h with
    | inl he => subst he; exact .inl hn
    | inr he => exact .inr (ih he n hn)

theorem bulkAll_append {H : Type} (l r : List (DataW H)) : Rows.uptoBulkAll (l ++ r) = Rows.uptoBulkAll l + Rows.uptoBulkAll r := by
  induction l with
  | nil => simp [Rows.uptoBulkAll]
  | cons x l ih => simp only [List.cons_append, Rows.uptoBulkAll, ih]; omega

/-- The weights of a list's elements, added up. -/
def sumW (wt : α → Nat) : List α → Nat
  | [] => 0
  | x :: r => wt x + sumW wt r
theorem sumW_append (wt : α → Nat) (l r : List α) : sumW wt (l ++ r) = sumW wt l + sumW wt r := by
  induction l with
  | nil => simp [sumW]
  | cons x l ih => simp only [List.cons_append, sumW, ih]; omega
theorem sumW_mem (wt : α → Nat) {l : List α} {x : α} (h : x ∈ l) : wt x ≤ sumW wt l := by
  induction l with
  | nil => cases h
  | cons y l ih =>
    simp only [sumW]
    cases List.mem_cons.1 h with
    | inl he => subst he; omega
    | inr he => have := ih he; omega
theorem sumW_le {H : Type} (wt : α → Nat) : ∀ (n : Nat) (f : Nat → α) (D : Nat → DataW H), (∀ i, i < n → wt (f i) ≤ Rows.uptoBulk (D i)) → sumW wt ((List.range n).map f) ≤ Rows.uptoBulkAll ((List.range n).map D)
  | 0, _, _, _ => by simp [sumW]
  | n + 1, f, D, h => by
    rw [List.range_succ, List.map_append, List.map_append, sumW_append, bulkAll_append]
    have := sumW_le wt n f D (fun i hi => h i (by omega))
    have := h n (by omega)
    simp only [List.map_cons, List.map_nil, sumW, Rows.uptoBulkAll]
    omega
theorem length_le_sumW (wt : α → Nat) (h1 : ∀ x, 1 ≤ wt x) (l : List α) : l.length ≤ sumW wt l := by
  induction l with
  | nil => simp [sumW]
  | cons x l ih => have := h1 x; simp only [sumW, List.length_cons]; omega

theorem opens_slice {k : Kd α} {t e : TypeId} {wf sz : α → Prop} {wt : α → Nat} (hu : P.underlying t = some (.slice e)) (hc : P.cellsOf t = 1) {B : Nat} (hB : P.bytesOf e = B) (h : Opens P k e wf sz wt) :
    Opens P (Kd.slice e k) t (fun l => l.length ≤ 9223372036854775807 ∧ ∀ x ∈ l, wf x) (fun l => l.length * B ≤ 140737488351232 ∧ ∀ x ∈ l, sz x) (fun l => sumW wt l + 1) := by
  refine ⟨hc.symm ▸ rfl, ?_⟩
  intro H enc w base spare held fuel cs d ps hd
  rcases open_slice hu hd with ⟨rfl, hx⟩ | ⟨a, len, cap, m, n, D, Pl, rfl, hb, hl, hm, hmm, hx, hel⟩
  · obtain ⟨rfl, rfl⟩ := Prod.mk.inj hx
    exact ⟨[], ⟨none, 0, rfl, Nat.le_refl _, rfl, by simp, fun h => absurd h (Nat.lt_irrefl _)⟩, ⟨by simp, fun x hx => by cases hx⟩, fun _ => ⟨by simp, fun x hx => by cases hx⟩, by simp [sumW, Rows.uptoBulk]⟩
  · obtain ⟨rfl, rfl⟩ := Prod.mk.inj hx
    have hlm : len ≤ m := by rw [hmm]; split <;> omega
    have hel' : ∀ i, i < len → ∃ x, (∃ c : List Value, c.length = k.sz ∧ k.K w x c ∧ ∀ j u, c[j]? = some u → w.cell? (a.add (i * k.sz + j)) = some u) ∧ wf x ∧ ((∀ n ∈ (D i).weights P e, n ≤ reachBytes) → sz x) ∧ wt x ≤ Rows.uptoBulk (D i) := by
      intro i hi
      obtain ⟨c, h1, h2⟩ := hel i (by omega)
      obtain ⟨x, hK, hw, hs, ht⟩ := h.2 enc w base spare held n c (D i) (Pl i) h2
      unfold World.cells? at h1
      split at h1
      · obtain ⟨hcl, hcc⟩ := mapM_cell h1
        refine ⟨x, ⟨c, by rw [hcl, h.1], hK, fun j u hu => ?_⟩, hw, hs, ht⟩
        have := hcc j u hu
        rw [Go.Deep.add_add, ← h.1] at this
        exact this
      · cases h1
    rcases Nat.eq_zero_or_pos len with h0 | h0
    · subst h0
      refine ⟨[], ⟨some a, cap, rfl, Nat.zero_le _, rfl, by simp, fun h => absurd h (Nat.lt_irrefl _)⟩, ⟨by simp, fun x hx => by cases hx⟩, fun _ => ⟨by simp, fun x hx => by cases hx⟩, ?_⟩
      simp [sumW, Rows.uptoBulk]
    obtain ⟨x0, _⟩ := hel' 0 h0
    have : Inhabited α := ⟨x0⟩
    obtain ⟨f, hf⟩ := choose_lt hel'
    have hmax : len ≤ 9223372036854775807 := by unfold maxLen at hm; omega
    have hlen : ((List.range len).map f).length = len := by simp
    refine ⟨(List.range len).map f, ⟨some a, cap, by rw [hlen], by rw [hlen]; exact hl, rfl, by rw [hlen]; exact hmax, fun _ => ⟨a, rfl, fun j p hj => ?_⟩⟩, ⟨by rw [hlen]; exact hmax, fun x hx => ?_⟩, fun hw => ⟨?_, fun x hx => ?_⟩, ?_⟩
    · rw [List.getElem?_map] at hj
      obtain ⟨i, hi, rfl⟩ := Option.map_eq_some_iff.1 hj
      have hij : j < len ∧ i = j := by
        have := List.getElem?_eq_some_iff.1 hi
        obtain ⟨h1, h2⟩ := this
        simp at h1 h2
        exact ⟨h1, h2.symm⟩
      obtain ⟨hj1, rfl⟩ := hij
      exact (hf i hj1).1
    · obtain ⟨i, hi, rfl⟩ := List.mem_map.1 hx
      exact (hf i (List.mem_range.1 hi)).2.1
    · have := hw ((((List.range len).map D).length + ((List.range (m - len)).map fun j => D (len + j)).length) * P.bytesOf e) (by simp [DataW.weights, hu])
      rw [hB] at this
      simp only [List.length_map, List.length_range] at this
      rw [hlen]
      exact Nat.le_trans (Nat.mul_le_mul_right _ (by omega)) this
    · obtain ⟨i, hi, rfl⟩ := List.mem_map.1 hx
      refine (hf i (List.mem_range.1 hi)).2.2.1 (fun n hn => hw n ?_)
      simp only [DataW.weights, hu, List.mem_cons, List.mem_append]
      exact .inr (.inl (weightsAll_mem (List.mem_map.2 ⟨i, hi, rfl⟩) n hn))
    · have := sumW_le wt len f D (fun i hi => (hf i hi).2.2.2)
      simp only [Rows.uptoBulk]
      omega

theorem opensF_one {t off : Nat} {k : Kd α} {wf sz : α → Prop} {wt : α → Nat} (h : Opens P k t wf sz wt) : OpensF P [(t, off)] off k wf sz wt := by
  refine ⟨?_⟩
  intro H enc w base spare held fuel cs xs hxl hx hl
  match xs, hxl with
  | [(d, ps)], _ =>
    have h1 := hx 0 t off rfl
    simp only [List.getElem?_cons_zero] at h1
    have e : (cs.drop off).take (P.cellsOf t) = cs.drop off := List.take_of_length_le (by rw [List.length_drop, ← h.1]; omega)
    rw [e] at h1
    obtain ⟨x, hK, hw, hs, ht⟩ := h.2 enc w base spare held fuel _ d ps h1
    refine ⟨x, hK, hw, fun hn => hs fun n hm => hn n ?_, ?_⟩
    · simp [DataW.weightsEach, hm]
    · simp only [List.map_cons, List.map_nil, Rows.uptoBulkAll]
      omega

theorem opensF_cons {t off off' : Nat} {ts : List (Nat × Nat)} {a : Kd α} {b : Kd β} {wfa sza : α → Prop} {wfb szb : β → Prop} {wta : α → Nat} {wtb : β → Nat} (ho' : off' = off + a.sz)
    (ha : Opens P a t wfa sza wta) (hb : OpensF P ts off' b wfb szb wtb) :
    OpensF P ((t, off) :: ts) off (Kd.pair a b) (fun x => wfa x.1 ∧ wfb x.2) (fun x => sza x.1 ∧ szb x.2) (fun x => wta x.1 + wtb x.2) := by
  refine ⟨?_⟩
  intro H enc w base spare held fuel cs xs hxl hx hl
  subst ho'
  match xs, hxl with
  | (d, ps) :: ys, hxl =>
    have h1 := hx 0 t off rfl
    simp only [List.getElem?_cons_zero] at h1
    have h2 : ∀ (i t o : Nat), ts[i]? = some (t, o) → DataW.trod enc P w base spare held fuel t ((cs.drop o).take (P.cellsOf t)) = ys[i]? := fun i t o hg => by
      have := hx (i + 1) t o (by simpa using hg)
      simpa using this
    have hl' : cs.length = off + (a.sz + b.sz) := hl
    obtain ⟨x, hK, hw, hs, ht⟩ := ha.2 enc w base spare held fuel _ d ps h1
    obtain ⟨y, hK', hw', hs', ht'⟩ := hb.1 enc w base spare held fuel cs ys (by simpa using hxl) h2 (by omega)
    refine ⟨(x, y), ⟨(cs.drop off).take (P.cellsOf t), cs.drop (off + a.sz), ?_, hK, hK'⟩, ⟨hw, hw'⟩, fun hn => ⟨hs fun n hm => hn n ?_, hs' fun n hm => hn n ?_⟩, ?_⟩
    · rw [← ha.1, ← List.drop_drop, List.take_append_drop]
    · simp only [List.map_cons, DataW.weightsEach, List.mem_append]
      exact .inl hm
    · simp only [List.map_cons, DataW.weightsEach, List.mem_append]
      exact .inr hm
    · simp only [List.map_cons, Rows.uptoBulkAll]
      omega

theorem opens_struct {t : Nat} {fs : Array Field} {ts : List (Nat × Nat)} {k : Kd α} {g : β → α} (mk : α → β) (hmk : ∀ x, g (mk x) = x) {wf sz : α → Prop} {wt : α → Nat} (hu : P.underlying t = some (.struct fs)) (hts : fs.toList.map (fun f => (f.type, f.offset)) = ts) (hc : k.sz = P.cellsOf t) (h : OpensF P ts 0 k wf sz wt) :
    Opens P (Kd.iso k g) t (fun x => wf (g x)) (fun x => sz (g x)) (fun x => wt (g x) + 1) := by
  refine ⟨hc, ?_⟩
  intro H enc w base spare held fuel cs d ps hd
  obtain ⟨xs, n, rfl, hx, hl, hlen, hf⟩ := DataW.trod_struct hu hd
  obtain ⟨rfl, rfl⟩ := Prod.mk.inj hx
  subst hts
  have hty : (fs.toList.map fun f => (f.type, f.offset)).map (·.1) = fs.toList.map (·.type) := by rw [List.map_map]; rfl
  obtain ⟨x, hK, hw, hs, ht⟩ := h.1 enc w base spare held n cs xs (by simpa using hlen) (fun i t o hi => by
    rw [List.getElem?_map] at hi
    obtain ⟨f, hf1, hf2⟩ := Option.map_eq_some_iff.1 hi
    obtain ⟨rfl, rfl⟩ := Prod.mk.inj hf2
    exact hf i f (by simpa using hf1)) (by rw [hl, hc, Nat.zero_add])
  refine ⟨mk x, ?_, ?_, fun hn => ?_, ?_⟩
  · show k.K w (g (mk x)) cs
    rw [hmk]
    simpa using hK
  · show wf (g (mk x))
    rw [hmk]
    exact hw
  · show sz (g (mk x))
    rw [hmk]
    refine hs fun n hm => hn n ?_
    rw [hty] at hm
    simp only [DataW.weights, hu]
    exact hm
  · show wt (g (mk x)) + 1 ≤ _
    rw [hmk]
    simp only [Rows.uptoBulk]
    omega
end
end Go.Proofs.Ytlfonfceaiiinaa.Open
