/- The keys of a shelf as a map. -/
import Derived.Test.YtffjbbedjddpmaaShelfIter
import Derived.Maps.OwnIn
import Derived.Maps.Views
namespace Go.Proofs.Ytffjbbedjddpmaa.PAll
open Go.RowKit Go.Shelf Go.Proofs.YtffjbbedjddpmaaW.PrintWords Go.Proofs.YtffjbbedjddpmaaW.PrintLast Go.Proofs.YtffjbbedjddpmaaW.PrintMore
set_option linter.unusedVariables false
set_option linter.unusedSimpArgs false
theorem keyed27 : Go.Maps.Keyed Try.prog 27 := Go.Maps.Keyed.of_law (deep_law_laid (m := 5) (by kernel_rfl) (by decide) (by decide +kernel) (by kernel_rfl) (by rw [Try.underlying27]))
theorem key27_is (v x : Int) (hv : (Lit.int .i64 v).wf = true) (hx : (Lit.int .i64 x).wf = true) : keyOf Try.prog 27 (.agg #[.int .i64 v, .int .i64 x]) = some (.string (keyBytes [.int .i64 v, .int .i64 x])) := by
  have h1 : Try.prog.keyType 27 = true := by kernel_rfl
  have h2 : Try.prog.cellsOf 27 = 2 := by kernel_rfl
  have h4 : Try.prog.cellsOf 3 = 1 := by kernel_rfl
  have hu := Try.underlying27
  have h3 := Try.underlying3
  unfold keyOf
  simp only [hu]
  rw [if_pos (by simp [h1, Value.formed, hu, h2])]
  have h0 : 0 < Try.prog.types.size := by decide +kernel
  obtain ⟨m, hm⟩ : ∃ m, Try.prog.types.size = m + 1 := ⟨Try.prog.types.size - 1, by omega⟩
  rw [hm]
  unfold Program.keyLits
  simp only [hu, Value.cells]
  simp [Program.keyLits, h3, h4, h2, hv, hx]
/-- What a key is in the map. -/
def keyLit (v x : Int) : Lit := .string (keyBytes [.int .i64 v, .int .i64 x])
def Wf64 (v : Int) : Prop := (Lit.int .i64 v).wf = true
theorem keyLit_inj {v x v' x' : Int} (hv : Wf64 v) (hx : Wf64 x) (hv' : Wf64 v') (hx' : Wf64 x') (h : keyLit v x = keyLit v' x') : v = v' ∧ x = x' := by
  have h1 := key27_is v x hv hx
  have h2 := key27_is v' x' hv' hx'
  have := keyed27.inj h1 (by rw [h2]; exact congrArg some h.symm)
  simp at this
  exact this
instance (v : Int) : Decidable (Wf64 v) := inferInstanceAs (Decidable (_ = true))
/-- The map holds these keys. -/
def hadMap (S : List S27) (b n : Nat) (W : World) : Prop :=
  ∃ D : DataW Unit, W.ownsMap Try.prog 27 (plainElem Try.prog 4) b n D ∧ Go.Maps.IsMap D ∧ ∀ v x, Wf64 v → Wf64 x → ∀ zd, ((∃ q ∈ S, q.f0 = v ∧ q.f1 = x) → D.atKey (keyLit v x) zd = .lit (.bool true)) ∧ ((¬ ∃ q ∈ S, q.f0 = v ∧ q.f1 = x) → D.atKey (keyLit v x) zd = zd)
theorem hadMap_new (W : World) : hadMap [] W.heap.size 0 (W.alloc (.map #[] 0)) := by
  refine ⟨_, World.ownsMap_made W _ _ _, ⟨[], rfl⟩, fun v x hv hx zd => ⟨fun h => ?_, fun _ => ?_⟩⟩
  · obtain ⟨q, hq, _⟩ := h
    cases hq
  · rfl
theorem plainElem_bool_back {P : Program} {e : TypeId} (he : P.underlying e = some .bool) {v : Value} {z : DataW Unit × List MemPlace} (h : plainElem P e v = some z) : ∃ b, v = .bool b ∧ z = (.lit (.bool b), []) := by
  unfold plainElem at h
  rw [he] at h
  cases v <;> simp at h
  exact ⟨_, rfl, h.symm⟩
theorem hadMap.lookup {S : List S27} {b n : Nat} {W : World} (h : hadMap S b n W) {v x : Int} (hv : Wf64 v) (hx : Wf64 x) : ∃ bl, (Instr.lookup 70 (.map (some b)) (.agg #[.int .i64 v, .int .i64 x]) false).run Try.prog W = .ok (.bool bl) W ∧ (bl = true ↔ ∃ q ∈ S, q.f0 = v ∧ q.f1 = x) := by
  obtain ⟨D, ho, hD, hat⟩ := h
  have h4 := Try.underlying4
  obtain ⟨u, ps, hrun, hu⟩ := ho.lookup keyed27 Try.underlying70 (z := .bool false) (by simp [zeroValue, go_sem]; rfl) (plainElem_bool h4 false) (key27_is v x hv hx)
  have ha := hat v x hv hx (.lit (.bool false))
  by_cases c : ∃ q ∈ S, q.f0 = v ∧ q.f1 = x
  · rw [show D.atKey (.string (keyBytes [.int .i64 v, .int .i64 x])) (.lit (.bool false)) = _ from ha.1 c] at hu
    obtain ⟨b', rfl, hb⟩ := plainElem_bool_back h4 hu
    simp at hb
    refine ⟨b', hrun, ?_⟩
    simp [hb.1, c]
  · rw [show D.atKey (.string (keyBytes [.int .i64 v, .int .i64 x])) (.lit (.bool false)) = _ from ha.2 c] at hu
    obtain ⟨b', rfl, hb⟩ := plainElem_bool_back h4 hu
    simp at hb
    refine ⟨b', hrun, ?_⟩
    simp [hb.1, c]
theorem hadMap.update {S : List S27} {b n : Nat} {W : World} (h : hadMap S b n W) (hn : n < maxLen) {v x : Int} (hv : Wf64 v) (hx : Wf64 x) : ∃ W', (Instr.mapUpdate 70 (.map (some b)) (.agg #[.int .i64 v, .int .i64 x]) (.bool true)).run Try.prog W = .ok () W' ∧ hadMap (S ++ [⟨v, x⟩]) b (n + 1) W' ∧ W.grownBy W' (some b) := by
  obtain ⟨D, ho, hD, hat⟩ := h
  have h4 := Try.underlying4
  obtain ⟨W', hrun, ho', hg⟩ := ho.update keyed27 Try.underlying70 hn (key27_is v x hv hx) (plainElem_bool h4 true)
  have hk : WideAt.IsKeyLit (keyLit v x) := keyed27.key (key27_is v x hv hx)
  refine ⟨W', hrun, ⟨_, ho', hD.put _ _, fun v' x' hv' hx' zd => ⟨fun hq => ?_, fun hq => ?_⟩⟩, hg⟩
  · by_cases e : keyLit v' x' = keyLit v x
    · rw [e]
      exact Go.Maps.atKey_put_same hD hk _ _
    · refine (Go.Maps.atKey_put_other e _ _).trans ((hat v' x' hv' hx' zd).1 ?_)
      obtain ⟨q, hq, h1, h2⟩ := hq
      rcases List.mem_append.mp hq with hq | hq
      · exact ⟨q, hq, h1, h2⟩
      · rw [List.mem_singleton.mp hq] at h1 h2
        exact absurd (by rw [← h1, ← h2]) e
  · have e : keyLit v' x' ≠ keyLit v x := fun e => by
      obtain ⟨rfl, rfl⟩ := keyLit_inj hv' hx' hv hx e
      exact hq ⟨⟨v', x'⟩, List.mem_append_right _ (List.mem_singleton.mpr rfl), rfl, rfl⟩
    exact (Go.Maps.atKey_put_other e _ _).trans ((hat v' x' hv' hx' zd).2 (fun ⟨q, hm, h1, h2⟩ => hq ⟨q, List.mem_append_left _ hm, h1, h2⟩))
theorem hadMap.kept {S : List S27} {b n : Nat} {W W' : World} {row : Option Nat} (h : hadMap S b n W) (hg : W.grownBy W' row) (hne : some b ≠ row) : hadMap S b n W' := by
  obtain ⟨D, ho, hD, hat⟩ := h
  exact ⟨D, ho.kept hg hne, hD, hat⟩
theorem hadMap.alloc {S : List S27} {b n : Nat} {W : World} (h : hadMap S b n W) (o : Obj) : hadMap S b n (W.alloc o) := h.kept (World.grownBy_alloc W o none) (by simp)
theorem hadMap.look {S : List S27} {b n : Nat} {W : World} (h : hadMap S b n W) {v x : Int} (hv : Wf64 v) (hx : Wf64 x) (c : ∃ q ∈ S, q.f0 = v ∧ q.f1 = x) : (Instr.lookup 70 (.map (some b)) (.agg #[.int .i64 v, .int .i64 x]) false).run Try.prog W = .ok (.bool true) W := by
  obtain ⟨bl, hr, hb⟩ := h.lookup hv hx
  rw [hr, hb.mpr c]
theorem hadMap.lookN {S : List S27} {b n : Nat} {W : World} (h : hadMap S b n W) {v x : Int} (hv : Wf64 v) (hx : Wf64 x) (c : ¬ ∃ q ∈ S, q.f0 = v ∧ q.f1 = x) : (Instr.lookup 70 (.map (some b)) (.agg #[.int .i64 v, .int .i64 x]) false).run Try.prog W = .ok (.bool false) W := by
  obtain ⟨bl, hr, hb⟩ := h.lookup hv hx
  rw [hr, Bool.eq_false_iff.mpr (fun e => c (hb.mp e))]
theorem hadMap.setCell {S : List S27} {b n : Nat} {W : World} (h : hadMap S b n W) {p : Addr} (hp : b ≠ p.block) (u : Value) : hadMap S b n (W.setCell p u) := by
  obtain ⟨D, ho, hD, hat⟩ := h
  exact ⟨D, ho.setCell hp u, hD, hat⟩
theorem hadMap.block {S : List S27} {b n : Nat} {W : World} (h : hadMap S b n W) : ∃ o : Obj, W.heap[b]? = some o ∧ o.isCells = false := by
  obtain ⟨D, ⟨es, cl, hb, _⟩, _⟩ := h
  exact ⟨_, hb, rfl⟩
theorem hadMap.ne_row {S : List S27} {b n : Nat} {W : World} (h : hadMap S b n W) {n₀ e size k : Nat} {v : Value} {xs : List Value} (hr : W.ownsRow n₀ e size v k xs) : some b ≠ v.ownBlock := by
  obtain ⟨o, ho, hc⟩ := h.block
  rcases hr.2 with ⟨rfl, _⟩ | ⟨g, cap, cur, rfl, _, hgb, _⟩
  · simp [Value.ownBlock]
  · intro e'
    obtain rfl : b = g := by simpa [Value.ownBlock] using e'
    rw [hgb] at ho
    cases ho
    cases hc
theorem hadMap.appended {S : List S27} {b n : Nat} {W w1 : World} {tmp : Obj} (h : hadMap S b n W) {n₀ e size k : Nat} {v : Value} {xs : List Value} (hr : W.ownsRow n₀ e size v k xs) (hg : (W.alloc tmp).grownBy w1 v.ownBlock) : hadMap S b n w1 :=
  (h.alloc tmp).kept hg (h.ne_row hr)
/-- The keys, each once. -/
def spotKeys (l : List Spot) : List S27 := l.foldl (fun r p => if spotFull p = true ∧ ¬ (∃ q ∈ r, q.f0 = p.2.2.2.1 ∧ q.f1 = p.2.2.2.2.1) then r ++ [⟨p.2.2.2.1, p.2.2.2.2.1⟩] else r) []
theorem spotKeys_add (l : List Spot) (p : Spot) : spotKeys (l ++ [p]) = if spotFull p = true ∧ ¬ (∃ q ∈ spotKeys l, q.f0 = p.2.2.2.1 ∧ q.f1 = p.2.2.2.2.1) then spotKeys l ++ [⟨p.2.2.2.1, p.2.2.2.2.1⟩] else spotKeys l := by
  unfold spotKeys
  rw [List.foldl_append, List.foldl_cons, List.foldl_nil]
theorem spotKeys_rev : ∀ l : List Spot, (spotKeys l.reverse).length ≤ l.length
  | [] => Nat.le_refl _
  | p :: l => by
    rw [List.reverse_cons, spotKeys_add]
    have := spotKeys_rev l
    split
    · rw [List.length_append]
      simp
      omega
    · simp
      omega
theorem spotKeys_len (l : List Spot) : (spotKeys l).length ≤ l.length := by
  have := spotKeys_rev l.reverse
  rwa [List.reverse_reverse, List.length_reverse] at this
def keyCells (l : List S27) : List Value := l.flatMap fun q => [.int .i64 q.f0, .int .i64 q.f1]
theorem keyCells_add (l : List S27) (q : S27) : keyCells (l ++ [q]) = keyCells l ++ [.int .i64 q.f0, .int .i64 q.f1] := by
  unfold keyCells
  rw [List.flatMap_append, List.flatMap_cons, List.flatMap_nil, List.append_nil]
theorem keyCells_reps (w : World) (base : Nat) (ok : Nat → Prop) : ∀ l, Reps (k27.M w base ok) 2 l (keyCells l)
  | [] => Reps.none _ _
  | q :: l => Reps.front (k27_mkM w base ok q) rfl (keyCells_reps w base ok l) rfl
theorem cells_two_new (w : World) (x y : Value) (t : TypeId) : ∀ j u, [x, y][j]? = some u → (w.alloc (.cells #[x, y] t)).cell? ((⟨w.heap.size, 0, none⟩ : Addr).add j) = some u := by
  intro j u hj
  rw [add_plain, blk_cell (blk_new w (.cells #[x, y] t))]
  simpa using hj
/-- The box holds a slice that owns the keys. -/
def keyHolds {G : Spot → Prop} (n₀ B : Nat) (pre : List {x : Spot // G x}) (W : World) : Prop := ∃ v, Boxed W B 30 v ∧ W.ownsRow n₀ 27 2 v (spotKeys (spotsOf pre)).length (keyCells (spotKeys (spotsOf pre))) ∧ True
theorem keyHolds_own {G : Spot → Prop} (n₀ B : Nat) : Own (keyHolds (G := G) n₀ B) := holdsRow_own n₀ B 30 27 2 (fun pre : List {x : Spot // G x} => (spotKeys (spotsOf pre)).length) (fun pre : List {x : Spot // G x} => keyCells (spotKeys (spotsOf pre))) (fun _ _ => True)
theorem wpListIn_mapUpdate_run {F : Fence} {nF : Nat} {P : Program} {w w' : World} {ops : Array Oper} {rest : List Oper} {o : Oper} {a : Act} {Q : Exit → Act → World → Prop}
    (hg : o.guard = none) (m x v : Operand) (t : TypeId) (hop : o.op = Op.mapUpdate t m x v) (hrun : (Instr.mapUpdate t (a.eval m) (a.eval x) (a.eval v)).run P w = .ok () w')
    (hK : wpListIn F nF P ops Q rest (a.put o.dst undef) w') : wpListIn F nF P ops Q (o :: rest) a w := by
  refine wpListIn_plain hg fun K' hK' => ?_
  unfold Oper.wpIn
  refine ⟨by simp [Oper.about, hop], ?_⟩
  rw [Oper.semAt_plain F _ _ (by rw [hop]; intro c hc'; cases hc')]
  simp [execOp, hop, hrun, Result.andThen]
  exact hK' _ _ hK
end Go.Proofs.Ytffjbbedjddpmaa.PAll
