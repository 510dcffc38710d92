/- Behind a crash, whatever is kept and torn, the cell has the value that it had at the last flush, or one that was written since. -/
import Derived.Test.YthnhfmmiaknhgaaStCellLasts
import Derived.Test.YthnhfmmiaknhgaaCellLaws
namespace Go.Proofs.Ythnhfmmiaknhgaa.Pure
open Go.RowKit Go.Proofs.YthnhfmmiaknhgaaW.PrintWords Go.Proofs.YthnhfmmiaknhgaaW.PrintLast Go.Proofs.Ythnhfmmiaknhgaa.PAll Go.Proofs.Ythnhfmmiaknhgaa.Open Go.Proofs.Ythnhfmmiaknhgaa.PB Go.Proofs.Ythnhfmmiaknhgaa.DP Go.Proofs.Ythnhfmmiaknhgaa.VP Go.Proofs.Ythnhfmmiaknhgaa.CP Go.Proofs.Ythnhfmmiaknhgaa.CE

/-- A write that was torn changes nothing of what counts. -/
theorem cur_torn {l0 : List ByteArray} {l1 : List W} {base : Int} (h : inC l0 base) (x : W) (hx : x.f0 = oslot (curS l0 l1 base) base) (hr : recL (L x.f1) = (0, [], 3)) : curS l0 (l1 ++ [x]) base = curS l0 l1 base := by
  have s0 := slotR_snoc l0 l1 x base (slot_in h (.inl rfl))
  have s1 := slotR_snoc l0 l1 x (base + 1) (slot_in h (.inr rfl))
  rw [hr, hx] at s0 s1
  generalize l1 ++ [x] = l1' at *
  have hc : curS l0 l1 base = curS l0 l1 base := rfl
  conv at hc => rhs; unfold curS
  have hd : curS l0 l1' base = curS l0 l1' base := rfl
  conv at hd => rhs; unfold curS
  rw [hd, s0, s1]
  clear s0 s1 hd
  have n1 : ¬ (base + 1 = base) := by omega
  have n2 : ¬ (base = base + 1) := by omega
  generalize curS l0 l1 base = c at *
  generalize slotR l0 l1 base = a at *
  generalize slotR l0 l1 (base + 1) = b at *
  by_cases c1 : a.2.2 = 0 ∧ (b.2.2 ≠ 0 ∨ b.1 ≤ a.1)
  · rw [if_pos c1] at hc
    subst hc
    unfold oslot
    dsimp only
    simp [c1.1, n1]
  · rw [if_neg c1] at hc
    by_cases c2 : b.2.2 = 0
    · rw [if_pos c2] at hc
      subst hc
      unfold oslot
      dsimp only
      simp [c2, n1, n2]
    · rw [if_neg c2] at hc
      subst hc
      unfold oslot
      dsimp only
      simp [c2, n1, n2]
/-- Each write that waits is one of the cell's, of one of these values. -/
def Chain (s : List ByteArray) (base : Int) (vals : List ByteArray) (l : List W) : Prop :=
  ∀ (n : Nat) (h : n < l.length), ∃ v ∈ vals, v.size ≤ 1000 ∧ (curS s (l.take n) base).2.1 + 1 < 18446744073709551616 ∧ l[n] = ⟨oslot (curS s (l.take n) base) base, B (recB ((curS s (l.take n) base).2.1 + 1) (L v))⟩
theorem chain_more {s : List ByteArray} {base : Int} {vals vals' : List ByteArray} {l : List W} (h : Chain s base vals l) (hv : ∀ v ∈ vals, v ∈ vals') : Chain s base vals' l := by
  intro n hn
  obtain ⟨v, h1, h2⟩ := h n hn
  exact ⟨v, hv v h1, h2⟩
theorem chain_snoc {s : List ByteArray} {base : Int} {vals : List ByteArray} {l : List W} (h : Chain s base vals l) (v : ByteArray) (hv : v ∈ vals) (hs : v.size ≤ 1000) (ht : (curS s l base).2.1 + 1 < 18446744073709551616) :
    Chain s base vals (l ++ [⟨oslot (curS s l base) base, B (recB ((curS s l base).2.1 + 1) (L v))⟩]) := by
  intro n hn
  rw [List.length_append, List.length_singleton] at hn
  by_cases c : n < l.length
  · rw [List.take_append_of_le_length (by omega), List.getElem_append_left c]
    exact h n c
  · obtain rfl : n = l.length := by omega
    rw [List.take_left, List.getElem_append_right (by omega)]
    refine ⟨v, hv, hs, ht, ?_⟩
    simp
theorem chain_cur {s : List ByteArray} {base : Int} {vals : List ByteArray} {l : List W} (hin : inC s base) (h : Chain s base vals l) (n : Nat) (hn : n < l.length) : ∃ v ∈ vals, ∃ t : Nat, readS s (l.take (n + 1)) base = (v, (t : Int), 0) := by
  obtain ⟨v, h1, h2, h3, h4⟩ := h n hn
  refine ⟨v, h1, (curS s (l.take n) base).2.1 + 1, ?_⟩
  have hcw := cur_write hin (L v) (by rw [L_length]; exact h2) h3
  rw [List.take_succ_eq_append_getElem hn, h4]
  unfold readS
  rw [if_pos hin, hcw, if_pos rfl, B_L]
theorem chain_take {s : List ByteArray} {base : Int} {vals : List ByteArray} {l : List W} (hin : inC s base) (h : Chain s base vals l) (n : Nat) (hn : n ≤ l.length) : readS s (l.take n) base = readS s [] base ∨ ∃ v ∈ vals, ∃ t : Nat, readS s (l.take n) base = (v, (t : Int), 0) := by
  cases n with
  | zero => exact .inl rfl
  | succ n => exact .inr (chain_cur hin h n (by omega))
theorem chain_crash {s : List ByteArray} {base : Int} {vals : List ByteArray} {l : List W} (hin : inC s base) (h : Chain s base vals l) (keep tear : Int) :
    readS (crashS s l keep tear) [] base = readS s [] base ∨ ∃ v ∈ vals, ∃ t : Nat, readS (crashS s l keep tear) [] base = (v, (t : Int), 0) := by
  have hle : keptN l keep ≤ l.length := Nat.min_le_right _ _
  unfold crashS
  by_cases c : 0 ≤ tear
  · rw [if_pos c]
    by_cases c2 : keptN l keep < l.length
    · rw [List.drop_eq_getElem_cons c2, List.take_succ_cons, List.take_zero, List.map_cons, List.map_nil, ← wrs_append, readS_flush]
      obtain ⟨v, h1, h2, h3, h4⟩ := h (keptN l keep) c2
      have hvl : (L v).length ≤ 1000 := by rw [L_length]; exact h2
      by_cases c3 : tear.toNat < l[keptN l keep].f1.size
      · have hcut : recL (L (tornW l[keptN l keep] tear).f1) = (0, [], 3) := by
          unfold tornW
          dsimp only
          rw [h4] at c3 ⊢
          dsimp only at c3 ⊢
          rw [L_upto, L_B, Nat.min_eq_left (by omega)]
          exact recL_cut _ h3 _ hvl _ (by rw [B_size] at c3; exact c3)
        have hct := cur_torn (l1 := l.take (keptN l keep)) hin (tornW l[keptN l keep] tear) (by unfold tornW; rw [h4]) hcut
        have hr : readS s (l.take (keptN l keep) ++ [tornW l[keptN l keep] tear]) base = readS s (l.take (keptN l keep)) base := by
          unfold readS
          rw [hct]
        rw [hr]
        exact chain_take hin h _ hle
      · have hfull : tornW l[keptN l keep] tear = l[keptN l keep] := by
          unfold tornW
          rw [Nat.min_eq_right (by omega), extract_all]
        rw [hfull, ← List.take_succ_eq_append_getElem c2]
        exact chain_take hin h _ c2
    · have hd : List.drop (keptN l keep) l = [] := List.drop_eq_nil_of_le (by omega)
      rw [hd]
      have hw : wrs (List.map (fun x => tornW x tear) (List.take 1 [])) (wrs (l.take (keptN l keep)) s) = wrs (l.take (keptN l keep)) s := rfl
      rw [hw, readS_flush]
      exact chain_take hin h _ hle
  · rw [if_neg c, readS_flush]
    exact chain_take hin h _ hle

theorem in_loop (e : Int) (all : List ByteArray) (s : ByteArray) (hl : all.length ≤ 9223372036854775807) :
    ∀ (m i k : Nat) (q : Bool), i + m = all.length → 2 * m + 2 < k → (q = true ∨ ∃ j, i ≤ j ∧ j < all.length ∧ all.getD j ByteArray.empty = s ∧ (0 < j ∨ e = 0)) → hogsheadlaw09_CellLasts.l1 k true e all s 0 q i = some true
  | 0, i, k, q, hi, hk, hq => by
    obtain ⟨k, rfl⟩ := succ_of (show 1 < k by omega)
    obtain ⟨k, rfl⟩ := succ_of (show 0 < k by omega)
    have hq' : q = true := by
      rcases hq with h | ⟨j, h1, h2, _⟩
      · exact h
      · omega
    rw [hogsheadlaw09_CellLasts.l1, if_neg (by omega), if_pos rfl, if_pos rfl, hq']
  | m + 1, i, k, q, hi, hk, hq => by
    obtain ⟨k, rfl⟩ := succ_of (show 1 < k by omega)
    obtain ⟨k, rfl⟩ := succ_of (show 0 < k by omega)
    rw [hogsheadlaw09_CellLasts.l1, if_pos (by omega)]
    rw [wrap_succ (n := all.length) (by omega) hl]
    by_cases c : q = true
    · rw [if_pos c]
      exact in_loop e all s hl m (i + 1) (k + 1) true (by omega) (by omega) (.inl rfl)
    · rw [if_neg c, if_pos (by omega)]
      have hrd : rdOf ByteArray.empty all (i : Int) = all.getD i ByteArray.empty := rfl
      rcases hq with h | ⟨j, h1, h2, h3, h4⟩
      · exact absurd h c
      · rw [hrd]
        by_cases cj : j = i
        · subst cj
          rw [if_pos (by rw [h3])]
          by_cases c0 : (j : Int) > 0
          · rw [if_pos c0]
            exact in_loop e all s hl m (j + 1) (k + 1) true (by omega) (by omega) (.inl rfl)
          · rw [if_neg c0]
            have e0 : e = 0 := by omega
            exact in_loop e all s hl m (j + 1) (k + 1) _ (by omega) (by omega) (.inl (by simp [e0]))
        · have hn : ∃ j, i + 1 ≤ j ∧ j < all.length ∧ all.getD j ByteArray.empty = s ∧ (0 < j ∨ e = 0) := ⟨j, by omega, h2, h3, h4⟩
          split
          · split
            · exact in_loop e all s hl m (i + 1) (k + 1) _ (by omega) (by omega) (.inl rfl)
            · exact in_loop e all s hl m (i + 1) (k + 1) _ (by omega) (by omega) (.inr hn)
          · exact in_loop e all s hl m (i + 1) (k + 1) _ (by omega) (by omega) (.inr hn)

theorem lasts_end (base keep tear : Int) (vs : List ByteArray) (s : List ByteArray) (hsl : s.length ≤ 8796093022207) (hfs : Fits s []) (hin : inC s base) (vals : List ByteArray) (l : List W) (hl : l.length ≤ 100) (hvl : vals.length ≤ 100) (hfl : ∀ x ∈ l, x.f1.size ≤ 140737488351232) (hch : Chain s base vals l) (a2 : Int) (a3 : Bool) (i k : Nat) (hk : 140737488352000 < k) :
    hogsheadlaw09_CellLasts.j2 k base vs keep tear true (readS s [] base).2.2 ((readS s [] base).1 :: vals) i false s l a2 a3 = some true := by
  obtain ⟨k, rfl⟩ := succ_of (show 1 < k by omega)
  obtain ⟨k, rfl⟩ := succ_of (show 0 < k by omega)
  have hfc : Fits (crashS s l keep tear) [] := by
    refine ⟨?_, fun _ h => by cases h⟩
    unfold crashS
    have h1 := wrs_fits (l.take (keptN l keep)) s hfs.1 (fun x hx => hfl x (List.mem_of_mem_take hx))
    split
    · refine wrs_fits _ _ h1 (fun x hx => ?_)
      obtain ⟨y, hy, rfl⟩ := List.mem_map.1 hx
      have := hfl y (List.mem_of_mem_drop (List.mem_of_mem_take hy))
      unfold tornW
      dsimp only
      rw [size_le_upto _ _ (Nat.min_le_right _ _)]
      omega
    · exact h1
  rw [hogsheadlaw09_CellLasts.j2, if_neg (by decide), rcrash_is _ _ _ _ _ _ (by omega) (by omega) _ (by omega), Option.bind_some]
  dsimp only
  rw [read_is _ _ _ _ _ hfc (by rw [crash_length]; omega) _ (by omega), Option.bind_some]
  have hsr : (readS s [] base).2.2 = 0 ∨ (readS s [] base).2.2 = 7 := by
    unfold readS
    rw [if_pos hin]
    split
    · exact .inl rfl
    · exact .inr rfl
  rcases chain_crash hin hch keep tear with h | ⟨v, hv, t, h⟩
  · rw [h]
    rcases hsr with h0 | h7
    · rw [if_neg (by omega), h0]
      exact in_loop 0 _ _ (by simp; omega) (vals.length + 1) 0 _ _ (by simp) (by omega) (.inr ⟨0, by omega, by simp, rfl, .inr rfl⟩)
    · rw [if_pos h7, if_pos rfl, h7]
      rfl
  · rw [h]
    dsimp only
    rw [if_neg (by decide)]
    obtain ⟨j, hj, e⟩ := List.getElem_of_mem hv
    refine in_loop _ _ _ (by simp; omega) (vals.length + 1) 0 _ _ (by simp) (by omega) (.inr ⟨j + 1, by omega, by simp; omega, ?_, .inl (by omega)⟩)
    rw [List.getD_cons_succ, List.getD_eq_getElem?_getD, List.getElem?_eq_getElem hj, e]
    rfl

theorem lasts_loop (base keep tear : Int) (vs : List ByteArray) (hvs : vs.length ≤ 9223372036854775807) (s : List ByteArray) (hsl : s.length ≤ 8796093022207) (hfs : Fits s []) (hin : inC s base) :
    ∀ (m i k : Nat) (vals : List ByteArray) (l : List W) (a2 : Int) (a3 : Bool), i + m = 100 → 4 * m + 140737488352010 < k → l.length ≤ i → vals.length ≤ i → (∀ x ∈ l, x.f1.size ≤ 140737488351232) → Chain s base vals l →
      hogsheadlaw09_CellLasts.l0 k base vs keep tear true (readS s [] base).2.2 ((readS s [] base).1 :: vals) i s l a2 a3 = some true
  | 0, i, k, vals, l, a2, a3, hi, hk, hl, hv, hfl, hch => by
    obtain ⟨k, rfl⟩ := succ_of (show 0 < k by omega)
    rw [hogsheadlaw09_CellLasts.l0]
    by_cases c : (i : Int) < (vs.length : Int)
    · rw [if_pos c, decide_eq_false (by omega)]
      exact lasts_end base keep tear vs s hsl hfs hin vals l (by omega) (by omega) hfl hch a2 a3 i k (by omega)
    · rw [if_neg c]
      exact lasts_end base keep tear vs s hsl hfs hin vals l (by omega) (by omega) hfl hch a2 a3 i k (by omega)
  | m + 1, i, k, vals, l, a2, a3, hi, hk, hl, hv, hfl, hch => by
    obtain ⟨k, rfl⟩ := succ_of (show 3 < k by omega)
    obtain ⟨k, rfl⟩ := succ_of (show 2 < k by omega)
    obtain ⟨k, rfl⟩ := succ_of (show 1 < k by omega)
    obtain ⟨k, rfl⟩ := succ_of (show 0 < k by omega)
    rw [hogsheadlaw09_CellLasts.l0]
    by_cases c : (i : Int) < (vs.length : Int)
    · rw [if_pos c, decide_eq_true (by omega), hogsheadlaw09_CellLasts.j2, if_pos rfl, if_pos (by omega), if_pos c]
      have hfx : Fits s l := ⟨hfs.1, hfl⟩
      rw [write_is s l a2 a3 base _ hfx (by omega) (by omega) _ (by omega), Option.bind_some]
      generalize hvv : rdOf ByteArray.empty vs (i : Int) = v
      have hwa := write_any s l a2 a3 base v
      generalize writeS s l a2 a3 base v = r at *
      obtain ⟨r0, r1, r2, r3, r4⟩ := r
      obtain ⟨e0, e1⟩ := hwa
      replace e0 : r0 = s := e0
      subst e0
      dsimp only at e1 ⊢
      have hj4 : ∀ (vals' : List ByteArray), vals'.length ≤ i + 1 → r1.length ≤ i + 1 → (∀ x ∈ r1, x.f1.size ≤ 140737488351232) → Chain r0 base vals' r1 → hogsheadlaw09_CellLasts.l0 (k + 1) base vs keep tear true (readS r0 [] base).2.2 ((readS r0 [] base).1 :: vals') ((i + 1 : Nat) : Int) r0 r1 r2 r3 = some true := by
        intro vals' h1 h2 h3 h4
        exact lasts_loop base keep tear vs hvs r0 hsl hfs hin m (i + 1) (k + 1) vals' r1 r2 r3 (by omega) (by omega) h2 h1 h3 h4
      have hj3t : r1.length ≤ i + 1 → (∀ x ∈ r1, x.f1.size ≤ 140737488351232) → Chain r0 base (vals ++ [v]) r1 → hogsheadlaw09_CellLasts.j3 (k + 1 + 1) base vs keep tear true (readS r0 [] base).2.2 ((readS r0 [] base).1 :: vals) i true r0 r1 r2 r3 = some true := by
        intro h2 h3 h4
        rw [hogsheadlaw09_CellLasts.j3, if_pos rfl, if_pos (by omega), if_pos c, if_pos (by simp; omega), hvv, wrap_succ (n := 100) (by omega) (by omega)]
        exact hj4 (vals ++ [v]) (by simp; omega) h2 h3 h4
      have hj3f : r1.length ≤ i + 1 → (∀ x ∈ r1, x.f1.size ≤ 140737488351232) → Chain r0 base vals r1 → hogsheadlaw09_CellLasts.j3 (k + 1 + 1) base vs keep tear true (readS r0 [] base).2.2 ((readS r0 [] base).1 :: vals) i false r0 r1 r2 r3 = some true := by
        intro h2 h3 h4
        rw [hogsheadlaw09_CellLasts.j3, if_neg (by decide), wrap_succ (n := 100) (by omega) (by omega)]
        exact hj4 vals (by omega) h2 h3 h4
      rcases e1 with e1 | ⟨_, hsz, ht, herr, e1⟩
      · rw [e1] at hj3t hj3f ⊢
        have h1 : Chain r0 base (vals ++ [v]) l := chain_more hch (fun x hx => by simp [hx])
        by_cases z0 : r4 = 0
        · rw [if_pos z0]
          exact hj3t (by omega) hfl h1
        · rw [if_neg z0]
          by_cases z6 : r4 = 6
          · rw [show (r4 == 6) = true by simp [z6]]
            exact hj3t (by omega) hfl h1
          · rw [show (r4 == 6) = false by simp [z6]]
            exact hj3f (by omega) hfl hch
      · have h1 : Chain r0 base (vals ++ [v]) r1 := by
          rw [e1]
          exact chain_snoc (chain_more hch (fun x hx => by simp [hx])) v (by simp) hsz ht
        have h2 : r1.length ≤ i + 1 := by
          rw [e1]
          simp
          omega
        have h3 : ∀ x ∈ r1, x.f1.size ≤ 140737488351232 := by
          rw [e1]
          have := rec_size ((curS r0 l base).2.1 + 1) (L v) (by rw [L_length]; exact hsz)
          exact (fits_snoc hfx _ (by show (B _).size ≤ _; omega)).2
        rcases herr with z0 | z6
        · rw [if_pos z0]
          exact hj3t h2 h3 h1
        · rw [if_neg (by omega), show (r4 == 6) = true by simp [z6]]
          exact hj3t h2 h3 h1
    · rw [if_neg c]
      exact lasts_end base keep tear vs s hsl hfs hin vals l (by omega) (by omega) hfl hch a2 a3 i _ (by omega)

theorem CellLasts : hogsheadlaw09_CellLasts.Pure := by
  intro a hw hs
  obtain ⟨⟨⟨h0, hf0⟩, ⟨h1, hf1⟩, _, _⟩, _, _, _, _⟩ := hs
  have hf : Fits a.f0.f0 a.f0.f1 := ⟨hf0, fun x hx => (hf1 x hx).2⟩
  have hvs : a.f2.length ≤ 9223372036854775807 := hw.2.2.1.1
  generalize a.f0.f0 = l0 at *
  generalize a.f0.f1 = l1 at *
  generalize a.f1 = base at *
  generalize a.f2 = vs at *
  generalize a.f3 = keep at *
  generalize a.f4 = tear at *
  refine ⟨422212465054200, ?_⟩
  obtain ⟨k, hk⟩ := succ_of (show 0 < 422212465054200 by omega)
  unfold hogsheadlaw09_CellLasts.f
  rw [shown_is _ (by omega), Option.bind_some, rflush_is _ _ _ _ (by omega) (by omega) _ (by omega), Option.bind_some]
  by_cases c3 : a.f0.f3 = true
  · simp only [if_pos c3]
    rw [read_is _ _ _ _ _ hf (by omega) _ (by omega), Option.bind_some, if_neg (by decide), hk, hogsheadlaw09_CellLasts.j0, if_pos rfl]
  · simp only [if_neg c3]
    rw [read_is _ _ _ _ _ (fits_flush hf) (by rw [wrs_length]; omega) _ (by omega), Option.bind_some, if_pos trivial, hk]
    have hl : (wrs l1 l0).length ≤ 8796093022207 := by rw [wrs_length]; omega
    have hfs := fits_flush hf
    generalize wrs l1 l0 = s at *
    by_cases cin : inC s base
    · have hsr : (readS s [] base).2.2 ≠ 1 := by
        unfold readS
        rw [if_pos cin]
        split
        · show (0 : Int) ≠ 1
          decide
        · show (7 : Int) ≠ 1
          decide
      rw [if_neg hsr, hogsheadlaw09_CellLasts.j0]
      split
      · rfl
      · exact lasts_loop base keep tear vs hvs s hl hfs cin 100 0 k [] [] _ _ (by omega) (by omega) (by simp) (by simp) (fun x hx => by cases hx) (fun n hn => by simp at hn)
    · have hsr : (readS s [] base).2.2 = 1 := by
        unfold readS
        rw [if_neg cin]
      rw [if_pos hsr, hogsheadlaw09_CellLasts.j0, if_pos rfl]
end Go.Proofs.Ythnhfmmiaknhgaa.Pure
