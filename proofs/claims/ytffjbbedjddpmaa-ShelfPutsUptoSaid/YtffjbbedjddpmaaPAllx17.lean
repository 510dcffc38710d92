/- Functions of the program as plain Lean functions, and that each call comes to what they say. Laid by a program of this session (hprint.py); Lean checks it. -/
import Derived.Test.YtffjbbedjddpmaaPAllx0
import Derived.Test.YtffjbbedjddpmaaPAllx9
import Derived.Test.YtffjbbedjddpmaaPAllx11
import Derived.Test.YtffjbbedjddpmaaPAllx13
import Derived.Test.YtffjbbedjddpmaaPAllx15
import Derived.Test.YtffjbbedjddpmaaPAllx16
import Derived.Test.YtffjbbedjddpmaaShelfOwn
namespace Go.Proofs.Ytffjbbedjddpmaa.PAll
open Go.RowKit Go.Proofs.YtffjbbedjddpmaaW.PrintWords Go.Proofs.YtffjbbedjddpmaaW.PrintLast Go.Proofs.YtffjbbedjddpmaaW.PrintMore
attribute [local go_sem] max2_int min2_int max_two min_two max_three min_three max_four min_four   -- for this text's walks alone
set_option linter.unusedVariables false
set_option linter.unusedSimpArgs false

/-! ### shelf_Put: function 22 -/
-- IMPORT Derived.Test.YtffjbbedjddpmaaShelfOwn
def spotRoom : List (Int × Bool × Bool × Int × Int × ByteArray) → Option Int
  | [] => none
  | p :: l => if spotFull p = true then spotRoom l else some p.1
def shelf_Put.f (k : Nat) (l0_0 : List ByteArray) (l0_1 : List S94) (a0_2 : Int) (a0_3 : Bool) (a1_0 a1_1 : Int) (a1_2 : ByteArray) : Option (List ByteArray × (List S94) × Int × Bool × Int) :=
  (shelf_Record.f a1_0 a1_1 a1_2).bind fun s => if s.2 = 0 then (shelf_Find.f k l0_0 l0_1 a0_2 a0_3 a1_0 a1_1).bind fun b => if b.2 = 0 then some (l0_0, l0_1, a0_2, a0_3, if b.1.toList = a1_2.toList then 0 else 8) else
      (shelf_go k l0_0 l0_1 a0_2 a0_3 l0_0.length 0).bind fun l => match spotRoom l with
        | none => some (l0_0, l0_1, a0_2, a0_3, 5)
        | some i => disk_Put.f l0_0 l0_1 a0_2 a0_3 i s.1
    else some (l0_0, l0_1, a0_2, a0_3, s.2)
theorem shelf_Put.mono : ∀ l0_0 l0_1 a0_2 a0_3 a1_0 a1_1 a1_2 k, LeO (shelf_Put.f k l0_0 l0_1 a0_2 a0_3 a1_0 a1_1 a1_2) (shelf_Put.f (k + 1) l0_0 l0_1 a0_2 a0_3 a1_0 a1_1 a1_2) := by
  intro l0 l1 a2 a3 a4 a5 a6 k
  unfold shelf_Put.f
  refine LeO.bind (LeO.refl _) (fun s => ?_)
  split
  · refine LeO.bind (shelf_Find.mono _ _ _ _ _ _ _) (fun b => ?_)
    split
    · exact LeO.refl _
    · exact LeO.bind (shelf_go_mono k l0 l1 a2 a3 _ _) (fun _ => LeO.refl _)
  · exact LeO.refl _
def AllFull (l : List Spot) : Prop := ∀ p ∈ l, spotFull p = true
theorem AllFull.add {l : List Spot} {p : Spot} (h : AllFull l) (hp : spotFull p = true) : AllFull (l ++ [p]) := fun q hq => by
  rcases List.mem_append.mp hq with h1 | h1
  · exact h q h1
  · rw [List.mem_singleton.mp h1]
    exact hp
theorem spotRoom_full : ∀ {l : List Spot} (m : List Spot), AllFull l → spotRoom (l ++ m) = spotRoom m
  | [], _, _ => rfl
  | p :: l, m, h => by
    rw [List.cons_append, spotRoom, if_pos (h p (List.mem_cons_self ..)), spotRoom_full (l := l) m (fun q hq => h q (List.mem_cons_of_mem _ hq))]
theorem spotRoom_hit {p : Spot} (m : List Spot) (h : spotFull p = false) : spotRoom (p :: m) = some p.1 := if_neg (by rw [h]; decide)
theorem spotRoom_some : ∀ {l : List Spot} {p : Spot}, p ∈ l → spotFull p = false → ∃ q ∈ l, spotRoom l = some q.1
  | q :: l, p, hp, hf => by
    by_cases c : spotFull q = true
    · rcases List.mem_cons.mp hp with rfl | hp
      · rw [hf] at c
        cases c
      · obtain ⟨q', h1, h2⟩ := spotRoom_some hp hf
        exact ⟨q', List.mem_cons_of_mem _ h1, by rw [spotRoom, if_pos c, h2]⟩
    · exact ⟨q, List.mem_cons_self .., by rw [spotRoom, if_neg c]⟩
theorem disk_Put_any {l0 : List ByteArray} {l1 : List (S94)} {a2 : Int} {a3 : Bool} {i j : Int} {s : ByteArray} {r : List ByteArray × (List (S94)) × Int × Bool × Int} (hi : 0 ≤ i ∧ i < (l0.length : Int)) (hj : 0 ≤ j ∧ j < (l0.length : Int)) (h : disk_Put.f l0 l1 a2 a3 i s = some r) : ∃ r', disk_Put.f l0 l1 a2 a3 j s = some r' := by
  unfold disk_Put.f at h ⊢
  by_cases c1 : a3 = true
  · rw [if_pos c1]
    exact ⟨_, rfl⟩
  · rw [if_neg c1] at h ⊢
    have e1 : disk_has.f l0 l1 a2 a3 i = some true := by unfold disk_has.f; rw [if_pos hi.1, decide_eq_true hi.2]
    have e2 : disk_has.f l0 l1 a2 a3 j = some true := by unfold disk_has.f; rw [if_pos hj.1, decide_eq_true hj.2]
    rw [e1] at h
    rw [e2]
    simp only [Option.bind_some, if_true] at h ⊢
    by_cases c2 : (s.size : Int) > 1024
    · rw [if_pos c2]
      exact ⟨_, rfl⟩
    · rw [if_neg c2] at h ⊢
      obtain ⟨t, ht, h⟩ := Option.bind_eq_some_iff.mp h
      rw [ht]
      simp only [Option.bind_some] at h ⊢
      by_cases c3 : t.length < 5864062014805
      · rw [if_pos c3]
        split
        · exact ⟨_, rfl⟩
        · split <;> exact ⟨_, rfl⟩
      · rw [if_neg c3] at h
        cases h
section
attribute [local go_sem] Oper.semAt_some
set_option maxRecDepth 100000 in
set_option maxHeartbeats 4000000 in
theorem shelf_Put.calls (k : Nat) (P0_0_ : Nat → Prop) (A0_0 : Option Addr) (c0_0 : Nat) (l0_0 : List ByteArray) (P0_1_ : Nat → Prop) (A0_1 : Option Addr) (c0_1 : Nat) (l0_1 : List (S94)) (a0_2 : Int) (a0_3 : Bool) (a1_0 a1_1 : Int) (a1_2 : ByteArray) (r1 : List ByteArray) (r2 : List (S94)) (r3 : Int) (r4 : Bool) (r5 : Int) (w : World) (hs0_0 : Kd.V Kd.string 9 w w.heap.size (fun k_ => P0_0_ k_) (.slice A0_0 l0_0.length c0_0) l0_0) (hs0_1 : Kd.V k94 94 w w.heap.size (fun k_ => P0_1_ k_) (.slice A0_1 l0_1.length c0_1) l0_1) (h : shelf_Put.f k l0_0 l0_1 a0_2 a0_3 a1_0 a1_1 a1_2 = some (r1, r2, r3, r4, r5)) :
    Calls Try.prog 22 #[.agg #[.slice A0_0 l0_0.length c0_0, .slice A0_1 l0_1.length c0_1, .int .i64 a0_2, .bool a0_3], .agg #[.int .i64 a1_0, .int .i64 a1_1, .string a1_2]] w fun e w' => ∃ v0_ v1_ : Value, e = .returned (.tuple #[.agg #[v0_, v1_, .int .i64 r3, .bool r4], .int .i64 r5]) ∧ Kd.V Kd.string 9 w' w.heap.size (fun k_ => ((P0_0_ k_ ∨ P0_1_ k_) ∨ w.heap.size ≤ k_)) v0_ r1 ∧ Kd.V k94 94 w' w.heap.size (fun k_ => ((P0_0_ k_ ∨ P0_1_ k_) ∨ w.heap.size ≤ k_)) v1_ r2 ∧ Below w.heap.size w w' := by
  have hu25 := Try.underlying25
  have hu75 := Try.underlying75
  have hu43 := Try.underlying43
  unfold shelf_Put.f at h
  obtain ⟨⟨s, e⟩, hR, h⟩ := Option.bind_eq_some_iff.mp h
  have HR := Aside0.mk hR
  have HS0 := Aside0.mk hs0_0
  have HS1 := Aside0.mk hs0_1
  clear hR hs0_0 hs0_1
  by_cases ce : e = 0
  · subst ce
    rw [if_pos rfl] at h
    obtain ⟨⟨b, e2⟩, hFi, h⟩ := Option.bind_eq_some_iff.mp h
    have HFi := Aside0.mk hFi
    clear hFi
    by_cases c2 : e2 = 0
    · subst c2
      rw [if_pos rfl] at h
      by_cases cb : b.toList = a1_2.toList
      · have hh : l0_0 = r1 ∧ l0_1 = r2 ∧ a0_2 = r3 ∧ a0_3 = r4 ∧ 0 = r5 := by simpa [cb] using h
        obtain ⟨rfl, rfl, rfl, rfl, rfl⟩ := hh
        clear h
        have db0 : (b.toList != a1_2.toList) = false := bne_eq_false_iff_eq.mpr cb
        have db1 : (b.toList == a1_2.toList) = true := beq_iff_eq.mpr cb
        clear cb
        refine (callsIn_wide (n := 4)).1 ?_
        refine callsIn_of_wp_marks Try.func22 rfl trivial ?_ rfl
        simp only [Try.ntmps22, List.size_toArray, List.length_cons, List.length_nil, Nat.reduceAdd, Nat.reduceSub, Array.replicate_succ, Array.replicate_zero, List.push_toArray, List.append_toArray, List.nil_append, List.cons_append]
        gi_wp2_with fail
        have hs1 := blk_new w (.cells #[.slice A0_0 l0_0.length c0_0, .slice A0_1 l0_1.length c0_1, .int .i64 a0_2, .bool a0_3] 25)
        have hB1 := (Below.refl w.heap.size w).alloc (Nat.le_refl _) (.cells #[.slice A0_0 l0_0.length c0_0, .slice A0_1 l0_1.length c0_1, .int .i64 a0_2, .bool a0_3] 25)
        generalize hW1 : w.alloc (.cells #[.slice A0_0 l0_0.length c0_0, .slice A0_1 l0_1.length c0_1, .int .i64 a0_2, .bool a0_3] 25) = W1 at *
        have hz1 : W1.heap.size = w.heap.size + 1 := by rw [← hW1]; simp
        rw [← hz1]
        have hs2 := blk_new W1 (.cells #[.int .i64 a1_0, .int .i64 a1_1, .string a1_2] 43)
        have hk1 := blk_alloc hs1 (.cells #[.int .i64 a1_0, .int .i64 a1_1, .string a1_2] 43)
        have hB2 := hB1.alloc hB1.size (.cells #[.int .i64 a1_0, .int .i64 a1_1, .string a1_2] 43)
        generalize hW2 : W1.alloc (.cells #[.int .i64 a1_0, .int .i64 a1_1, .string a1_2] 43) = W2 at *
        have hz2 : W2.heap.size = W1.heap.size + 1 := by rw [← hW2]; simp
        rw [← hz2]
        have hs3 := blk_new W2 (.cells #[.slice none 0 0, .slice none 0 0, .int .i64 0, .bool false] 25)
        have hk1 := blk_alloc hk1 (.cells #[.slice none 0 0, .slice none 0 0, .int .i64 0, .bool false] 25)
        have hk2 := blk_alloc hs2 (.cells #[.slice none 0 0, .slice none 0 0, .int .i64 0, .bool false] 25)
        have hB3 := hB2.alloc hB2.size (.cells #[.slice none 0 0, .slice none 0 0, .int .i64 0, .bool false] 25)
        generalize hW3 : W2.alloc (.cells #[.slice none 0 0, .slice none 0 0, .int .i64 0, .bool false] 25) = W3 at *
        have hz3 : W3.heap.size = W2.heap.size + 1 := by rw [← hW3]; simp
        rw [← hz3]
        have hs4 := blk_new W3 (.cells #[.int .i64 0] 35)
        have hk1 := blk_alloc hk1 (.cells #[.int .i64 0] 35)
        have hk2 := blk_alloc hk2 (.cells #[.int .i64 0] 35)
        have hk3 := blk_alloc hs3 (.cells #[.int .i64 0] 35)
        have hB4 := hB3.alloc hB3.size (.cells #[.int .i64 0] 35)
        generalize hW4 : W3.alloc (.cells #[.int .i64 0] 35) = W4 at *
        have hz4 : W4.heap.size = W3.heap.size + 1 := by rw [← hW4]; simp
        clear hW1 hW2 hW3 hW4
        have HZ := Aside0.mk (show w.heap.size = w.heap.size ∧ w.heap.size < W1.heap.size ∧ W1.heap.size < W2.heap.size ∧ W2.heap.size < W3.heap.size ∧ W3.heap.size < W4.heap.size by omega)
        have K0 := Aside0.mk hk1
        have K1 := Aside0.mk hk2
        have K2 := Aside0.mk hk3
        have K3 := Aside0.mk hs4
        have HB4 := Aside0.mk hB4
        clear hk1 hk2 hk3 hs1 hs2 hs3 hs4 hB1 hB2 hB3 hB4 hz1 hz2 hz3 hz4
        generalize hg0 : w.heap.size = g0 at HZ K0 ⊢
        generalize W1.heap.size = g1 at *
        generalize W2.heap.size = g2 at *
        generalize W3.heap.size = g3 at *
        have HG0 := Aside0.mk hg0
        clear hg0
        gi_wp2_with (first | (refine ⟨trivial, ?_⟩; gi_at_call 23; refine (callsIn_wide.2 (shelf_Record.calls _ _ _ _ _ _ HR.out)).mono ?_; rintro e w5 ⟨rfl, hb⟩; have HB5 := Aside0.mk hb; clear hb; have J0 := Aside0.mk (blk_alloc ((HB5.out.block g0 (blk_lt K0.out)).trans K0.out) (.cells #[.string s] 9)); have J1 := Aside0.mk (blk_alloc ((HB5.out.block g1 (blk_lt K1.out)).trans K1.out) (.cells #[.string s] 9)); have J2 := Aside0.mk (blk_alloc ((HB5.out.block g2 (blk_lt K2.out)).trans K2.out) (.cells #[.string s] 9)); have J3 := Aside0.mk (blk_alloc ((HB5.out.block g3 (blk_lt K3.out)).trans K3.out) (.cells #[.string s] 9)); have JS := Aside0.mk (blk_new w5 (.cells #[.string s] 9)); have HB6 := Aside0.mk ((HB4.out.trans (HB5.out.mono HB4.out.size)).alloc (HB4.out.trans (HB5.out.mono HB4.out.size)).size (.cells #[.string s] 9)); have z0 : (w5.alloc (.cells #[.string s] 9)).cell? ⟨g0, 0, none⟩ = some (.slice A0_0 l0_0.length c0_0) := (blk_cell J0.out 0).trans rfl; have z1 : (w5.alloc (.cells #[.string s] 9)).cell? ⟨g0, 1, none⟩ = some (.slice A0_1 l0_1.length c0_1) := (blk_cell J0.out 1).trans rfl; have z2 : (w5.alloc (.cells #[.string s] 9)).cell? ⟨g0, 2, none⟩ = some (.int .i64 a0_2) := (blk_cell J0.out 2).trans rfl; have z3 : (w5.alloc (.cells #[.string s] 9)).cell? ⟨g0, 3, none⟩ = some (.bool a0_3) := (blk_cell J0.out 3).trans rfl; have x0 : (w5.alloc (.cells #[.string s] 9)).cell? ⟨g1, 0, none⟩ = some (.int .i64 a1_0) := (blk_cell J1.out 0).trans rfl; have x1 : (w5.alloc (.cells #[.string s] 9)).cell? ⟨g1, 1, none⟩ = some (.int .i64 a1_1) := (blk_cell J1.out 1).trans rfl; have x2 : (w5.alloc (.cells #[.string s] 9)).cell? ⟨g1, 2, none⟩ = some (.string a1_2) := (blk_cell J1.out 2).trans rfl; have y0 : (w5.alloc (.cells #[.string s] 9)).cell? ⟨g2, 0, none⟩ = some (.slice none 0 0) := (blk_cell J2.out 0).trans rfl; have y1 : (w5.alloc (.cells #[.string s] 9)).cell? ⟨g2, 1, none⟩ = some (.slice none 0 0) := (blk_cell J2.out 1).trans rfl; have y2 : (w5.alloc (.cells #[.string s] 9)).cell? ⟨g2, 2, none⟩ = some (.int .i64 0) := (blk_cell J2.out 2).trans rfl; have y3 : (w5.alloc (.cells #[.string s] 9)).cell? ⟨g2, 3, none⟩ = some (.bool false) := (blk_cell J2.out 3).trans rfl; have y4 : (w5.alloc (.cells #[.string s] 9)).cell? ⟨g3, 0, none⟩ = some (.int .i64 0) := (blk_cell J3.out 0).trans rfl; have n23 : g2 ≠ g3 := (by have := HZ.out; omega); have n32 : g3 ≠ g2 := (by have := HZ.out; omega); have f0 := blk_frozen J2.out 0; have f1 := blk_frozen J2.out 1; have f2 := blk_frozen J2.out 2; have f3 := blk_frozen J2.out 3; have f4 := blk_frozen J3.out 0) | (refine ⟨trivial, ?_⟩; gi_at_call 18; refine (callsIn_wide.2 (shelf_Find.calls k A0_0 _ l0_0 A0_1 _ l0_1 a0_2 a0_3 a1_0 a1_1 b 0 _ (Kd.C_below (Kd.V_reads' HS0.out).2.2 HB6.out) (Kd.V_reads' HS0.out).2.1 (Kd.C_below (Kd.V_reads' HS1.out).2.2 HB6.out) (Kd.V_reads' HS1.out).2.1 HFi.out)).mono ?_; rintro e w7 ⟨rfl, hb⟩; have HB7 := Aside0.mk (below_step HB6.out hb); have J07 := Aside0.mk ((hb.block g0 (blk_lt J0.out)).trans J0.out); have J17 := Aside0.mk ((hb.block g1 (blk_lt J1.out)).trans J1.out); have J27 := Aside0.mk ((hb.block g2 (blk_lt J2.out)).trans J2.out); have J37 := Aside0.mk ((hb.block g3 (blk_lt J3.out)).trans J3.out); have JS7 := Aside0.mk ((hb.block w5.heap.size (blk_lt JS.out)).trans JS.out); have HL7 := Aside0.mk hb.size; clear hb; clear z0 z1 z2 z3 x0 x1 x2 y0 y1 y2 y3 y4 n23 n32 f0 f1 f2 f3 f4; have z0 : (w7).cell? ⟨g0, 0, none⟩ = some (.slice A0_0 l0_0.length c0_0) := (blk_cell J07.out 0).trans rfl; have z1 : (w7).cell? ⟨g0, 1, none⟩ = some (.slice A0_1 l0_1.length c0_1) := (blk_cell J07.out 1).trans rfl; have z2 : (w7).cell? ⟨g0, 2, none⟩ = some (.int .i64 a0_2) := (blk_cell J07.out 2).trans rfl; have z3 : (w7).cell? ⟨g0, 3, none⟩ = some (.bool a0_3) := (blk_cell J07.out 3).trans rfl; have x0 : (w7).cell? ⟨g1, 0, none⟩ = some (.int .i64 a1_0) := (blk_cell J17.out 0).trans rfl; have x1 : (w7).cell? ⟨g1, 1, none⟩ = some (.int .i64 a1_1) := (blk_cell J17.out 1).trans rfl; have x2 : (w7).cell? ⟨g1, 2, none⟩ = some (.string a1_2) := (blk_cell J17.out 2).trans rfl; have y0 : (w7).cell? ⟨g2, 0, none⟩ = some (.slice none 0 0) := (blk_cell J27.out 0).trans rfl; have y1 : (w7).cell? ⟨g2, 1, none⟩ = some (.slice none 0 0) := (blk_cell J27.out 1).trans rfl; have y2 : (w7).cell? ⟨g2, 2, none⟩ = some (.int .i64 0) := (blk_cell J27.out 2).trans rfl; have y3 : (w7).cell? ⟨g2, 3, none⟩ = some (.bool false) := (blk_cell J27.out 3).trans rfl; have y4 : (w7).cell? ⟨g3, 0, none⟩ = some (.int .i64 0) := (blk_cell J37.out 0).trans rfl; have n23 : g2 ≠ g3 := (by have := HZ.out; omega); have n32 : g3 ≠ g2 := (by have := HZ.out; omega); have f0 := blk_frozen J27.out 0; have f1 := blk_frozen J27.out 1; have f2 := blk_frozen J27.out 2; have f3 := blk_frozen J27.out 3; have f4 := blk_frozen J37.out 0))
        obtain ⟨q2, q3, qb, qk, qo⟩ := boxes_put (n₀ := w.heap.size) (.slice A0_0 l0_0.length c0_0) (.slice A0_1 l0_1.length c0_1) (.int .i64 a0_2) (.bool a0_3) (.int .i64 0) J27.out J37.out n23 (by have := HZ.out; have := HG0.out; omega) (by have := HZ.out; have := HG0.out; omega)
        generalize (((((w7).setCell ⟨g2, 0, none⟩ (.slice A0_0 l0_0.length c0_0)).setCell ⟨g2, 1, none⟩ (.slice A0_1 l0_1.length c0_1)).setCell ⟨g2, 2, none⟩ (.int .i64 a0_2)).setCell ⟨g2, 3, none⟩ (.bool a0_3)).setCell ⟨g3, 0, none⟩ (.int .i64 0) = W9 at q2 q3 qb qk qo ⊢
        have b0 := blk_cell q2 0
        have b1 := blk_cell q2 1
        have b2 := blk_cell q2 2
        have b3 := blk_cell q2 3
        have b4 := blk_cell q3 0
        have hB9 : Below w.heap.size w W9 := HB7.out.trans qb
        refine ⟨.tuple #[.agg #[.slice A0_0 l0_0.length c0_0, .slice A0_1 l0_1.length c0_1, .int .i64 a0_2, .bool a0_3], .int .i64 0], ?_, _, _, rfl, Kd.V_mono (V_base (Kd.V_below HS0.out hB9)) (fun k_ hk => .inl (.inl hk)), Kd.V_mono (V_base (Kd.V_below HS1.out hB9)) (fun k_ hk => .inl (.inr hk)), hB9⟩
        simp [results, Try.f22, go_sem, b0, b1, b2, b3, b4]
      · have hh : l0_0 = r1 ∧ l0_1 = r2 ∧ a0_2 = r3 ∧ a0_3 = r4 ∧ 8 = r5 := by simpa [cb] using h
        obtain ⟨rfl, rfl, rfl, rfl, rfl⟩ := hh
        clear h
        have db0 : (b.toList != a1_2.toList) = true := bne_iff_ne.mpr cb
        have db1 : (b.toList == a1_2.toList) = false := beq_eq_false_iff_ne.mpr cb
        clear cb
        refine (callsIn_wide (n := 4)).1 ?_
        refine callsIn_of_wp_marks Try.func22 rfl trivial ?_ rfl
        simp only [Try.ntmps22, List.size_toArray, List.length_cons, List.length_nil, Nat.reduceAdd, Nat.reduceSub, Array.replicate_succ, Array.replicate_zero, List.push_toArray, List.append_toArray, List.nil_append, List.cons_append]
        gi_wp2_with fail
        have hs1 := blk_new w (.cells #[.slice A0_0 l0_0.length c0_0, .slice A0_1 l0_1.length c0_1, .int .i64 a0_2, .bool a0_3] 25)
        have hB1 := (Below.refl w.heap.size w).alloc (Nat.le_refl _) (.cells #[.slice A0_0 l0_0.length c0_0, .slice A0_1 l0_1.length c0_1, .int .i64 a0_2, .bool a0_3] 25)
        generalize hW1 : w.alloc (.cells #[.slice A0_0 l0_0.length c0_0, .slice A0_1 l0_1.length c0_1, .int .i64 a0_2, .bool a0_3] 25) = W1 at *
        have hz1 : W1.heap.size = w.heap.size + 1 := by rw [← hW1]; simp
        rw [← hz1]
        have hs2 := blk_new W1 (.cells #[.int .i64 a1_0, .int .i64 a1_1, .string a1_2] 43)
        have hk1 := blk_alloc hs1 (.cells #[.int .i64 a1_0, .int .i64 a1_1, .string a1_2] 43)
        have hB2 := hB1.alloc hB1.size (.cells #[.int .i64 a1_0, .int .i64 a1_1, .string a1_2] 43)
        generalize hW2 : W1.alloc (.cells #[.int .i64 a1_0, .int .i64 a1_1, .string a1_2] 43) = W2 at *
        have hz2 : W2.heap.size = W1.heap.size + 1 := by rw [← hW2]; simp
        rw [← hz2]
        have hs3 := blk_new W2 (.cells #[.slice none 0 0, .slice none 0 0, .int .i64 0, .bool false] 25)
        have hk1 := blk_alloc hk1 (.cells #[.slice none 0 0, .slice none 0 0, .int .i64 0, .bool false] 25)
        have hk2 := blk_alloc hs2 (.cells #[.slice none 0 0, .slice none 0 0, .int .i64 0, .bool false] 25)
        have hB3 := hB2.alloc hB2.size (.cells #[.slice none 0 0, .slice none 0 0, .int .i64 0, .bool false] 25)
        generalize hW3 : W2.alloc (.cells #[.slice none 0 0, .slice none 0 0, .int .i64 0, .bool false] 25) = W3 at *
        have hz3 : W3.heap.size = W2.heap.size + 1 := by rw [← hW3]; simp
        rw [← hz3]
        have hs4 := blk_new W3 (.cells #[.int .i64 0] 35)
        have hk1 := blk_alloc hk1 (.cells #[.int .i64 0] 35)
        have hk2 := blk_alloc hk2 (.cells #[.int .i64 0] 35)
        have hk3 := blk_alloc hs3 (.cells #[.int .i64 0] 35)
        have hB4 := hB3.alloc hB3.size (.cells #[.int .i64 0] 35)
        generalize hW4 : W3.alloc (.cells #[.int .i64 0] 35) = W4 at *
        have hz4 : W4.heap.size = W3.heap.size + 1 := by rw [← hW4]; simp
        clear hW1 hW2 hW3 hW4
        have HZ := Aside0.mk (show w.heap.size = w.heap.size ∧ w.heap.size < W1.heap.size ∧ W1.heap.size < W2.heap.size ∧ W2.heap.size < W3.heap.size ∧ W3.heap.size < W4.heap.size by omega)
        have K0 := Aside0.mk hk1
        have K1 := Aside0.mk hk2
        have K2 := Aside0.mk hk3
        have K3 := Aside0.mk hs4
        have HB4 := Aside0.mk hB4
        clear hk1 hk2 hk3 hs1 hs2 hs3 hs4 hB1 hB2 hB3 hB4 hz1 hz2 hz3 hz4
        generalize hg0 : w.heap.size = g0 at HZ K0 ⊢
        generalize W1.heap.size = g1 at *
        generalize W2.heap.size = g2 at *
        generalize W3.heap.size = g3 at *
        have HG0 := Aside0.mk hg0
        clear hg0
        gi_wp2_with (first | (refine ⟨trivial, ?_⟩; gi_at_call 23; refine (callsIn_wide.2 (shelf_Record.calls _ _ _ _ _ _ HR.out)).mono ?_; rintro e w5 ⟨rfl, hb⟩; have HB5 := Aside0.mk hb; clear hb; have J0 := Aside0.mk (blk_alloc ((HB5.out.block g0 (blk_lt K0.out)).trans K0.out) (.cells #[.string s] 9)); have J1 := Aside0.mk (blk_alloc ((HB5.out.block g1 (blk_lt K1.out)).trans K1.out) (.cells #[.string s] 9)); have J2 := Aside0.mk (blk_alloc ((HB5.out.block g2 (blk_lt K2.out)).trans K2.out) (.cells #[.string s] 9)); have J3 := Aside0.mk (blk_alloc ((HB5.out.block g3 (blk_lt K3.out)).trans K3.out) (.cells #[.string s] 9)); have JS := Aside0.mk (blk_new w5 (.cells #[.string s] 9)); have HB6 := Aside0.mk ((HB4.out.trans (HB5.out.mono HB4.out.size)).alloc (HB4.out.trans (HB5.out.mono HB4.out.size)).size (.cells #[.string s] 9)); have z0 : (w5.alloc (.cells #[.string s] 9)).cell? ⟨g0, 0, none⟩ = some (.slice A0_0 l0_0.length c0_0) := (blk_cell J0.out 0).trans rfl; have z1 : (w5.alloc (.cells #[.string s] 9)).cell? ⟨g0, 1, none⟩ = some (.slice A0_1 l0_1.length c0_1) := (blk_cell J0.out 1).trans rfl; have z2 : (w5.alloc (.cells #[.string s] 9)).cell? ⟨g0, 2, none⟩ = some (.int .i64 a0_2) := (blk_cell J0.out 2).trans rfl; have z3 : (w5.alloc (.cells #[.string s] 9)).cell? ⟨g0, 3, none⟩ = some (.bool a0_3) := (blk_cell J0.out 3).trans rfl; have x0 : (w5.alloc (.cells #[.string s] 9)).cell? ⟨g1, 0, none⟩ = some (.int .i64 a1_0) := (blk_cell J1.out 0).trans rfl; have x1 : (w5.alloc (.cells #[.string s] 9)).cell? ⟨g1, 1, none⟩ = some (.int .i64 a1_1) := (blk_cell J1.out 1).trans rfl; have x2 : (w5.alloc (.cells #[.string s] 9)).cell? ⟨g1, 2, none⟩ = some (.string a1_2) := (blk_cell J1.out 2).trans rfl; have y0 : (w5.alloc (.cells #[.string s] 9)).cell? ⟨g2, 0, none⟩ = some (.slice none 0 0) := (blk_cell J2.out 0).trans rfl; have y1 : (w5.alloc (.cells #[.string s] 9)).cell? ⟨g2, 1, none⟩ = some (.slice none 0 0) := (blk_cell J2.out 1).trans rfl; have y2 : (w5.alloc (.cells #[.string s] 9)).cell? ⟨g2, 2, none⟩ = some (.int .i64 0) := (blk_cell J2.out 2).trans rfl; have y3 : (w5.alloc (.cells #[.string s] 9)).cell? ⟨g2, 3, none⟩ = some (.bool false) := (blk_cell J2.out 3).trans rfl; have y4 : (w5.alloc (.cells #[.string s] 9)).cell? ⟨g3, 0, none⟩ = some (.int .i64 0) := (blk_cell J3.out 0).trans rfl; have n23 : g2 ≠ g3 := (by have := HZ.out; omega); have n32 : g3 ≠ g2 := (by have := HZ.out; omega); have f0 := blk_frozen J2.out 0; have f1 := blk_frozen J2.out 1; have f2 := blk_frozen J2.out 2; have f3 := blk_frozen J2.out 3; have f4 := blk_frozen J3.out 0) | (refine ⟨trivial, ?_⟩; gi_at_call 18; refine (callsIn_wide.2 (shelf_Find.calls k A0_0 _ l0_0 A0_1 _ l0_1 a0_2 a0_3 a1_0 a1_1 b 0 _ (Kd.C_below (Kd.V_reads' HS0.out).2.2 HB6.out) (Kd.V_reads' HS0.out).2.1 (Kd.C_below (Kd.V_reads' HS1.out).2.2 HB6.out) (Kd.V_reads' HS1.out).2.1 HFi.out)).mono ?_; rintro e w7 ⟨rfl, hb⟩; have HB7 := Aside0.mk (below_step HB6.out hb); have J07 := Aside0.mk ((hb.block g0 (blk_lt J0.out)).trans J0.out); have J17 := Aside0.mk ((hb.block g1 (blk_lt J1.out)).trans J1.out); have J27 := Aside0.mk ((hb.block g2 (blk_lt J2.out)).trans J2.out); have J37 := Aside0.mk ((hb.block g3 (blk_lt J3.out)).trans J3.out); have JS7 := Aside0.mk ((hb.block w5.heap.size (blk_lt JS.out)).trans JS.out); have HL7 := Aside0.mk hb.size; clear hb; clear z0 z1 z2 z3 x0 x1 x2 y0 y1 y2 y3 y4 n23 n32 f0 f1 f2 f3 f4; have z0 : (w7).cell? ⟨g0, 0, none⟩ = some (.slice A0_0 l0_0.length c0_0) := (blk_cell J07.out 0).trans rfl; have z1 : (w7).cell? ⟨g0, 1, none⟩ = some (.slice A0_1 l0_1.length c0_1) := (blk_cell J07.out 1).trans rfl; have z2 : (w7).cell? ⟨g0, 2, none⟩ = some (.int .i64 a0_2) := (blk_cell J07.out 2).trans rfl; have z3 : (w7).cell? ⟨g0, 3, none⟩ = some (.bool a0_3) := (blk_cell J07.out 3).trans rfl; have x0 : (w7).cell? ⟨g1, 0, none⟩ = some (.int .i64 a1_0) := (blk_cell J17.out 0).trans rfl; have x1 : (w7).cell? ⟨g1, 1, none⟩ = some (.int .i64 a1_1) := (blk_cell J17.out 1).trans rfl; have x2 : (w7).cell? ⟨g1, 2, none⟩ = some (.string a1_2) := (blk_cell J17.out 2).trans rfl; have y0 : (w7).cell? ⟨g2, 0, none⟩ = some (.slice none 0 0) := (blk_cell J27.out 0).trans rfl; have y1 : (w7).cell? ⟨g2, 1, none⟩ = some (.slice none 0 0) := (blk_cell J27.out 1).trans rfl; have y2 : (w7).cell? ⟨g2, 2, none⟩ = some (.int .i64 0) := (blk_cell J27.out 2).trans rfl; have y3 : (w7).cell? ⟨g2, 3, none⟩ = some (.bool false) := (blk_cell J27.out 3).trans rfl; have y4 : (w7).cell? ⟨g3, 0, none⟩ = some (.int .i64 0) := (blk_cell J37.out 0).trans rfl; have n23 : g2 ≠ g3 := (by have := HZ.out; omega); have n32 : g3 ≠ g2 := (by have := HZ.out; omega); have f0 := blk_frozen J27.out 0; have f1 := blk_frozen J27.out 1; have f2 := blk_frozen J27.out 2; have f3 := blk_frozen J27.out 3; have f4 := blk_frozen J37.out 0))
        obtain ⟨q2, q3, qb, qk, qo⟩ := boxes_put (n₀ := w.heap.size) (.slice A0_0 l0_0.length c0_0) (.slice A0_1 l0_1.length c0_1) (.int .i64 a0_2) (.bool a0_3) (.int .i64 8) J27.out J37.out n23 (by have := HZ.out; have := HG0.out; omega) (by have := HZ.out; have := HG0.out; omega)
        generalize (((((w7).setCell ⟨g2, 0, none⟩ (.slice A0_0 l0_0.length c0_0)).setCell ⟨g2, 1, none⟩ (.slice A0_1 l0_1.length c0_1)).setCell ⟨g2, 2, none⟩ (.int .i64 a0_2)).setCell ⟨g2, 3, none⟩ (.bool a0_3)).setCell ⟨g3, 0, none⟩ (.int .i64 8) = W9 at q2 q3 qb qk qo ⊢
        have b0 := blk_cell q2 0
        have b1 := blk_cell q2 1
        have b2 := blk_cell q2 2
        have b3 := blk_cell q2 3
        have b4 := blk_cell q3 0
        have hB9 : Below w.heap.size w W9 := HB7.out.trans qb
        refine ⟨.tuple #[.agg #[.slice A0_0 l0_0.length c0_0, .slice A0_1 l0_1.length c0_1, .int .i64 a0_2, .bool a0_3], .int .i64 8], ?_, _, _, rfl, Kd.V_mono (V_base (Kd.V_below HS0.out hB9)) (fun k_ hk => .inl (.inl hk)), Kd.V_mono (V_base (Kd.V_below HS1.out hB9)) (fun k_ hk => .inl (.inr hk)), hB9⟩
        simp [results, Try.f22, go_sem, b0, b1, b2, b3, b4]
    · rw [if_neg c2] at h
      have d2 : (e2 != 0) = true := bne_iff_ne.mpr c2
      have d3 : (e2 == 0) = false := beq_eq_false_iff_ne.mpr c2
      clear c2
      obtain ⟨q, hq, h⟩ := Option.bind_eq_some_iff.mp h
      obtain ⟨hw, rfl⟩ := shelf_all_well hq
      have HW := Aside0.mk hw
      have HF := Aside0.mk h
      clear h hq hw
      refine (callsIn_wide (n := 4)).1 ?_
      refine callsIn_of_wp_marks Try.func22 rfl trivial ?_ rfl
      simp only [Try.ntmps22, List.size_toArray, List.length_cons, List.length_nil, Nat.reduceAdd, Nat.reduceSub, Array.replicate_succ, Array.replicate_zero, List.push_toArray, List.append_toArray, List.nil_append, List.cons_append]
      gi_wp2_with fail
      have hs1 := blk_new w (.cells #[.slice A0_0 l0_0.length c0_0, .slice A0_1 l0_1.length c0_1, .int .i64 a0_2, .bool a0_3] 25)
      have hB1 := (Below.refl w.heap.size w).alloc (Nat.le_refl _) (.cells #[.slice A0_0 l0_0.length c0_0, .slice A0_1 l0_1.length c0_1, .int .i64 a0_2, .bool a0_3] 25)
      generalize hW1 : w.alloc (.cells #[.slice A0_0 l0_0.length c0_0, .slice A0_1 l0_1.length c0_1, .int .i64 a0_2, .bool a0_3] 25) = W1 at *
      have hz1 : W1.heap.size = w.heap.size + 1 := by rw [← hW1]; simp
      rw [← hz1]
      have hs2 := blk_new W1 (.cells #[.int .i64 a1_0, .int .i64 a1_1, .string a1_2] 43)
      have hk1 := blk_alloc hs1 (.cells #[.int .i64 a1_0, .int .i64 a1_1, .string a1_2] 43)
      have hB2 := hB1.alloc hB1.size (.cells #[.int .i64 a1_0, .int .i64 a1_1, .string a1_2] 43)
      generalize hW2 : W1.alloc (.cells #[.int .i64 a1_0, .int .i64 a1_1, .string a1_2] 43) = W2 at *
      have hz2 : W2.heap.size = W1.heap.size + 1 := by rw [← hW2]; simp
      rw [← hz2]
      have hs3 := blk_new W2 (.cells #[.slice none 0 0, .slice none 0 0, .int .i64 0, .bool false] 25)
      have hk1 := blk_alloc hk1 (.cells #[.slice none 0 0, .slice none 0 0, .int .i64 0, .bool false] 25)
      have hk2 := blk_alloc hs2 (.cells #[.slice none 0 0, .slice none 0 0, .int .i64 0, .bool false] 25)
      have hB3 := hB2.alloc hB2.size (.cells #[.slice none 0 0, .slice none 0 0, .int .i64 0, .bool false] 25)
      generalize hW3 : W2.alloc (.cells #[.slice none 0 0, .slice none 0 0, .int .i64 0, .bool false] 25) = W3 at *
      have hz3 : W3.heap.size = W2.heap.size + 1 := by rw [← hW3]; simp
      rw [← hz3]
      have hs4 := blk_new W3 (.cells #[.int .i64 0] 35)
      have hk1 := blk_alloc hk1 (.cells #[.int .i64 0] 35)
      have hk2 := blk_alloc hk2 (.cells #[.int .i64 0] 35)
      have hk3 := blk_alloc hs3 (.cells #[.int .i64 0] 35)
      have hB4 := hB3.alloc hB3.size (.cells #[.int .i64 0] 35)
      generalize hW4 : W3.alloc (.cells #[.int .i64 0] 35) = W4 at *
      have hz4 : W4.heap.size = W3.heap.size + 1 := by rw [← hW4]; simp
      clear hW1 hW2 hW3 hW4
      have HZ := Aside0.mk (show w.heap.size = w.heap.size ∧ w.heap.size < W1.heap.size ∧ W1.heap.size < W2.heap.size ∧ W2.heap.size < W3.heap.size ∧ W3.heap.size < W4.heap.size by omega)
      have K0 := Aside0.mk hk1
      have K1 := Aside0.mk hk2
      have K2 := Aside0.mk hk3
      have K3 := Aside0.mk hs4
      have HB4 := Aside0.mk hB4
      clear hk1 hk2 hk3 hs1 hs2 hs3 hs4 hB1 hB2 hB3 hB4 hz1 hz2 hz3 hz4
      generalize hg0 : w.heap.size = g0 at HZ K0 ⊢
      generalize W1.heap.size = g1 at *
      generalize W2.heap.size = g2 at *
      generalize W3.heap.size = g3 at *
      have HG0 := Aside0.mk hg0
      clear hg0
      gi_wp2_with (first | (refine ⟨trivial, ?_⟩; gi_at_call 23; refine (callsIn_wide.2 (shelf_Record.calls _ _ _ _ _ _ HR.out)).mono ?_; rintro e w5 ⟨rfl, hb⟩; have HB5 := Aside0.mk hb; clear hb; have J0 := Aside0.mk (blk_alloc ((HB5.out.block g0 (blk_lt K0.out)).trans K0.out) (.cells #[.string s] 9)); have J1 := Aside0.mk (blk_alloc ((HB5.out.block g1 (blk_lt K1.out)).trans K1.out) (.cells #[.string s] 9)); have J2 := Aside0.mk (blk_alloc ((HB5.out.block g2 (blk_lt K2.out)).trans K2.out) (.cells #[.string s] 9)); have J3 := Aside0.mk (blk_alloc ((HB5.out.block g3 (blk_lt K3.out)).trans K3.out) (.cells #[.string s] 9)); have JS := Aside0.mk (blk_new w5 (.cells #[.string s] 9)); have HB6 := Aside0.mk ((HB4.out.trans (HB5.out.mono HB4.out.size)).alloc (HB4.out.trans (HB5.out.mono HB4.out.size)).size (.cells #[.string s] 9)); have z0 : (w5.alloc (.cells #[.string s] 9)).cell? ⟨g0, 0, none⟩ = some (.slice A0_0 l0_0.length c0_0) := (blk_cell J0.out 0).trans rfl; have z1 : (w5.alloc (.cells #[.string s] 9)).cell? ⟨g0, 1, none⟩ = some (.slice A0_1 l0_1.length c0_1) := (blk_cell J0.out 1).trans rfl; have z2 : (w5.alloc (.cells #[.string s] 9)).cell? ⟨g0, 2, none⟩ = some (.int .i64 a0_2) := (blk_cell J0.out 2).trans rfl; have z3 : (w5.alloc (.cells #[.string s] 9)).cell? ⟨g0, 3, none⟩ = some (.bool a0_3) := (blk_cell J0.out 3).trans rfl; have x0 : (w5.alloc (.cells #[.string s] 9)).cell? ⟨g1, 0, none⟩ = some (.int .i64 a1_0) := (blk_cell J1.out 0).trans rfl; have x1 : (w5.alloc (.cells #[.string s] 9)).cell? ⟨g1, 1, none⟩ = some (.int .i64 a1_1) := (blk_cell J1.out 1).trans rfl; have x2 : (w5.alloc (.cells #[.string s] 9)).cell? ⟨g1, 2, none⟩ = some (.string a1_2) := (blk_cell J1.out 2).trans rfl; have y0 : (w5.alloc (.cells #[.string s] 9)).cell? ⟨g2, 0, none⟩ = some (.slice none 0 0) := (blk_cell J2.out 0).trans rfl; have y1 : (w5.alloc (.cells #[.string s] 9)).cell? ⟨g2, 1, none⟩ = some (.slice none 0 0) := (blk_cell J2.out 1).trans rfl; have y2 : (w5.alloc (.cells #[.string s] 9)).cell? ⟨g2, 2, none⟩ = some (.int .i64 0) := (blk_cell J2.out 2).trans rfl; have y3 : (w5.alloc (.cells #[.string s] 9)).cell? ⟨g2, 3, none⟩ = some (.bool false) := (blk_cell J2.out 3).trans rfl; have y4 : (w5.alloc (.cells #[.string s] 9)).cell? ⟨g3, 0, none⟩ = some (.int .i64 0) := (blk_cell J3.out 0).trans rfl; have n23 : g2 ≠ g3 := (by have := HZ.out; omega); have n32 : g3 ≠ g2 := (by have := HZ.out; omega); have f0 := blk_frozen J2.out 0; have f1 := blk_frozen J2.out 1; have f2 := blk_frozen J2.out 2; have f3 := blk_frozen J2.out 3; have f4 := blk_frozen J3.out 0) | (refine ⟨trivial, ?_⟩; gi_at_call 18; refine (callsIn_wide.2 (shelf_Find.calls k A0_0 _ l0_0 A0_1 _ l0_1 a0_2 a0_3 a1_0 a1_1 b e2 _ (Kd.C_below (Kd.V_reads' HS0.out).2.2 HB6.out) (Kd.V_reads' HS0.out).2.1 (Kd.C_below (Kd.V_reads' HS1.out).2.2 HB6.out) (Kd.V_reads' HS1.out).2.1 HFi.out)).mono ?_; rintro e w7 ⟨rfl, hb⟩; have HB7 := Aside0.mk (below_step HB6.out hb); have J07 := Aside0.mk ((hb.block g0 (blk_lt J0.out)).trans J0.out); have J17 := Aside0.mk ((hb.block g1 (blk_lt J1.out)).trans J1.out); have J27 := Aside0.mk ((hb.block g2 (blk_lt J2.out)).trans J2.out); have J37 := Aside0.mk ((hb.block g3 (blk_lt J3.out)).trans J3.out); have JS7 := Aside0.mk ((hb.block w5.heap.size (blk_lt JS.out)).trans JS.out); have HL7 := Aside0.mk hb.size; clear hb; clear z0 z1 z2 z3 x0 x1 x2 y0 y1 y2 y3 y4 n23 n32 f0 f1 f2 f3 f4; have z0 : (w7).cell? ⟨g0, 0, none⟩ = some (.slice A0_0 l0_0.length c0_0) := (blk_cell J07.out 0).trans rfl; have z1 : (w7).cell? ⟨g0, 1, none⟩ = some (.slice A0_1 l0_1.length c0_1) := (blk_cell J07.out 1).trans rfl; have z2 : (w7).cell? ⟨g0, 2, none⟩ = some (.int .i64 a0_2) := (blk_cell J07.out 2).trans rfl; have z3 : (w7).cell? ⟨g0, 3, none⟩ = some (.bool a0_3) := (blk_cell J07.out 3).trans rfl; have x0 : (w7).cell? ⟨g1, 0, none⟩ = some (.int .i64 a1_0) := (blk_cell J17.out 0).trans rfl; have x1 : (w7).cell? ⟨g1, 1, none⟩ = some (.int .i64 a1_1) := (blk_cell J17.out 1).trans rfl; have x2 : (w7).cell? ⟨g1, 2, none⟩ = some (.string a1_2) := (blk_cell J17.out 2).trans rfl; have y0 : (w7).cell? ⟨g2, 0, none⟩ = some (.slice none 0 0) := (blk_cell J27.out 0).trans rfl; have y1 : (w7).cell? ⟨g2, 1, none⟩ = some (.slice none 0 0) := (blk_cell J27.out 1).trans rfl; have y2 : (w7).cell? ⟨g2, 2, none⟩ = some (.int .i64 0) := (blk_cell J27.out 2).trans rfl; have y3 : (w7).cell? ⟨g2, 3, none⟩ = some (.bool false) := (blk_cell J27.out 3).trans rfl; have y4 : (w7).cell? ⟨g3, 0, none⟩ = some (.int .i64 0) := (blk_cell J37.out 0).trans rfl; have n23 : g2 ≠ g3 := (by have := HZ.out; omega); have n32 : g3 ≠ g2 := (by have := HZ.out; omega); have f0 := blk_frozen J27.out 0; have f1 := blk_frozen J27.out 1; have f2 := blk_frozen J27.out 2; have f3 := blk_frozen J27.out 3; have f4 := blk_frozen J37.out 0) | (refine ⟨trivial, ?_⟩; gi_at_call 36; refine (callsIn_wide.2 (shelf_all.calls _ _ _ _ _ _ _ _ _)).mono ?_; rintro e w' ⟨rfl, rfl⟩))
      have hs7 := blk_new w7 (.cells #[.slice A0_0 l0_0.length c0_0, .slice A0_1 l0_1.length c0_1, .int .i64 a0_2, .bool a0_3] 25)
      have hB8 := HB7.out.alloc HB7.out.size (.cells #[.slice A0_0 l0_0.length c0_0, .slice A0_1 l0_1.length c0_1, .int .i64 a0_2, .bool a0_3] 25)
      have hj0 := blk_alloc J07.out (.cells #[.slice A0_0 l0_0.length c0_0, .slice A0_1 l0_1.length c0_1, .int .i64 a0_2, .bool a0_3] 25)
      have hj2 := blk_alloc J27.out (.cells #[.slice A0_0 l0_0.length c0_0, .slice A0_1 l0_1.length c0_1, .int .i64 a0_2, .bool a0_3] 25)
      have hj3 := blk_alloc J37.out (.cells #[.slice A0_0 l0_0.length c0_0, .slice A0_1 l0_1.length c0_1, .int .i64 a0_2, .bool a0_3] 25)
      have hj6 := blk_alloc JS7.out (.cells #[.slice A0_0 l0_0.length c0_0, .slice A0_1 l0_1.length c0_1, .int .i64 a0_2, .bool a0_3] 25)
      generalize hWL : w7.alloc (.cells #[.slice A0_0 l0_0.length c0_0, .slice A0_1 l0_1.length c0_1, .int .i64 a0_2, .bool a0_3] 25) = WL at *
      have hzL : WL.heap.size = w7.heap.size + 1 := by rw [← hWL]; simp
      have HZ := Aside0.mk (show w.heap.size ≤ g2 ∧ w.heap.size ≤ g3 ∧ w.heap.size ≤ WL.heap.size ∧ w7.heap.size < WL.heap.size ∧ g2 < g3 ∧ g3 < w7.heap.size ∧ w5.heap.size < w7.heap.size ∧ w.heap.size ≤ w7.heap.size by
        have h1 := HZ.out; have h2 := HG0.out; have h3 := HL7.out; have h4 := HB7.out.size; have h5 := HB5.out.size; simp at h3; omega)
      generalize w5.heap.size = g6 at *
      generalize w7.heap.size = g7 at *
      have HB8L := Aside0.mk hB8
      clear hWL hzL hB8 HL7 z0 z1 z2 z3 x0 x1 x2 y0 y1 y2 y3 y4 n23 n32 f0 f1 f2 f3 f4
      have HGs := Aside0.mk (show ∀ j, j < l0_0.length → spotFull (shelf_spot k l0_0 l0_1 a0_2 a0_3 j) = false → ∃ r, disk_Put.f l0_0 l0_1 a0_2 a0_3 (shelf_spot k l0_0 l0_1 a0_2 a0_3 j).1 s = some r by
        intro j hj hnf
        have hm : shelf_spot k l0_0 l0_1 a0_2 a0_3 j ∈ shelf_upto k l0_0 l0_1 a0_2 a0_3 l0_0.length := List.mem_map_of_mem (List.mem_range.mpr hj)
        obtain ⟨q, hq, hr⟩ := spotRoom_some hm hnf
        have hF := HF.out
        rw [hr] at hF
        obtain ⟨i, hi, rfl⟩ := List.mem_map.mp hq
        rw [List.mem_range] at hi
        exact disk_Put_any (i := (shelf_spot k l0_0 l0_1 a0_2 a0_3 i).1) (by constructor <;> (show _; unfold shelf_spot; dsimp only; omega)) (by constructor <;> (show _; unfold shelf_spot; dsimp only; omega)) hF)
      have h1 : 1 ≤ 4 := by omega
      refine wpIn_rangeFunc_ownH rfl h1 (gf := 55) (lb := #[.pointer (some ⟨g7, 0, none⟩)]) rfl trivial (enters_of Try.func55 (by kernel_rfl) rfl)
        (shelf_stopsG (fun x : Spot => spotFull x = false → ∃ r, disk_Put.f l0_0 l0_1 a0_2 a0_3 x.1 s = some r) k l0_0 l0_1 a0_2 a0_3 HW.out HGs.out 3 (by omega) w.heap.size g7 c0_0 c0_1 A0_0 A0_1 WL HZ.out.2.2.1 hs7 (fun W' h => Kd.C_below (Kd.V_reads' HS0.out).2.2 (HB8L.out.trans h)) (Kd.V_reads' HS0.out).2.1 (fun W' h => Kd.C_below (Kd.V_reads' HS1.out).2.2 (HB8L.out.trans h)) (Kd.V_reads' HS1.out).2.1 (Kd.V_reads' HS0.out).2.2.2.1)
        keepsToo_t (keepsToo_b HZ.out.2.2.1 HZ.out.2.2.2.1) (Below.refl _ _) (fun _ => rfl)
        (fun pre W => (AllFull (spotsOf pre) ∧ W.heap[g0]? = some (.cells #[.slice A0_0 l0_0.length c0_0, .slice A0_1 l0_1.length c0_1, .int .i64 a0_2, .bool a0_3] 25 (0, 0)) ∧ W.heap[g2]? = some (.cells #[.slice none 0 0, .slice none 0 0, .int .i64 0, .bool false] 25 (0, 0)) ∧ W.heap[g3]? = some (.cells #[.int .i64 0] 35 (0, 0)) ∧ W.heap[g6]? = some (.cells #[.string s] 9 (0, 0)) ∧ W.heap[g7]? = some (.cells #[.slice A0_0 l0_0.length c0_0, .slice A0_1 l0_1.length c0_1, .int .i64 a0_2, .bool a0_3] 25 (0, 0))) ∧ Below w.heap.size w W)
        (fun c pre W => (c = .ret ∧ ∃ ini p t1 t2 t3 t4 t5 v0 v1, spotsOf pre = ini ++ [p] ∧ AllFull ini ∧ spotFull p = false ∧ disk_Put.f l0_0 l0_1 a0_2 a0_3 p.1 s = some (t1, t2, t3, t4, t5) ∧ W.heap[g2]? = some (.cells #[v0, v1, .int .i64 t3, .bool t4] 25 (0, 0)) ∧ W.heap[g3]? = some (.cells #[.int .i64 t5] 35 (0, 0)) ∧ Kd.V Kd.string 9 W w.heap.size (fun k_ => ((P0_0_ k_ ∧ k_ < w.heap.size) ∨ (P0_1_ k_ ∧ k_ < w.heap.size)) ∨ w.heap.size ≤ k_) v0 t1 ∧ Kd.V k94 94 W w.heap.size (fun k_ => ((P0_0_ k_ ∧ k_ < w.heap.size) ∨ (P0_1_ k_ ∧ k_ < w.heap.size)) ∨ w.heap.size ≤ k_) v1 t2) ∧ Below w.heap.size w W)
        (OwnFrom.and (fun st A B row hs hg hr => ⟨hs.1, blk_kept hs.2.1 hg hr, blk_kept hs.2.2.1 hg hr, blk_kept hs.2.2.2.1 hg hr, blk_kept hs.2.2.2.2.1 hg hr, blk_kept hs.2.2.2.2.2 hg hr⟩) (ownFrom_below (Nat.le_refl _) HZ.out.2.2.1))
        (fun c => OwnFrom.and (fun st A B row hs hg hr => ⟨hs.1, by
          obtain ⟨ini, p, t1, t2, t3, t4, t5, v0, v1, a, b, c, d, e2, e3, e4, e5⟩ := hs.2
          exact ⟨ini, p, t1, t2, t3, t4, t5, v0, v1, a, b, c, d, blk_kept e2 hg hr, blk_kept e3 hg hr, V_flat_own flat_string e4 hg (fun r e => (hr r e).2), V_flat_own flat_write e5 hg (fun r e => (hr r e).2)⟩⟩) (ownFrom_below (Nat.le_refl _) HZ.out.2.2.1))
        ⟨⟨(fun p hp => by cases hp), hj0, hj2, hj3, hj6, hs7⟩, HB8L.out⟩
        (fun x a' W => ∃ gx, g7 < gx ∧ W.heap[gx]? = some (.cells #[.int .i64 x.1.1, .bool x.1.2.1, .bool x.1.2.2.1, .int .i64 x.1.2.2.2.1, .int .i64 x.1.2.2.2.2.1, .string x.1.2.2.2.2.2] 75 (0, 0)) ∧ a' = { tmps := #[.agg #[.slice A0_0 l0_0.length c0_0, .slice A0_1 l0_1.length c0_1, .int .i64 a0_2, .bool a0_3], .agg #[.int .i64 a1_0, .int .i64 a1_1, .string a1_2], .pointer (some ⟨g0, 0, none⟩), .pointer (some ⟨g1, 0, none⟩), .pointer (some ⟨g2, 0, none⟩), .pointer (some ⟨g3, 0, none⟩), .pointer (some ⟨g6, 0, none⟩), .int .i64 0, .string b, .int .i64 e2, .pointer (some ⟨gx, 0, none⟩), .tuple #[.string s, .int .i64 0], .agg #[.int .i64 a1_0, .int .i64 a1_1, .string a1_2], .tuple #[.string s, .int .i64 0], .string s, .int .i64 0, .int .i64 0, .bool false, undef, undef, .tuple #[.string b, .int .i64 e2], .agg #[.slice A0_0 l0_0.length c0_0, .slice A0_1 l0_1.length c0_1, .int .i64 a0_2, .bool a0_3], .pointer (some ⟨g1, 0, none⟩), .int .i64 a1_0, .pointer (some ⟨g1, 1, none⟩), .int .i64 a1_1, .agg #[.int .i64 a1_0, .int .i64 a1_1], .tuple #[.string b, .int .i64 e2], .string b, .int .i64 e2, .int .i64 e2, .bool false, undef, undef, undef, undef, undef, undef, .agg #[.slice A0_0 l0_0.length c0_0, .slice A0_1 l0_1.length c0_1, .int .i64 a0_2, .bool a0_3], .func (.func 55) #[] #[.pointer (some ⟨g7, 0, none⟩)], spotVal x.1, undef, undef, undef, undef, undef, undef, undef, undef, undef, undef, undef], defers := [] })
        (fun x a' s A B row hs hg hr => by obtain ⟨gx, h1, h2, h3⟩ := hs; exact ⟨gx, h1, blk_kept h2 hg hr, h3⟩) ?assign ?body ?done ?stop
      case assign =>
        rintro l pre x W K ⟨⟨i1, i0, i2, i3, i6, i7⟩, iB⟩ hK
        have I1 := Aside0.mk i1
        have I0 := Aside0.mk i0
        have I2 := Aside0.mk i2
        have I3 := Aside0.mk i3
        have I6 := Aside0.mk i6
        have I7 := Aside0.mk i7
        have IB := Aside0.mk iB
        have HK := Aside0.mk hK
        clear i0 i1 i2 i3 i6 i7 iB hK
        dsimp only [spotVal]
        gi_wp2
        refine HK.out _ _ ((KeepsOthers.alloc _ _).from _) (keepsToo.new _ IB.out.size (blk_lt I7.out)) ⟨⟨I1.out, blk_alloc I0.out _, blk_alloc I2.out _, blk_alloc I3.out _, blk_alloc I6.out _, blk_alloc I7.out _⟩, IB.out.alloc IB.out.size _⟩ ⟨W.heap.size, blk_lt I7.out, blk_new _ _, rfl⟩
      case body =>
        rintro l pre x a' W hl ⟨r, hr⟩ ⟨⟨i1, i0, i2, i3, i6, i7⟩, iB⟩ ⟨gx, h5x, iX, rfl⟩ hlen
        have I1 := Aside0.mk i1
        have I0 := Aside0.mk i0
        have I2 := Aside0.mk i2
        have I3 := Aside0.mk i3
        have I6 := Aside0.mk i6
        have I7 := Aside0.mk i7
        have IB := Aside0.mk iB
        have IX := Aside0.mk iX
        have H5 := Aside0.mk h5x
        have HM := Aside0.mk (spotsOf_add pre x)
        clear i0 i1 i2 i3 i6 i7 iB iX h5x hr hl hlen
        obtain ⟨⟨x0, x1, x2, x3, x4, x5⟩, hx⟩ := x
        dsimp only at IX HM ⊢
        have HX := Aside0.mk hx
        have HFl : Aside0 (shelf_spot_full.f x0 x1 x2 x3 x4 x5 = some (spotFull (x0, x1, x2, x3, x4, x5))) := ⟨by unfold shelf_spot_full.f spotFull; cases x1 <;> rfl⟩
        have HSF := Aside0.mk (show spotFull (x0, x1, x2, x3, x4, x5) = spotFull (x0, x1, x2, x3, x4, x5) from rfl)
        conv at HSF => arg 1; lhs; rw [← Bool.or_false (spotFull (x0, x1, x2, x3, x4, x5))]
        have z0 : W.cell? ⟨gx, 0, none⟩ = some (.int .i64 x0) := (blk_cell IX.out 0).trans rfl
        have z1 : W.cell? ⟨gx, 1, none⟩ = some (.bool x1) := (blk_cell IX.out 1).trans rfl
        have z2 : W.cell? ⟨gx, 2, none⟩ = some (.bool x2) := (blk_cell IX.out 2).trans rfl
        have z3 : W.cell? ⟨gx, 3, none⟩ = some (.int .i64 x3) := (blk_cell IX.out 3).trans rfl
        have z4 : W.cell? ⟨gx, 4, none⟩ = some (.int .i64 x4) := (blk_cell IX.out 4).trans rfl
        have z5 : W.cell? ⟨gx, 5, none⟩ = some (.string x5) := (blk_cell IX.out 5).trans rfl
        cases hsf : spotFull (x0, x1, x2, x3, x4, x5) with
        | true =>
          rw [hsf] at HFl
          have HSf := Aside0.mk hsf
          clear hsf
          gi_wp2_with (refine ⟨trivial, ?_⟩; gi_at_call 37; refine (callsIn_wide.2 (shelf_spot_full.calls x0 x1 x2 x3 x4 x5 true _ HFl.out)).mono ?_; rintro e w8 ⟨rfl, hb⟩; have HB8 := Aside0.mk hb; clear hb; skip)
          refine ⟨keepsFrom_below HB8.out, ⟨HB8.out.mono IB.out.size, HB8.out.block _ (blk_lt I7.out)⟩, ⟨⟨?_, (HB8.out.block g0 (blk_lt I0.out)).trans I0.out, (HB8.out.block g2 (blk_lt I2.out)).trans I2.out, (HB8.out.block g3 (blk_lt I3.out)).trans I3.out, (HB8.out.block g6 (blk_lt I6.out)).trans I6.out, (HB8.out.block g7 (blk_lt I7.out)).trans I7.out⟩, IB.out.trans (HB8.out.mono IB.out.size)⟩⟩
          rw [HM.out]
          exact I1.out.add HSf.out
        | false =>
          rw [hsf] at HFl
          obtain ⟨⟨t1, t2, t3, t4, t5⟩, hPut⟩ := HX.out hsf
          have HPut := Aside0.mk (show disk_Put.f l0_0 l0_1 a0_2 a0_3 x0 s = some (t1, t2, t3, t4, t5) from hPut)
          have HSf := Aside0.mk hsf
          clear hPut hsf
          gi_wp2_with (first | (refine ⟨trivial, ?_⟩; gi_at_call 37; refine (callsIn_wide.2 (shelf_spot_full.calls x0 x1 x2 x3 x4 x5 false _ HFl.out)).mono ?_; rintro e w8 ⟨rfl, hb⟩; have HB8 := Aside0.mk hb; clear hb; have J0 := Aside0.mk ((HB8.out.block g0 (blk_lt I0.out)).trans I0.out); have J6 := Aside0.mk ((HB8.out.block g6 (blk_lt I6.out)).trans I6.out); have JX := Aside0.mk ((HB8.out.block gx (blk_lt IX.out)).trans IX.out); have J2 := Aside0.mk ((HB8.out.block g2 (blk_lt I2.out)).trans I2.out); have J3 := Aside0.mk ((HB8.out.block g3 (blk_lt I3.out)).trans I3.out); have p0 : w8.cell? ⟨g0, 0, none⟩ = some (.slice A0_0 l0_0.length c0_0) := (blk_cell J0.out 0).trans rfl; have p1 : w8.cell? ⟨g0, 1, none⟩ = some (.slice A0_1 l0_1.length c0_1) := (blk_cell J0.out 1).trans rfl; have p2 : w8.cell? ⟨g0, 2, none⟩ = some (.int .i64 a0_2) := (blk_cell J0.out 2).trans rfl; have p3 : w8.cell? ⟨g0, 3, none⟩ = some (.bool a0_3) := (blk_cell J0.out 3).trans rfl; have ps : w8.cell? ⟨g6, 0, none⟩ = some (.string s) := (blk_cell J6.out 0).trans rfl; have px : w8.cell? ⟨gx, 0, none⟩ = some (.int .i64 x0) := (blk_cell JX.out 0).trans rfl) | (refine ⟨trivial, ?_⟩; gi_at_call 39; refine (callsIn_wide.2 (disk_Put.calls (fun k_ => P0_0_ k_ ∧ k_ < w.heap.size) A0_0 c0_0 l0_0 (fun k_ => P0_1_ k_ ∧ k_ < w.heap.size) A0_1 c0_1 l0_1 a0_2 a0_3 x0 s t1 t2 t3 t4 t5 _ (V_base (Kd.V_below (Kd.V_bound HS0.out) (below_step IB.out HB8.out))) (V_base (Kd.V_below (Kd.V_bound HS1.out) (below_step IB.out HB8.out))) HPut.out)).mono ?_; rintro e w9 ⟨v0, v1, rfl, hv0, hv1, hb⟩; obtain ⟨B0, d0, rfl⟩ := Kd.V_slice hv0; obtain ⟨B1, d1, rfl⟩ := Kd.V_slice hv1; have HV0 := Aside0.mk hv0; have HV1 := Aside0.mk hv1; have HB9 := Aside0.mk hb; clear hb hv0 hv1; have M2 := Aside0.mk ((HB9.out.block g2 (blk_lt J2.out)).trans J2.out); have M3 := Aside0.mk ((HB9.out.block g3 (blk_lt J3.out)).trans J3.out); have y0 : w9.cell? ⟨g2, 0, none⟩ = some (.slice none 0 0) := (blk_cell M2.out 0).trans rfl; have y1 : w9.cell? ⟨g2, 1, none⟩ = some (.slice none 0 0) := (blk_cell M2.out 1).trans rfl; have y2 : w9.cell? ⟨g2, 2, none⟩ = some (.int .i64 0) := (blk_cell M2.out 2).trans rfl; have y3 : w9.cell? ⟨g2, 3, none⟩ = some (.bool false) := (blk_cell M2.out 3).trans rfl; have y4 : w9.cell? ⟨g3, 0, none⟩ = some (.int .i64 0) := (blk_cell M3.out 0).trans rfl; have n23 : g2 ≠ g3 := (by have := HZ.out; omega); have n32 : g3 ≠ g2 := (by have := HZ.out; omega); have f0 := blk_frozen M2.out 0; have f1 := blk_frozen M2.out 1; have f2 := blk_frozen M2.out 2; have f3 := blk_frozen M2.out 3; have f4 := blk_frozen M3.out 0))
          obtain ⟨q2, q3, qb, qk, qo⟩ := boxes_put (n₀ := w.heap.size) (.slice B0 t1.length d0) (.slice B1 t2.length d1) (.int .i64 t3) (.bool t4) (.int .i64 t5) M2.out M3.out n23 HZ.out.1 HZ.out.2.1
          generalize (((((w9).setCell ⟨g2, 0, none⟩ (.slice B0 t1.length d0)).setCell ⟨g2, 1, none⟩ (.slice B1 t2.length d1)).setCell ⟨g2, 2, none⟩ (.int .i64 t3)).setCell ⟨g2, 3, none⟩ (.bool t4)).setCell ⟨g3, 0, none⟩ (.int .i64 t5) = W9 at q2 q3 qb qk qo ⊢
          have hsz : W.heap.size ≤ w8.heap.size := HB8.out.size
          have hne : ∀ k_, ((((P0_0_ k_ ∧ k_ < w.heap.size) ∨ (P0_1_ k_ ∧ k_ < w.heap.size)) ∨ w8.heap.size ≤ k_) → W9.heap[k_]? = w9.heap[k_]?) := fun k_ hk => qo k_ (by
            have := HZ.out; have := blk_lt J2.out; have := blk_lt J3.out
            rcases hk with (⟨_, h⟩ | ⟨_, h⟩) | h <;> omega) (by
            have := HZ.out; have := blk_lt J2.out; have := blk_lt J3.out
            rcases hk with (⟨_, h⟩ | ⟨_, h⟩) | h <;> omega)
          refine ⟨((keepsFrom_below HB8.out).trans (keepsFrom_below HB9.out)).trans (qk.from _), ⟨rfl, spotsOf pre, (x0, x1, x2, x3, x4, x5), t1, t2, t3, t4, t5, _, _, HM.out, I1.out, HSf.out, HPut.out, q2, q3, ?_, ?_⟩, ?_⟩
          · exact Kd.V_mono (V_base (Kd.V_step HV0.out (fun k_ hk _ => hne k_ hk))) (fun k_ hk => hk.elim .inl (fun hk => .inr (Nat.le_trans (Nat.le_trans IB.out.size hsz) hk)))
          · exact Kd.V_mono (V_base (Kd.V_step HV1.out (fun k_ hk _ => hne k_ hk))) (fun k_ hk => hk.elim .inl (fun hk => .inr (Nat.le_trans (Nat.le_trans IB.out.size hsz) hk)))
          · exact ((IB.out.trans (HB8.out.mono IB.out.size)).trans (HB9.out.mono (Nat.le_trans IB.out.size hsz))).trans qb
      case done =>
        rintro D ys W hD hys ⟨⟨i1, i0, i2, i3, i6, i7⟩, iB⟩ hK
        have hF := HF.out
        have hr : spotRoom (shelf_upto k l0_0 l0_1 a0_2 a0_3 l0_0.length) = none := by
          have h2 := spotRoom_full [] i1
          rw [List.append_nil, show spotsOf ys = _ from hys] at h2
          exact h2
        rw [hr] at hF
        have hh : l0_0 = r1 ∧ l0_1 = r2 ∧ a0_2 = r3 ∧ a0_3 = r4 ∧ 5 = r5 := by simpa using hF
        obtain ⟨rfl, rfl, rfl, rfl, rfl⟩ := hh
        clear hF hr hys
        have I0 := Aside0.mk i0
        have I2 := Aside0.mk i2
        have I3 := Aside0.mk i3
        have IB := Aside0.mk iB
        have HK := Aside0.mk hK
        clear i0 i1 i2 i3 i6 i7 iB hK
        have z0 : W.cell? ⟨g0, 0, none⟩ = some (.slice A0_0 l0_0.length c0_0) := (blk_cell I0.out 0).trans rfl
        have z1 : W.cell? ⟨g0, 1, none⟩ = some (.slice A0_1 l0_1.length c0_1) := (blk_cell I0.out 1).trans rfl
        have z2 : W.cell? ⟨g0, 2, none⟩ = some (.int .i64 a0_2) := (blk_cell I0.out 2).trans rfl
        have z3 : W.cell? ⟨g0, 3, none⟩ = some (.bool a0_3) := (blk_cell I0.out 3).trans rfl
        have y0 : W.cell? ⟨g2, 0, none⟩ = some (.slice none 0 0) := (blk_cell I2.out 0).trans rfl
        have y1 : W.cell? ⟨g2, 1, none⟩ = some (.slice none 0 0) := (blk_cell I2.out 1).trans rfl
        have y2 : W.cell? ⟨g2, 2, none⟩ = some (.int .i64 0) := (blk_cell I2.out 2).trans rfl
        have y3 : W.cell? ⟨g2, 3, none⟩ = some (.bool false) := (blk_cell I2.out 3).trans rfl
        have y4 : W.cell? ⟨g3, 0, none⟩ = some (.int .i64 0) := (blk_cell I3.out 0).trans rfl
        have n23 : g2 ≠ g3 := by have := HZ.out; omega
        have n32 : g3 ≠ g2 := by have := HZ.out; omega
        have f0 := blk_frozen I2.out 0
        have f1 := blk_frozen I2.out 1
        have f2 := blk_frozen I2.out 2
        have f3 := blk_frozen I2.out 3
        have f4 := blk_frozen I3.out 0
        gi_wp2
        obtain ⟨q2, q3, qb, qk, qo⟩ := boxes_put (n₀ := w.heap.size) (.slice A0_0 l0_0.length c0_0) (.slice A0_1 l0_1.length c0_1) (.int .i64 a0_2) (.bool a0_3) (.int .i64 5) I2.out I3.out n23 HZ.out.1 HZ.out.2.1
        have HK9 := Aside0.mk (qk.same D _ HK.out rfl)
        generalize (((((W).setCell ⟨g2, 0, none⟩ (.slice A0_0 l0_0.length c0_0)).setCell ⟨g2, 1, none⟩ (.slice A0_1 l0_1.length c0_1)).setCell ⟨g2, 2, none⟩ (.int .i64 a0_2)).setCell ⟨g2, 3, none⟩ (.bool a0_3)).setCell ⟨g3, 0, none⟩ (.int .i64 5) = W9 at q2 q3 qb qk qo HK9 ⊢
        refine ⟨by simp, .inl ⟨_, _, rfl, run_takeDeferred HK9.out, ?_⟩⟩
        have hB9 : Below w.heap.size w (W9.putObj D (.deferred none)) := (IB.out.trans qb).trans (belowK_b (w := w) (Nat.le_refl _) W9 D _ _ (Nat.le_trans HZ.out.2.2.1 hD) HK9.out rfl rfl)
        have b0 := blk_cell ((World.putObj_heap_other (w := W9) (r := D) (o := .deferred none) (show g2 ≠ D by have := HZ.out; omega)).trans q2) 0
        have b1 := blk_cell ((World.putObj_heap_other (w := W9) (r := D) (o := .deferred none) (show g2 ≠ D by have := HZ.out; omega)).trans q2) 1
        have b2 := blk_cell ((World.putObj_heap_other (w := W9) (r := D) (o := .deferred none) (show g2 ≠ D by have := HZ.out; omega)).trans q2) 2
        have b3 := blk_cell ((World.putObj_heap_other (w := W9) (r := D) (o := .deferred none) (show g2 ≠ D by have := HZ.out; omega)).trans q2) 3
        have b4 := blk_cell ((World.putObj_heap_other (w := W9) (r := D) (o := .deferred none) (show g3 ≠ D by have := HZ.out; omega)).trans q3) 0
        refine ⟨.tuple #[.agg #[.slice A0_0 l0_0.length c0_0, .slice A0_1 l0_1.length c0_1, .int .i64 a0_2, .bool a0_3], .int .i64 5], ?_, _, _, rfl, Kd.V_mono (V_base (Kd.V_below HS0.out hB9)) (fun k_ hk => .inl (.inl hk)), Kd.V_mono (V_base (Kd.V_below HS1.out hB9)) (fun k_ hk => .inl (.inr hk)), hB9⟩
        simp [results, Try.f22, go_sem, b0, b1, b2, b3, b4]
      case stop =>
        rintro D c pre W hD ⟨m, hm, hpre⟩ ⟨⟨rfl, ini, p, t1, t2, t3, t4, t5, v0, v1, ha, hb, hc, hd, q2, q3, hv0, hv1⟩, iB⟩ hK
        obtain ⟨rest, hr⟩ := shelf_upto_le k l0_0 l0_1 a0_2 a0_3 m (l0_0.length - m)
        rw [show m + (l0_0.length - m) = l0_0.length by omega, ← hpre, show List.map (fun x => x.1) pre = _ from ha, List.append_assoc] at hr
        have hF := HF.out
        rw [hr, spotRoom_full _ hb, List.singleton_append, spotRoom_hit _ hc] at hF
        have hF2 := hd.symm.trans hF
        simp only [Option.some.injEq, Prod.mk.injEq] at hF2
        obtain ⟨rfl, rfl, rfl, rfl, rfl⟩ := hF2
        obtain ⟨B0, d0, rfl⟩ := Kd.V_slice hv0
        obtain ⟨B1, d1, rfl⟩ := Kd.V_slice hv1
        have HV0 := Aside0.mk hv0
        have HV1 := Aside0.mk hv1
        have I2 := Aside0.mk q2
        have I3 := Aside0.mk q3
        have IB := Aside0.mk iB
        have HK := Aside0.mk hK
        clear hv0 hv1 q2 q3 iB hK hF hr ha hb hc hd hpre
        gi_wp2
        refine ⟨by simp, .inl ⟨_, _, rfl, run_takeDeferred HK.out, ?_⟩⟩
        have b0 := blk_cell ((World.putObj_heap_other (w := W) (r := D) (o := .deferred none) (show g2 ≠ D by have := HZ.out; omega)).trans I2.out) 0
        have b1 := blk_cell ((World.putObj_heap_other (w := W) (r := D) (o := .deferred none) (show g2 ≠ D by have := HZ.out; omega)).trans I2.out) 1
        have b2 := blk_cell ((World.putObj_heap_other (w := W) (r := D) (o := .deferred none) (show g2 ≠ D by have := HZ.out; omega)).trans I2.out) 2
        have b3 := blk_cell ((World.putObj_heap_other (w := W) (r := D) (o := .deferred none) (show g2 ≠ D by have := HZ.out; omega)).trans I2.out) 3
        have b4 := blk_cell ((World.putObj_heap_other (w := W) (r := D) (o := .deferred none) (show g3 ≠ D by have := HZ.out; omega)).trans I3.out) 0
        have hg : W.grownBy (W.putObj D (.deferred none)) (some D) := grownBy_putObj' _ D (.deferred none)
        refine ⟨.tuple #[.agg #[.slice B0 t1.length d0, .slice B1 t2.length d1, .int .i64 t3, .bool t4], .int .i64 t5], ?_, _, _, rfl, Kd.V_mono (V_base (V_flat_own flat_string HV0.out hg (fun r e => by cases e; exact ⟨_, HK.out, rfl⟩))) (fun k_ hk => hk.elim (fun hk => hk.elim (fun hk => .inl (.inl hk.1)) (fun hk => .inl (.inr hk.1))) .inr), Kd.V_mono (V_base (V_flat_own flat_write HV1.out hg (fun r e => by cases e; exact ⟨_, HK.out, rfl⟩))) (fun k_ hk => hk.elim (fun hk => hk.elim (fun hk => .inl (.inl hk.1)) (fun hk => .inl (.inr hk.1))) .inr), IB.out.trans (belowK_b (w := w) (Nat.le_refl _) W D _ _ (Nat.le_trans HZ.out.2.2.1 hD) HK.out rfl rfl)⟩
        simp [results, Try.f22, go_sem, b0, b1, b2, b3, b4]
  · rw [if_neg ce] at h
    obtain ⟨rfl, rfl, rfl, rfl, rfl⟩ : l0_0 = r1 ∧ l0_1 = r2 ∧ a0_2 = r3 ∧ a0_3 = r4 ∧ e = r5 := by simpa using h
    clear h
    have d0 : (e != 0) = true := bne_iff_ne.mpr ce
    have d1 : (e == 0) = false := beq_eq_false_iff_ne.mpr ce
    clear ce
    refine (callsIn_wide (n := 4)).1 ?_
    refine callsIn_of_wp_marks Try.func22 rfl trivial ?_ rfl
    simp only [Try.ntmps22, List.size_toArray, List.length_cons, List.length_nil, Nat.reduceAdd, Nat.reduceSub, Array.replicate_succ, Array.replicate_zero, List.push_toArray, List.append_toArray, List.nil_append, List.cons_append]
    gi_wp2_with fail
    have hs1 := blk_new w (.cells #[.slice A0_0 l0_0.length c0_0, .slice A0_1 l0_1.length c0_1, .int .i64 a0_2, .bool a0_3] 25)
    have hB1 := (Below.refl w.heap.size w).alloc (Nat.le_refl _) (.cells #[.slice A0_0 l0_0.length c0_0, .slice A0_1 l0_1.length c0_1, .int .i64 a0_2, .bool a0_3] 25)
    generalize hW1 : w.alloc (.cells #[.slice A0_0 l0_0.length c0_0, .slice A0_1 l0_1.length c0_1, .int .i64 a0_2, .bool a0_3] 25) = W1 at *
    have hz1 : W1.heap.size = w.heap.size + 1 := by rw [← hW1]; simp
    rw [← hz1]
    have hs2 := blk_new W1 (.cells #[.int .i64 a1_0, .int .i64 a1_1, .string a1_2] 43)
    have hk1 := blk_alloc hs1 (.cells #[.int .i64 a1_0, .int .i64 a1_1, .string a1_2] 43)
    have hB2 := hB1.alloc hB1.size (.cells #[.int .i64 a1_0, .int .i64 a1_1, .string a1_2] 43)
    generalize hW2 : W1.alloc (.cells #[.int .i64 a1_0, .int .i64 a1_1, .string a1_2] 43) = W2 at *
    have hz2 : W2.heap.size = W1.heap.size + 1 := by rw [← hW2]; simp
    rw [← hz2]
    have hs3 := blk_new W2 (.cells #[.slice none 0 0, .slice none 0 0, .int .i64 0, .bool false] 25)
    have hk1 := blk_alloc hk1 (.cells #[.slice none 0 0, .slice none 0 0, .int .i64 0, .bool false] 25)
    have hk2 := blk_alloc hs2 (.cells #[.slice none 0 0, .slice none 0 0, .int .i64 0, .bool false] 25)
    have hB3 := hB2.alloc hB2.size (.cells #[.slice none 0 0, .slice none 0 0, .int .i64 0, .bool false] 25)
    generalize hW3 : W2.alloc (.cells #[.slice none 0 0, .slice none 0 0, .int .i64 0, .bool false] 25) = W3 at *
    have hz3 : W3.heap.size = W2.heap.size + 1 := by rw [← hW3]; simp
    rw [← hz3]
    have hs4 := blk_new W3 (.cells #[.int .i64 0] 35)
    have hk1 := blk_alloc hk1 (.cells #[.int .i64 0] 35)
    have hk2 := blk_alloc hk2 (.cells #[.int .i64 0] 35)
    have hk3 := blk_alloc hs3 (.cells #[.int .i64 0] 35)
    have hB4 := hB3.alloc hB3.size (.cells #[.int .i64 0] 35)
    generalize hW4 : W3.alloc (.cells #[.int .i64 0] 35) = W4 at *
    have hz4 : W4.heap.size = W3.heap.size + 1 := by rw [← hW4]; simp
    clear hW1 hW2 hW3 hW4
    have HZ := Aside0.mk (show w.heap.size = w.heap.size ∧ w.heap.size < W1.heap.size ∧ W1.heap.size < W2.heap.size ∧ W2.heap.size < W3.heap.size ∧ W3.heap.size < W4.heap.size by omega)
    have K0 := Aside0.mk hk1
    have K1 := Aside0.mk hk2
    have K2 := Aside0.mk hk3
    have K3 := Aside0.mk hs4
    have HB4 := Aside0.mk hB4
    clear hk1 hk2 hk3 hs1 hs2 hs3 hs4 hB1 hB2 hB3 hB4 hz1 hz2 hz3 hz4
    generalize hg0 : w.heap.size = g0 at HZ K0 ⊢
    generalize W1.heap.size = g1 at *
    generalize W2.heap.size = g2 at *
    generalize W3.heap.size = g3 at *
    have HG0 := Aside0.mk hg0
    clear hg0
    gi_wp2_with (first | (refine ⟨trivial, ?_⟩; gi_at_call 23; refine (callsIn_wide.2 (shelf_Record.calls _ _ _ _ _ _ HR.out)).mono ?_; rintro e w5 ⟨rfl, hb⟩; have HB5 := Aside0.mk hb; clear hb; have J0 := Aside0.mk (blk_alloc ((HB5.out.block g0 (blk_lt K0.out)).trans K0.out) (.cells #[.string s] 9)); have J1 := Aside0.mk (blk_alloc ((HB5.out.block g1 (blk_lt K1.out)).trans K1.out) (.cells #[.string s] 9)); have J2 := Aside0.mk (blk_alloc ((HB5.out.block g2 (blk_lt K2.out)).trans K2.out) (.cells #[.string s] 9)); have J3 := Aside0.mk (blk_alloc ((HB5.out.block g3 (blk_lt K3.out)).trans K3.out) (.cells #[.string s] 9)); have JS := Aside0.mk (blk_new w5 (.cells #[.string s] 9)); have HB6 := Aside0.mk ((HB4.out.trans (HB5.out.mono HB4.out.size)).alloc (HB4.out.trans (HB5.out.mono HB4.out.size)).size (.cells #[.string s] 9)); have z0 : (w5.alloc (.cells #[.string s] 9)).cell? ⟨g0, 0, none⟩ = some (.slice A0_0 l0_0.length c0_0) := (blk_cell J0.out 0).trans rfl; have z1 : (w5.alloc (.cells #[.string s] 9)).cell? ⟨g0, 1, none⟩ = some (.slice A0_1 l0_1.length c0_1) := (blk_cell J0.out 1).trans rfl; have z2 : (w5.alloc (.cells #[.string s] 9)).cell? ⟨g0, 2, none⟩ = some (.int .i64 a0_2) := (blk_cell J0.out 2).trans rfl; have z3 : (w5.alloc (.cells #[.string s] 9)).cell? ⟨g0, 3, none⟩ = some (.bool a0_3) := (blk_cell J0.out 3).trans rfl; have x0 : (w5.alloc (.cells #[.string s] 9)).cell? ⟨g1, 0, none⟩ = some (.int .i64 a1_0) := (blk_cell J1.out 0).trans rfl; have x1 : (w5.alloc (.cells #[.string s] 9)).cell? ⟨g1, 1, none⟩ = some (.int .i64 a1_1) := (blk_cell J1.out 1).trans rfl; have x2 : (w5.alloc (.cells #[.string s] 9)).cell? ⟨g1, 2, none⟩ = some (.string a1_2) := (blk_cell J1.out 2).trans rfl; have y0 : (w5.alloc (.cells #[.string s] 9)).cell? ⟨g2, 0, none⟩ = some (.slice none 0 0) := (blk_cell J2.out 0).trans rfl; have y1 : (w5.alloc (.cells #[.string s] 9)).cell? ⟨g2, 1, none⟩ = some (.slice none 0 0) := (blk_cell J2.out 1).trans rfl; have y2 : (w5.alloc (.cells #[.string s] 9)).cell? ⟨g2, 2, none⟩ = some (.int .i64 0) := (blk_cell J2.out 2).trans rfl; have y3 : (w5.alloc (.cells #[.string s] 9)).cell? ⟨g2, 3, none⟩ = some (.bool false) := (blk_cell J2.out 3).trans rfl; have y4 : (w5.alloc (.cells #[.string s] 9)).cell? ⟨g3, 0, none⟩ = some (.int .i64 0) := (blk_cell J3.out 0).trans rfl; have n23 : g2 ≠ g3 := (by have := HZ.out; omega); have n32 : g3 ≠ g2 := (by have := HZ.out; omega); have f0 := blk_frozen J2.out 0; have f1 := blk_frozen J2.out 1; have f2 := blk_frozen J2.out 2; have f3 := blk_frozen J2.out 3; have f4 := blk_frozen J3.out 0))
    obtain ⟨q2, q3, qb, qk, qo⟩ := boxes_put (n₀ := w.heap.size) (.slice A0_0 l0_0.length c0_0) (.slice A0_1 l0_1.length c0_1) (.int .i64 a0_2) (.bool a0_3) (.int .i64 e) J2.out J3.out n23 (by have := HZ.out; have := HG0.out; omega) (by have := HZ.out; have := HG0.out; omega)
    generalize (((((w5.alloc (.cells #[.string s] 9)).setCell ⟨g2, 0, none⟩ (.slice A0_0 l0_0.length c0_0)).setCell ⟨g2, 1, none⟩ (.slice A0_1 l0_1.length c0_1)).setCell ⟨g2, 2, none⟩ (.int .i64 a0_2)).setCell ⟨g2, 3, none⟩ (.bool a0_3)).setCell ⟨g3, 0, none⟩ (.int .i64 e) = W9 at q2 q3 qb qk qo ⊢
    have b0 := blk_cell q2 0
    have b1 := blk_cell q2 1
    have b2 := blk_cell q2 2
    have b3 := blk_cell q2 3
    have b4 := blk_cell q3 0
    have hB9 : Below w.heap.size w W9 := HB6.out.trans qb
    refine ⟨.tuple #[.agg #[.slice A0_0 l0_0.length c0_0, .slice A0_1 l0_1.length c0_1, .int .i64 a0_2, .bool a0_3], .int .i64 e], ?_, _, _, rfl, Kd.V_mono (V_base (Kd.V_below HS0.out hB9)) (fun k_ hk => .inl (.inl hk)), Kd.V_mono (V_base (Kd.V_below HS1.out hB9)) (fun k_ hk => .inl (.inr hk)), hB9⟩
    simp [results, Try.f22, go_sem, b0, b1, b2, b3, b4]
end

end Go.Proofs.Ytffjbbedjddpmaa.PAll
