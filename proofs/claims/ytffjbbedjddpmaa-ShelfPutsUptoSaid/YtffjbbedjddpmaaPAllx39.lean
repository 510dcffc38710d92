/- Functions of the program as plain Lean functions, and that each call comes to what they say. Laid by a program of this session (hprint.py); Lean checks it. -/
import Derived.Test.YtffjbbedjddpmaaPAllx0
import Derived.Test.YtffjbbedjddpmaaPAllx1
import Derived.Test.YtffjbbedjddpmaaPAllx11
import Derived.Test.YtffjbbedjddpmaaPAllx13
import Derived.Test.YtffjbbedjddpmaaPAllx16
import Derived.Test.YtffjbbedjddpmaaDiskProg
import Derived.Test.YtffjbbedjddpmaaShelfOwn
namespace Go.Proofs.Ytffjbbedjddpmaa.PAll
open Go.RowKit Go.Proofs.YtffjbbedjddpmaaW.PrintWords Go.Proofs.YtffjbbedjddpmaaW.PrintLast Go.Proofs.YtffjbbedjddpmaaW.PrintMore
attribute [local go_sem] max2_int min2_int max_two min_two max_three min_three max_four min_four   -- for this text's walks alone
set_option linter.unusedVariables false
set_option linter.unusedSimpArgs false
attribute [local irreducible] World.setCell

/-! ### shelf_Drop: function 32 -/
-- IMPORT Derived.Test.YtffjbbedjddpmaaShelfOwn
-- IMPORT Derived.Test.YtffjbbedjddpmaaDiskProg
def shelf_drops (v x : Int) : List (Int × Bool × Bool × Int × Int × ByteArray) → List ByteArray → List S94 → Int → Bool → Option (List ByteArray × (List S94) × Int × Bool × Int)
  | [], l0, l1, a2, a3 => some (l0, l1, a2, a3, 0)
  | p :: l, l0, l1, a2, a3 => if spotFull p = true ∧ p.2.2.2.1 = v ∧ p.2.2.2.2.1 = x then (disk_Put.f l0 l1 a2 a3 p.1 ⟨#[]⟩).bind fun r => if r.2.2.2.2 = 0 then shelf_drops v x l r.1 r.2.1 r.2.2.1 r.2.2.2.1 else some r else shelf_drops v x l l0 l1 a2 a3
def shelf_Drop.f (k : Nat) (l0_0 : List ByteArray) (l0_1 : List S94) (a0_2 : Int) (a0_3 : Bool) (a1_0 a1_1 : Int) : Option (List ByteArray × (List S94) × Int × Bool × Int) :=
  if l0_0.length + l0_1.length < 5864062014805 then (shelf_Find.f k l0_0 l0_1 a0_2 a0_3 a1_0 a1_1).bind fun b => if b.2 = 0 then (shelf_go k l0_0 l0_1 a0_2 a0_3 l0_0.length 0).bind fun l => shelf_drops a1_0 a1_1 l l0_0 l0_1 a0_2 a0_3 else some (l0_0, l0_1, a0_2, a0_3, b.2) else none
theorem shelf_Drop.mono : ∀ l0_0 l0_1 a0_2 a0_3 a1_0 a1_1 k, LeO (shelf_Drop.f k l0_0 l0_1 a0_2 a0_3 a1_0 a1_1) (shelf_Drop.f (k + 1) l0_0 l0_1 a0_2 a0_3 a1_0 a1_1) := by
  intro l0 l1 a2 a3 a4 a5 k
  unfold shelf_Drop.f
  refine LeO.ite (LeO.bind (shelf_Find.mono _ _ _ _ _ _ _) (fun b => ?_)) (LeO.refl _)
  split
  · exact LeO.bind (shelf_go_mono k l0 l1 a2 a3 _ _) (fun _ => LeO.refl _)
  · exact LeO.refl _
theorem drops_miss {v x : Int} {p : Spot} {l : List Spot} {l0 : List ByteArray} {l1 : List S94} {a2 : Int} {a3 : Bool} (h : ¬ spotHit v x p) : shelf_drops v x (p :: l) l0 l1 a2 a3 = shelf_drops v x l l0 l1 a2 a3 := if_neg h
theorem drops_hit {v x : Int} {p : Spot} {l : List Spot} {l0 : List ByteArray} {l1 : List S94} {a2 : Int} {a3 : Bool} {r : List ByteArray × (List S94) × Int × Bool × Int} (h : spotHit v x p) (hr : disk_Put.f l0 l1 a2 a3 p.1 ⟨#[]⟩ = some r) : shelf_drops v x (p :: l) l0 l1 a2 a3 = if r.2.2.2.2 = 0 then shelf_drops v x l r.1 r.2.1 r.2.2.1 r.2.2.2.1 else some r := by
  have e : shelf_drops v x (p :: l) l0 l1 a2 a3 = (disk_Put.f l0 l1 a2 a3 p.1 ⟨#[]⟩).bind fun r => if r.2.2.2.2 = 0 then shelf_drops v x l r.1 r.2.1 r.2.2.1 r.2.2.2.1 else some r := if_pos h
  rw [e, hr]
  rfl
theorem put_grows {l0 : List ByteArray} {l1 : List S94} {a2 : Int} {a3 : Bool} (slot : Int) (s : ByteArray) (h : l1.length < 5864062014805) : ∃ t1 t2 t3 t4 t5, disk_Put.f l0 l1 a2 a3 slot s = some (t1, t2, t3, t4, t5) ∧ t2.length ≤ l1.length + 1 := by
  obtain ⟨⟨t1, t2, t3, t4, t5⟩, e⟩ : ∃ r, DP.putD l0 l1 a2 a3 slot s = r := ⟨_, rfl⟩
  refine ⟨t1, t2, t3, t4, t5, by rw [DP.put_is l0 l1 a2 a3 slot s h, e], ?_⟩
  have hp := (DP.put_any l0 l1 a2 a3 slot s).2
  rw [e] at hp
  rcases hp with hp | hp
  · rw [show t2 = l1 from hp]
    omega
  · rw [show t2 = l1 ++ [⟨slot, s⟩] from hp, List.length_append]
    simp
section
attribute [local go_sem] Oper.semAt_some
attribute [local go_sem high] eqA27
set_option maxRecDepth 100000 in
set_option maxHeartbeats 4000000 in
theorem shelf_Drop.calls (k : Nat) (P0_0_ : Nat → Prop) (A0_0 : Option Addr) (c0_0 : Nat) (l0_0 : List ByteArray) (P0_1_ : Nat → Prop) (A0_1 : Option Addr) (c0_1 : Nat) (l0_1 : List (S94)) (a0_2 : Int) (a0_3 : Bool) (a1_0 a1_1 : Int) (r1 : List ByteArray) (r2 : List (S94)) (r3 : Int) (r4 : Bool) (r5 : Int) (w : World) (hs0_0 : Kd.V Kd.string 9 w w.heap.size (fun k_ => P0_0_ k_) (.slice A0_0 l0_0.length c0_0) l0_0) (hs0_1 : Kd.V k94 94 w w.heap.size (fun k_ => P0_1_ k_) (.slice A0_1 l0_1.length c0_1) l0_1) (h : shelf_Drop.f k l0_0 l0_1 a0_2 a0_3 a1_0 a1_1 = some (r1, r2, r3, r4, r5)) :
    Calls Try.prog 32 #[.agg #[.slice A0_0 l0_0.length c0_0, .slice A0_1 l0_1.length c0_1, .int .i64 a0_2, .bool a0_3], .agg #[.int .i64 a1_0, .int .i64 a1_1]] w fun e w' => ∃ v0_ v1_ : Value, e = .returned (.tuple #[.agg #[v0_, v1_, .int .i64 r3, .bool r4], .int .i64 r5]) ∧ Kd.V Kd.string 9 w' w.heap.size (fun k_ => ((P0_0_ k_ ∨ P0_1_ k_) ∨ w.heap.size ≤ k_)) v0_ r1 ∧ Kd.V k94 94 w' w.heap.size (fun k_ => ((P0_0_ k_ ∨ P0_1_ k_) ∨ w.heap.size ≤ k_)) v1_ r2 ∧ Below w.heap.size w w' := by
  have hu25 := Try.underlying25
  have hu75 := Try.underlying75
  have hu27 := Try.underlying27
  unfold shelf_Drop.f at h
  have hgd : l0_0.length + l0_1.length < 5864062014805 := Decidable.byContradiction fun hg => by
    rw [if_neg hg] at h
    cases h
  rw [if_pos hgd] at h
  have HGd := Aside0.mk hgd
  clear hgd
  obtain ⟨⟨b, e2⟩, hFi, h⟩ := Option.bind_eq_some_iff.mp h
  have HFi := Aside0.mk hFi
  have HS0 := Aside0.mk hs0_0
  have HS1 := Aside0.mk hs0_1
  clear hFi hs0_0 hs0_1
  by_cases c2 : e2 = 0
  · subst c2
    rw [if_pos rfl] at h
    obtain ⟨q, hq, h⟩ := Option.bind_eq_some_iff.mp h
    obtain ⟨hw, rfl⟩ := shelf_all_well hq
    have HW := Aside0.mk hw
    have HF := Aside0.mk h
    clear h hq hw
    refine (callsIn_wide (n := 4)).1 ?_
    refine callsIn_of_wp_marks Try.func32 rfl trivial ?_ rfl
    simp only [Try.ntmps32, List.size_toArray, List.length_cons, List.length_nil, Nat.reduceAdd, Nat.reduceSub, Array.replicate_succ, Array.replicate_zero, List.push_toArray, List.append_toArray, List.nil_append, List.cons_append]
    gi_wp2_with fail
    have hs1 := blk_new w (.cells #[.slice A0_0 l0_0.length c0_0, .slice A0_1 l0_1.length c0_1, .int .i64 a0_2, .bool a0_3] 25)
    have hB1 := (Below.refl w.heap.size w).alloc (Nat.le_refl _) (.cells #[.slice A0_0 l0_0.length c0_0, .slice A0_1 l0_1.length c0_1, .int .i64 a0_2, .bool a0_3] 25)
    generalize hW1 : w.alloc (.cells #[.slice A0_0 l0_0.length c0_0, .slice A0_1 l0_1.length c0_1, .int .i64 a0_2, .bool a0_3] 25) = W1 at *
    have hz1 : W1.heap.size = w.heap.size + 1 := by rw [← hW1]; simp
    rw [← hz1]
    have hs2 := blk_new W1 (.cells #[.int .i64 a1_0, .int .i64 a1_1] 27)
    have hk1 := blk_alloc hs1 (.cells #[.int .i64 a1_0, .int .i64 a1_1] 27)
    have hB2 := hB1.alloc hB1.size (.cells #[.int .i64 a1_0, .int .i64 a1_1] 27)
    generalize hW2 : W1.alloc (.cells #[.int .i64 a1_0, .int .i64 a1_1] 27) = W2 at *
    have hz2 : W2.heap.size = W1.heap.size + 1 := by rw [← hW2]; simp
    rw [← hz2]
    have hs3 := blk_new W2 (.cells #[.slice none 0 0, .slice none 0 0, .int .i64 0, .bool false] 25)
    have hk1 := blk_alloc hk1 (.cells #[.slice none 0 0, .slice none 0 0, .int .i64 0, .bool false] 25)
    have hk2 := blk_alloc hs2 (.cells #[.slice none 0 0, .slice none 0 0, .int .i64 0, .bool false] 25)
    have hB3 := hB2.alloc hB2.size (.cells #[.slice none 0 0, .slice none 0 0, .int .i64 0, .bool false] 25)
    generalize hW3 : W2.alloc (.cells #[.slice none 0 0, .slice none 0 0, .int .i64 0, .bool false] 25) = W3 at *
    have hz3 : W3.heap.size = W2.heap.size + 1 := by rw [← hW3]; simp
    rw [← hz3]
    have hs4 := blk_new W3 (.cells #[.int .i64 0] 35)
    have hk1 := blk_alloc hk1 (.cells #[.int .i64 0] 35)
    have hk2 := blk_alloc hk2 (.cells #[.int .i64 0] 35)
    have hk3 := blk_alloc hs3 (.cells #[.int .i64 0] 35)
    have hB4 := hB3.alloc hB3.size (.cells #[.int .i64 0] 35)
    generalize hW4 : W3.alloc (.cells #[.int .i64 0] 35) = W4 at *
    have hz4 : W4.heap.size = W3.heap.size + 1 := by rw [← hW4]; simp
    clear hW1 hW2 hW3 hW4
    have HZ := Aside0.mk (show w.heap.size = w.heap.size ∧ w.heap.size < W1.heap.size ∧ W1.heap.size < W2.heap.size ∧ W2.heap.size < W3.heap.size ∧ W3.heap.size < W4.heap.size by omega)
    have K0 := Aside0.mk hk1
    have K1 := Aside0.mk hk2
    have K2 := Aside0.mk hk3
    have K3 := Aside0.mk hs4
    have HB4 := Aside0.mk hB4
    clear hk1 hk2 hk3 hs1 hs2 hs3 hs4 hB1 hB2 hB3 hB4 hz1 hz2 hz3 hz4
    generalize hg0 : w.heap.size = g0 at HZ K0 ⊢
    generalize W1.heap.size = g1 at *
    generalize W2.heap.size = g2 at *
    generalize W3.heap.size = g3 at *
    have HG0 := Aside0.mk hg0
    clear hg0
    gi_wp2_with (first | (refine ⟨trivial, ?_⟩; gi_at_call 18; refine (callsIn_wide.2 (shelf_Find.calls k A0_0 _ l0_0 A0_1 _ l0_1 a0_2 a0_3 a1_0 a1_1 b 0 _ (Kd.C_below (Kd.V_reads' HS0.out).2.2 HB4.out) (Kd.V_reads' HS0.out).2.1 (Kd.C_below (Kd.V_reads' HS1.out).2.2 HB4.out) (Kd.V_reads' HS1.out).2.1 HFi.out)).mono ?_; rintro e w7 ⟨rfl, hb⟩; have HB7 := Aside0.mk (below_step HB4.out hb); have J07 := Aside0.mk ((hb.block g0 (blk_lt K0.out)).trans K0.out); have J17 := Aside0.mk ((hb.block g1 (blk_lt K1.out)).trans K1.out); have J27 := Aside0.mk ((hb.block g2 (blk_lt K2.out)).trans K2.out); have J37 := Aside0.mk ((hb.block g3 (blk_lt K3.out)).trans K3.out); have HL7 := Aside0.mk hb.size; clear hb; have z0 : (w7).cell? ⟨g0, 0, none⟩ = some (.slice A0_0 l0_0.length c0_0) := (blk_cell J07.out 0).trans rfl; have z1 : (w7).cell? ⟨g0, 1, none⟩ = some (.slice A0_1 l0_1.length c0_1) := (blk_cell J07.out 1).trans rfl; have z2 : (w7).cell? ⟨g0, 2, none⟩ = some (.int .i64 a0_2) := (blk_cell J07.out 2).trans rfl; have z3 : (w7).cell? ⟨g0, 3, none⟩ = some (.bool a0_3) := (blk_cell J07.out 3).trans rfl; have x0 : (w7).cell? ⟨g1, 0, none⟩ = some (.int .i64 a1_0) := (blk_cell J17.out 0).trans rfl; have x1 : (w7).cell? ⟨g1, 1, none⟩ = some (.int .i64 a1_1) := (blk_cell J17.out 1).trans rfl; have y0 : (w7).cell? ⟨g2, 0, none⟩ = some (.slice none 0 0) := (blk_cell J27.out 0).trans rfl; have y1 : (w7).cell? ⟨g2, 1, none⟩ = some (.slice none 0 0) := (blk_cell J27.out 1).trans rfl; have y2 : (w7).cell? ⟨g2, 2, none⟩ = some (.int .i64 0) := (blk_cell J27.out 2).trans rfl; have y3 : (w7).cell? ⟨g2, 3, none⟩ = some (.bool false) := (blk_cell J27.out 3).trans rfl; have y4 : (w7).cell? ⟨g3, 0, none⟩ = some (.int .i64 0) := (blk_cell J37.out 0).trans rfl; have n23 : g2 ≠ g3 := (by have := HZ.out; omega); have n32 : g3 ≠ g2 := (by have := HZ.out; omega); have f0 := blk_frozen J27.out 0; have f1 := blk_frozen J27.out 1; have f2 := blk_frozen J27.out 2; have f3 := blk_frozen J27.out 3; have f4 := blk_frozen J37.out 0) | (refine ⟨trivial, ?_⟩; gi_at_call 36; refine (callsIn_wide.2 (shelf_all.calls _ _ _ _ _ _ _ _ _)).mono ?_; rintro e w' ⟨rfl, rfl⟩))
    have hs7 := blk_new w7 (.cells #[.slice A0_0 l0_0.length c0_0, .slice A0_1 l0_1.length c0_1, .int .i64 a0_2, .bool a0_3] 25)
    have hB8 := HB7.out.alloc HB7.out.size (.cells #[.slice A0_0 l0_0.length c0_0, .slice A0_1 l0_1.length c0_1, .int .i64 a0_2, .bool a0_3] 25)
    have hj0 := blk_alloc J07.out (.cells #[.slice A0_0 l0_0.length c0_0, .slice A0_1 l0_1.length c0_1, .int .i64 a0_2, .bool a0_3] 25)
    have hj1 := blk_alloc J17.out (.cells #[.slice A0_0 l0_0.length c0_0, .slice A0_1 l0_1.length c0_1, .int .i64 a0_2, .bool a0_3] 25)
    have hj2 := blk_alloc J27.out (.cells #[.slice A0_0 l0_0.length c0_0, .slice A0_1 l0_1.length c0_1, .int .i64 a0_2, .bool a0_3] 25)
    have hj3 := blk_alloc J37.out (.cells #[.slice A0_0 l0_0.length c0_0, .slice A0_1 l0_1.length c0_1, .int .i64 a0_2, .bool a0_3] 25)
    generalize hWL : w7.alloc (.cells #[.slice A0_0 l0_0.length c0_0, .slice A0_1 l0_1.length c0_1, .int .i64 a0_2, .bool a0_3] 25) = WL at *
    have hzL : WL.heap.size = w7.heap.size + 1 := by rw [← hWL]; simp
    have HZ := Aside0.mk (show w.heap.size ≤ g0 ∧ w.heap.size ≤ g2 ∧ w.heap.size ≤ g3 ∧ w.heap.size ≤ WL.heap.size ∧ w7.heap.size < WL.heap.size ∧ g0 < g1 ∧ g1 < g2 ∧ g2 < g3 ∧ g3 < w7.heap.size ∧ w.heap.size ≤ w7.heap.size by
      have h1 := HZ.out; have h2 := HG0.out; have h3 := HL7.out; have h4 := HB7.out.size; omega)
    generalize w7.heap.size = g7 at *
    have HB8L := Aside0.mk hB8
    clear hWL hzL hB8 HL7 z0 z1 z2 z3 x0 x1 y0 y1 y2 y3 y4 n23 n32 f0 f1 f2 f3 f4
    have h1 : 1 ≤ 4 := by omega
    refine wpIn_rangeFunc_ownH rfl h1 (gf := 55) (lb := #[.pointer (some ⟨g7, 0, none⟩)]) rfl trivial (enters_of Try.func55 (by kernel_rfl) rfl)
      (shelf_stops k l0_0 l0_1 a0_2 a0_3 HW.out 3 (by omega) w.heap.size g7 c0_0 c0_1 A0_0 A0_1 WL HZ.out.2.2.2.1 hs7 (fun W' h => Kd.C_below (Kd.V_reads' HS0.out).2.2 (HB8L.out.trans h)) (Kd.V_reads' HS0.out).2.1 (fun W' h => Kd.C_below (Kd.V_reads' HS1.out).2.2 (HB8L.out.trans h)) (Kd.V_reads' HS1.out).2.1 (Kd.V_reads' HS0.out).2.2.2.1)
      keepsToo_t (keepsToo_b HZ.out.2.2.2.1 HZ.out.2.2.2.2.1) (Below.refl _ _) (fun _ => rfl)
      (fun pre W => ((∃ m0 m1 b2 b3 v0 v1, W.heap[g0]? = some (.cells #[v0, v1, .int .i64 b2, .bool b3] 25 (0, 0)) ∧ Kd.V Kd.string 9 W w.heap.size (fun k_ => ((P0_0_ k_ ∧ k_ < w.heap.size) ∨ (P0_1_ k_ ∧ k_ < w.heap.size)) ∨ g7 < k_) v0 m0 ∧ Kd.V k94 94 W w.heap.size (fun k_ => ((P0_0_ k_ ∧ k_ < w.heap.size) ∨ (P0_1_ k_ ∧ k_ < w.heap.size)) ∨ g7 < k_) v1 m1 ∧ m1.length ≤ l0_1.length + pre.length ∧ (∀ rest, shelf_drops a1_0 a1_1 (pre ++ rest) l0_0 l0_1 a0_2 a0_3 = shelf_drops a1_0 a1_1 rest m0 m1 b2 b3)) ∧ W.heap[g1]? = some (.cells #[.int .i64 a1_0, .int .i64 a1_1] 27 (0, 0)) ∧ W.heap[g2]? = some (.cells #[.slice none 0 0, .slice none 0 0, .int .i64 0, .bool false] 25 (0, 0)) ∧ W.heap[g3]? = some (.cells #[.int .i64 0] 35 (0, 0)) ∧ W.heap[g7]? = some (.cells #[.slice A0_0 l0_0.length c0_0, .slice A0_1 l0_1.length c0_1, .int .i64 a0_2, .bool a0_3] 25 (0, 0))) ∧ Below w.heap.size w W)
      (fun c pre W => (c = .ret ∧ ∃ t1 t2 t3 t4 t5 v0 v1, (∀ rest, shelf_drops a1_0 a1_1 (pre ++ rest) l0_0 l0_1 a0_2 a0_3 = some (t1, t2, t3, t4, t5)) ∧ W.heap[g2]? = some (.cells #[v0, v1, .int .i64 t3, .bool t4] 25 (0, 0)) ∧ W.heap[g3]? = some (.cells #[.int .i64 t5] 35 (0, 0)) ∧ Kd.V Kd.string 9 W w.heap.size (fun k_ => ((P0_0_ k_ ∧ k_ < w.heap.size) ∨ (P0_1_ k_ ∧ k_ < w.heap.size)) ∨ g7 < k_) v0 t1 ∧ Kd.V k94 94 W w.heap.size (fun k_ => ((P0_0_ k_ ∧ k_ < w.heap.size) ∨ (P0_1_ k_ ∧ k_ < w.heap.size)) ∨ g7 < k_) v1 t2) ∧ Below w.heap.size w W)
      (OwnFrom.and (fun st A B row hs hg hr => ⟨by
        obtain ⟨m0, m1, b2, b3, v0, v1, e1, e2, e3, e4, e5⟩ := hs.1
        exact ⟨m0, m1, b2, b3, v0, v1, blk_kept e1 hg hr, V_flat_own flat_string e2 hg (fun r e => (hr r e).2), V_flat_own flat_write e3 hg (fun r e => (hr r e).2), e4, e5⟩, blk_kept hs.2.1 hg hr, blk_kept hs.2.2.1 hg hr, blk_kept hs.2.2.2.1 hg hr, blk_kept hs.2.2.2.2 hg hr⟩) (ownFrom_below (Nat.le_refl _) HZ.out.2.2.2.1))
      (fun c => OwnFrom.and (fun st A B row hs hg hr => ⟨hs.1, by
        obtain ⟨t1, t2, t3, t4, t5, v0, v1, a, e2, e3, e4, e5⟩ := hs.2
        exact ⟨t1, t2, t3, t4, t5, v0, v1, a, blk_kept e2 hg hr, blk_kept e3 hg hr, V_flat_own flat_string e4 hg (fun r e => (hr r e).2), V_flat_own flat_write e5 hg (fun r e => (hr r e).2)⟩⟩) (ownFrom_below (Nat.le_refl _) HZ.out.2.2.2.1))
      ⟨⟨⟨l0_0, l0_1, a0_2, a0_3, _, _, hj0, Kd.V_mono (V_base (Kd.V_below (Kd.V_bound HS0.out) HB8L.out)) (fun k_ hk => .inl (.inl hk)), Kd.V_mono (V_base (Kd.V_below (Kd.V_bound HS1.out) HB8L.out)) (fun k_ hk => .inl (.inr hk)), Nat.le_refl _, fun rest => rfl⟩, hj1, hj2, hj3, hs7⟩, HB8L.out⟩
      (fun x a' W => ∃ gx, g7 < gx ∧ W.heap[gx]? = some (.cells #[.int .i64 x.1, .bool x.2.1, .bool x.2.2.1, .int .i64 x.2.2.2.1, .int .i64 x.2.2.2.2.1, .string x.2.2.2.2.2] 75 (0, 0)) ∧ a' = { tmps := #[.agg #[.slice A0_0 l0_0.length c0_0, .slice A0_1 l0_1.length c0_1, .int .i64 a0_2, .bool a0_3], .agg #[.int .i64 a1_0, .int .i64 a1_1], .pointer (some ⟨g0, 0, none⟩), .pointer (some ⟨g1, 0, none⟩), .pointer (some ⟨g2, 0, none⟩), .pointer (some ⟨g3, 0, none⟩), .string b, .int .i64 0, .pointer (some ⟨gx, 0, none⟩), undef, undef, .tuple #[.string b, .int .i64 0], .agg #[.slice A0_0 l0_0.length c0_0, .slice A0_1 l0_1.length c0_1, .int .i64 a0_2, .bool a0_3], .agg #[.int .i64 a1_0, .int .i64 a1_1], .tuple #[.string b, .int .i64 0], .string b, .int .i64 0, .int .i64 0, .bool false, undef, undef, .agg #[.slice A0_0 l0_0.length c0_0, .slice A0_1 l0_1.length c0_1, .int .i64 a0_2, .bool a0_3], .func (.func 55) #[] #[.pointer (some ⟨g7, 0, none⟩)], spotVal x, undef, undef, undef, undef, undef, undef, undef, undef, undef, undef, undef, undef, undef, undef, undef, undef, undef, undef, undef, undef, undef, undef], defers := [] })
      (fun x a' s A B row hs hg hr => by obtain ⟨gx, h1, h2, h3⟩ := hs; exact ⟨gx, h1, blk_kept h2 hg hr, h3⟩) ?assign ?body ?done ?stop
    case assign =>
      rintro l pre x W K ⟨⟨⟨m0, m1, b2, b3, v0, v1, i0, iv0, iv1, iL, iD⟩, i1, i2, i3, i7⟩, iB⟩ hK
      have I0 := Aside0.mk i0
      have IV0 := Aside0.mk iv0
      have IV1 := Aside0.mk iv1
      have IL := Aside0.mk iL
      have ID := Aside0.mk iD
      have I1 := Aside0.mk i1
      have I2 := Aside0.mk i2
      have I3 := Aside0.mk i3
      have I7 := Aside0.mk i7
      have IB := Aside0.mk iB
      have HK := Aside0.mk hK
      clear i0 iv0 iv1 iL iD i1 i2 i3 i7 iB hK
      dsimp only [spotVal]
      gi_wp2
      refine HK.out _ _ ((KeepsOthers.alloc _ _).from _) (keepsToo.new _ IB.out.size (blk_lt I7.out)) ⟨⟨⟨m0, m1, b2, b3, v0, v1, blk_alloc I0.out _, Kd.V_alloc IV0.out _, Kd.V_alloc IV1.out _, IL.out, ID.out⟩, blk_alloc I1.out _, blk_alloc I2.out _, blk_alloc I3.out _, blk_alloc I7.out _⟩, IB.out.alloc IB.out.size _⟩ ⟨W.heap.size, blk_lt I7.out, blk_new _ _, rfl⟩
    case body =>
      rintro l pre x a' W hl ⟨r, hr⟩ ⟨⟨⟨m0, m1, b2, b3, v0, v1, i0, iv0, iv1, iL, iD⟩, i1, i2, i3, i7⟩, iB⟩ ⟨gx, h5x, iX, rfl⟩ hlen
      obtain ⟨B0, d0, rfl⟩ := Kd.V_slice iv0
      obtain ⟨B1, d1, rfl⟩ := Kd.V_slice iv1
      have I0 := Aside0.mk i0
      have HV0 := Aside0.mk iv0
      have HV1 := Aside0.mk iv1
      have HL := Aside0.mk iL
      have HD := Aside0.mk iD
      have HLen := Aside0.mk hlen
      have I1 := Aside0.mk i1
      have I2 := Aside0.mk i2
      have I3 := Aside0.mk i3
      have I7 := Aside0.mk i7
      have IB := Aside0.mk iB
      have IX := Aside0.mk iX
      have H5 := Aside0.mk h5x
      clear i0 iv0 iv1 iL iD i1 i2 i3 i7 iB iX h5x hr hl hlen
      obtain ⟨x0, x1, x2, x3, x4, x5⟩ := x
      dsimp only at IX ⊢
      have HFl : Aside0 (shelf_spot_full.f x0 x1 x2 x3 x4 x5 = some (spotFull (x0, x1, x2, x3, x4, x5))) := ⟨by unfold shelf_spot_full.f spotFull; cases x1 <;> rfl⟩
      have z0 : W.cell? ⟨gx, 0, none⟩ = some (.int .i64 x0) := (blk_cell IX.out 0).trans rfl
      have z1 : W.cell? ⟨gx, 1, none⟩ = some (.bool x1) := (blk_cell IX.out 1).trans rfl
      have z2 : W.cell? ⟨gx, 2, none⟩ = some (.bool x2) := (blk_cell IX.out 2).trans rfl
      have z3 : W.cell? ⟨gx, 3, none⟩ = some (.int .i64 x3) := (blk_cell IX.out 3).trans rfl
      have z4 : W.cell? ⟨gx, 4, none⟩ = some (.int .i64 x4) := (blk_cell IX.out 4).trans rfl
      have z5 : W.cell? ⟨gx, 5, none⟩ = some (.string x5) := (blk_cell IX.out 5).trans rfl
      have HH := Aside0.mk (show spotHit a1_0 a1_1 (x0, x1, x2, x3, x4, x5) ↔ spotFull (x0, x1, x2, x3, x4, x5) = true ∧ x3 = a1_0 ∧ x4 = a1_1 from Iff.rfl)
      cases hsf : spotFull (x0, x1, x2, x3, x4, x5) with
      | false =>
        rw [hsf] at HFl HH
        clear hsf
        have HMiss := Aside0.mk (show ¬ spotHit a1_0 a1_1 (x0, x1, x2, x3, x4, x5) from fun h => by cases (HH.out.mp h).1)
        gi_wp2_with (refine ⟨trivial, ?_⟩; gi_at_call 37; refine (callsIn_wide.2 (shelf_spot_full.calls x0 x1 x2 x3 x4 x5 false _ HFl.out)).mono ?_; rintro e w8 ⟨rfl, hb⟩; have HB8 := Aside0.mk hb; clear hb; skip)
        refine ⟨keepsFrom_below HB8.out, ⟨HB8.out.mono IB.out.size, HB8.out.block _ (blk_lt I7.out)⟩, ⟨⟨⟨m0, m1, b2, b3, _, _, (HB8.out.block g0 (blk_lt I0.out)).trans I0.out, V_base (Kd.V_below HV0.out HB8.out), V_base (Kd.V_below HV1.out HB8.out), ?_, fun rest => ?_⟩, (HB8.out.block g1 (blk_lt I1.out)).trans I1.out, (HB8.out.block g2 (blk_lt I2.out)).trans I2.out, (HB8.out.block g3 (blk_lt I3.out)).trans I3.out, (HB8.out.block g7 (blk_lt I7.out)).trans I7.out⟩, IB.out.trans (HB8.out.mono IB.out.size)⟩⟩
        · have := HL.out
          rw [List.length_append]
          omega
        · rw [List.append_assoc, List.singleton_append, HD.out, drops_miss HMiss.out]
      | true =>
        rw [hsf] at HFl HH
        clear hsf
        by_cases e3 : x3 = a1_0
        · have d3 : (x3 == a1_0) = true := beq_iff_eq.mpr e3
          by_cases e4 : x4 = a1_1
          · have d4 : (x4 == a1_1) = true := beq_iff_eq.mpr e4
            have HHit := Aside0.mk (HH.out.mpr ⟨rfl, e3, e4⟩)
            have HE3 := Aside0.mk e3
            have HE4 := Aside0.mk e4
            clear e3 e4
            obtain ⟨t1, t2, t3, t4, t5, hPut, hgr⟩ := put_grows (l0 := m0) (l1 := m1) (a2 := b2) (a3 := b3) x0 ⟨#[]⟩ (by have := HL.out; have := HLen.out; have := HGd.out; omega)
            have HPut := Aside0.mk hPut
            have HGr := Aside0.mk hgr
            clear hPut hgr
            by_cases c5 : t5 = 0
            · subst c5
              gi_wp2_with (first | (refine ⟨trivial, ?_⟩; gi_at_call 37; refine (callsIn_wide.2 (shelf_spot_full.calls x0 x1 x2 x3 x4 x5 true _ HFl.out)).mono ?_; rintro e w8 ⟨rfl, hb⟩; have HB8 := Aside0.mk hb; clear hb; have J1 := Aside0.mk ((HB8.out.block g1 (blk_lt I1.out)).trans I1.out); have JX := Aside0.mk ((HB8.out.block gx (blk_lt IX.out)).trans IX.out); have k0 : w8.cell? ⟨g1, 0, none⟩ = some (.int .i64 a1_0) := (blk_cell J1.out 0).trans rfl; have k1 : w8.cell? ⟨g1, 1, none⟩ = some (.int .i64 a1_1) := (blk_cell J1.out 1).trans rfl; have px : w8.cell? ⟨gx, 0, none⟩ = some (.int .i64 x0) := (blk_cell JX.out 0).trans rfl; have px3 : w8.cell? ⟨gx, 3, none⟩ = some (.int .i64 x3) := (blk_cell JX.out 3).trans rfl; have px4 : w8.cell? ⟨gx, 4, none⟩ = some (.int .i64 x4) := (blk_cell JX.out 4).trans rfl; have J0 := Aside0.mk ((HB8.out.block g0 (blk_lt I0.out)).trans I0.out); have J2 := Aside0.mk ((HB8.out.block g2 (blk_lt I2.out)).trans I2.out); have J3 := Aside0.mk ((HB8.out.block g3 (blk_lt I3.out)).trans I3.out); have p0 : w8.cell? ⟨g0, 0, none⟩ = some (.slice B0 m0.length d0) := (blk_cell J0.out 0).trans rfl; have p1 : w8.cell? ⟨g0, 1, none⟩ = some (.slice B1 m1.length d1) := (blk_cell J0.out 1).trans rfl; have p2 : w8.cell? ⟨g0, 2, none⟩ = some (.int .i64 b2) := (blk_cell J0.out 2).trans rfl; have p3 : w8.cell? ⟨g0, 3, none⟩ = some (.bool b3) := (blk_cell J0.out 3).trans rfl) | (refine ⟨trivial, ?_⟩; gi_at_call 39; refine (callsIn_wide.2 (disk_Put.calls (fun k_ => ((P0_0_ k_ ∧ k_ < w.heap.size) ∨ (P0_1_ k_ ∧ k_ < w.heap.size)) ∨ g7 < k_) B0 d0 m0 (fun k_ => ((P0_0_ k_ ∧ k_ < w.heap.size) ∨ (P0_1_ k_ ∧ k_ < w.heap.size)) ∨ g7 < k_) B1 d1 m1 b2 b3 x0 ⟨#[]⟩ t1 t2 t3 t4 0 _ (V_base (Kd.V_below HV0.out HB8.out)) (V_base (Kd.V_below HV1.out HB8.out)) HPut.out)).mono ?_; rintro e w9 ⟨v0, v1, rfl, hv0, hv1, hb⟩; obtain ⟨E0, f0_, rfl⟩ := Kd.V_slice hv0; obtain ⟨E1, f1_, rfl⟩ := Kd.V_slice hv1; have HU0 := Aside0.mk hv0; have HU1 := Aside0.mk hv1; have HB9 := Aside0.mk hb; clear hb hv0 hv1; have M0 := Aside0.mk (blk_alloc ((HB9.out.block g0 (blk_lt J0.out)).trans J0.out) (.cells #[.slice E0 t1.length f0_, .slice E1 t2.length f1_, .int .i64 t3, .bool t4] 25)); have M2 := Aside0.mk (blk_alloc ((HB9.out.block g2 (blk_lt J2.out)).trans J2.out) (.cells #[.slice E0 t1.length f0_, .slice E1 t2.length f1_, .int .i64 t3, .bool t4] 25)); have M3 := Aside0.mk (blk_alloc ((HB9.out.block g3 (blk_lt J3.out)).trans J3.out) (.cells #[.slice E0 t1.length f0_, .slice E1 t2.length f1_, .int .i64 t3, .bool t4] 25)); have MN := Aside0.mk (blk_new w9 (.cells #[.slice E0 t1.length f0_, .slice E1 t2.length f1_, .int .i64 t3, .bool t4] 25)); have a0 : (w9.alloc (.cells #[.slice E0 t1.length f0_, .slice E1 t2.length f1_, .int .i64 t3, .bool t4] 25)).cell? ⟨g0, 0, none⟩ = some (.slice B0 m0.length d0) := (blk_cell M0.out 0).trans rfl; have a1 : (w9.alloc (.cells #[.slice E0 t1.length f0_, .slice E1 t2.length f1_, .int .i64 t3, .bool t4] 25)).cell? ⟨g0, 1, none⟩ = some (.slice B1 m1.length d1) := (blk_cell M0.out 1).trans rfl; have a2 : (w9.alloc (.cells #[.slice E0 t1.length f0_, .slice E1 t2.length f1_, .int .i64 t3, .bool t4] 25)).cell? ⟨g0, 2, none⟩ = some (.int .i64 b2) := (blk_cell M0.out 2).trans rfl; have a3 : (w9.alloc (.cells #[.slice E0 t1.length f0_, .slice E1 t2.length f1_, .int .i64 t3, .bool t4] 25)).cell? ⟨g0, 3, none⟩ = some (.bool b3) := (blk_cell M0.out 3).trans rfl; have n0 : (w9.alloc (.cells #[.slice E0 t1.length f0_, .slice E1 t2.length f1_, .int .i64 t3, .bool t4] 25)).cell? ⟨w9.heap.size, 0, none⟩ = some (.slice E0 t1.length f0_) := (blk_cell MN.out 0).trans rfl; have n1 : (w9.alloc (.cells #[.slice E0 t1.length f0_, .slice E1 t2.length f1_, .int .i64 t3, .bool t4] 25)).cell? ⟨w9.heap.size, 1, none⟩ = some (.slice E1 t2.length f1_) := (blk_cell MN.out 1).trans rfl; have n2 : (w9.alloc (.cells #[.slice E0 t1.length f0_, .slice E1 t2.length f1_, .int .i64 t3, .bool t4] 25)).cell? ⟨w9.heap.size, 2, none⟩ = some (.int .i64 t3) := (blk_cell MN.out 2).trans rfl; have n3 : (w9.alloc (.cells #[.slice E0 t1.length f0_, .slice E1 t2.length f1_, .int .i64 t3, .bool t4] 25)).cell? ⟨w9.heap.size, 3, none⟩ = some (.bool t4) := (blk_cell MN.out 3).trans rfl; have y0 : (w9.alloc (.cells #[.slice E0 t1.length f0_, .slice E1 t2.length f1_, .int .i64 t3, .bool t4] 25)).cell? ⟨g2, 0, none⟩ = some (.slice none 0 0) := (blk_cell M2.out 0).trans rfl; have y1 : (w9.alloc (.cells #[.slice E0 t1.length f0_, .slice E1 t2.length f1_, .int .i64 t3, .bool t4] 25)).cell? ⟨g2, 1, none⟩ = some (.slice none 0 0) := (blk_cell M2.out 1).trans rfl; have y2 : (w9.alloc (.cells #[.slice E0 t1.length f0_, .slice E1 t2.length f1_, .int .i64 t3, .bool t4] 25)).cell? ⟨g2, 2, none⟩ = some (.int .i64 0) := (blk_cell M2.out 2).trans rfl; have y3 : (w9.alloc (.cells #[.slice E0 t1.length f0_, .slice E1 t2.length f1_, .int .i64 t3, .bool t4] 25)).cell? ⟨g2, 3, none⟩ = some (.bool false) := (blk_cell M2.out 3).trans rfl; have y4 : (w9.alloc (.cells #[.slice E0 t1.length f0_, .slice E1 t2.length f1_, .int .i64 t3, .bool t4] 25)).cell? ⟨g3, 0, none⟩ = some (.int .i64 0) := (blk_cell M3.out 0).trans rfl; have n23 : g2 ≠ g3 := (by have := HZ.out; omega); have n32 : g3 ≠ g2 := (by have := HZ.out; omega); have n02 : g0 ≠ g2 := (by have := HZ.out; omega); have n03 : g0 ≠ g3 := (by have := HZ.out; omega); have n20 : g2 ≠ g0 := (by have := HZ.out; omega); have n30 : g3 ≠ g0 := (by have := HZ.out; omega); have f0 := blk_frozen M2.out 0; have f1 := blk_frozen M2.out 1; have f2 := blk_frozen M2.out 2; have f3 := blk_frozen M2.out 3; have f4 := blk_frozen M3.out 0; have h0 := blk_frozen M0.out 0; have h1 := blk_frozen M0.out 1; have h2 := blk_frozen M0.out 2; have h3 := blk_frozen M0.out 3))
              obtain ⟨u0, ub, uk, uo⟩ := box_put4 (n₀ := w.heap.size) (.slice E0 t1.length f0_) (.slice E1 t2.length f1_) (.int .i64 t3) (.bool t4) M0.out HZ.out.1
              generalize hWM : ((((w9.alloc (.cells #[.slice E0 t1.length f0_, .slice E1 t2.length f1_, .int .i64 t3, .bool t4] 25)).setCell ⟨g0, 0, none⟩ (.slice E0 t1.length f0_)).setCell ⟨g0, 1, none⟩ (.slice E1 t2.length f1_)).setCell ⟨g0, 2, none⟩ (.int .i64 t3)).setCell ⟨g0, 3, none⟩ (.bool t4) = WM at u0 ub uk uo ⊢
              have hsz : W.heap.size ≤ w8.heap.size := HB8.out.size
              have hsz9 : w8.heap.size ≤ w9.heap.size := HB9.out.size
              have hne : ∀ k_, ((((fun k_ => ((P0_0_ k_ ∧ k_ < w.heap.size) ∨ (P0_1_ k_ ∧ k_ < w.heap.size)) ∨ g7 < k_)) k_ ∨ ((fun k_ => ((P0_0_ k_ ∧ k_ < w.heap.size) ∨ (P0_1_ k_ ∧ k_ < w.heap.size)) ∨ g7 < k_)) k_) ∨ w8.heap.size ≤ k_) → k_ ≠ g0 ∧ k_ ≠ g2 ∧ k_ ≠ g3 := fun k_ hk => by
                have h1 := HZ.out; have h2 := blk_lt I7.out
                rcases hk with (((⟨_, h⟩ | ⟨_, h⟩) | h) | ((⟨_, h⟩ | ⟨_, h⟩) | h)) | h <;> omega
              have hok : ∀ k_, ((((fun k_ => ((P0_0_ k_ ∧ k_ < w.heap.size) ∨ (P0_1_ k_ ∧ k_ < w.heap.size)) ∨ g7 < k_)) k_ ∨ ((fun k_ => ((P0_0_ k_ ∧ k_ < w.heap.size) ∨ (P0_1_ k_ ∧ k_ < w.heap.size)) ∨ g7 < k_)) k_) ∨ w8.heap.size ≤ k_) → ((fun k_ => ((P0_0_ k_ ∧ k_ < w.heap.size) ∨ (P0_1_ k_ ∧ k_ < w.heap.size)) ∨ g7 < k_)) k_ := fun k_ hk => by
                have h2 := blk_lt I7.out
                rcases hk with (h | h) | h
                · exact h
                · exact h
                · exact .inr (by omega)
              have hb8 := IB.out.trans (HB8.out.mono IB.out.size)
              have hb9 := hb8.trans (HB9.out.mono hb8.size)
              have hbN := hb9.alloc hb9.size (.cells #[.slice E0 t1.length f0_, .slice E1 t2.length f1_, .int .i64 t3, .bool t4] 25)
              have U0 := Kd.V_step (Kd.V_alloc HU0.out (.cells #[.slice E0 t1.length f0_, .slice E1 t2.length f1_, .int .i64 t3, .bool t4] 25)) (fun k_ hk _ => uo k_ (hne k_ hk).1)
              have U1 := Kd.V_step (Kd.V_alloc HU1.out (.cells #[.slice E0 t1.length f0_, .slice E1 t2.length f1_, .int .i64 t3, .bool t4] 25)) (fun k_ hk _ => uo k_ (hne k_ hk).1)
              refine ⟨(((keepsFrom_below HB8.out).trans (keepsFrom_below HB9.out)).trans ((KeepsOthers.alloc _ _).from _)).trans (uk.from _), ⟨((HB8.out.mono IB.out.size).trans (HB9.out.mono (Nat.le_trans IB.out.size hsz))).trans (((Below.refl w.heap.size w9).alloc hb9.size _).trans ub), ?_⟩, ⟨⟨⟨t1, t2, t3, t4, _, _, u0, Kd.V_mono (V_base U0) hok, Kd.V_mono (V_base U1) hok, ?_, fun rest => ?_⟩, ?_, ?_, ?_, ?_⟩, hbN.trans ub⟩⟩
              · exact ((uo g7 (by have := HZ.out; omega)).trans (blk_alloc ((HB9.out.block g7 (Nat.lt_of_lt_of_le (blk_lt I7.out) hsz)).trans ((HB8.out.block g7 (blk_lt I7.out)).trans I7.out)) _)).trans I7.out.symm
              · have h1 := HGr.out
                have h2 := HL.out
                rw [List.length_append, List.length_singleton]
                omega
              · rw [List.append_assoc, List.singleton_append, HD.out, drops_hit HHit.out HPut.out]
                rfl
              · exact (uo g1 (by have := HZ.out; omega)).trans (blk_alloc ((HB9.out.block g1 (Nat.lt_of_lt_of_le (blk_lt I1.out) hsz)).trans ((HB8.out.block g1 (blk_lt I1.out)).trans I1.out)) _)
              · exact (uo g2 (by have := HZ.out; omega)).trans M2.out
              · exact (uo g3 (by have := HZ.out; omega)).trans M3.out
              · exact (uo g7 (by have := HZ.out; omega)).trans (blk_alloc ((HB9.out.block g7 (Nat.lt_of_lt_of_le (blk_lt I7.out) hsz)).trans ((HB8.out.block g7 (blk_lt I7.out)).trans I7.out)) _)
            · have d5 : (t5 != 0) = true := bne_iff_ne.mpr c5
              have d6 : (t5 == 0) = false := beq_eq_false_iff_ne.mpr c5
              have HC5 := Aside0.mk c5
              clear c5
              gi_wp2_with (first | (refine ⟨trivial, ?_⟩; gi_at_call 37; refine (callsIn_wide.2 (shelf_spot_full.calls x0 x1 x2 x3 x4 x5 true _ HFl.out)).mono ?_; rintro e w8 ⟨rfl, hb⟩; have HB8 := Aside0.mk hb; clear hb; have J1 := Aside0.mk ((HB8.out.block g1 (blk_lt I1.out)).trans I1.out); have JX := Aside0.mk ((HB8.out.block gx (blk_lt IX.out)).trans IX.out); have k0 : w8.cell? ⟨g1, 0, none⟩ = some (.int .i64 a1_0) := (blk_cell J1.out 0).trans rfl; have k1 : w8.cell? ⟨g1, 1, none⟩ = some (.int .i64 a1_1) := (blk_cell J1.out 1).trans rfl; have px : w8.cell? ⟨gx, 0, none⟩ = some (.int .i64 x0) := (blk_cell JX.out 0).trans rfl; have px3 : w8.cell? ⟨gx, 3, none⟩ = some (.int .i64 x3) := (blk_cell JX.out 3).trans rfl; have px4 : w8.cell? ⟨gx, 4, none⟩ = some (.int .i64 x4) := (blk_cell JX.out 4).trans rfl; have J0 := Aside0.mk ((HB8.out.block g0 (blk_lt I0.out)).trans I0.out); have J2 := Aside0.mk ((HB8.out.block g2 (blk_lt I2.out)).trans I2.out); have J3 := Aside0.mk ((HB8.out.block g3 (blk_lt I3.out)).trans I3.out); have p0 : w8.cell? ⟨g0, 0, none⟩ = some (.slice B0 m0.length d0) := (blk_cell J0.out 0).trans rfl; have p1 : w8.cell? ⟨g0, 1, none⟩ = some (.slice B1 m1.length d1) := (blk_cell J0.out 1).trans rfl; have p2 : w8.cell? ⟨g0, 2, none⟩ = some (.int .i64 b2) := (blk_cell J0.out 2).trans rfl; have p3 : w8.cell? ⟨g0, 3, none⟩ = some (.bool b3) := (blk_cell J0.out 3).trans rfl) | (refine ⟨trivial, ?_⟩; gi_at_call 39; refine (callsIn_wide.2 (disk_Put.calls (fun k_ => ((P0_0_ k_ ∧ k_ < w.heap.size) ∨ (P0_1_ k_ ∧ k_ < w.heap.size)) ∨ g7 < k_) B0 d0 m0 (fun k_ => ((P0_0_ k_ ∧ k_ < w.heap.size) ∨ (P0_1_ k_ ∧ k_ < w.heap.size)) ∨ g7 < k_) B1 d1 m1 b2 b3 x0 ⟨#[]⟩ t1 t2 t3 t4 t5 _ (V_base (Kd.V_below HV0.out HB8.out)) (V_base (Kd.V_below HV1.out HB8.out)) HPut.out)).mono ?_; rintro e w9 ⟨v0, v1, rfl, hv0, hv1, hb⟩; obtain ⟨E0, f0_, rfl⟩ := Kd.V_slice hv0; obtain ⟨E1, f1_, rfl⟩ := Kd.V_slice hv1; have HU0 := Aside0.mk hv0; have HU1 := Aside0.mk hv1; have HB9 := Aside0.mk hb; clear hb hv0 hv1; have M0 := Aside0.mk (blk_alloc ((HB9.out.block g0 (blk_lt J0.out)).trans J0.out) (.cells #[.slice E0 t1.length f0_, .slice E1 t2.length f1_, .int .i64 t3, .bool t4] 25)); have M2 := Aside0.mk (blk_alloc ((HB9.out.block g2 (blk_lt J2.out)).trans J2.out) (.cells #[.slice E0 t1.length f0_, .slice E1 t2.length f1_, .int .i64 t3, .bool t4] 25)); have M3 := Aside0.mk (blk_alloc ((HB9.out.block g3 (blk_lt J3.out)).trans J3.out) (.cells #[.slice E0 t1.length f0_, .slice E1 t2.length f1_, .int .i64 t3, .bool t4] 25)); have MN := Aside0.mk (blk_new w9 (.cells #[.slice E0 t1.length f0_, .slice E1 t2.length f1_, .int .i64 t3, .bool t4] 25)); have a0 : (w9.alloc (.cells #[.slice E0 t1.length f0_, .slice E1 t2.length f1_, .int .i64 t3, .bool t4] 25)).cell? ⟨g0, 0, none⟩ = some (.slice B0 m0.length d0) := (blk_cell M0.out 0).trans rfl; have a1 : (w9.alloc (.cells #[.slice E0 t1.length f0_, .slice E1 t2.length f1_, .int .i64 t3, .bool t4] 25)).cell? ⟨g0, 1, none⟩ = some (.slice B1 m1.length d1) := (blk_cell M0.out 1).trans rfl; have a2 : (w9.alloc (.cells #[.slice E0 t1.length f0_, .slice E1 t2.length f1_, .int .i64 t3, .bool t4] 25)).cell? ⟨g0, 2, none⟩ = some (.int .i64 b2) := (blk_cell M0.out 2).trans rfl; have a3 : (w9.alloc (.cells #[.slice E0 t1.length f0_, .slice E1 t2.length f1_, .int .i64 t3, .bool t4] 25)).cell? ⟨g0, 3, none⟩ = some (.bool b3) := (blk_cell M0.out 3).trans rfl; have n0 : (w9.alloc (.cells #[.slice E0 t1.length f0_, .slice E1 t2.length f1_, .int .i64 t3, .bool t4] 25)).cell? ⟨w9.heap.size, 0, none⟩ = some (.slice E0 t1.length f0_) := (blk_cell MN.out 0).trans rfl; have n1 : (w9.alloc (.cells #[.slice E0 t1.length f0_, .slice E1 t2.length f1_, .int .i64 t3, .bool t4] 25)).cell? ⟨w9.heap.size, 1, none⟩ = some (.slice E1 t2.length f1_) := (blk_cell MN.out 1).trans rfl; have n2 : (w9.alloc (.cells #[.slice E0 t1.length f0_, .slice E1 t2.length f1_, .int .i64 t3, .bool t4] 25)).cell? ⟨w9.heap.size, 2, none⟩ = some (.int .i64 t3) := (blk_cell MN.out 2).trans rfl; have n3 : (w9.alloc (.cells #[.slice E0 t1.length f0_, .slice E1 t2.length f1_, .int .i64 t3, .bool t4] 25)).cell? ⟨w9.heap.size, 3, none⟩ = some (.bool t4) := (blk_cell MN.out 3).trans rfl; have y0 : (w9.alloc (.cells #[.slice E0 t1.length f0_, .slice E1 t2.length f1_, .int .i64 t3, .bool t4] 25)).cell? ⟨g2, 0, none⟩ = some (.slice none 0 0) := (blk_cell M2.out 0).trans rfl; have y1 : (w9.alloc (.cells #[.slice E0 t1.length f0_, .slice E1 t2.length f1_, .int .i64 t3, .bool t4] 25)).cell? ⟨g2, 1, none⟩ = some (.slice none 0 0) := (blk_cell M2.out 1).trans rfl; have y2 : (w9.alloc (.cells #[.slice E0 t1.length f0_, .slice E1 t2.length f1_, .int .i64 t3, .bool t4] 25)).cell? ⟨g2, 2, none⟩ = some (.int .i64 0) := (blk_cell M2.out 2).trans rfl; have y3 : (w9.alloc (.cells #[.slice E0 t1.length f0_, .slice E1 t2.length f1_, .int .i64 t3, .bool t4] 25)).cell? ⟨g2, 3, none⟩ = some (.bool false) := (blk_cell M2.out 3).trans rfl; have y4 : (w9.alloc (.cells #[.slice E0 t1.length f0_, .slice E1 t2.length f1_, .int .i64 t3, .bool t4] 25)).cell? ⟨g3, 0, none⟩ = some (.int .i64 0) := (blk_cell M3.out 0).trans rfl; have n23 : g2 ≠ g3 := (by have := HZ.out; omega); have n32 : g3 ≠ g2 := (by have := HZ.out; omega); have n02 : g0 ≠ g2 := (by have := HZ.out; omega); have n03 : g0 ≠ g3 := (by have := HZ.out; omega); have n20 : g2 ≠ g0 := (by have := HZ.out; omega); have n30 : g3 ≠ g0 := (by have := HZ.out; omega); have f0 := blk_frozen M2.out 0; have f1 := blk_frozen M2.out 1; have f2 := blk_frozen M2.out 2; have f3 := blk_frozen M2.out 3; have f4 := blk_frozen M3.out 0; have h0 := blk_frozen M0.out 0; have h1 := blk_frozen M0.out 1; have h2 := blk_frozen M0.out 2; have h3 := blk_frozen M0.out 3))
              obtain ⟨u0, ub, uk, uo⟩ := box_put4 (n₀ := w.heap.size) (.slice E0 t1.length f0_) (.slice E1 t2.length f1_) (.int .i64 t3) (.bool t4) M0.out HZ.out.1
              generalize hWM : ((((w9.alloc (.cells #[.slice E0 t1.length f0_, .slice E1 t2.length f1_, .int .i64 t3, .bool t4] 25)).setCell ⟨g0, 0, none⟩ (.slice E0 t1.length f0_)).setCell ⟨g0, 1, none⟩ (.slice E1 t2.length f1_)).setCell ⟨g0, 2, none⟩ (.int .i64 t3)).setCell ⟨g0, 3, none⟩ (.bool t4) = WM at u0 ub uk uo ⊢
              have hsz : W.heap.size ≤ w8.heap.size := HB8.out.size
              have hsz9 : w8.heap.size ≤ w9.heap.size := HB9.out.size
              have hne : ∀ k_, ((((fun k_ => ((P0_0_ k_ ∧ k_ < w.heap.size) ∨ (P0_1_ k_ ∧ k_ < w.heap.size)) ∨ g7 < k_)) k_ ∨ ((fun k_ => ((P0_0_ k_ ∧ k_ < w.heap.size) ∨ (P0_1_ k_ ∧ k_ < w.heap.size)) ∨ g7 < k_)) k_) ∨ w8.heap.size ≤ k_) → k_ ≠ g0 ∧ k_ ≠ g2 ∧ k_ ≠ g3 := fun k_ hk => by
                have h1 := HZ.out; have h2 := blk_lt I7.out
                rcases hk with (((⟨_, h⟩ | ⟨_, h⟩) | h) | ((⟨_, h⟩ | ⟨_, h⟩) | h)) | h <;> omega
              have hok : ∀ k_, ((((fun k_ => ((P0_0_ k_ ∧ k_ < w.heap.size) ∨ (P0_1_ k_ ∧ k_ < w.heap.size)) ∨ g7 < k_)) k_ ∨ ((fun k_ => ((P0_0_ k_ ∧ k_ < w.heap.size) ∨ (P0_1_ k_ ∧ k_ < w.heap.size)) ∨ g7 < k_)) k_) ∨ w8.heap.size ≤ k_) → ((fun k_ => ((P0_0_ k_ ∧ k_ < w.heap.size) ∨ (P0_1_ k_ ∧ k_ < w.heap.size)) ∨ g7 < k_)) k_ := fun k_ hk => by
                have h2 := blk_lt I7.out
                rcases hk with (h | h) | h
                · exact h
                · exact h
                · exact .inr (by omega)
              have hb8 := IB.out.trans (HB8.out.mono IB.out.size)
              have hb9 := hb8.trans (HB9.out.mono hb8.size)
              have hbN := hb9.alloc hb9.size (.cells #[.slice E0 t1.length f0_, .slice E1 t2.length f1_, .int .i64 t3, .bool t4] 25)
              have U0 := Kd.V_step (Kd.V_alloc HU0.out (.cells #[.slice E0 t1.length f0_, .slice E1 t2.length f1_, .int .i64 t3, .bool t4] 25)) (fun k_ hk _ => uo k_ (hne k_ hk).1)
              have U1 := Kd.V_step (Kd.V_alloc HU1.out (.cells #[.slice E0 t1.length f0_, .slice E1 t2.length f1_, .int .i64 t3, .bool t4] 25)) (fun k_ hk _ => uo k_ (hne k_ hk).1)
              obtain ⟨q2, q3, qb, qk, qo⟩ := boxes_put (n₀ := w.heap.size) (.slice E0 t1.length f0_) (.slice E1 t2.length f1_) (.int .i64 t3) (.bool t4) (.int .i64 t5) ((uo g2 (by have := HZ.out; omega)).trans M2.out) ((uo g3 (by have := HZ.out; omega)).trans M3.out) n23 HZ.out.2.1 HZ.out.2.2.1
              generalize (((((WM).setCell ⟨g2, 0, none⟩ (.slice E0 t1.length f0_)).setCell ⟨g2, 1, none⟩ (.slice E1 t2.length f1_)).setCell ⟨g2, 2, none⟩ (.int .i64 t3)).setCell ⟨g2, 3, none⟩ (.bool t4)).setCell ⟨g3, 0, none⟩ (.int .i64 t5) = W9 at q2 q3 qb qk qo ⊢
              refine ⟨((((keepsFrom_below HB8.out).trans (keepsFrom_below HB9.out)).trans ((KeepsOthers.alloc _ _).from _)).trans (uk.from _)).trans (qk.from _), ⟨rfl, t1, t2, t3, t4, t5, _, _, fun rest => ?_, q2, q3, Kd.V_mono (V_base (Kd.V_step U0 (fun k_ hk _ => qo k_ (hne k_ hk).2.1 (hne k_ hk).2.2))) hok, Kd.V_mono (V_base (Kd.V_step U1 (fun k_ hk _ => qo k_ (hne k_ hk).2.1 (hne k_ hk).2.2))) hok⟩, (hbN.trans ub).trans qb⟩
              rw [List.append_assoc, List.singleton_append, HD.out, drops_hit HHit.out HPut.out]
              exact if_neg HC5.out
          · have d4 : (x4 == a1_1) = false := beq_eq_false_iff_ne.mpr e4
            have HMiss := Aside0.mk (show ¬ spotHit a1_0 a1_1 (x0, x1, x2, x3, x4, x5) from fun h => e4 (HH.out.mp h).2.2)
            clear e3 e4
            gi_wp2_with (refine ⟨trivial, ?_⟩; gi_at_call 37; refine (callsIn_wide.2 (shelf_spot_full.calls x0 x1 x2 x3 x4 x5 true _ HFl.out)).mono ?_; rintro e w8 ⟨rfl, hb⟩; have HB8 := Aside0.mk hb; clear hb; have J1 := Aside0.mk ((HB8.out.block g1 (blk_lt I1.out)).trans I1.out); have JX := Aside0.mk ((HB8.out.block gx (blk_lt IX.out)).trans IX.out); have k0 : w8.cell? ⟨g1, 0, none⟩ = some (.int .i64 a1_0) := (blk_cell J1.out 0).trans rfl; have k1 : w8.cell? ⟨g1, 1, none⟩ = some (.int .i64 a1_1) := (blk_cell J1.out 1).trans rfl; have px : w8.cell? ⟨gx, 0, none⟩ = some (.int .i64 x0) := (blk_cell JX.out 0).trans rfl; have px3 : w8.cell? ⟨gx, 3, none⟩ = some (.int .i64 x3) := (blk_cell JX.out 3).trans rfl; have px4 : w8.cell? ⟨gx, 4, none⟩ = some (.int .i64 x4) := (blk_cell JX.out 4).trans rfl)
            refine ⟨keepsFrom_below HB8.out, ⟨HB8.out.mono IB.out.size, HB8.out.block _ (blk_lt I7.out)⟩, ⟨⟨⟨m0, m1, b2, b3, _, _, (HB8.out.block g0 (blk_lt I0.out)).trans I0.out, V_base (Kd.V_below HV0.out HB8.out), V_base (Kd.V_below HV1.out HB8.out), ?_, fun rest => ?_⟩, (HB8.out.block g1 (blk_lt I1.out)).trans I1.out, (HB8.out.block g2 (blk_lt I2.out)).trans I2.out, (HB8.out.block g3 (blk_lt I3.out)).trans I3.out, (HB8.out.block g7 (blk_lt I7.out)).trans I7.out⟩, IB.out.trans (HB8.out.mono IB.out.size)⟩⟩
            · have := HL.out
              rw [List.length_append]
              omega
            · rw [List.append_assoc, List.singleton_append, HD.out, drops_miss HMiss.out]
        · have d3 : (x3 == a1_0) = false := beq_eq_false_iff_ne.mpr e3
          have HMiss := Aside0.mk (show ¬ spotHit a1_0 a1_1 (x0, x1, x2, x3, x4, x5) from fun h => e3 (HH.out.mp h).2.1)
          clear e3
          gi_wp2_with (refine ⟨trivial, ?_⟩; gi_at_call 37; refine (callsIn_wide.2 (shelf_spot_full.calls x0 x1 x2 x3 x4 x5 true _ HFl.out)).mono ?_; rintro e w8 ⟨rfl, hb⟩; have HB8 := Aside0.mk hb; clear hb; have J1 := Aside0.mk ((HB8.out.block g1 (blk_lt I1.out)).trans I1.out); have JX := Aside0.mk ((HB8.out.block gx (blk_lt IX.out)).trans IX.out); have k0 : w8.cell? ⟨g1, 0, none⟩ = some (.int .i64 a1_0) := (blk_cell J1.out 0).trans rfl; have k1 : w8.cell? ⟨g1, 1, none⟩ = some (.int .i64 a1_1) := (blk_cell J1.out 1).trans rfl; have px : w8.cell? ⟨gx, 0, none⟩ = some (.int .i64 x0) := (blk_cell JX.out 0).trans rfl; have px3 : w8.cell? ⟨gx, 3, none⟩ = some (.int .i64 x3) := (blk_cell JX.out 3).trans rfl; have px4 : w8.cell? ⟨gx, 4, none⟩ = some (.int .i64 x4) := (blk_cell JX.out 4).trans rfl)
          refine ⟨keepsFrom_below HB8.out, ⟨HB8.out.mono IB.out.size, HB8.out.block _ (blk_lt I7.out)⟩, ⟨⟨⟨m0, m1, b2, b3, _, _, (HB8.out.block g0 (blk_lt I0.out)).trans I0.out, V_base (Kd.V_below HV0.out HB8.out), V_base (Kd.V_below HV1.out HB8.out), ?_, fun rest => ?_⟩, (HB8.out.block g1 (blk_lt I1.out)).trans I1.out, (HB8.out.block g2 (blk_lt I2.out)).trans I2.out, (HB8.out.block g3 (blk_lt I3.out)).trans I3.out, (HB8.out.block g7 (blk_lt I7.out)).trans I7.out⟩, IB.out.trans (HB8.out.mono IB.out.size)⟩⟩
          · have := HL.out
            rw [List.length_append]
            omega
          · rw [List.append_assoc, List.singleton_append, HD.out, drops_miss HMiss.out]
    case done =>
      rintro D ys W hD rfl ⟨⟨⟨m0, m1, b2, b3, v0, v1, i0, iv0, iv1, iL, iD⟩, i1, i2, i3, i7⟩, iB⟩ hK
      obtain ⟨B0, d0, rfl⟩ := Kd.V_slice iv0
      obtain ⟨B1, d1, rfl⟩ := Kd.V_slice iv1
      have hF := HF.out
      have hF2 := iD []
      rw [List.append_nil, hF] at hF2
      have hF3 : some (r1, r2, r3, r4, r5) = some (m0, m1, b2, b3, 0) := hF2
      simp only [Option.some.injEq, Prod.mk.injEq] at hF3
      obtain ⟨rfl, rfl, rfl, rfl, rfl⟩ := hF3
      have I0 := Aside0.mk i0
      have HV0 := Aside0.mk iv0
      have HV1 := Aside0.mk iv1
      have I2 := Aside0.mk i2
      have I3 := Aside0.mk i3
      have IB := Aside0.mk iB
      have HK := Aside0.mk hK
      clear i0 iv0 iv1 iL iD i1 i2 i3 i7 iB hK hF hF2
      have z0 : W.cell? ⟨g0, 0, none⟩ = some (.slice B0 r1.length d0) := (blk_cell I0.out 0).trans rfl
      have z1 : W.cell? ⟨g0, 1, none⟩ = some (.slice B1 r2.length d1) := (blk_cell I0.out 1).trans rfl
      have z2 : W.cell? ⟨g0, 2, none⟩ = some (.int .i64 r3) := (blk_cell I0.out 2).trans rfl
      have z3 : W.cell? ⟨g0, 3, none⟩ = some (.bool r4) := (blk_cell I0.out 3).trans rfl
      have y0 : W.cell? ⟨g2, 0, none⟩ = some (.slice none 0 0) := (blk_cell I2.out 0).trans rfl
      have y1 : W.cell? ⟨g2, 1, none⟩ = some (.slice none 0 0) := (blk_cell I2.out 1).trans rfl
      have y2 : W.cell? ⟨g2, 2, none⟩ = some (.int .i64 0) := (blk_cell I2.out 2).trans rfl
      have y3 : W.cell? ⟨g2, 3, none⟩ = some (.bool false) := (blk_cell I2.out 3).trans rfl
      have y4 : W.cell? ⟨g3, 0, none⟩ = some (.int .i64 0) := (blk_cell I3.out 0).trans rfl
      have n23 : g2 ≠ g3 := by have := HZ.out; omega
      have n32 : g3 ≠ g2 := by have := HZ.out; omega
      have f0 := blk_frozen I2.out 0
      have f1 := blk_frozen I2.out 1
      have f2 := blk_frozen I2.out 2
      have f3 := blk_frozen I2.out 3
      have f4 := blk_frozen I3.out 0
      gi_wp2
      obtain ⟨q2, q3, qb, qk, qo⟩ := boxes_put (n₀ := w.heap.size) (.slice B0 r1.length d0) (.slice B1 r2.length d1) (.int .i64 r3) (.bool r4) (.int .i64 0) I2.out I3.out n23 HZ.out.2.1 HZ.out.2.2.1
      have HK9 := Aside0.mk (qk.same D _ HK.out rfl)
      have hne : ∀ k_, ((fun k_ => ((P0_0_ k_ ∧ k_ < w.heap.size) ∨ (P0_1_ k_ ∧ k_ < w.heap.size)) ∨ g7 < k_)) k_ → k_ ≠ g2 ∧ k_ ≠ g3 := fun k_ hk => by
        have h1 := HZ.out
        rcases hk with (⟨_, h⟩ | ⟨_, h⟩) | h <;> omega
      have U0 := Kd.V_step HV0.out (fun k_ hk _ => qo k_ (hne k_ hk).1 (hne k_ hk).2)
      have U1 := Kd.V_step HV1.out (fun k_ hk _ => qo k_ (hne k_ hk).1 (hne k_ hk).2)
      generalize (((((W).setCell ⟨g2, 0, none⟩ (.slice B0 r1.length d0)).setCell ⟨g2, 1, none⟩ (.slice B1 r2.length d1)).setCell ⟨g2, 2, none⟩ (.int .i64 r3)).setCell ⟨g2, 3, none⟩ (.bool r4)).setCell ⟨g3, 0, none⟩ (.int .i64 0) = W9 at q2 q3 qb qk qo HK9 U0 U1 ⊢
      refine ⟨by simp, .inl ⟨_, _, rfl, run_takeDeferred HK9.out, ?_⟩⟩
      have b0 := blk_cell ((World.putObj_heap_other (w := W9) (r := D) (o := .deferred none) (show g2 ≠ D by have := HZ.out; omega)).trans q2) 0
      have b1 := blk_cell ((World.putObj_heap_other (w := W9) (r := D) (o := .deferred none) (show g2 ≠ D by have := HZ.out; omega)).trans q2) 1
      have b2 := blk_cell ((World.putObj_heap_other (w := W9) (r := D) (o := .deferred none) (show g2 ≠ D by have := HZ.out; omega)).trans q2) 2
      have b3 := blk_cell ((World.putObj_heap_other (w := W9) (r := D) (o := .deferred none) (show g2 ≠ D by have := HZ.out; omega)).trans q2) 3
      have b4 := blk_cell ((World.putObj_heap_other (w := W9) (r := D) (o := .deferred none) (show g3 ≠ D by have := HZ.out; omega)).trans q3) 0
      have hg : W9.grownBy (W9.putObj D (.deferred none)) (some D) := grownBy_putObj' _ D (.deferred none)
      refine ⟨.tuple #[.agg #[.slice B0 r1.length d0, .slice B1 r2.length d1, .int .i64 r3, .bool r4], .int .i64 0], ?_, _, _, rfl, Kd.V_mono (V_base (V_flat_own flat_string U0 hg (fun r e => by cases e; exact ⟨_, HK9.out, rfl⟩))) (fun k_ hk => hk.elim (fun hk => hk.elim (fun hk => .inl (.inl hk.1)) (fun hk => .inl (.inr hk.1))) (fun hk => .inr (by have := HZ.out; omega))), Kd.V_mono (V_base (V_flat_own flat_write U1 hg (fun r e => by cases e; exact ⟨_, HK9.out, rfl⟩))) (fun k_ hk => hk.elim (fun hk => hk.elim (fun hk => .inl (.inl hk.1)) (fun hk => .inl (.inr hk.1))) (fun hk => .inr (by have := HZ.out; omega))), (IB.out.trans qb).trans (belowK_b (w := w) (Nat.le_refl _) W9 D _ _ (Nat.le_trans HZ.out.2.2.2.1 hD) HK9.out rfl rfl)⟩
      simp [results, Try.f32, go_sem, b0, b1, b2, b3, b4]
    case stop =>
      rintro D c pre W hD ⟨m, hm, hpre⟩ ⟨⟨rfl, t1, t2, t3, t4, t5, v0, v1, hd, q2, q3, hv0, hv1⟩, iB⟩ hK
      obtain ⟨rest, hr⟩ := shelf_upto_le k l0_0 l0_1 a0_2 a0_3 m (l0_0.length - m)
      rw [show m + (l0_0.length - m) = l0_0.length by omega, ← hpre] at hr
      have hF := HF.out
      rw [hr, hd rest] at hF
      simp only [Option.some.injEq, Prod.mk.injEq] at hF
      obtain ⟨rfl, rfl, rfl, rfl, rfl⟩ := hF
      obtain ⟨B0, d0, rfl⟩ := Kd.V_slice hv0
      obtain ⟨B1, d1, rfl⟩ := Kd.V_slice hv1
      have HV0 := Aside0.mk hv0
      have HV1 := Aside0.mk hv1
      have IB := Aside0.mk iB
      have HK := Aside0.mk hK
      have Q2 := Aside0.mk q2
      have Q3 := Aside0.mk q3
      clear hv0 hv1 q2 q3 iB hK hr hd hpre
      gi_wp2
      refine ⟨by simp, .inl ⟨_, _, rfl, run_takeDeferred HK.out, ?_⟩⟩
      have b0 := blk_cell ((World.putObj_heap_other (w := W) (r := D) (o := .deferred none) (show g2 ≠ D by have := HZ.out; omega)).trans Q2.out) 0
      have b1 := blk_cell ((World.putObj_heap_other (w := W) (r := D) (o := .deferred none) (show g2 ≠ D by have := HZ.out; omega)).trans Q2.out) 1
      have b2 := blk_cell ((World.putObj_heap_other (w := W) (r := D) (o := .deferred none) (show g2 ≠ D by have := HZ.out; omega)).trans Q2.out) 2
      have b3 := blk_cell ((World.putObj_heap_other (w := W) (r := D) (o := .deferred none) (show g2 ≠ D by have := HZ.out; omega)).trans Q2.out) 3
      have b4 := blk_cell ((World.putObj_heap_other (w := W) (r := D) (o := .deferred none) (show g3 ≠ D by have := HZ.out; omega)).trans Q3.out) 0
      have hg : W.grownBy (W.putObj D (.deferred none)) (some D) := grownBy_putObj' _ D (.deferred none)
      refine ⟨.tuple #[.agg #[.slice B0 t1.length d0, .slice B1 t2.length d1, .int .i64 t3, .bool t4], .int .i64 t5], ?_, _, _, rfl, Kd.V_mono (V_base (V_flat_own flat_string HV0.out hg (fun r e => by cases e; exact ⟨_, HK.out, rfl⟩))) (fun k_ hk => hk.elim (fun hk => hk.elim (fun hk => .inl (.inl hk.1)) (fun hk => .inl (.inr hk.1))) (fun hk => .inr (by have := HZ.out; omega))), Kd.V_mono (V_base (V_flat_own flat_write HV1.out hg (fun r e => by cases e; exact ⟨_, HK.out, rfl⟩))) (fun k_ hk => hk.elim (fun hk => hk.elim (fun hk => .inl (.inl hk.1)) (fun hk => .inl (.inr hk.1))) (fun hk => .inr (by have := HZ.out; omega))), IB.out.trans (belowK_b (w := w) (Nat.le_refl _) W D _ _ (Nat.le_trans HZ.out.2.2.2.1 hD) HK.out rfl rfl)⟩
      simp [results, Try.f32, go_sem, b0, b1, b2, b3, b4]
  · rw [if_neg c2] at h
    obtain ⟨rfl, rfl, rfl, rfl, rfl⟩ : l0_0 = r1 ∧ l0_1 = r2 ∧ a0_2 = r3 ∧ a0_3 = r4 ∧ e2 = r5 := by simpa using h
    clear h
    have d0 : (e2 != 0) = true := bne_iff_ne.mpr c2
    have d1 : (e2 == 0) = false := beq_eq_false_iff_ne.mpr c2
    clear c2
    refine (callsIn_wide (n := 4)).1 ?_
    refine callsIn_of_wp_marks Try.func32 rfl trivial ?_ rfl
    simp only [Try.ntmps32, List.size_toArray, List.length_cons, List.length_nil, Nat.reduceAdd, Nat.reduceSub, Array.replicate_succ, Array.replicate_zero, List.push_toArray, List.append_toArray, List.nil_append, List.cons_append]
    gi_wp2_with fail
    have hs1 := blk_new w (.cells #[.slice A0_0 l0_0.length c0_0, .slice A0_1 l0_1.length c0_1, .int .i64 a0_2, .bool a0_3] 25)
    have hB1 := (Below.refl w.heap.size w).alloc (Nat.le_refl _) (.cells #[.slice A0_0 l0_0.length c0_0, .slice A0_1 l0_1.length c0_1, .int .i64 a0_2, .bool a0_3] 25)
    generalize hW1 : w.alloc (.cells #[.slice A0_0 l0_0.length c0_0, .slice A0_1 l0_1.length c0_1, .int .i64 a0_2, .bool a0_3] 25) = W1 at *
    have hz1 : W1.heap.size = w.heap.size + 1 := by rw [← hW1]; simp
    rw [← hz1]
    have hs2 := blk_new W1 (.cells #[.int .i64 a1_0, .int .i64 a1_1] 27)
    have hk1 := blk_alloc hs1 (.cells #[.int .i64 a1_0, .int .i64 a1_1] 27)
    have hB2 := hB1.alloc hB1.size (.cells #[.int .i64 a1_0, .int .i64 a1_1] 27)
    generalize hW2 : W1.alloc (.cells #[.int .i64 a1_0, .int .i64 a1_1] 27) = W2 at *
    have hz2 : W2.heap.size = W1.heap.size + 1 := by rw [← hW2]; simp
    rw [← hz2]
    have hs3 := blk_new W2 (.cells #[.slice none 0 0, .slice none 0 0, .int .i64 0, .bool false] 25)
    have hk1 := blk_alloc hk1 (.cells #[.slice none 0 0, .slice none 0 0, .int .i64 0, .bool false] 25)
    have hk2 := blk_alloc hs2 (.cells #[.slice none 0 0, .slice none 0 0, .int .i64 0, .bool false] 25)
    have hB3 := hB2.alloc hB2.size (.cells #[.slice none 0 0, .slice none 0 0, .int .i64 0, .bool false] 25)
    generalize hW3 : W2.alloc (.cells #[.slice none 0 0, .slice none 0 0, .int .i64 0, .bool false] 25) = W3 at *
    have hz3 : W3.heap.size = W2.heap.size + 1 := by rw [← hW3]; simp
    rw [← hz3]
    have hs4 := blk_new W3 (.cells #[.int .i64 0] 35)
    have hk1 := blk_alloc hk1 (.cells #[.int .i64 0] 35)
    have hk2 := blk_alloc hk2 (.cells #[.int .i64 0] 35)
    have hk3 := blk_alloc hs3 (.cells #[.int .i64 0] 35)
    have hB4 := hB3.alloc hB3.size (.cells #[.int .i64 0] 35)
    generalize hW4 : W3.alloc (.cells #[.int .i64 0] 35) = W4 at *
    have hz4 : W4.heap.size = W3.heap.size + 1 := by rw [← hW4]; simp
    clear hW1 hW2 hW3 hW4
    have HZ := Aside0.mk (show w.heap.size = w.heap.size ∧ w.heap.size < W1.heap.size ∧ W1.heap.size < W2.heap.size ∧ W2.heap.size < W3.heap.size ∧ W3.heap.size < W4.heap.size by omega)
    have K0 := Aside0.mk hk1
    have K1 := Aside0.mk hk2
    have K2 := Aside0.mk hk3
    have K3 := Aside0.mk hs4
    have HB4 := Aside0.mk hB4
    clear hk1 hk2 hk3 hs1 hs2 hs3 hs4 hB1 hB2 hB3 hB4 hz1 hz2 hz3 hz4
    generalize hg0 : w.heap.size = g0 at HZ K0 ⊢
    generalize W1.heap.size = g1 at *
    generalize W2.heap.size = g2 at *
    generalize W3.heap.size = g3 at *
    have HG0 := Aside0.mk hg0
    clear hg0
    gi_wp2_with (first | (refine ⟨trivial, ?_⟩; gi_at_call 18; refine (callsIn_wide.2 (shelf_Find.calls k A0_0 _ l0_0 A0_1 _ l0_1 a0_2 a0_3 a1_0 a1_1 b e2 _ (Kd.C_below (Kd.V_reads' HS0.out).2.2 HB4.out) (Kd.V_reads' HS0.out).2.1 (Kd.C_below (Kd.V_reads' HS1.out).2.2 HB4.out) (Kd.V_reads' HS1.out).2.1 HFi.out)).mono ?_; rintro e w7 ⟨rfl, hb⟩; have HB7 := Aside0.mk (below_step HB4.out hb); have J07 := Aside0.mk ((hb.block g0 (blk_lt K0.out)).trans K0.out); have J17 := Aside0.mk ((hb.block g1 (blk_lt K1.out)).trans K1.out); have J27 := Aside0.mk ((hb.block g2 (blk_lt K2.out)).trans K2.out); have J37 := Aside0.mk ((hb.block g3 (blk_lt K3.out)).trans K3.out); have HL7 := Aside0.mk hb.size; clear hb; have z0 : (w7).cell? ⟨g0, 0, none⟩ = some (.slice A0_0 l0_0.length c0_0) := (blk_cell J07.out 0).trans rfl; have z1 : (w7).cell? ⟨g0, 1, none⟩ = some (.slice A0_1 l0_1.length c0_1) := (blk_cell J07.out 1).trans rfl; have z2 : (w7).cell? ⟨g0, 2, none⟩ = some (.int .i64 a0_2) := (blk_cell J07.out 2).trans rfl; have z3 : (w7).cell? ⟨g0, 3, none⟩ = some (.bool a0_3) := (blk_cell J07.out 3).trans rfl; have x0 : (w7).cell? ⟨g1, 0, none⟩ = some (.int .i64 a1_0) := (blk_cell J17.out 0).trans rfl; have x1 : (w7).cell? ⟨g1, 1, none⟩ = some (.int .i64 a1_1) := (blk_cell J17.out 1).trans rfl; have y0 : (w7).cell? ⟨g2, 0, none⟩ = some (.slice none 0 0) := (blk_cell J27.out 0).trans rfl; have y1 : (w7).cell? ⟨g2, 1, none⟩ = some (.slice none 0 0) := (blk_cell J27.out 1).trans rfl; have y2 : (w7).cell? ⟨g2, 2, none⟩ = some (.int .i64 0) := (blk_cell J27.out 2).trans rfl; have y3 : (w7).cell? ⟨g2, 3, none⟩ = some (.bool false) := (blk_cell J27.out 3).trans rfl; have y4 : (w7).cell? ⟨g3, 0, none⟩ = some (.int .i64 0) := (blk_cell J37.out 0).trans rfl; have n23 : g2 ≠ g3 := (by have := HZ.out; omega); have n32 : g3 ≠ g2 := (by have := HZ.out; omega); have f0 := blk_frozen J27.out 0; have f1 := blk_frozen J27.out 1; have f2 := blk_frozen J27.out 2; have f3 := blk_frozen J27.out 3; have f4 := blk_frozen J37.out 0))
    obtain ⟨q2, q3, qb, qk, qo⟩ := boxes_put (n₀ := w.heap.size) (.slice A0_0 l0_0.length c0_0) (.slice A0_1 l0_1.length c0_1) (.int .i64 a0_2) (.bool a0_3) (.int .i64 e2) J27.out J37.out n23 (by have := HZ.out; have := HG0.out; omega) (by have := HZ.out; have := HG0.out; omega)
    generalize (((((w7).setCell ⟨g2, 0, none⟩ (.slice A0_0 l0_0.length c0_0)).setCell ⟨g2, 1, none⟩ (.slice A0_1 l0_1.length c0_1)).setCell ⟨g2, 2, none⟩ (.int .i64 a0_2)).setCell ⟨g2, 3, none⟩ (.bool a0_3)).setCell ⟨g3, 0, none⟩ (.int .i64 e2) = W9 at q2 q3 qb qk qo ⊢
    have b0 := blk_cell q2 0
    have b1 := blk_cell q2 1
    have b2 := blk_cell q2 2
    have b3 := blk_cell q2 3
    have b4 := blk_cell q3 0
    have hB9 : Below w.heap.size w W9 := HB7.out.trans qb
    refine ⟨.tuple #[.agg #[.slice A0_0 l0_0.length c0_0, .slice A0_1 l0_1.length c0_1, .int .i64 a0_2, .bool a0_3], .int .i64 e2], ?_, _, _, rfl, Kd.V_mono (V_base (Kd.V_below HS0.out hB9)) (fun k_ hk => .inl (.inl hk)), Kd.V_mono (V_base (Kd.V_below HS1.out hB9)) (fun k_ hk => .inl (.inr hk)), hB9⟩
    simp [results, Try.f32, go_sem, b0, b1, b2, b3, b4]
end

end Go.Proofs.Ytffjbbedjddpmaa.PAll
