/- Functions of the program as plain Lean functions, and that each call comes to what they say. Laid by a program of this session (hprint.py); Lean checks it. -/
import Derived.Test.YtffjbbedjddpmaaPAllx0
import Derived.Test.YtffjbbedjddpmaaPAllx1
import Derived.Test.YtffjbbedjddpmaaPAllx11
import Derived.Test.YtffjbbedjddpmaaShelfIter
namespace Go.Proofs.Ytffjbbedjddpmaa.PAll
open Go.RowKit Go.Proofs.YtffjbbedjddpmaaW.PrintWords Go.Proofs.YtffjbbedjddpmaaW.PrintLast Go.Proofs.YtffjbbedjddpmaaW.PrintMore
attribute [local go_sem] max2_int min2_int max_two min_two max_three min_three max_four min_four   -- for this text's walks alone
set_option linter.unusedVariables false
set_option linter.unusedSimpArgs false

/-! ### shelf_Find: function 18 -/
-- IMPORT Derived.Test.YtffjbbedjddpmaaShelfIter
def shelf_Find.f (k : Nat) (l0_0 : List ByteArray) (l0_1 : List S94) (a0_2 : Int) (a0_3 : Bool) (a1_0 a1_1 : Int) : Option (ByteArray × Int) := (shelf_go k l0_0 l0_1 a0_2 a0_3 l0_0.length 0).bind fun l => some (spotFind a1_0 a1_1 l)
theorem shelf_Find.mono : ∀ l0_0 l0_1 a0_2 a0_3 a1_0 a1_1 k, LeO (shelf_Find.f k l0_0 l0_1 a0_2 a0_3 a1_0 a1_1) (shelf_Find.f (k + 1) l0_0 l0_1 a0_2 a0_3 a1_0 a1_1) := fun l0 l1 a2 a3 _ _ k => LeO.bind (shelf_go_mono k l0 l1 a2 a3 _ _) (fun _ => LeO.refl _)
/-- A shard of this key. -/
def spotHit (v x : Int) (p : Spot) : Prop := spotFull p = true ∧ p.2.2.2.1 = v ∧ p.2.2.2.2.1 = x
def Miss (v x : Int) (l : List Spot) : Prop := ∀ p ∈ l, ¬ spotHit v x p
theorem Miss.nil (v x : Int) : Miss v x [] := fun p h => by cases h
theorem Miss.add {v x : Int} {l : List Spot} {p : Spot} (h : Miss v x l) (hp : ¬ spotHit v x p) : Miss v x (l ++ [p]) := fun q hq => by
  rcases List.mem_append.mp hq with h1 | h1
  · exact h q h1
  · rw [List.mem_singleton.mp h1]
    exact hp
theorem spotFind_miss {v x : Int} : ∀ {l : List Spot} (m : List Spot), Miss v x l → spotFind v x (l ++ m) = spotFind v x m
  | [], _, _ => rfl
  | p :: l, m, h => by
    have hp : ¬ (spotFull p = true ∧ p.2.2.2.1 = v ∧ p.2.2.2.2.1 = x) := h p (List.mem_cons_self ..)
    have ht := spotFind_miss (l := l) m (fun q hq => h q (List.mem_cons_of_mem _ hq))
    rw [List.cons_append, spotFind, if_neg hp, ht]
theorem spotFind_hit {v x : Int} {p : Spot} (m : List Spot) (h : spotHit v x p) : spotFind v x (p :: m) = (p.2.2.2.2.2, 0) := if_pos h
theorem shelf_upto_le (k : Nat) (l0 : List ByteArray) (l1 : List S94) (a2 : Int) (a3 : Bool) (m : Nat) : ∀ d, ∃ rest, shelf_upto k l0 l1 a2 a3 (m + d) = shelf_upto k l0 l1 a2 a3 m ++ rest
  | 0 => ⟨[], (List.append_nil _).symm⟩
  | d + 1 => by
    obtain ⟨rest, hr⟩ := shelf_upto_le k l0 l1 a2 a3 m d
    exact ⟨rest ++ [shelf_spot k l0 l1 a2 a3 (m + d)], by rw [show m + (d + 1) = m + d + 1 by omega, shelf_upto_succ, hr, List.append_assoc]⟩
section
attribute [local go_sem] Oper.semAt_some
attribute [local go_sem high] eqA27
set_option maxRecDepth 100000 in
set_option maxHeartbeats 4000000 in
theorem shelf_Find.calls (k : Nat) (A0_0 : Option Addr) (c0_0 : Nat) (l0_0 : List ByteArray) (A0_1 : Option Addr) (c0_1 : Nat) (l0_1 : List (S94)) (a0_2 : Int) (a0_3 : Bool) (a1_0 a1_1 : Int) (r1 : ByteArray) (r2 : Int) (w : World) (hr0_0 : Kd.C Kd.string w A0_0 l0_0.length l0_0) (hc0_0 : l0_0.length ≤ c0_0) (hr0_1 : Kd.C k94 w A0_1 l0_1.length l0_1) (hc0_1 : l0_1.length ≤ c0_1) (h : shelf_Find.f k l0_0 l0_1 a0_2 a0_3 a1_0 a1_1 = some (r1, r2)) :
    Calls Try.prog 18 #[.agg #[.slice A0_0 l0_0.length c0_0, .slice A0_1 l0_1.length c0_1, .int .i64 a0_2, .bool a0_3], .agg #[.int .i64 a1_0, .int .i64 a1_1]] w fun e w' => e = .returned (.tuple #[.string r1, .int .i64 r2]) ∧ Below w.heap.size w w' := by
  have hu25 := Try.underlying25
  have hu75 := Try.underlying75
  have hu27 := Try.underlying27
  obtain ⟨q, hq, h⟩ := Option.bind_eq_some_iff.mp h
  obtain ⟨hw, rfl⟩ := shelf_all_well hq
  have HW := Aside0.mk hw
  have HF := Aside0.mk (Option.some.inj h)
  have HR0 := Aside0.mk hr0_0
  have HR1 := Aside0.mk hr0_1
  have HC0 := Aside0.mk hc0_0
  have HC1 := Aside0.mk hc0_1
  have HL := Aside0.mk (show l0_0.length ≤ 9223372036854775807 from hr0_0.2.1)
  clear h hq hw hr0_0 hr0_1 hc0_0 hc0_1
  refine (callsIn_wide (n := 4)).1 ?_
  refine callsIn_of_wp_marks Try.func18 rfl trivial ?_ rfl
  simp only [Try.ntmps18, List.size_toArray, List.length_cons, List.length_nil, Nat.reduceAdd, Nat.reduceSub, Array.replicate_succ, Array.replicate_zero, List.push_toArray, List.append_toArray, List.nil_append, List.cons_append]
  gi_wp2_with (first | (refine ⟨trivial, ?_⟩; gi_at_call 36; refine (callsIn_wide.2 (shelf_all.calls _ _ _ _ _ _ _ _ _)).mono ?_; rintro e w' ⟨rfl, rfl⟩))
  have hs1 := blk_new w (.cells #[.slice A0_0 l0_0.length c0_0, .slice A0_1 l0_1.length c0_1, .int .i64 a0_2, .bool a0_3] 25)
  have hB1 := (Below.refl w.heap.size w).alloc (Nat.le_refl _) (.cells #[.slice A0_0 l0_0.length c0_0, .slice A0_1 l0_1.length c0_1, .int .i64 a0_2, .bool a0_3] 25)
  generalize hW1 : w.alloc (.cells #[.slice A0_0 l0_0.length c0_0, .slice A0_1 l0_1.length c0_1, .int .i64 a0_2, .bool a0_3] 25) = W1 at *
  have hz1 : W1.heap.size = w.heap.size + 1 := by rw [← hW1]; simp
  rw [← hz1]
  have hs2 := blk_new W1 (.cells #[.int .i64 a1_0, .int .i64 a1_1] 27)
  have hB2 := hB1.alloc hB1.size (.cells #[.int .i64 a1_0, .int .i64 a1_1] 27)
  generalize hW2 : W1.alloc (.cells #[.int .i64 a1_0, .int .i64 a1_1] 27) = W2 at *
  have hz2 : W2.heap.size = W1.heap.size + 1 := by rw [← hW2]; simp
  rw [← hz2]
  have hs3 := blk_new W2 (.cells #[.string ⟨#[]⟩] 9)
  have hk2 := blk_alloc hs2 (.cells #[.string ⟨#[]⟩] 9)
  have hB3 := hB2.alloc hB2.size (.cells #[.string ⟨#[]⟩] 9)
  generalize hW3 : W2.alloc (.cells #[.string ⟨#[]⟩] 9) = W3 at *
  have hz3 : W3.heap.size = W2.heap.size + 1 := by rw [← hW3]; simp
  rw [← hz3]
  have hs4 := blk_new W3 (.cells #[.int .i64 0] 35)
  have hk2 := blk_alloc hk2 (.cells #[.int .i64 0] 35)
  have hk3 := blk_alloc hs3 (.cells #[.int .i64 0] 35)
  have hB4 := hB3.alloc hB3.size (.cells #[.int .i64 0] 35)
  generalize hW4 : W3.alloc (.cells #[.int .i64 0] 35) = W4 at *
  have hz4 : W4.heap.size = W3.heap.size + 1 := by rw [← hW4]; simp
  rw [← hz4]
  have hs5 := blk_new W4 (.cells #[.slice A0_0 l0_0.length c0_0, .slice A0_1 l0_1.length c0_1, .int .i64 a0_2, .bool a0_3] 25)
  have hk2 := blk_alloc hk2 (.cells #[.slice A0_0 l0_0.length c0_0, .slice A0_1 l0_1.length c0_1, .int .i64 a0_2, .bool a0_3] 25)
  have hk3 := blk_alloc hk3 (.cells #[.slice A0_0 l0_0.length c0_0, .slice A0_1 l0_1.length c0_1, .int .i64 a0_2, .bool a0_3] 25)
  have hk4 := blk_alloc hs4 (.cells #[.slice A0_0 l0_0.length c0_0, .slice A0_1 l0_1.length c0_1, .int .i64 a0_2, .bool a0_3] 25)
  have hB5 := hB4.alloc hB4.size (.cells #[.slice A0_0 l0_0.length c0_0, .slice A0_1 l0_1.length c0_1, .int .i64 a0_2, .bool a0_3] 25)
  generalize hW5 : W4.alloc (.cells #[.slice A0_0 l0_0.length c0_0, .slice A0_1 l0_1.length c0_1, .int .i64 a0_2, .bool a0_3] 25) = W5 at *
  have hz5 : W5.heap.size = W4.heap.size + 1 := by rw [← hW5]; simp
  clear hW1 hW2 hW3 hW4 hW5
  generalize W1.heap.size = g1 at *
  generalize W2.heap.size = g2 at *
  generalize W3.heap.size = g3 at *
  generalize W4.heap.size = g4 at *
  have HB5 := Aside0.mk hB5
  have HZ := Aside0.mk (show w.heap.size ≤ g1 ∧ w.heap.size ≤ W5.heap.size ∧ g4 < W5.heap.size ∧ g1 < g2 ∧ g2 < g3 ∧ g3 < g4 ∧ w.heap.size ≤ g2 ∧ w.heap.size ≤ g3 by omega)
  clear hz1 hz2 hz3 hz4 hz5 hB5 hs1
  have h1 : 1 ≤ 4 := by omega
  refine wpIn_rangeFunc_ownH rfl h1 (gf := 55) (lb := #[.pointer (some ⟨g4, 0, none⟩)]) rfl trivial (enters_of Try.func55 (by kernel_rfl) rfl)
    (shelf_stops k l0_0 l0_1 a0_2 a0_3 HW.out 3 (by omega) w.heap.size g4 c0_0 c0_1 A0_0 A0_1 W5 HZ.out.2.1 hs5 (fun W' h => Kd.C_below HR0.out (HB5.out.trans h)) HC0.out (fun W' h => Kd.C_below HR1.out (HB5.out.trans h)) HC1.out HL.out)
    keepsToo_t (keepsToo_b HZ.out.2.1 HZ.out.2.2.1) (Below.refl _ _) (fun _ => rfl)
    (fun pre W => (Miss a1_0 a1_1 pre ∧ W.heap[g1]? = some (.cells #[.int .i64 a1_0, .int .i64 a1_1] 27 (0, 0)) ∧ W.heap[g2]? = some (.cells #[.string ⟨#[]⟩] 9 (0, 0)) ∧ W.heap[g3]? = some (.cells #[.int .i64 0] 35 (0, 0)) ∧ g4 < W.heap.size) ∧ Below w.heap.size w W)
    (fun c pre W => (c = .ret ∧ (∃ ini p, pre = ini ++ [p] ∧ Miss a1_0 a1_1 ini ∧ spotHit a1_0 a1_1 p ∧ W.heap[g2]? = some (.cells #[.string p.2.2.2.2.2] 9 (0, 0))) ∧ W.heap[g3]? = some (.cells #[.int .i64 0] 35 (0, 0))) ∧ Below w.heap.size w W)
    (OwnFrom.and (fun s A B row hs hg hr => ⟨hs.1, blk_kept hs.2.1 hg hr, blk_kept hs.2.2.1 hg hr, blk_kept hs.2.2.2.1 hg hr, Nat.lt_of_lt_of_le hs.2.2.2.2 hg.size⟩) (ownFrom_below (Nat.le_refl _) HZ.out.2.1))
    (fun c => OwnFrom.and (fun s A B row hs hg hr => ⟨hs.1, by obtain ⟨ini, p, a, b, d, e⟩ := hs.2.1; exact ⟨ini, p, a, b, d, blk_kept e hg hr⟩, blk_kept hs.2.2 hg hr⟩) (ownFrom_below (Nat.le_refl _) HZ.out.2.1))
    ⟨⟨Miss.nil _ _, hk2, hk3, hk4, HZ.out.2.2.1⟩, HB5.out⟩
    (fun x a' W => ∃ gx, g4 < gx ∧ W.heap[gx]? = some (.cells #[.int .i64 x.1, .bool x.2.1, .bool x.2.2.1, .int .i64 x.2.2.2.1, .int .i64 x.2.2.2.2.1, .string x.2.2.2.2.2] 75 (0, 0)) ∧ a' = { tmps := #[.agg #[.slice A0_0 l0_0.length c0_0, .slice A0_1 l0_1.length c0_1, .int .i64 a0_2, .bool a0_3], .agg #[.int .i64 a1_0, .int .i64 a1_1], .pointer (some ⟨w.heap.size, 0, none⟩), .pointer (some ⟨g1, 0, none⟩), .pointer (some ⟨g2, 0, none⟩), .pointer (some ⟨g3, 0, none⟩), .pointer (some ⟨gx, 0, none⟩), .agg #[.slice A0_0 l0_0.length c0_0, .slice A0_1 l0_1.length c0_1, .int .i64 a0_2, .bool a0_3], .func (.func 55) #[] #[.pointer (some ⟨g4, 0, none⟩)], spotVal x, undef, undef, undef, undef, undef, undef, undef, undef, undef, undef], defers := [] })
    (fun x a' s A B row hs hg hr => by obtain ⟨gx, h1, h2, h3⟩ := hs; exact ⟨gx, h1, blk_kept h2 hg hr, h3⟩) ?assign ?body ?done ?stop
  case assign =>
    rintro l pre x W K ⟨⟨i0, i1, i2, i3, i4⟩, iB⟩ hK
    have I0 := Aside0.mk i0
    have I1 := Aside0.mk i1
    have I2 := Aside0.mk i2
    have I3 := Aside0.mk i3
    have I4 := Aside0.mk i4
    have IB := Aside0.mk iB
    have HK := Aside0.mk hK
    clear i0 i1 i2 i3 i4 iB hK
    dsimp only [spotVal]
    gi_wp2
    refine HK.out _ _ ((KeepsOthers.alloc _ _).from _) (keepsToo.new _ IB.out.size I4.out) ⟨⟨I0.out, blk_alloc I1.out _, blk_alloc I2.out _, blk_alloc I3.out _, ?_⟩, IB.out.alloc IB.out.size _⟩ ⟨W.heap.size, I4.out, blk_new _ _, rfl⟩
    have := I4.out
    simp
    omega
  case body =>
    rintro l pre x a' W hl ⟨r, hr⟩ ⟨⟨i0, i1, i2, i3, i4⟩, iB⟩ ⟨gx, h5x, iX, rfl⟩ hlen
    have I0 := Aside0.mk i0
    have I1 := Aside0.mk i1
    have I2 := Aside0.mk i2
    have I3 := Aside0.mk i3
    have I4 := Aside0.mk i4
    have IB := Aside0.mk iB
    have IX := Aside0.mk iX
    have H5 := Aside0.mk h5x
    clear i0 i1 i2 i3 i4 iB iX h5x hr hl hlen
    obtain ⟨x0, x1, x2, x3, x4, x5⟩ := x
    have HFl : Aside0 (shelf_spot_full.f x0 x1 x2 x3 x4 x5 = some (spotFull (x0, x1, x2, x3, x4, x5))) := ⟨by unfold shelf_spot_full.f spotFull; cases x1 <;> rfl⟩
    have HH := Aside0.mk (show spotHit a1_0 a1_1 (x0, x1, x2, x3, x4, x5) ↔ spotFull (x0, x1, x2, x3, x4, x5) = true ∧ x3 = a1_0 ∧ x4 = a1_1 from Iff.rfl)
    have z0 : W.cell? ⟨gx, 0, none⟩ = some (.int .i64 x0) := (blk_cell IX.out 0).trans rfl
    have z1 : W.cell? ⟨gx, 1, none⟩ = some (.bool x1) := (blk_cell IX.out 1).trans rfl
    have z2 : W.cell? ⟨gx, 2, none⟩ = some (.bool x2) := (blk_cell IX.out 2).trans rfl
    have z3 : W.cell? ⟨gx, 3, none⟩ = some (.int .i64 x3) := (blk_cell IX.out 3).trans rfl
    have z4 : W.cell? ⟨gx, 4, none⟩ = some (.int .i64 x4) := (blk_cell IX.out 4).trans rfl
    have z5 : W.cell? ⟨gx, 5, none⟩ = some (.string x5) := (blk_cell IX.out 5).trans rfl
    generalize spotFull (x0, x1, x2, x3, x4, x5) = b at *
    cases b with
    | false =>
      gi_wp2_with (refine ⟨trivial, ?_⟩; gi_at_call 37; refine (callsIn_wide.2 (shelf_spot_full.calls x0 x1 x2 x3 x4 x5 false _ HFl.out)).mono ?_; rintro e w5 ⟨rfl, hb⟩; have HB5' := Aside0.mk hb; clear hb)
      refine ⟨keepsFrom_below HB5'.out, ⟨HB5'.out.mono IB.out.size, HB5'.out.block _ I4.out⟩, ⟨⟨I0.out.add (fun h => ?_), (HB5'.out.block g1 (blk_lt I1.out)).trans I1.out, (HB5'.out.block g2 (blk_lt I2.out)).trans I2.out, (HB5'.out.block g3 (blk_lt I3.out)).trans I3.out, Nat.lt_of_lt_of_le I4.out HB5'.out.size⟩, IB.out.trans (HB5'.out.mono IB.out.size)⟩⟩
      have := (HH.out.mp h).1
      cases this
    | true =>
      have n23 : g2 ≠ g3 := by have := HZ.out; omega
      have n32 : g3 ≠ g2 := fun e => n23 e.symm
      by_cases e3 : x3 = a1_0
      · have d3 : (x3 == a1_0) = true := beq_iff_eq.mpr e3
        by_cases e4 : x4 = a1_1
        · have d4 : (x4 == a1_1) = true := beq_iff_eq.mpr e4
          have HHit := Aside0.mk (HH.out.mpr ⟨rfl, e3, e4⟩)
          clear e3 e4
          gi_wp2_with (refine ⟨trivial, ?_⟩; gi_at_call 37; refine (callsIn_wide.2 (shelf_spot_full.calls x0 x1 x2 x3 x4 x5 true _ HFl.out)).mono ?_; rintro e w5 ⟨rfl, hb⟩; have HB5' := Aside0.mk hb; clear hb; have IX5 := Aside0.mk ((HB5'.out.block gx (blk_lt IX.out)).trans IX.out); have J1 := Aside0.mk ((HB5'.out.block g1 (blk_lt I1.out)).trans I1.out); have J2 := Aside0.mk ((HB5'.out.block g2 (blk_lt I2.out)).trans I2.out); have J3 := Aside0.mk ((HB5'.out.block g3 (blk_lt I3.out)).trans I3.out); have q3 : w5.cell? ⟨gx, 3, none⟩ = some (.int .i64 x3) := (blk_cell IX5.out 3).trans rfl; have q4 : w5.cell? ⟨gx, 4, none⟩ = some (.int .i64 x4) := (blk_cell IX5.out 4).trans rfl; have q5 : w5.cell? ⟨gx, 5, none⟩ = some (.string x5) := (blk_cell IX5.out 5).trans rfl; have k0 : w5.cell? ⟨g1, 0, none⟩ = some (.int .i64 a1_0) := (blk_cell J1.out 0).trans rfl; have k1 : w5.cell? ⟨g1, 1, none⟩ = some (.int .i64 a1_1) := (blk_cell J1.out 1).trans rfl; have f2 := blk_frozen J2.out 0; have f3 := blk_frozen J3.out 0; have c2 : w5.cell? ⟨g2, 0, none⟩ = some (.string ⟨#[]⟩) := (blk_cell J2.out 0).trans rfl; have c3 : w5.cell? ⟨g3, 0, none⟩ = some (.int .i64 0) := (blk_cell J3.out 0).trans rfl)
          refine ⟨(keepsFrom_below HB5'.out).trans (((KeepsOthers.setCell _ _ _).trans (KeepsOthers.setCell _ _ _)).from _), ⟨rfl, ⟨pre, (x0, x1, x2, x3, x4, x5), rfl, I0.out, HHit.out, ?_⟩, ?_⟩, ?_⟩
          · exact blk_far (blk_put J2.out 0 _ rfl) n23 _
          · exact blk_put (blk_far J3.out n32 _) 0 _ rfl
          · exact ((IB.out.trans (HB5'.out.mono IB.out.size)).setCell HZ.out.2.2.2.2.2.2.1 _).setCell HZ.out.2.2.2.2.2.2.2 _
        · have d4 : (x4 == a1_1) = false := beq_eq_false_iff_ne.mpr e4
          have HN := Aside0.mk e4
          clear e3 e4
          gi_wp2_with (refine ⟨trivial, ?_⟩; gi_at_call 37; refine (callsIn_wide.2 (shelf_spot_full.calls x0 x1 x2 x3 x4 x5 true _ HFl.out)).mono ?_; rintro e w5 ⟨rfl, hb⟩; have HB5' := Aside0.mk hb; clear hb; have IX5 := Aside0.mk ((HB5'.out.block gx (blk_lt IX.out)).trans IX.out); have J1 := Aside0.mk ((HB5'.out.block g1 (blk_lt I1.out)).trans I1.out); have J2 := Aside0.mk ((HB5'.out.block g2 (blk_lt I2.out)).trans I2.out); have J3 := Aside0.mk ((HB5'.out.block g3 (blk_lt I3.out)).trans I3.out); have q3 : w5.cell? ⟨gx, 3, none⟩ = some (.int .i64 x3) := (blk_cell IX5.out 3).trans rfl; have q4 : w5.cell? ⟨gx, 4, none⟩ = some (.int .i64 x4) := (blk_cell IX5.out 4).trans rfl; have q5 : w5.cell? ⟨gx, 5, none⟩ = some (.string x5) := (blk_cell IX5.out 5).trans rfl; have k0 : w5.cell? ⟨g1, 0, none⟩ = some (.int .i64 a1_0) := (blk_cell J1.out 0).trans rfl; have k1 : w5.cell? ⟨g1, 1, none⟩ = some (.int .i64 a1_1) := (blk_cell J1.out 1).trans rfl; have f2 := blk_frozen J2.out 0; have f3 := blk_frozen J3.out 0; have c2 : w5.cell? ⟨g2, 0, none⟩ = some (.string ⟨#[]⟩) := (blk_cell J2.out 0).trans rfl; have c3 : w5.cell? ⟨g3, 0, none⟩ = some (.int .i64 0) := (blk_cell J3.out 0).trans rfl)
          refine ⟨keepsFrom_below HB5'.out, ⟨HB5'.out.mono IB.out.size, HB5'.out.block _ I4.out⟩, ⟨⟨I0.out.add (fun h => ?_), (HB5'.out.block g1 (blk_lt I1.out)).trans I1.out, (HB5'.out.block g2 (blk_lt I2.out)).trans I2.out, (HB5'.out.block g3 (blk_lt I3.out)).trans I3.out, Nat.lt_of_lt_of_le I4.out HB5'.out.size⟩, IB.out.trans (HB5'.out.mono IB.out.size)⟩⟩
          exact HN.out (HH.out.mp h).2.2
      · have d3 : (x3 == a1_0) = false := beq_eq_false_iff_ne.mpr e3
        have HN := Aside0.mk e3
        clear e3
        gi_wp2_with (refine ⟨trivial, ?_⟩; gi_at_call 37; refine (callsIn_wide.2 (shelf_spot_full.calls x0 x1 x2 x3 x4 x5 true _ HFl.out)).mono ?_; rintro e w5 ⟨rfl, hb⟩; have HB5' := Aside0.mk hb; clear hb; have IX5 := Aside0.mk ((HB5'.out.block gx (blk_lt IX.out)).trans IX.out); have J1 := Aside0.mk ((HB5'.out.block g1 (blk_lt I1.out)).trans I1.out); have J2 := Aside0.mk ((HB5'.out.block g2 (blk_lt I2.out)).trans I2.out); have J3 := Aside0.mk ((HB5'.out.block g3 (blk_lt I3.out)).trans I3.out); have q3 : w5.cell? ⟨gx, 3, none⟩ = some (.int .i64 x3) := (blk_cell IX5.out 3).trans rfl; have q4 : w5.cell? ⟨gx, 4, none⟩ = some (.int .i64 x4) := (blk_cell IX5.out 4).trans rfl; have q5 : w5.cell? ⟨gx, 5, none⟩ = some (.string x5) := (blk_cell IX5.out 5).trans rfl; have k0 : w5.cell? ⟨g1, 0, none⟩ = some (.int .i64 a1_0) := (blk_cell J1.out 0).trans rfl; have k1 : w5.cell? ⟨g1, 1, none⟩ = some (.int .i64 a1_1) := (blk_cell J1.out 1).trans rfl; have f2 := blk_frozen J2.out 0; have f3 := blk_frozen J3.out 0; have c2 : w5.cell? ⟨g2, 0, none⟩ = some (.string ⟨#[]⟩) := (blk_cell J2.out 0).trans rfl; have c3 : w5.cell? ⟨g3, 0, none⟩ = some (.int .i64 0) := (blk_cell J3.out 0).trans rfl)
        refine ⟨keepsFrom_below HB5'.out, ⟨HB5'.out.mono IB.out.size, HB5'.out.block _ I4.out⟩, ⟨⟨I0.out.add (fun h => ?_), (HB5'.out.block g1 (blk_lt I1.out)).trans I1.out, (HB5'.out.block g2 (blk_lt I2.out)).trans I2.out, (HB5'.out.block g3 (blk_lt I3.out)).trans I3.out, Nat.lt_of_lt_of_le I4.out HB5'.out.size⟩, IB.out.trans (HB5'.out.mono IB.out.size)⟩⟩
        exact HN.out (HH.out.mp h).2.1
  case done =>
    rintro D ys W hD rfl ⟨⟨i0, i1, i2, i3, i4⟩, iB⟩ hK
    have I0 := Aside0.mk i0
    have I2 := Aside0.mk i2
    have I3 := Aside0.mk i3
    have IB := Aside0.mk iB
    have hq := HF.out
    have hm := spotFind_miss [] i0
    rw [List.append_nil] at hm
    rw [hm] at hq
    obtain ⟨rfl, rfl⟩ := Prod.mk.inj hq
    clear i0 i1 i2 i3 i4 iB hq hm
    have HK := Aside0.mk hK
    clear hK
    have f2 := blk_frozen I2.out 0
    have f3 := blk_frozen I3.out 0
    have c2 : W.cell? ⟨g2, 0, none⟩ = some (.string ⟨#[]⟩) := (blk_cell I2.out 0).trans rfl
    have c3 : W.cell? ⟨g3, 0, none⟩ = some (.int .i64 0) := (blk_cell I3.out 0).trans rfl
    have n23 : g2 ≠ g3 := by have := HZ.out; omega
    gi_wp2
    have HK9 := Aside0.mk ((((KeepsOthers.setCell W ⟨g2, 0, none⟩ (.string ⟨#[]⟩)).trans (KeepsOthers.setCell _ ⟨g3, 0, none⟩ (.int .i64 7)))).same D _ HK.out rfl)
    have J2 := Aside0.mk (blk_far (blk_put I2.out 0 (.string ⟨#[]⟩) rfl) (p := ⟨g3, 0, none⟩) n23 (.int .i64 7))
    have J3 := Aside0.mk (blk_put (blk_far I3.out (p := ⟨g2, 0, none⟩) (fun e => n23 e.symm) (.string ⟨#[]⟩)) 0 (.int .i64 7) rfl)
    have HBB := Aside0.mk ((IB.out.setCell (p := ⟨g2, 0, none⟩) HZ.out.2.2.2.2.2.2.1 (.string ⟨#[]⟩)).setCell (p := ⟨g3, 0, none⟩) HZ.out.2.2.2.2.2.2.2 (.int .i64 7))
    clear c2 c3 f2 f3 I2 I3
    generalize (W.setCell ⟨g2, 0, none⟩ (.string ⟨#[]⟩)).setCell ⟨g3, 0, none⟩ (.int .i64 7) = W9 at *
    refine ⟨by simp, .inl ⟨_, _, rfl, run_takeDeferred HK9.out, ?_⟩⟩
    have hD := Aside0.mk hD
    have b2 := blk_cell ((World.putObj_heap_other (w := W9) (r := D) (o := .deferred none) (show g2 ≠ D by have := HZ.out; have := hD.out; omega)).trans J2.out) 0
    have b3 := blk_cell ((World.putObj_heap_other (w := W9) (r := D) (o := .deferred none) (show g3 ≠ D by have := HZ.out; have := hD.out; omega)).trans J3.out) 0
    refine ⟨.tuple #[.string ⟨#[]⟩, .int .i64 7], ?_, rfl, ?_⟩
    · skip
      simp [results, Try.f18, go_sem, b2, b3]
    · exact HBB.out.trans (belowK_b (w := w) (Nat.le_refl _) W9 D _ _ (Nat.le_trans HZ.out.2.1 hD.out) HK9.out rfl rfl)
  case stop =>
    rintro D c pre W hD ⟨m, hm, hpre⟩ ⟨⟨rfl, ⟨ini, p, rfl, hmi, hhit, i2⟩, i3⟩, iB⟩ hK
    obtain ⟨rest, hr⟩ := shelf_upto_le k l0_0 l0_1 a0_2 a0_3 m (l0_0.length - m)
    rw [show m + (l0_0.length - m) = l0_0.length by omega, ← hpre, List.append_assoc] at hr
    have hq := HF.out
    rw [hr, spotFind_miss _ hmi, List.singleton_append, spotFind_hit _ hhit] at hq
    obtain ⟨rfl, rfl⟩ := Prod.mk.inj hq
    have I2 := Aside0.mk i2
    have I3 := Aside0.mk i3
    have IB := Aside0.mk iB
    have HK := Aside0.mk hK
    clear i2 i3 iB hK hq hr hmi hhit
    have c2 : W.cell? ⟨g2, 0, none⟩ = some (.string p.2.2.2.2.2) := (blk_cell I2.out 0).trans rfl
    have c3 : W.cell? ⟨g3, 0, none⟩ = some (.int .i64 0) := (blk_cell I3.out 0).trans rfl
    gi_wp2
    have HK9 := HK
    have J2 := I2
    have J3 := I3
    have HBB := IB
    clear c2 c3
    refine ⟨by simp, .inl ⟨_, _, rfl, run_takeDeferred HK9.out, ?_⟩⟩
    have hD := Aside0.mk hD
    have b2 := blk_cell ((World.putObj_heap_other (w := W) (r := D) (o := .deferred none) (show g2 ≠ D by have := HZ.out; have := hD.out; omega)).trans J2.out) 0
    have b3 := blk_cell ((World.putObj_heap_other (w := W) (r := D) (o := .deferred none) (show g3 ≠ D by have := HZ.out; have := hD.out; omega)).trans J3.out) 0
    refine ⟨.tuple #[.string p.2.2.2.2.2, .int .i64 0], ?_, rfl, ?_⟩
    · skip
      simp [results, Try.f18, go_sem, b2, b3]
    · exact HBB.out.trans (belowK_b (w := w) (Nat.le_refl _) W D _ _ (Nat.le_trans HZ.out.2.1 hD.out) HK9.out rfl rfl)
end

end Go.Proofs.Ytffjbbedjddpmaa.PAll
