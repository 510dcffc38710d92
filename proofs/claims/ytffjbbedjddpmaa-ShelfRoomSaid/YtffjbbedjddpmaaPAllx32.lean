/- Functions of the program as plain Lean functions, and that each call comes to what they say. Laid by a program of this session (hprint.py); Lean checks it. -/
import Derived.Test.YtffjbbedjddpmaaPAllx0
import Derived.Test.YtffjbbedjddpmaaShelfIter
namespace Go.Proofs.Ytffjbbedjddpmaa.PAll
open Go.RowKit Go.Proofs.YtffjbbedjddpmaaW.PrintWords Go.Proofs.YtffjbbedjddpmaaW.PrintLast Go.Proofs.YtffjbbedjddpmaaW.PrintMore
attribute [local go_sem] max2_int min2_int max_two min_two max_three min_three max_four min_four   -- for this text's walks alone
set_option linter.unusedVariables false
set_option linter.unusedSimpArgs false
attribute [local irreducible] World.setCell

/-! ### shelf_Bad: function 16 -/
-- IMPORT Derived.Test.YtffjbbedjddpmaaShelfIter
def shelf_Bad.f (k : Nat) (l0_0 : List ByteArray) (l0_1 : List S94) (a0_2 : Int) (a0_3 : Bool) : Option (List Int) := if l0_0.length ≤ 17592186044416 then (shelf_go k l0_0 l0_1 a0_2 a0_3 l0_0.length 0).bind fun l => some ((l.filter (·.2.2.1)).map (·.1)) else none
theorem shelf_Bad.mono : ∀ l0_0 l0_1 a0_2 a0_3 k, LeO (shelf_Bad.f k l0_0 l0_1 a0_2 a0_3) (shelf_Bad.f (k + 1) l0_0 l0_1 a0_2 a0_3) := fun l0 l1 a2 a3 k => LeO.ite (LeO.bind (shelf_go_mono k l0 l1 a2 a3 _ _) (fun _ => LeO.refl _)) (LeO.refl _)
/-- The bad slots. -/
def badOf (l : List Spot) : List Int := (l.filter (·.2.2.1)).map (·.1)
theorem badOf_add (l : List Spot) (x : Spot) : badOf (l ++ [x]) = badOf l ++ (if x.2.2.1 = true then [x.1] else []) := by
  unfold badOf
  rw [List.filter_append, List.map_append, List.filter_cons, List.filter_nil]
  split <;> rfl
theorem badOf_len (l : List Spot) : (badOf l).length ≤ l.length := by
  unfold badOf
  rw [List.length_map]
  exact List.length_filter_le _ _
/-- The box holds a slice that owns the bad slots. -/
def badHolds (n₀ B : Nat) (pre : List Spot) (W : World) : Prop := ∃ v, Boxed W B 33 v ∧ W.ownsRow n₀ 3 1 v (badOf pre).length ((badOf pre).map (fun x => Value.int .i64 x)) ∧ True
theorem badHolds_own (n₀ B : Nat) : Own (badHolds n₀ B) := holdsRow_own n₀ B 33 3 1 (fun pre => (badOf pre).length) (fun pre => (badOf pre).map (fun x => Value.int .i64 x)) (fun _ _ => True)
section
attribute [local go_sem] Oper.semAt_some
set_option maxRecDepth 100000 in
set_option maxHeartbeats 4000000 in
theorem shelf_Bad.calls (k : Nat) (A0_0 : Option Addr) (c0_0 : Nat) (l0_0 : List ByteArray) (A0_1 : Option Addr) (c0_1 : Nat) (l0_1 : List (S94)) (a0_2 : Int) (a0_3 : Bool) (r : List Int) (w : World) (hr0_0 : Kd.C Kd.string w A0_0 l0_0.length l0_0) (hc0_0 : l0_0.length ≤ c0_0) (hr0_1 : Kd.C k94 w A0_1 l0_1.length l0_1) (hc0_1 : l0_1.length ≤ c0_1) (h : shelf_Bad.f k l0_0 l0_1 a0_2 a0_3 = some r) :
    Calls Try.prog 16 #[.agg #[.slice A0_0 l0_0.length c0_0, .slice A0_1 l0_1.length c0_1, .int .i64 a0_2, .bool a0_3]] w fun e w' => ∃ v0_ : Value, e = .returned v0_ ∧ Kd.R (Kd.int .i64) 3 w' w.heap.size (fun _ => True) v0_ r ∧ Below w.heap.size w w' := by
  have hu25 := Try.underlying25
  have hu75 := Try.underlying75
  unfold shelf_Bad.f at h
  have hg : l0_0.length ≤ 17592186044416 := Decidable.byContradiction fun hg => by
    rw [if_neg hg] at h
    cases h
  rw [if_pos hg] at h
  have HG := Aside0.mk hg
  clear hg
  obtain ⟨q, hq, h⟩ := Option.bind_eq_some_iff.mp h
  obtain ⟨hw, rfl⟩ := shelf_all_well hq
  have HW := Aside0.mk hw
  have HF := Aside0.mk (Option.some.inj h)
  have HR0 := Aside0.mk hr0_0
  have HR1 := Aside0.mk hr0_1
  have HC0 := Aside0.mk hc0_0
  have HC1 := Aside0.mk hc0_1
  have HL := Aside0.mk (show l0_0.length ≤ 9223372036854775807 from hr0_0.2.1)
  clear h hq hw hr0_0 hr0_1 hc0_0 hc0_1
  refine (callsIn_wide (n := 4)).1 ?_
  refine callsIn_of_wp_marks Try.func16 rfl trivial ?_ rfl
  simp only [Try.ntmps16, List.size_toArray, List.length_cons, List.length_nil, Nat.reduceAdd, Nat.reduceSub, Array.replicate_succ, Array.replicate_zero, List.push_toArray, List.append_toArray, List.nil_append, List.cons_append]
  gi_wp2_with (first | (refine ⟨trivial, ?_⟩; gi_at_call 36; refine (callsIn_wide.2 (shelf_all.calls _ _ _ _ _ _ _ _ _)).mono ?_; rintro e w' ⟨rfl, rfl⟩))
  have hs1 := blk_new w (.cells #[.slice A0_0 l0_0.length c0_0, .slice A0_1 l0_1.length c0_1, .int .i64 a0_2, .bool a0_3] 25)
  have hB1 := (Below.refl w.heap.size w).alloc (Nat.le_refl _) (.cells #[.slice A0_0 l0_0.length c0_0, .slice A0_1 l0_1.length c0_1, .int .i64 a0_2, .bool a0_3] 25)
  generalize hW1 : w.alloc (.cells #[.slice A0_0 l0_0.length c0_0, .slice A0_1 l0_1.length c0_1, .int .i64 a0_2, .bool a0_3] 25) = W1 at *
  have hz1 : W1.heap.size = w.heap.size + 1 := by rw [← hW1]; simp
  rw [← hz1]
  have hs2 := blk_new W1 (.cells #[.slice none 0 0] 33)
  have hB2 := hB1.alloc hB1.size (.cells #[.slice none 0 0] 33)
  generalize hW2 : W1.alloc (.cells #[.slice none 0 0] 33) = W2 at *
  have hz2 : W2.heap.size = W1.heap.size + 1 := by rw [← hW2]; simp
  rw [← hz2]
  have hs3 := blk_new W2 (.cells #[.slice A0_0 l0_0.length c0_0, .slice A0_1 l0_1.length c0_1, .int .i64 a0_2, .bool a0_3] 25)
  have hs23 := blk_alloc hs2 (.cells #[.slice A0_0 l0_0.length c0_0, .slice A0_1 l0_1.length c0_1, .int .i64 a0_2, .bool a0_3] 25)
  have hB3 := hB2.alloc hB2.size (.cells #[.slice A0_0 l0_0.length c0_0, .slice A0_1 l0_1.length c0_1, .int .i64 a0_2, .bool a0_3] 25)
  generalize hW3 : W2.alloc (.cells #[.slice A0_0 l0_0.length c0_0, .slice A0_1 l0_1.length c0_1, .int .i64 a0_2, .bool a0_3] 25) = W3 at *
  have hz3 : W3.heap.size = W2.heap.size + 1 := by rw [← hW3]; simp
  clear hW1 hW2 hW3 hs1 hs2 hB1 hB2
  generalize W1.heap.size = g1 at *
  generalize W2.heap.size = g5 at *
  have HB3 := Aside0.mk hB3
  have HZ := Aside0.mk (show w.heap.size ≤ g1 ∧ w.heap.size ≤ W3.heap.size ∧ g5 < W3.heap.size ∧ g1 < g5 by omega)
  clear hz1 hz2 hz3 hB3
  have h1 : 1 ≤ 4 := by omega
  refine wpIn_rangeFunc_ownH rfl h1 (gf := 55) (lb := #[.pointer (some ⟨g5, 0, none⟩)]) rfl trivial (enters_of Try.func55 (by kernel_rfl) rfl)
    (shelf_stops k l0_0 l0_1 a0_2 a0_3 HW.out 3 (by omega) w.heap.size g5 c0_0 c0_1 A0_0 A0_1 W3 HZ.out.2.1 hs3 (fun W' h => Kd.C_below HR0.out (HB3.out.trans h)) HC0.out (fun W' h => Kd.C_below HR1.out (HB3.out.trans h)) HC1.out HL.out)
    keepsToo_t (keepsToo_b HZ.out.2.1 HZ.out.2.2.1) (Below.refl _ _) (fun _ => rfl)
    (fun pre W => (badHolds w.heap.size g1 pre W ∧ W.heap[g5]? = some (.cells #[.slice A0_0 l0_0.length c0_0, .slice A0_1 l0_1.length c0_1, .int .i64 a0_2, .bool a0_3] 25 (0, 0))) ∧ Below w.heap.size w W)
    (fun _ _ _ => False)
    (OwnFrom.and (OwnFrom.and ((badHolds_own w.heap.size g1).from _) (fun s A B row hs hg hr => blk_kept hs hg hr)) (ownFrom_below (Nat.le_refl _) HZ.out.2.1))
    (fun _ _ _ _ _ hs _ _ => hs)
    ⟨⟨⟨_, hs23, World.ownsRow_nil _ _ _ _, trivial⟩, hs3⟩, HB3.out⟩
    (fun x a' W => ∃ gx, g5 < gx ∧ W.heap[gx]? = some (.cells #[.int .i64 x.1, .bool x.2.1, .bool x.2.2.1, .int .i64 x.2.2.2.1, .int .i64 x.2.2.2.2.1, .string x.2.2.2.2.2] 75 (0, 0)) ∧ a' = { tmps := #[.agg #[.slice A0_0 l0_0.length c0_0, .slice A0_1 l0_1.length c0_1, .int .i64 a0_2, .bool a0_3], .pointer (some ⟨w.heap.size, 0, none⟩), .slice none 0 0, .pointer (some ⟨g1, 0, none⟩), .pointer (some ⟨gx, 0, none⟩), .agg #[.slice A0_0 l0_0.length c0_0, .slice A0_1 l0_1.length c0_1, .int .i64 a0_2, .bool a0_3], .func (.func 55) #[] #[.pointer (some ⟨g5, 0, none⟩)], spotVal x, undef, undef, undef, undef, undef, undef, undef, undef], defers := [] })
    (fun x a' s A B row hs hg hr => by obtain ⟨gx, h1, h2, h3⟩ := hs; exact ⟨gx, h1, blk_kept h2 hg hr, h3⟩) ?assign ?body ?done ?stop
  case assign =>
    rintro l pre x W K ⟨⟨⟨v, i1, i2, _⟩, i4⟩, iB⟩ hK
    have I1 := Aside0.mk i1
    have I2 := Aside0.mk i2
    have I4 := Aside0.mk i4
    have IB := Aside0.mk iB
    have HK := Aside0.mk hK
    clear i1 i2 i4 iB hK
    dsimp only [spotVal]
    gi_wp2
    refine HK.out _ _ ((KeepsOthers.alloc _ _).from _) (keepsToo.new _ IB.out.size (blk_lt I4.out)) ⟨⟨⟨v, I1.out.alloc _, I2.out.alloc _, trivial⟩, blk_alloc I4.out _⟩, IB.out.alloc IB.out.size _⟩ ⟨W.heap.size, blk_lt I4.out, blk_new _ _, rfl⟩
  case body =>
    rintro l pre x a' W hl ⟨r, hr⟩ ⟨⟨⟨v, i1, i2, _⟩, i4⟩, iB⟩ ⟨gx, h5x, iX, rfl⟩ hlen
    have I1 := Aside0.mk i1
    have I2 := Aside0.mk i2
    have I4 := Aside0.mk i4
    have IB := Aside0.mk iB
    have IX := Aside0.mk iX
    have H5 := Aside0.mk h5x
    have HFo := Aside0.mk (badOf_add pre x)
    have HQ := Aside0.mk (show (badOf pre).length < 140737488355328 / 8 by have := badOf_len pre; have := HG.out; omega)
    clear i1 i2 i4 iB iX h5x hr hl hlen
    obtain ⟨x0, x1, x2, x3, x4, x5⟩ := x
    simp only at HFo
    have z0 : W.cell? ⟨gx, 0, none⟩ = some (.int .i64 x0) := (blk_cell IX.out 0).trans rfl
    have z2 : W.cell? ⟨gx, 2, none⟩ = some (.bool x2) := (blk_cell IX.out 2).trans rfl
    have y0 := I1.out.cell
    have f0 := I1.out.frozen
    obtain ⟨i0, hi, hz0, hz1, hz2⟩ := info_parts info3
    have HI := Aside0.mk (And.intro hi (And.intro hz0 (And.intro hz1 hz2)))
    clear hi hz0 hz1 hz2
    cases x2 with
    | true =>
      rw [if_pos rfl] at HFo
      gi_wp2_with (gi_at_builtin; refine wpListIn_append_own _ rfl _ _ 33 rfl w.heap.size 3 i0 (.int .i64 0) 1 8 Try.underlying33 HI.out.1 HI.out.2.1 HI.out.2.2.1 HI.out.2.2.2 rfl (by decide) _ _ _ rfl (I2.out.alloc _) ⟨W.heap.size, 0, none⟩ 1 1 [.int .i64 x0] rfl rfl (cell_one_new _ _ _) (by simp [Value.oneCell']) (by have := HQ.out; unfold maxLen; omega) (by have := HQ.out; omega) (by have := IB.out.size; simp; omega) ?_; intro v' w1 hown' hgrow _; obtain ⟨g', cap', rfl⟩ := ownsRow_succ hown'; obtain ⟨hv1, hv2, hr2, hk2, hb2⟩ := I1.out.appended (by decide) I2.out IB.out.size HZ.out.1 hown' hgrow; have hd1 := Aside0.mk (blk_row_kept I4.out (by decide) I2.out hgrow); have hown2 := Aside0.mk hown'; clear hown' hgrow; have hv2' := Aside0.mk hv2; have hr2' := Aside0.mk hr2; have hk2' := Aside0.mk hk2; have hb2' := Aside0.mk hb2; clear hv2 hr2 hk2 hb2; have hc1 := hv1.cell; have hf1 := hv1.frozen)
      refine ⟨hk2'.out.from _, ⟨hb2'.out, ?_⟩, ⟨⟨⟨_, hv2'.out, ?_, trivial⟩, ?_⟩, IB.out.trans hb2'.out⟩⟩
      · exact ((Below.heap_setCell _ _ _ g5 (by have := HZ.out; show g5 ≠ g1; omega)).trans hd1.out).trans I4.out.symm
      · rw [HFo.out, List.length_append, List.map_append]
        exact hr2'.out
      · exact (Below.heap_setCell _ _ _ g5 (by have := HZ.out; show g5 ≠ g1; omega)).trans hd1.out
    | false =>
      rw [if_neg (by decide), List.append_nil] at HFo
      gi_wp2
      refine ⟨KeepsFrom.refl _ _, keepsToo.refl _ _ _, ⟨⟨⟨v, I1.out, ?_, trivial⟩, I4.out⟩, IB.out⟩⟩
      rw [HFo.out]
      exact I2.out
  case done =>
    rintro D ys W hD rfl ⟨⟨⟨v, i1, i2, _⟩, i4⟩, iB⟩ hK
    have I1 := Aside0.mk i1
    have I2 := Aside0.mk i2
    have IB := Aside0.mk iB
    clear i1 i2 i4 iB
    have hq := HF.out
    have hq' : badOf (shelf_upto k l0_0 l0_1 a0_2 a0_3 l0_0.length) = r := hq
    rw [hq'] at I2
    clear hq hq'
    have z0 := I1.out.cell
    have HK := Aside0.mk hK
    clear hK
    gi_wp2
    refine ⟨by simp, .inl ⟨_, _, rfl, run_takeDeferred HK.out, ?_⟩⟩
    refine ⟨_, results_tmp rfl _ _ _, _, rfl, ?_, ?_⟩
    · exact Kd.R_of_own (ownsRow_putObj I2.out _ HK.out rfl) (fun _ _ => trivial)
    · exact IB.out.trans (belowK_b (w := w) (Nat.le_refl _) W D _ _ (Nat.le_trans HZ.out.2.1 hD) HK.out rfl rfl)
  case stop =>
    rintro D c pre W _ _ h _
    exact h.elim
end

end Go.Proofs.Ytffjbbedjddpmaa.PAll
