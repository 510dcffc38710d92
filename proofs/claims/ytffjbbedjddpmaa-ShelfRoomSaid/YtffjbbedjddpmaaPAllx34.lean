/- Functions of the program as plain Lean functions, and that each call comes to what they say. Laid by a program of this session (hprint.py); Lean checks it. -/
import Derived.Test.YtffjbbedjddpmaaPAllx0
import Derived.Test.YtffjbbedjddpmaaShelfIter
namespace Go.Proofs.Ytffjbbedjddpmaa.PAll
open Go.RowKit Go.Proofs.YtffjbbedjddpmaaW.PrintWords Go.Proofs.YtffjbbedjddpmaaW.PrintLast Go.Proofs.YtffjbbedjddpmaaW.PrintMore
attribute [local go_sem] max2_int min2_int max_two min_two max_three min_three max_four min_four   -- for this text's walks alone
set_option linter.unusedVariables false
set_option linter.unusedSimpArgs false
attribute [local irreducible] World.setCell

/-! ### shelf_Free: function 20 -/
-- IMPORT Derived.Test.YtffjbbedjddpmaaShelfIter
def shelf_Free.f (k : Nat) (l0_0 : List ByteArray) (l0_1 : List S94) (a0_2 : Int) (a0_3 : Bool) : Option Int := (shelf_go k l0_0 l0_1 a0_2 a0_3 l0_0.length 0).bind fun l => some ((l.filter (·.2.1)).length : Int)
theorem shelf_Free.mono : ∀ l0_0 l0_1 a0_2 a0_3 k, LeO (shelf_Free.f k l0_0 l0_1 a0_2 a0_3) (shelf_Free.f (k + 1) l0_0 l0_1 a0_2 a0_3) := fun l0 l1 a2 a3 k => LeO.bind (shelf_go_mono k l0 l1 a2 a3 _ _) (fun _ => LeO.refl _)
section
attribute [local go_sem] Oper.semAt_some
set_option maxRecDepth 100000 in
set_option maxHeartbeats 4000000 in
theorem shelf_Free.calls (k : Nat) (A0_0 : Option Addr) (c0_0 : Nat) (l0_0 : List ByteArray) (A0_1 : Option Addr) (c0_1 : Nat) (l0_1 : List (S94)) (a0_2 : Int) (a0_3 : Bool) (r : Int) (w : World) (hr0_0 : Kd.C Kd.string w A0_0 l0_0.length l0_0) (hc0_0 : l0_0.length ≤ c0_0) (hr0_1 : Kd.C k94 w A0_1 l0_1.length l0_1) (hc0_1 : l0_1.length ≤ c0_1) (h : shelf_Free.f k l0_0 l0_1 a0_2 a0_3 = some r) :
    Calls Try.prog 20 #[.agg #[.slice A0_0 l0_0.length c0_0, .slice A0_1 l0_1.length c0_1, .int .i64 a0_2, .bool a0_3]] w fun e w' => e = .returned (.int .i64 r) ∧ Below w.heap.size w w' := by
  have hu25 := Try.underlying25
  have hu75 := Try.underlying75
  obtain ⟨q, hq, h⟩ := Option.bind_eq_some_iff.mp h
  obtain ⟨hw, rfl⟩ := shelf_all_well hq
  have HW := Aside0.mk hw
  have HF := Aside0.mk (Option.some.inj h)
  have HR0 := Aside0.mk hr0_0
  have HR1 := Aside0.mk hr0_1
  have HC0 := Aside0.mk hc0_0
  have HC1 := Aside0.mk hc0_1
  have HL := Aside0.mk (show l0_0.length ≤ 9223372036854775807 from hr0_0.2.1)
  clear h hq hw hr0_0 hr0_1 hc0_0 hc0_1
  refine (callsIn_wide (n := 4)).1 ?_
  refine callsIn_of_wp_marks Try.func20 rfl trivial ?_ rfl
  simp only [Try.ntmps20, List.size_toArray, List.length_cons, List.length_nil, Nat.reduceAdd, Nat.reduceSub, Array.replicate_succ, Array.replicate_zero, List.push_toArray, List.append_toArray, List.nil_append, List.cons_append]
  gi_wp2_with (first | (refine ⟨trivial, ?_⟩; gi_at_call 36; refine (callsIn_wide.2 (shelf_all.calls _ _ _ _ _ _ _ _ _)).mono ?_; rintro e w' ⟨rfl, rfl⟩))
  have hs1 := blk_new w (.cells #[.slice A0_0 l0_0.length c0_0, .slice A0_1 l0_1.length c0_1, .int .i64 a0_2, .bool a0_3] 25)
  have hB1 := (Below.refl w.heap.size w).alloc (Nat.le_refl _) (.cells #[.slice A0_0 l0_0.length c0_0, .slice A0_1 l0_1.length c0_1, .int .i64 a0_2, .bool a0_3] 25)
  generalize hW1 : w.alloc (.cells #[.slice A0_0 l0_0.length c0_0, .slice A0_1 l0_1.length c0_1, .int .i64 a0_2, .bool a0_3] 25) = W1 at *
  have hz1 : W1.heap.size = w.heap.size + 1 := by rw [← hW1]; simp
  rw [← hz1]
  have hs2 := blk_new W1 (.cells #[.int .i64 0] 3)
  have hB2 := hB1.alloc hB1.size (.cells #[.int .i64 0] 3)
  generalize hW2 : W1.alloc (.cells #[.int .i64 0] 3) = W2 at *
  have hz2 : W2.heap.size = W1.heap.size + 1 := by rw [← hW2]; simp
  rw [← hz2]
  have hs3 := blk_new W2 (.cells #[.slice A0_0 l0_0.length c0_0, .slice A0_1 l0_1.length c0_1, .int .i64 a0_2, .bool a0_3] 25)
  have hs23 := blk_alloc hs2 (.cells #[.slice A0_0 l0_0.length c0_0, .slice A0_1 l0_1.length c0_1, .int .i64 a0_2, .bool a0_3] 25)
  have hB3 := hB2.alloc hB2.size (.cells #[.slice A0_0 l0_0.length c0_0, .slice A0_1 l0_1.length c0_1, .int .i64 a0_2, .bool a0_3] 25)
  generalize hW3 : W2.alloc (.cells #[.slice A0_0 l0_0.length c0_0, .slice A0_1 l0_1.length c0_1, .int .i64 a0_2, .bool a0_3] 25) = W3 at *
  have hz3 : W3.heap.size = W2.heap.size + 1 := by rw [← hW3]; simp
  clear hW1 hW2 hW3 hs1 hs2 hB1 hB2
  generalize W1.heap.size = g1 at *
  generalize W2.heap.size = g5 at *
  have HB3 := Aside0.mk hB3
  have HZ := Aside0.mk (show w.heap.size ≤ g1 ∧ w.heap.size ≤ W3.heap.size ∧ g5 < W3.heap.size ∧ g1 < g5 by omega)
  clear hz1 hz2 hz3 hB3
  have h1 : 1 ≤ 4 := by omega
  refine wpIn_rangeFunc_ownH rfl h1 (gf := 55) (lb := #[.pointer (some ⟨g5, 0, none⟩)]) rfl trivial (enters_of Try.func55 (by kernel_rfl) rfl)
    (shelf_stops k l0_0 l0_1 a0_2 a0_3 HW.out 3 (by omega) w.heap.size g5 c0_0 c0_1 A0_0 A0_1 W3 HZ.out.2.1 hs3 (fun W' h => Kd.C_below HR0.out (HB3.out.trans h)) HC0.out (fun W' h => Kd.C_below HR1.out (HB3.out.trans h)) HC1.out HL.out)
    keepsToo_t (keepsToo_b HZ.out.2.1 HZ.out.2.2.1) (Below.refl _ _) (fun _ => rfl)
    (fun pre W => (W.heap[g1]? = some (.cells #[.int .i64 ((pre.filter (·.2.1)).length : Int)] 3 (0, 0)) ∧ g5 < W.heap.size) ∧ Below w.heap.size w W)
    (fun _ _ _ => False)
    (OwnFrom.and (fun s A B row hs hg hr => ⟨blk_kept hs.1 hg hr, Nat.lt_of_lt_of_le hs.2 hg.size⟩) (ownFrom_below (Nat.le_refl _) HZ.out.2.1))
    (fun _ _ _ _ _ hs _ _ => hs)
    ⟨⟨hs23, HZ.out.2.2.1⟩, HB3.out⟩
    (fun x a' W => ∃ gx, g5 < gx ∧ W.heap[gx]? = some (.cells #[.int .i64 x.1, .bool x.2.1, .bool x.2.2.1, .int .i64 x.2.2.2.1, .int .i64 x.2.2.2.2.1, .string x.2.2.2.2.2] 75 (0, 0)) ∧ a' = { tmps := #[.agg #[.slice A0_0 l0_0.length c0_0, .slice A0_1 l0_1.length c0_1, .int .i64 a0_2, .bool a0_3], .pointer (some ⟨w.heap.size, 0, none⟩), .int .i64 0, .pointer (some ⟨g1, 0, none⟩), .pointer (some ⟨gx, 0, none⟩), .agg #[.slice A0_0 l0_0.length c0_0, .slice A0_1 l0_1.length c0_1, .int .i64 a0_2, .bool a0_3], .func (.func 55) #[] #[.pointer (some ⟨g5, 0, none⟩)], spotVal x, undef, undef, undef, undef, undef], defers := [] })
    (fun x a' s A B row hs hg hr => by obtain ⟨gx, h1, h2, h3⟩ := hs; exact ⟨gx, h1, blk_kept h2 hg hr, h3⟩) ?assign ?body ?done ?stop
  case assign =>
    rintro l pre x W K ⟨⟨i1, i4⟩, iB⟩ hK
    have I1 := Aside0.mk i1
    have I4 := Aside0.mk i4
    have IB := Aside0.mk iB
    have HK := Aside0.mk hK
    clear i1 i4 iB hK
    dsimp only [spotVal]
    gi_wp2
    refine HK.out _ _ ((KeepsOthers.alloc _ _).from _) (keepsToo.new _ IB.out.size I4.out) ⟨⟨blk_alloc I1.out _, ?_⟩, IB.out.alloc IB.out.size _⟩ ⟨W.heap.size, I4.out, blk_new _ _, rfl⟩
    have := I4.out
    simp
    omega
  case body =>
    rintro l pre x a' W hl ⟨r, hr⟩ ⟨⟨i1, i4⟩, iB⟩ ⟨gx, h5x, iX, rfl⟩ hlen
    have I1 := Aside0.mk i1
    have I4 := Aside0.mk i4
    have IB := Aside0.mk iB
    have IX := Aside0.mk iX
    have H5 := Aside0.mk h5x
    have hfold : (pre ++ [x]).filter (·.2.1) = pre.filter (·.2.1) ++ (if x.2.1 = true then [x] else []) := by rw [List.filter_append, List.filter_cons, List.filter_nil]
    have HFo := Aside0.mk hfold
    have hq : (pre.filter (·.2.1)).length ≤ pre.length := List.length_filter_le _ _
    have HQ := Aside0.mk (show (pre.filter (·.2.1)).length < 9223372036854775807 from Nat.lt_of_le_of_lt hq (Nat.lt_of_lt_of_le hlen HL.out))
    clear i1 i4 iB iX h5x hr hl hlen hfold hq
    obtain ⟨x0, x1, x2, x3, x4, x5⟩ := x
    simp only at HFo
    generalize pre.filter (·.2.1) = q at *
    have z1 : W.cell? ⟨gx, 1, none⟩ = some (.bool x1) := (blk_cell IX.out 1).trans rfl
    have y0 : W.cell? ⟨g1, 0, none⟩ = some (.int .i64 (q.length : Int)) := (blk_cell I1.out 0).trans rfl
    have f0 := blk_frozen I1.out 0
    have hadd : wrap64 ((q.length : Int) + 1) = (q.length : Int) + 1 := by have := HQ.out; unfold wrap64; omega
    cases x1 with
    | true =>
      rw [if_pos rfl] at HFo
      gi_wp2
      refine ⟨(KeepsOthers.setCell _ _ _).from _, (keepsToo.refl _ _ _).set _ _ ?_ ?_, ⟨⟨?_, ?_⟩, ?_⟩⟩
      · exact HZ.out.1
      · have := HZ.out
        show g5 ≠ g1
        omega
      · rw [HFo.out, show ((q ++ [(x0, true, x2, x3, x4, x5)]).length : Int) = (q.length : Int) + 1 by simp]
        exact blk_put I1.out 0 _ rfl
      · simpa using I4.out
      · exact IB.out.setCell HZ.out.1 _
    | false =>
      rw [if_neg (by decide), List.append_nil] at HFo
      gi_wp2
      refine ⟨KeepsFrom.refl _ _, keepsToo.refl _ _ _, ⟨⟨?_, I4.out⟩, IB.out⟩⟩
      rw [HFo.out]
      exact I1.out
  case done =>
    rintro D ys W hD rfl ⟨⟨i1, i4⟩, iB⟩ hK
    have I1 := Aside0.mk i1
    have I4 := Aside0.mk i4
    have IB := Aside0.mk iB
    clear i1 i4 iB
    have hq := HF.out
    rw [hq] at I1
    clear hq
    have z0 : W.cell? ⟨g1, 0, none⟩ = some (.int .i64 r) := (blk_cell I1.out 0).trans rfl
    have HK := Aside0.mk hK
    clear hK
    gi_wp2
    refine ⟨by simp, .inl ⟨_, _, rfl, run_takeDeferred HK.out, ?_⟩⟩
    refine ⟨_, results_tmp rfl _ _ _, rfl, ?_⟩
    exact IB.out.trans (belowK_b (w := w) (Nat.le_refl _) W D _ _ (Nat.le_trans HZ.out.2.1 hD) HK.out rfl rfl)
  case stop =>
    rintro D c pre W _ _ h _
    exact h.elim
end

end Go.Proofs.Ytffjbbedjddpmaa.PAll
