/- Functions of the program as plain Lean functions, and that each call comes to what they say. Laid by a program of this session (hprint.py); Lean checks it. -/
import Derived.Test.YtffjbbedjddpmaaPAllx0
import Derived.Test.YtffjbbedjddpmaaPAllx11
import Derived.Test.YtffjbbedjddpmaaShelfHad
namespace Go.Proofs.Ytffjbbedjddpmaa.PAll
open Go.RowKit Go.Proofs.YtffjbbedjddpmaaW.PrintWords Go.Proofs.YtffjbbedjddpmaaW.PrintLast Go.Proofs.YtffjbbedjddpmaaW.PrintMore
attribute [local go_sem] max2_int min2_int max_two min_two max_three min_three max_four min_four   -- for this text's walks alone
set_option linter.unusedVariables false
set_option linter.unusedSimpArgs false

/-! ### shelf_List: function 13 -/
-- IMPORT Derived.Test.YtffjbbedjddpmaaShelfHad
def shelf_List.f (k : Nat) (l0_0 : List ByteArray) (l0_1 : List S94) (a0_2 : Int) (a0_3 : Bool) : Option (List S27) := if l0_0.length ≤ 8796093022208 then (shelf_go k l0_0 l0_1 a0_2 a0_3 l0_0.length 0).bind fun l => if ∀ p ∈ l, Wf64 p.2.2.2.1 ∧ Wf64 p.2.2.2.2.1 then some (spotKeys l) else none else none
theorem shelf_List.mono : ∀ l0_0 l0_1 a0_2 a0_3 k, LeO (shelf_List.f k l0_0 l0_1 a0_2 a0_3) (shelf_List.f (k + 1) l0_0 l0_1 a0_2 a0_3) := fun l0 l1 a2 a3 k => LeO.ite (LeO.bind (shelf_go_mono k l0 l1 a2 a3 _ _) (fun _ => LeO.refl _)) (LeO.refl _)
section
attribute [local go_sem] Oper.semAt_some
set_option maxRecDepth 100000 in
set_option maxHeartbeats 4000000 in
theorem shelf_List.calls (k : Nat) (A0_0 : Option Addr) (c0_0 : Nat) (l0_0 : List ByteArray) (A0_1 : Option Addr) (c0_1 : Nat) (l0_1 : List (S94)) (a0_2 : Int) (a0_3 : Bool) (r : List S27) (w : World) (hr0_0 : Kd.C Kd.string w A0_0 l0_0.length l0_0) (hc0_0 : l0_0.length ≤ c0_0) (hr0_1 : Kd.C k94 w A0_1 l0_1.length l0_1) (hc0_1 : l0_1.length ≤ c0_1) (h : shelf_List.f k l0_0 l0_1 a0_2 a0_3 = some r) :
    Calls Try.prog 13 #[.agg #[.slice A0_0 l0_0.length c0_0, .slice A0_1 l0_1.length c0_1, .int .i64 a0_2, .bool a0_3]] w fun e w' => ∃ v0_ : Value, e = .returned v0_ ∧ Kd.R k27 27 w' w.heap.size (fun _ => True) v0_ r ∧ Below w.heap.size w w' := by
  have hu25 := Try.underlying25
  have hu75 := Try.underlying75
  unfold shelf_List.f at h
  have hg : l0_0.length ≤ 8796093022208 := Decidable.byContradiction fun hg => by
    rw [if_neg hg] at h
    cases h
  rw [if_pos hg] at h
  have HG := Aside0.mk hg
  clear hg
  obtain ⟨q, hq, h⟩ := Option.bind_eq_some_iff.mp h
  have hwf : ∀ p ∈ q, Wf64 p.2.2.2.1 ∧ Wf64 p.2.2.2.2.1 := Decidable.byContradiction fun hn => by
    rw [if_neg hn] at h
    cases h
  rw [if_pos hwf] at h
  obtain ⟨hw, rfl⟩ := shelf_all_well hq
  have HW := Aside0.mk hw
  have HWf := Aside0.mk (show ∀ j, j < l0_0.length → Wf64 (shelf_spot k l0_0 l0_1 a0_2 a0_3 j).2.2.2.1 ∧ Wf64 (shelf_spot k l0_0 l0_1 a0_2 a0_3 j).2.2.2.2.1 from fun j hj => hwf _ (List.mem_map_of_mem (List.mem_range.mpr hj)))
  clear hwf
  have HF := Aside0.mk (Option.some.inj h)
  have HR0 := Aside0.mk hr0_0
  have HR1 := Aside0.mk hr0_1
  have HC0 := Aside0.mk hc0_0
  have HC1 := Aside0.mk hc0_1
  have HL := Aside0.mk (show l0_0.length ≤ 9223372036854775807 from hr0_0.2.1)
  clear h hq hw hr0_0 hr0_1 hc0_0 hc0_1
  refine (callsIn_wide (n := 4)).1 ?_
  refine callsIn_of_wp_marks Try.func13 rfl trivial ?_ rfl
  simp only [Try.ntmps13, List.size_toArray, List.length_cons, List.length_nil, Nat.reduceAdd, Nat.reduceSub, Array.replicate_succ, Array.replicate_zero, List.push_toArray, List.append_toArray, List.nil_append, List.cons_append]
  have hmk : ∀ w : World, (Instr.makeMap 70 none).run Try.prog w = .ok (.map (some w.heap.size)) (w.alloc (.map #[] 0)) := fun w => rfl
  gi_wp2_with (first | (refine ⟨trivial, ?_⟩; gi_at_call 36; refine (callsIn_wide.2 (shelf_all.calls _ _ _ _ _ _ _ _ _)).mono ?_; rintro e w' ⟨rfl, rfl⟩))
  have hs1 := blk_new w (.cells #[.slice A0_0 l0_0.length c0_0, .slice A0_1 l0_1.length c0_1, .int .i64 a0_2, .bool a0_3] 25)
  have hB1 := (Below.refl w.heap.size w).alloc (Nat.le_refl _) (.cells #[.slice A0_0 l0_0.length c0_0, .slice A0_1 l0_1.length c0_1, .int .i64 a0_2, .bool a0_3] 25)
  generalize hW1 : w.alloc (.cells #[.slice A0_0 l0_0.length c0_0, .slice A0_1 l0_1.length c0_1, .int .i64 a0_2, .bool a0_3] 25) = W1 at *
  have hz1 : W1.heap.size = w.heap.size + 1 := by rw [← hW1]; simp
  rw [← hz1]
  have hs2 := blk_new W1 (.cells #[.slice none 0 0] 30)
  have hB2 := hB1.alloc hB1.size (.cells #[.slice none 0 0] 30)
  generalize hW2 : W1.alloc (.cells #[.slice none 0 0] 30) = W2 at *
  have hz2 : W2.heap.size = W1.heap.size + 1 := by rw [← hW2]; simp
  rw [← hz2]
  have hs3 := hadMap_new W2
  have hk2 := blk_alloc hs2 (.map #[] 0)
  have hB3 := hB2.alloc hB2.size (.map #[] 0)
  generalize hW3 : W2.alloc (.map #[] 0) = W3 at *
  have hz3 : W3.heap.size = W2.heap.size + 1 := by rw [← hW3]; simp
  rw [← hz3]
  have hs4 := blk_new W3 (.cells #[.map (some W2.heap.size)] 70)
  have hk2 := blk_alloc hk2 (.cells #[.map (some W2.heap.size)] 70)
  have hk3 := hs3.alloc (.cells #[.map (some W2.heap.size)] 70)
  have hB4 := hB3.alloc hB3.size (.cells #[.map (some W2.heap.size)] 70)
  generalize hW4 : W3.alloc (.cells #[.map (some W2.heap.size)] 70) = W4 at *
  have hz4 : W4.heap.size = W3.heap.size + 1 := by rw [← hW4]; simp
  rw [← hz4]
  have hs5 := blk_new W4 (.cells #[.slice A0_0 l0_0.length c0_0, .slice A0_1 l0_1.length c0_1, .int .i64 a0_2, .bool a0_3] 25)
  have hk2 := blk_alloc hk2 (.cells #[.slice A0_0 l0_0.length c0_0, .slice A0_1 l0_1.length c0_1, .int .i64 a0_2, .bool a0_3] 25)
  have hk3 := hk3.alloc (.cells #[.slice A0_0 l0_0.length c0_0, .slice A0_1 l0_1.length c0_1, .int .i64 a0_2, .bool a0_3] 25)
  have hk4 := blk_alloc hs4 (.cells #[.slice A0_0 l0_0.length c0_0, .slice A0_1 l0_1.length c0_1, .int .i64 a0_2, .bool a0_3] 25)
  have hB5 := hB4.alloc hB4.size (.cells #[.slice A0_0 l0_0.length c0_0, .slice A0_1 l0_1.length c0_1, .int .i64 a0_2, .bool a0_3] 25)
  generalize hW5 : W4.alloc (.cells #[.slice A0_0 l0_0.length c0_0, .slice A0_1 l0_1.length c0_1, .int .i64 a0_2, .bool a0_3] 25) = W5 at *
  have hz5 : W5.heap.size = W4.heap.size + 1 := by rw [← hW5]; simp
  clear hW1 hW2 hW3 hW4 hW5 hs1 hs2 hs3 hs4 hB1 hB2 hB3 hB4
  generalize W1.heap.size = g1 at *
  generalize W2.heap.size = g2 at *
  generalize W3.heap.size = g3 at *
  generalize W4.heap.size = g4 at *
  have HB5 := Aside0.mk hB5
  have HZ := Aside0.mk (show w.heap.size ≤ g1 ∧ w.heap.size ≤ W5.heap.size ∧ g4 < W5.heap.size ∧ g1 < g2 ∧ g2 < g3 ∧ g3 < g4 ∧ w.heap.size ≤ g2 by omega)
  clear hz1 hz2 hz3 hz4 hz5 hB5
  have h1 : 1 ≤ 4 := by omega
  refine wpIn_rangeFunc_ownH rfl h1 (gf := 55) (lb := #[.pointer (some ⟨g4, 0, none⟩)]) rfl trivial (enters_of Try.func55 (by kernel_rfl) rfl)
    (shelf_stopsG (fun x : Spot => Wf64 x.2.2.2.1 ∧ Wf64 x.2.2.2.2.1) k l0_0 l0_1 a0_2 a0_3 HW.out HWf.out 3 (by omega) w.heap.size g4 c0_0 c0_1 A0_0 A0_1 W5 HZ.out.2.1 hs5 (fun W' h => Kd.C_below HR0.out (HB5.out.trans h)) HC0.out (fun W' h => Kd.C_below HR1.out (HB5.out.trans h)) HC1.out HL.out)
    keepsToo_t (keepsToo_b HZ.out.2.1 HZ.out.2.2.1) (Below.refl _ _) (fun _ => rfl)
    (fun pre W => ((keyHolds w.heap.size g1 pre W ∧ hadMap (spotKeys (spotsOf pre)) g2 (spotKeys (spotsOf pre)).length W) ∧ (W.heap[g3]? = some (.cells #[.map (some g2)] 70 (0, 0)) ∧ W.heap[g4]? = some (.cells #[.slice A0_0 l0_0.length c0_0, .slice A0_1 l0_1.length c0_1, .int .i64 a0_2, .bool a0_3] 25 (0, 0)))) ∧ Below w.heap.size w W)
    (fun _ _ _ => False)
    (OwnFrom.and (OwnFrom.and (OwnFrom.and ((keyHolds_own w.heap.size g1).from _) (fun s A B row hs hg hr => hs.kept hg (fun e => by have := (hr _ e.symm).1; have := HZ.out; omega))) (fun s A B row hs hg hr => ⟨blk_kept hs.1 hg hr, blk_kept hs.2 hg hr⟩)) (ownFrom_below (Nat.le_refl _) HZ.out.2.1))
    (fun _ _ _ _ _ hs _ _ => hs)
    ⟨⟨⟨⟨_, hk2, World.ownsRow_nil _ _ _ _, trivial⟩, hk3⟩, ⟨hk4, hs5⟩⟩, HB5.out⟩
    (fun x a' W => ∃ gx, g4 < gx ∧ W.heap[gx]? = some (.cells #[.int .i64 x.1.1, .bool x.1.2.1, .bool x.1.2.2.1, .int .i64 x.1.2.2.2.1, .int .i64 x.1.2.2.2.2.1, .string x.1.2.2.2.2.2] 75 (0, 0)) ∧ a' = { tmps := #[.agg #[.slice A0_0 l0_0.length c0_0, .slice A0_1 l0_1.length c0_1, .int .i64 a0_2, .bool a0_3], .pointer (some ⟨w.heap.size, 0, none⟩), .slice none 0 0, .pointer (some ⟨g1, 0, none⟩), .pointer (some ⟨g3, 0, none⟩), .pointer (some ⟨gx, 0, none⟩), .map (some g2), .agg #[.slice A0_0 l0_0.length c0_0, .slice A0_1 l0_1.length c0_1, .int .i64 a0_2, .bool a0_3], .func (.func 55) #[] #[.pointer (some ⟨g4, 0, none⟩)], spotVal x.1, undef, undef, undef, undef, undef, undef, undef, undef, undef, undef, undef, undef, undef, undef, undef, undef, undef, undef], defers := [] })
    (fun x a' s A B row hs hg hr => by obtain ⟨gx, h1, h2, h3⟩ := hs; exact ⟨gx, h1, blk_kept h2 hg hr, h3⟩) ?assign ?body ?done ?stop
  case assign =>
    rintro l pre x W K ⟨⟨⟨⟨v, i1, i2, _⟩, i3⟩, ⟨i4, i5⟩⟩, iB⟩ hK
    have I1 := Aside0.mk i1
    have I2 := Aside0.mk i2
    have I3 := Aside0.mk i3
    have I4 := Aside0.mk i4
    have I5 := Aside0.mk i5
    have IB := Aside0.mk iB
    have HK := Aside0.mk hK
    clear i1 i2 i3 i4 i5 iB hK
    dsimp only [spotVal]
    gi_wp2
    refine HK.out _ _ ((KeepsOthers.alloc _ _).from _) (keepsToo.new _ IB.out.size (blk_lt I5.out)) ⟨⟨⟨⟨v, I1.out.alloc _, I2.out.alloc _, trivial⟩, I3.out.alloc _⟩, ⟨blk_alloc I4.out _, blk_alloc I5.out _⟩⟩, IB.out.alloc IB.out.size _⟩ ⟨W.heap.size, blk_lt I5.out, blk_new _ _, rfl⟩
  case body =>
    rintro l pre x a' W hl ⟨r, hr⟩ ⟨⟨⟨i1, i3⟩, ⟨i4, i5⟩⟩, iB⟩ ⟨gx, h5x, iX, rfl⟩ hlen
    have I1 := Aside0.mk i1
    have I3 := Aside0.mk i3
    have I4 := Aside0.mk i4
    have I5 := Aside0.mk i5
    have IB := Aside0.mk iB
    have IX := Aside0.mk iX
    have H5 := Aside0.mk h5x
    have HKA := Aside0.mk (spotsOf_add pre x)
    have HFo := Aside0.mk (spotKeys_add (spotsOf pre) x.1)
    have HQ := Aside0.mk (show (spotKeys (spotsOf pre)).length < 8796093022208 by have := spotKeys_len (spotsOf pre); have h2 : (spotsOf pre).length = pre.length := List.length_map ..; have := HG.out; omega)
    have HQ2 := Aside0.mk (show (spotKeys (spotsOf pre)).length < maxLen by have := HQ.out; unfold maxLen; omega)
    have HV := Aside0.mk x.2
    have HJs := Aside0.mk (show keyHolds w.heap.size g1 (pre ++ [x]) = fun W => ∃ v, Boxed W g1 30 v ∧ W.ownsRow w.heap.size 27 2 v (spotKeys (spotsOf (pre ++ [x]))).length (keyCells (spotKeys (spotsOf (pre ++ [x])))) ∧ True from rfl)
    clear i1 i3 i4 i5 iB iX h5x hr hl hlen
    obtain ⟨⟨x0, x1, x2, x3, x4, x5⟩, hx⟩ := x
    dsimp only at IX HFo HV HKA ⊢
    have HX := Aside0.mk hx
    have HFl : Aside0 (shelf_spot_full.f x0 x1 x2 x3 x4 x5 = some (spotFull (x0, x1, x2, x3, x4, x5))) := ⟨by unfold shelf_spot_full.f spotFull; cases x1 <;> rfl⟩
    have z0 : W.cell? ⟨gx, 0, none⟩ = some (.int .i64 x0) := (blk_cell IX.out 0).trans rfl
    have z1 : W.cell? ⟨gx, 1, none⟩ = some (.bool x1) := (blk_cell IX.out 1).trans rfl
    have z2 : W.cell? ⟨gx, 2, none⟩ = some (.bool x2) := (blk_cell IX.out 2).trans rfl
    have z3 : W.cell? ⟨gx, 3, none⟩ = some (.int .i64 x3) := (blk_cell IX.out 3).trans rfl
    have z4 : W.cell? ⟨gx, 4, none⟩ = some (.int .i64 x4) := (blk_cell IX.out 4).trans rfl
    have z5 : W.cell? ⟨gx, 5, none⟩ = some (.string x5) := (blk_cell IX.out 5).trans rfl
    obtain ⟨i0, hi, hz0, hz1, hz2⟩ := info_parts info27
    have HI := Aside0.mk (And.intro hi (And.intro hz0 (And.intro hz1 hz2)))
    clear hi hz0 hz1 hz2
    generalize spotFull (x0, x1, x2, x3, x4, x5) = b at *
    have hcond : True := trivial
    cases b with
    | false =>
      rw [if_neg (fun h => by cases h.1)] at HFo
      gi_wp2_with (refine ⟨trivial, ?_⟩; gi_at_call 37; refine (callsIn_wide.2 (shelf_spot_full.calls x0 x1 x2 x3 x4 x5 false _ HFl.out)).mono ?_; rintro e w5 ⟨rfl, hb⟩; have HB5' := Aside0.mk hb; clear hb; skip)
      refine ⟨keepsFrom_below HB5'.out, ⟨HB5'.out.mono IB.out.size, HB5'.out.block _ (blk_lt I5.out)⟩, ⟨⟨⟨?_, ?_⟩, ⟨(HB5'.out.block g3 (blk_lt I4.out)).trans I4.out, (HB5'.out.block g4 (blk_lt I5.out)).trans I5.out⟩⟩, IB.out.trans (HB5'.out.mono IB.out.size)⟩⟩
      · have := keyHolds_own _ _ _ _ _ _ I1.out (grown_of_below HB5'.out) (fun r e => by cases e)
        unfold keyHolds at this ⊢
        rw [HKA.out, HFo.out]
        exact this
      · rw [HKA.out, HFo.out]
        exact I3.out.kept (grown_of_below HB5'.out) (fun e => by cases e)
    | true =>
      by_cases c : ∃ q ∈ spotKeys (spotsOf pre), q.f0 = x3 ∧ q.f1 = x4
      · rw [if_neg (fun h => h.2 c)] at HFo
        have HOld := Aside0.mk c
        clear c
        gi_wp2_with (refine ⟨trivial, ?_⟩; gi_at_call 37; refine (callsIn_wide.2 (shelf_spot_full.calls x0 x1 x2 x3 x4 x5 true _ HFl.out)).mono ?_; rintro e w5 ⟨rfl, hb⟩; have HB5' := Aside0.mk hb; clear hb; have IX5 := Aside0.mk ((HB5'.out.block gx (blk_lt IX.out)).trans IX.out); have J4 := Aside0.mk ((HB5'.out.block g3 (blk_lt I4.out)).trans I4.out); have J3 := Aside0.mk (I3.out.kept (grown_of_below HB5'.out) (fun e => by cases e)); have q3 : w5.cell? ⟨gx, 3, none⟩ = some (.int .i64 x3) := (blk_cell IX5.out 3).trans rfl; have q4 : w5.cell? ⟨gx, 4, none⟩ = some (.int .i64 x4) := (blk_cell IX5.out 4).trans rfl; have k0 : w5.cell? ⟨g3, 0, none⟩ = some (.map (some g2)) := (blk_cell J4.out 0).trans rfl; have hlk := J3.out.look HV.out.1 HV.out.2 HOld.out)
        refine ⟨keepsFrom_below HB5'.out, ⟨HB5'.out.mono IB.out.size, HB5'.out.block _ (blk_lt I5.out)⟩, ⟨⟨⟨?_, ?_⟩, ⟨(HB5'.out.block g3 (blk_lt I4.out)).trans I4.out, (HB5'.out.block g4 (blk_lt I5.out)).trans I5.out⟩⟩, IB.out.trans (HB5'.out.mono IB.out.size)⟩⟩
        · have := keyHolds_own _ _ _ _ _ _ I1.out (grown_of_below HB5'.out) (fun r e => by cases e)
          unfold keyHolds at this ⊢
          rw [HKA.out, HFo.out]
          exact this
        · rw [HKA.out, HFo.out]
          exact J3.out
      · rw [if_pos ⟨rfl, c⟩] at HFo
        have HNew := Aside0.mk c
        clear c
        gi_wp2_with (first | (refine ⟨trivial, ?_⟩; gi_at_call 37; refine (callsIn_wide.2 (shelf_spot_full.calls x0 x1 x2 x3 x4 x5 true _ HFl.out)).mono ?_; rintro e w5 ⟨rfl, hb⟩; have HB5' := Aside0.mk hb; clear hb; have IX5 := Aside0.mk ((HB5'.out.block gx (blk_lt IX.out)).trans IX.out); have J4 := Aside0.mk ((HB5'.out.block g3 (blk_lt I4.out)).trans I4.out); have J3 := Aside0.mk (I3.out.kept (grown_of_below HB5'.out) (fun e => by cases e)); have q3 : w5.cell? ⟨gx, 3, none⟩ = some (.int .i64 x3) := (blk_cell IX5.out 3).trans rfl; have q4 : w5.cell? ⟨gx, 4, none⟩ = some (.int .i64 x4) := (blk_cell IX5.out 4).trans rfl; have k0 : w5.cell? ⟨g3, 0, none⟩ = some (.map (some g2)) := (blk_cell J4.out 0).trans rfl; obtain ⟨W6, hup, hh6, hg6⟩ := J3.out.update HQ2.out HV.out.1 HV.out.2; have hlk := J3.out.lookN HV.out.1 HV.out.2 HNew.out; have HUP := Aside0.mk hup; have HH6 := Aside0.mk hh6; have HG6 := Aside0.mk hg6; clear hup hh6 hg6; obtain ⟨v, j1, j2, _⟩ := keyHolds_own _ _ _ _ _ _ (keyHolds_own _ _ _ _ _ _ I1.out (grown_of_below HB5'.out) (fun r e => by cases e)) HG6.out (fun r e => by cases e; exact J3.out.block); have J1 := Aside0.mk j1; have J2 := Aside0.mk j2; clear j1 j2; have IX6 := Aside0.mk ((HG6.out.block gx (blk_lt IX5.out) (fun e => by have := HZ.out; have := H5.out; have e := Option.some.inj e; omega)).trans IX5.out); have J46 := Aside0.mk ((HG6.out.block g3 (blk_lt J4.out) (fun e => by have := HZ.out; have e := Option.some.inj e; omega)).trans J4.out); have J5 := Aside0.mk ((HB5'.out.block g4 (blk_lt I5.out)).trans I5.out); have J56 := Aside0.mk ((HG6.out.block g4 (blk_lt J5.out) (fun e => by have := HZ.out; have e := Option.some.inj e; omega)).trans J5.out); have p3 : W6.cell? ⟨gx, 3, none⟩ = some (.int .i64 x3) := (blk_cell IX6.out 3).trans rfl; have p4 : W6.cell? ⟨gx, 4, none⟩ = some (.int .i64 x4) := (blk_cell IX6.out 4).trans rfl; have y0 := J1.out.cell; have f0 := J1.out.frozen) | (gi_at_mapUpdate; refine wpListIn_mapUpdate_run rfl _ _ _ _ rfl HUP.out ?_) | (gi_at_builtin; refine wpListIn_append_own _ rfl _ _ 30 rfl w.heap.size 27 i0 (.agg #[.int .i64 0, .int .i64 0]) 2 16 Try.underlying30 HI.out.1 HI.out.2.1 HI.out.2.2.1 HI.out.2.2.2 rfl (by decide) _ _ _ rfl (J2.out.alloc _) ⟨W6.heap.size, 0, none⟩ 1 1 [.int .i64 x3, .int .i64 x4] rfl rfl (cells_two_new _ _ _ _) (by intro u hu; simp at hu; rcases hu with rfl | rfl <;> rfl) (by have := HQ.out; unfold maxLen; omega) (by have := HQ.out; omega) (by have := IB.out.size; have := HB5'.out.size; have := HG6.out.size; simp; omega) ?_; intro v' w1 hown' hgrow _; obtain ⟨g', cap', rfl⟩ := ownsRow_succ hown'; obtain ⟨hv1, hv2, hr2, hk2, hb2⟩ := J1.out.appended (by decide) J2.out (by have := IB.out.size; have := HB5'.out.size; have := HG6.out.size; omega) HZ.out.1 hown' hgrow; have hd3 := Aside0.mk (blk_row_kept J46.out (by decide) J2.out hgrow); have hd4 := Aside0.mk (blk_row_kept J56.out (by decide) J2.out hgrow); have hh1 := Aside0.mk (HH6.out.appended J2.out hgrow); clear hown' hgrow; have hv2' := Aside0.mk hv2; have hr2' := Aside0.mk hr2; have hk2' := Aside0.mk hk2; have hb2' := Aside0.mk hb2; clear hv2 hr2 hk2 hb2; have hc1 := hv1.cell; have hf1 := hv1.frozen))
        have hB6 := (HB5'.out.mono IB.out.size).trans (((Below.refl w.heap.size w5)).grown HG6.out (Nat.le_trans IB.out.size HB5'.out.size) (fun k e => by cases e; exact HZ.out.2.2.2.2.2.2))
        have hg41 : g4 ≠ g1 := by have := HZ.out; omega
        have hg31 : g3 ≠ g1 := by have := HZ.out; omega
        have hg21 : g2 ≠ g1 := by have := HZ.out; omega
        refine ⟨((keepsFrom_below HB5'.out).trans (KeepsFrom.of_grownBy HG6.out (fun j e => by cases e; have := HZ.out; omega))).trans (hk2'.out.from _), ⟨hB6.trans hb2'.out, ?_⟩, ⟨⟨⟨⟨_, hv2'.out, ?_, trivial⟩, ?_⟩, ⟨?_, ?_⟩⟩, IB.out.trans (hB6.trans hb2'.out)⟩⟩
        · exact ((Below.heap_setCell _ _ _ g4 hg41).trans hd4.out).trans I5.out.symm
        · rw [HKA.out, HFo.out, List.length_append, keyCells_add]
          exact hr2'.out
        · rw [HKA.out, HFo.out, List.length_append]
          exact hh1.out.setCell hg21 _
        · exact (Below.heap_setCell _ _ _ g3 hg31).trans hd3.out
        · exact (Below.heap_setCell _ _ _ g4 hg41).trans hd4.out
  case done =>
    rintro D ys W hD hys ⟨⟨⟨⟨v, i1, i2, _⟩, i3⟩, ⟨i4, i5⟩⟩, iB⟩ hK
    have I1 := Aside0.mk i1
    have I2 := Aside0.mk i2
    have IB := Aside0.mk iB
    clear i1 i2 i3 i4 i5 iB
    have hq := HF.out
    have hys' : spotsOf ys = shelf_upto k l0_0 l0_1 a0_2 a0_3 l0_0.length := hys
    rw [← hys'] at hq
    rw [hq] at I2
    clear hq hys hys'
    have z0 := I1.out.cell
    have HK := Aside0.mk hK
    clear hK
    gi_wp2
    refine ⟨by simp, .inl ⟨_, _, rfl, run_takeDeferred HK.out, ?_⟩⟩
    refine ⟨_, results_tmp rfl _ _ _, _, rfl, ?_, ?_⟩
    · exact ⟨fun _ _ => trivial, _, ownsRow_putObj I2.out _ HK.out rfl, keyCells_reps _ _ _ _⟩
    · exact IB.out.trans (belowK_b (w := w) (Nat.le_refl _) W D _ _ (Nat.le_trans HZ.out.2.1 hD) HK.out rfl rfl)
  case stop =>
    rintro D c pre W _ _ h _
    exact h.elim
end

end Go.Proofs.Ytffjbbedjddpmaa.PAll
