/- Functions of the program as plain Lean functions, and that each call comes to what they say. Laid by a program of this session (hprint.py); Lean checks it. -/
import Derived.Test.YtffjbbedjddpmaaPAllx0
import Derived.Test.YtffjbbedjddpmaaPAllx29
namespace Go.Proofs.Ytffjbbedjddpmaa.PAll
open Go.RowKit Go.Proofs.YtffjbbedjddpmaaW.PrintWords Go.Proofs.YtffjbbedjddpmaaW.PrintLast Go.Proofs.YtffjbbedjddpmaaW.PrintMore
attribute [local go_sem] max2_int min2_int max_two min_two max_three min_three max_four min_four   -- for this text's walks alone
set_option linter.unusedVariables false
set_option linter.unusedSimpArgs false
attribute [local irreducible] World.setCell

/-! ### hogsheadref10_Bad: function 17 -/
def hogsheadref10_Bad.l0 : Nat → List Int → Int → List ByteArray → List (S94) → Int → Bool → Option (List Int)
 | 0, _, _, _, _, _, _ => none
 | k + 1, x3, x4, x259000, x259001, x259002, x259003 => if x4 < (x259000.length : Int) then ((hogsheadref10_at.f k x259000 x259001 x259002 x259003 x4).bind fun bt259 => (if bt259.2.2.2.1 = true then (hogsheadref10_Bad.l0 k x3 (wrap64 (x4 + 1)) x259000 x259001 x259002 x259003) else (if bt259.2.2.2.2 = true then (hogsheadref10_Bad.l0 k x3 (wrap64 (x4 + 1)) x259000 x259001 x259002 x259003) else (if x3.length < 17592186044416 then (hogsheadref10_Bad.l0 k (x3 ++ [x4]) (wrap64 (x4 + 1)) x259000 x259001 x259002 x259003) else (none))))) else (some x3)
def hogsheadref10_Bad.f (k : Nat) (l0_0 : List ByteArray) (l0_1 : List (S94)) (a0_2 : Int) (a0_3 : Bool) : Option (List Int) := hogsheadref10_Bad.l0 k ([] : List Int) 0 l0_0 l0_1 a0_2 a0_3
theorem hogsheadref10_Bad.mono_l : ∀ k, (∀ y0 y1 y2 y3 y4 y5, LeO (hogsheadref10_Bad.l0 k y0 y1 y2 y3 y4 y5) (hogsheadref10_Bad.l0 (k + 1) y0 y1 y2 y3 y4 y5))
 | 0 => fun _ _ _ _ _ _ r h => by simp [hogsheadref10_Bad.l0] at h
 | k + 1 => by
  have ih0 := hogsheadref10_Bad.mono_l k
  ·intro y0 y1 y2 y3 y4 y5
   unfold hogsheadref10_Bad.l0
   repeat' first
   | (with_reducible exact ih0 _ _ _ _ _ _)
   | (with_reducible exact hogsheadref10_at.mono _ _ _ _ _ _)
   | (with_reducible exact LeO.refl _)
   | (with_reducible exact LeO.none _)
   | (with_reducible refine LeO.ite ?_ ?_)
   | (with_reducible refine LeO.bind ?_ (fun _ => ?_))
   | exact ih0 _ _ _ _ _ _
   | exact hogsheadref10_at.mono _ _ _ _ _ _
   | exact LeO.none _
   | refine LeO.ite ?_ ?_
   | refine LeO.bind ?_ (fun _ => ?_)
theorem hogsheadref10_Bad.mono : ∀ a0 a1 a2 a3 k, LeO (hogsheadref10_Bad.f k a0 a1 a2 a3) (hogsheadref10_Bad.f (k + 1) a0 a1 a2 a3) := by
 intro a0 a1 a2 a3 k
 have ih0 := hogsheadref10_Bad.mono_l k
 unfold hogsheadref10_Bad.f
 repeat' first
   | (with_reducible exact ih0 _ _ _ _ _ _)
   | (with_reducible exact hogsheadref10_at.mono _ _ _ _ _ _)
   | (with_reducible exact LeO.refl _)
   | (with_reducible exact LeO.none _)
   | (with_reducible refine LeO.ite ?_ ?_)
   | (with_reducible refine LeO.bind ?_ (fun _ => ?_))
   | exact ih0 _ _ _ _ _ _
   | exact hogsheadref10_at.mono _ _ _ _ _ _
   | exact LeO.none _
   | refine LeO.ite ?_ ?_
   | refine LeO.bind ?_ (fun _ => ?_)
set_option maxHeartbeats 40000000 in
set_option maxRecDepth 100000 in
theorem hogsheadref10_Bad.calls (k : Nat) (A0_0 : Option Addr) (c0_0 : Nat) (l0_0 : List ByteArray) (A0_1 : Option Addr) (c0_1 : Nat) (l0_1 : List (S94)) (a0_2 : Int) (a0_3 : Bool) (r : List Int) (w : World) (hr0_0 : Kd.C Kd.string w A0_0 l0_0.length l0_0) (hc0_0 : l0_0.length ≤ c0_0) (hr0_1 : Kd.C k94 w A0_1 l0_1.length l0_1) (hc0_1 : l0_1.length ≤ c0_1) (h : hogsheadref10_Bad.f k l0_0 l0_1 a0_2 a0_3 = some r) :
  Calls Try.prog 17 #[.agg #[.slice A0_0 l0_0.length c0_0, .slice A0_1 l0_1.length c0_1, .int .i64 a0_2, .bool a0_3]] w fun e w' => ∃ v0_ : Value, e = .returned (v0_) ∧ Kd.R (Kd.int .i64) 3 w' w.heap.size (fun _ => True) v0_ r ∧ Below w.heap.size w w' := by
 have hu25 := Try.underlying25
 have hu43 := Try.underlying43
 have HR0_0 := qM hr0_0
 have HC0_0 := qM hc0_0
 clear hr0_0 hc0_0
 have HR0_1 := qM hr0_1
 have HC0_1 := qM hc0_1
 clear hr0_1 hc0_1
 have HB := qM (Below.refl w.heap.size w)
 have H : (hogsheadref10_Bad.l0 k ([] : List Int) 0 l0_0 l0_1 a0_2 a0_3) = some r := h
 clear h
 have H' := qM H
 clear H
 go_enter Try.func17, Try.ntmps17
 go_wp2_with (first | ((with_reducible refine gate_dst (N := 1) rfl ?_); refine box_event ?hg (N := 1) ?hd (cs := #[.slice A0_0 l0_0.length c0_0, .slice A0_1 l0_1.length c0_1, .int .i64 a0_2, .bool a0_3]) (t := 25) ?hr ?_; (case hd => rfl); (case hg => rfl); (case hr => first | (go_simp; done) | (go_simp; rfl)); intro g258 hg w2 hbox hb; have n0_ := qM (eT (by repeat (first | (with_reducible first | exact HB.out | apply eA | apply eN | apply eD) | exact HB.out)) hb); have n1_ := qM (hbox); have n2_ := qM ((by rw [hg]; exact (eZ (by repeat (first | (with_reducible first | exact HB.out | apply eA | apply eN | apply eD) | exact HB.out))) : w.heap.size ≤ g258)); have n3_ := n2_; clear HB; have HB := n0_; have B258 := n1_; have GW258 := n2_; have GE258 := n3_; clear n0_ n1_ n2_ n3_; clear hb hbox hg))
 go_loopg [3, 4] k (fun kq v3 v4 w' => ∃ (x3_1 : List Int) (x4_1 : Int), v4 = .int .i64 x4_1 ∧ Aside0 (hogsheadref10_Bad.l0 kq x3_1 x4_1 l0_0 l0_1 a0_2 a0_3 = some r) ∧ Aside0 (kq ≤ k) ∧ Aside0 (Kd.R (Kd.int .i64) 3 w' w.heap.size (fun _ => True) v3 x3_1) ∧ Aside0 (w'.heap[g258]? = some (.cells #[(.slice A0_0 l0_0.length c0_0), (.slice A0_1 l0_1.length c0_1), .int .i64 a0_2, .bool a0_3] 25 (0, 0))) ∧ Aside0 (Below w.heap.size w w'))
 case atStart => exact ⟨(([] : List Int)), (0), (by first | rfl | (simp; done) | (simp [*]; done)), H', ⟨Nat.le_refl _⟩, ⟨by first | exact Kd.R_nil _ _ _ _ _ | exact Kd.N_nil _ _ _ _ _ | exact Kd.V_nil _ _ _ _ _ | exact Kd.Q_nil _ _ _ _ _ | exact Kd.S_nil _ _ _ _ _⟩, ⟨by (with_reducible repeat first | refine qN ?_ _ | refine qD ?_ | refine qA ?_ _); exact B258.out⟩, ⟨by repeat (first | (with_reducible first | exact HB.out | apply eA | apply eN | apply eD | refine eS ?_ GE258.out) | exact HB.out)⟩⟩
 case round =>
  clear H'
  try clear c1
  try clear p2
  obtain ⟨x3_1, x4_1, rfl, HA, HK1, HO_3, B258, HB⟩ := hrel
  cases gk with
  | zero => exact absurd HA.out (by simp [hogsheadref10_Bad.l0])
  | succ k1 =>
   have H := HA.out
   clear HA
   simp only [hogsheadref10_Bad.l0] at H
   by_cases c3 : x4_1 < (l0_0.length : Int)
   ·rw [if_pos c3] at H
    have c3b0 : decide (x4_1 < (l0_0.length : Int)) = true := decide_eq_true c3
    clear c3
    replace H := Option.bind_eq_some_iff.mp H
    obtain ⟨⟨t259, t260, t261, t262, t263⟩, A40, H⟩ := H
    replace H : (if t262 = true then (hogsheadref10_Bad.l0 k1 x3_1 (wrap64 (x4_1 + 1)) l0_0 l0_1 a0_2 a0_3) else (if t263 = true then (hogsheadref10_Bad.l0 k1 x3_1 (wrap64 (x4_1 + 1)) l0_0 l0_1 a0_2 a0_3) else (if x3_1.length < 17592186044416 then (hogsheadref10_Bad.l0 k1 (x3_1 ++ [x4_1]) (wrap64 (x4_1 + 1)) l0_0 l0_1 a0_2 a0_3) else (none)))) = some r := H
    have A4 := qM A40
    clear A40
    by_cases c5 : t262 = true
    ·subst c5
     have H1 : (hogsheadref10_Bad.l0 k1 x3_1 (wrap64 (x4_1 + 1)) l0_0 l0_1 a0_2 a0_3) = some r := by rw [if_pos rfl] at H; exact H
     clear H
     have H := H1
     clear H1
     have H' := qM H
     clear H
     obtain ⟨z6_0, z6_1, z6_2, z6_3, f6_0, f6_1, f6_2, f6_3⟩ := cells4 B258.out
     go_wp2_with (first | ((with_reducible refine gate_callee (f := 38) rfl ?_); refine goesL_ (some 18) rfl rfl Try.func38 (by kernel_rfl) rfl #[.agg #[.slice A0_0 l0_0.length c0_0, .slice A0_1 l0_1.length c0_1, .int .i64 a0_2, .bool a0_3], .int .i64 x4_1] rfl (by (try simp only [List.map_toArray, List.map_cons, List.map_nil]); first | done | rfl | (simp only [List.length_drop, List.length_take]; rfl)) ?_; (with_reducible refine (hogsheadref10_at.calls k1 _ _ l0_0 _ _ l0_1 a0_2 a0_3 x4_1 t259 t260 t261 true t263 _ ?side1 ?side2 ?side3 ?side4 A4.out).mono ?_); (case side1 => repeat (first | exact (Kd.C_below HR0_0.out HB.out) | (with_reducible refine Kd.C_alloc ?_ _) | (with_reducible refine Kd.C_drewN ?_ _) | (with_reducible refine Kd.C_drew ?_))); (case side2 => exact HC0_0.out); (case side3 => repeat (first | exact (Kd.C_below HR0_1.out HB.out) | (with_reducible refine Kd.C_alloc ?_ _) | (with_reducible refine Kd.C_drewN ?_ _) | (with_reducible refine Kd.C_drew ?_))); (case side4 => exact HC0_1.out); rintro e w7 ⟨rfl, hb⟩; refine ⟨_, rfl, ?_⟩; have n0_ := qM (Kd.R_below (by (with_reducible repeat first | apply RA | apply RN | apply RD); exact HO_3.out) hb); have n1_ := qM (qB (g := g258) (by (with_reducible repeat first | refine qN ?_ _ | refine qD ?_ | refine qA ?_ _); exact B258.out) hb); have n2_ := qM (eT (by repeat (first | (with_reducible first | exact HB.out | apply eA | apply eN | apply eD | refine eU ?_ (by assumption)) | exact HB.out)) hb); clear HO_3 B258 HB; have HO_3 := n0_; have B258 := n1_; have HB := n2_; clear n0_ n1_ n2_; (try clear hb); (try clear hb2); (try clear hk); (try clear hi)) | ((with_reducible refine gate_dst (N := 5) rfl ?_); refine box_event ?hg (N := 5) ?hd (cs := #[.int .i64 0, .int .i64 0, .string (⟨#[]⟩ : ByteArray)]) (t := 43) ?hr ?_; (case hd => rfl); (case hg => rfl); (case hr => first | (go_simp; done) | (go_simp; rfl)); intro g264 hg w8 hbox hb; have n0_ := qM (Kd.R_below (by (with_reducible repeat first | apply RA | apply RN | apply RD); exact HO_3.out) hb); have n1_ := qM (qB (g := g258) (by (with_reducible repeat first | refine qN ?_ _ | refine qD ?_ | refine qA ?_ _); exact B258.out) hb); have n2_ := qM (eT (by repeat (first | (with_reducible first | exact HB.out | apply eA | apply eN | apply eD | refine eU ?_ (by assumption)) | exact HB.out)) hb); have n3_ := qM (hbox); have n4_ := qM ((by rw [hg]; exact (eZ (by repeat (first | (with_reducible first | exact HB.out | apply eA | apply eN | apply eD | refine eU ?_ (by assumption)) | exact HB.out))) : w.heap.size ≤ g264)); have n5_ := n4_; have n6_ := qM ((by rw [hg]; exact Nat.ne_of_lt (qL (g := g258) (by (with_reducible repeat first | refine qN ?_ _ | refine qD ?_ | refine qA ?_ _); exact B258.out)) : g258 ≠ g264)); have n7_ := qM (Ne.symm n6_.out); clear HO_3 B258 HB; have HO_3 := n0_; have B258 := n1_; have HB := n2_; have B264 := n3_; have GW264 := n4_; have GE264 := n5_; have NB258_264 := n6_; have NB264_258 := n7_; clear n0_ n1_ n2_ n3_ n4_ n5_ n6_ n7_; clear hb hbox hg; have hnb9 := NB264_258.out; have hnc9 := NB258_264.out; obtain ⟨z10_0, z10_1, z10_2, f10_0, f10_1, f10_2⟩ := cells3 B264.out))
     go_roundg k1
     case measure => have := HK1.out; omega
     case rel => exact ⟨(x3_1), (wrap64 (x4_1 + 1)), (by first | rfl | (simp; done) | (simp [*]; done)), H', ⟨by have := HK1.out; omega⟩, ⟨by (with_reducible repeat first | apply RA | apply RN | apply RD); exact Kd.R_mono (Kd.R_far (p := ⟨g264, 2, none⟩) (Kd.R_far (p := ⟨g264, 1, none⟩) (Kd.R_far (p := ⟨g264, 0, none⟩) (Kd.R_types HO_3.out B264.out (by decide)) (fun _ hk => hk.2) (.int .i64 t259)) (fun _ hk => hk.2) (.int .i64 t260)) (fun _ hk => hk.2) (.string t261)) (fun _ hk => trivial)⟩, ⟨by (with_reducible repeat first | refine qN ?_ _ | refine qD ?_ | refine qA ?_ _); (iterate 3 (refine qR ?_ NB258_264.out _; (with_reducible repeat first | refine qN ?_ _ | refine qD ?_ | refine qA ?_ _))); exact B258.out⟩, ⟨by repeat (first | (with_reducible first | exact HB.out | apply eA | apply eN | apply eD | refine eS ?_ GE258.out | refine eS ?_ GE264.out) | exact HB.out)⟩⟩
    ·replace c5 := Bool.eq_false_iff.mpr c5
     subst c5
     have H1 : (if t263 = true then (hogsheadref10_Bad.l0 k1 x3_1 (wrap64 (x4_1 + 1)) l0_0 l0_1 a0_2 a0_3) else (if x3_1.length < 17592186044416 then (hogsheadref10_Bad.l0 k1 (x3_1 ++ [x4_1]) (wrap64 (x4_1 + 1)) l0_0 l0_1 a0_2 a0_3) else (none))) = some r := by rw [if_neg (show ¬ (false = true) by decide)] at H; exact H
     clear H
     have H := H1
     clear H1
     by_cases c11 : t263 = true
     ·subst c11
      have H1 : (hogsheadref10_Bad.l0 k1 x3_1 (wrap64 (x4_1 + 1)) l0_0 l0_1 a0_2 a0_3) = some r := by rw [if_pos rfl] at H; exact H
      clear H
      have H := H1
      clear H1
      have H' := qM H
      clear H
      obtain ⟨z12_0, z12_1, z12_2, z12_3, f12_0, f12_1, f12_2, f12_3⟩ := cells4 B258.out
      go_wp2_with (first | ((with_reducible refine gate_callee (f := 38) rfl ?_); refine goesL_ (some 18) rfl rfl Try.func38 (by kernel_rfl) rfl #[.agg #[.slice A0_0 l0_0.length c0_0, .slice A0_1 l0_1.length c0_1, .int .i64 a0_2, .bool a0_3], .int .i64 x4_1] rfl (by (try simp only [List.map_toArray, List.map_cons, List.map_nil]); first | done | rfl | (simp only [List.length_drop, List.length_take]; rfl)) ?_; (with_reducible refine (hogsheadref10_at.calls k1 _ _ l0_0 _ _ l0_1 a0_2 a0_3 x4_1 t259 t260 t261 false true _ ?side1 ?side2 ?side3 ?side4 A4.out).mono ?_); (case side1 => repeat (first | exact (Kd.C_below HR0_0.out HB.out) | (with_reducible refine Kd.C_alloc ?_ _) | (with_reducible refine Kd.C_drewN ?_ _) | (with_reducible refine Kd.C_drew ?_))); (case side2 => exact HC0_0.out); (case side3 => repeat (first | exact (Kd.C_below HR0_1.out HB.out) | (with_reducible refine Kd.C_alloc ?_ _) | (with_reducible refine Kd.C_drewN ?_ _) | (with_reducible refine Kd.C_drew ?_))); (case side4 => exact HC0_1.out); rintro e w13 ⟨rfl, hb⟩; refine ⟨_, rfl, ?_⟩; have n0_ := qM (Kd.R_below (by (with_reducible repeat first | apply RA | apply RN | apply RD); exact HO_3.out) hb); have n1_ := qM (qB (g := g258) (by (with_reducible repeat first | refine qN ?_ _ | refine qD ?_ | refine qA ?_ _); exact B258.out) hb); have n2_ := qM (eT (by repeat (first | (with_reducible first | exact HB.out | apply eA | apply eN | apply eD | refine eU ?_ (by assumption)) | exact HB.out)) hb); clear HO_3 B258 HB; have HO_3 := n0_; have B258 := n1_; have HB := n2_; clear n0_ n1_ n2_; (try clear hb); (try clear hb2); (try clear hk); (try clear hi)) | ((with_reducible refine gate_dst (N := 5) rfl ?_); refine box_event ?hg (N := 5) ?hd (cs := #[.int .i64 0, .int .i64 0, .string (⟨#[]⟩ : ByteArray)]) (t := 43) ?hr ?_; (case hd => rfl); (case hg => rfl); (case hr => first | (go_simp; done) | (go_simp; rfl)); intro g264 hg w14 hbox hb; have n0_ := qM (Kd.R_below (by (with_reducible repeat first | apply RA | apply RN | apply RD); exact HO_3.out) hb); have n1_ := qM (qB (g := g258) (by (with_reducible repeat first | refine qN ?_ _ | refine qD ?_ | refine qA ?_ _); exact B258.out) hb); have n2_ := qM (eT (by repeat (first | (with_reducible first | exact HB.out | apply eA | apply eN | apply eD | refine eU ?_ (by assumption)) | exact HB.out)) hb); have n3_ := qM (hbox); have n4_ := qM ((by rw [hg]; exact (eZ (by repeat (first | (with_reducible first | exact HB.out | apply eA | apply eN | apply eD | refine eU ?_ (by assumption)) | exact HB.out))) : w.heap.size ≤ g264)); have n5_ := n4_; have n6_ := qM ((by rw [hg]; exact Nat.ne_of_lt (qL (g := g258) (by (with_reducible repeat first | refine qN ?_ _ | refine qD ?_ | refine qA ?_ _); exact B258.out)) : g258 ≠ g264)); have n7_ := qM (Ne.symm n6_.out); clear HO_3 B258 HB; have HO_3 := n0_; have B258 := n1_; have HB := n2_; have B264 := n3_; have GW264 := n4_; have GE264 := n5_; have NB258_264 := n6_; have NB264_258 := n7_; clear n0_ n1_ n2_ n3_ n4_ n5_ n6_ n7_; clear hb hbox hg; have hnb15 := NB264_258.out; have hnc15 := NB258_264.out; obtain ⟨z16_0, z16_1, z16_2, f16_0, f16_1, f16_2⟩ := cells3 B264.out))
      go_roundg k1
      case measure => have := HK1.out; omega
      case rel => exact ⟨(x3_1), (wrap64 (x4_1 + 1)), (by first | rfl | (simp; done) | (simp [*]; done)), H', ⟨by have := HK1.out; omega⟩, ⟨by (with_reducible repeat first | apply RA | apply RN | apply RD); exact Kd.R_mono (Kd.R_far (p := ⟨g264, 2, none⟩) (Kd.R_far (p := ⟨g264, 1, none⟩) (Kd.R_far (p := ⟨g264, 0, none⟩) (Kd.R_types HO_3.out B264.out (by decide)) (fun _ hk => hk.2) (.int .i64 t259)) (fun _ hk => hk.2) (.int .i64 t260)) (fun _ hk => hk.2) (.string t261)) (fun _ hk => trivial)⟩, ⟨by (with_reducible repeat first | refine qN ?_ _ | refine qD ?_ | refine qA ?_ _); (iterate 3 (refine qR ?_ NB258_264.out _; (with_reducible repeat first | refine qN ?_ _ | refine qD ?_ | refine qA ?_ _))); exact B258.out⟩, ⟨by repeat (first | (with_reducible first | exact HB.out | apply eA | apply eN | apply eD | refine eS ?_ GE258.out | refine eS ?_ GE264.out) | exact HB.out)⟩⟩
     ·replace c11 := Bool.eq_false_iff.mpr c11
      subst c11
      have H1 : (if x3_1.length < 17592186044416 then (hogsheadref10_Bad.l0 k1 (x3_1 ++ [x4_1]) (wrap64 (x4_1 + 1)) l0_0 l0_1 a0_2 a0_3) else (none)) = some r := by rw [if_neg (show ¬ (false = true) by decide)] at H; exact H
      clear H
      have H := H1
      clear H1
      by_cases c17 : x3_1.length < 17592186044416
      ·rw [if_pos c17] at H
       have LMc17 := qM c17
       clear c17
       obtain ⟨y265, hy265⟩ : ∃ y_ : List Int, y_ = (x3_1 ++ [x4_1]) := ⟨_, rfl⟩
       replace H : (hogsheadref10_Bad.l0 k1 y265 (wrap64 (x4_1 + 1)) l0_0 l0_1 a0_2 a0_3) = some r := by first | (rw [hy265]; with_reducible exact H) | (have H2_ := (Option.bind_some _ _).symm.trans H; rw [hy265]; with_reducible exact H2_) | (have H2_ := (Option.bind_some _ _).symm.trans H; with_reducible exact H2_) | with_reducible exact H | (rw [hy265]; exact H) | exact H
       have Ny265 := qM hy265
       clear hy265
       have H' := qM H
       clear H
       obtain ⟨z18_0, z18_1, z18_2, z18_3, f18_0, f18_1, f18_2, f18_3⟩ := cells4 B258.out
       go_wp2_with (first | ((with_reducible refine gate_callee (f := 38) rfl ?_); refine goesL_ (some 18) rfl rfl Try.func38 (by kernel_rfl) rfl #[.agg #[.slice A0_0 l0_0.length c0_0, .slice A0_1 l0_1.length c0_1, .int .i64 a0_2, .bool a0_3], .int .i64 x4_1] rfl (by (try simp only [List.map_toArray, List.map_cons, List.map_nil]); first | done | rfl | (simp only [List.length_drop, List.length_take]; rfl)) ?_; (with_reducible refine (hogsheadref10_at.calls k1 _ _ l0_0 _ _ l0_1 a0_2 a0_3 x4_1 t259 t260 t261 false false _ ?side1 ?side2 ?side3 ?side4 A4.out).mono ?_); (case side1 => repeat (first | exact (Kd.C_below HR0_0.out HB.out) | (with_reducible refine Kd.C_alloc ?_ _) | (with_reducible refine Kd.C_drewN ?_ _) | (with_reducible refine Kd.C_drew ?_))); (case side2 => exact HC0_0.out); (case side3 => repeat (first | exact (Kd.C_below HR0_1.out HB.out) | (with_reducible refine Kd.C_alloc ?_ _) | (with_reducible refine Kd.C_drewN ?_ _) | (with_reducible refine Kd.C_drew ?_))); (case side4 => exact HC0_1.out); rintro e w19 ⟨rfl, hb⟩; refine ⟨_, rfl, ?_⟩; have n0_ := qM (Kd.R_below (by (with_reducible repeat first | apply RA | apply RN | apply RD); exact HO_3.out) hb); have n1_ := qM (qB (g := g258) (by (with_reducible repeat first | refine qN ?_ _ | refine qD ?_ | refine qA ?_ _); exact B258.out) hb); have n2_ := qM (eT (by repeat (first | (with_reducible first | exact HB.out | apply eA | apply eN | apply eD | refine eU ?_ (by assumption)) | exact HB.out)) hb); clear HO_3 B258 HB; have HO_3 := n0_; have B258 := n1_; have HB := n2_; clear n0_ n1_ n2_; (try clear hb); (try clear hb2); (try clear hk); (try clear hi)) | ((with_reducible refine gate_dst (N := 5) rfl ?_); refine box_event ?hg (N := 5) ?hd (cs := #[.int .i64 0, .int .i64 0, .string (⟨#[]⟩ : ByteArray)]) (t := 43) ?hr ?_; (case hd => rfl); (case hg => rfl); (case hr => first | (go_simp; done) | (go_simp; rfl)); intro g264 hg w20 hbox hb; have n0_ := qM (Kd.R_below (by (with_reducible repeat first | apply RA | apply RN | apply RD); exact HO_3.out) hb); have n1_ := qM (qB (g := g258) (by (with_reducible repeat first | refine qN ?_ _ | refine qD ?_ | refine qA ?_ _); exact B258.out) hb); have n2_ := qM (eT (by repeat (first | (with_reducible first | exact HB.out | apply eA | apply eN | apply eD | refine eU ?_ (by assumption)) | exact HB.out)) hb); have n3_ := qM (hbox); have n4_ := qM ((by rw [hg]; exact (eZ (by repeat (first | (with_reducible first | exact HB.out | apply eA | apply eN | apply eD | refine eU ?_ (by assumption)) | exact HB.out))) : w.heap.size ≤ g264)); have n5_ := n4_; have n6_ := qM ((by rw [hg]; exact Nat.ne_of_lt (qL (g := g258) (by (with_reducible repeat first | refine qN ?_ _ | refine qD ?_ | refine qA ?_ _); exact B258.out)) : g258 ≠ g264)); have n7_ := qM (Ne.symm n6_.out); clear HO_3 B258 HB; have HO_3 := n0_; have B258 := n1_; have HB := n2_; have B264 := n3_; have GW264 := n4_; have GE264 := n5_; have NB258_264 := n6_; have NB264_258 := n7_; clear n0_ n1_ n2_ n3_ n4_ n5_ n6_ n7_; clear hb hbox hg; have hnb21 := NB264_258.out; have hnc21 := NB258_264.out; obtain ⟨z22_0, z22_1, z22_2, f22_0, f22_1, f22_2⟩ := cells3 B264.out) | ((with_reducible refine gate_builtin (b := .append) (xs := #[.tmp 28, .tmp 30]) rfl ?_); at_builtin; refine Kd.R_append (Kd.int .i64) (w0 := w) w.heap.size rfl (.tmp 28) (.tmp 30) 33 3 (.int .i64 0) 8 rfl Try.underlying33 info3 rfl (by decide) (by omega) u3 x3_1 x4_1 [.int .i64 x4_1] (fun _ => True) (fun _ => False) rfl (by first | (go_simp; done) | (go_simp; rfl)) ?aP (fun _ hk => hk.elim) ?aF ?aO ?aB ?aS ?aL ?_; (case aP => exact rfl); (case aB => exact (by repeat (first | (with_reducible first | exact HB.out | apply eA | apply eN | apply eD | refine eU ?_ (by assumption)) | exact HB.out))); (case aF => exact (fun _ _ => trivial)); (case aO => exact (by (with_reducible repeat first | apply RA | apply RN | apply RD); exact Kd.R_mono (Kd.R_far (p := ⟨g264, 2, none⟩) (Kd.R_far (p := ⟨g264, 1, none⟩) (Kd.R_far (p := ⟨g264, 0, none⟩) (Kd.R_types HO_3.out B264.out (by decide)) (fun _ hk => hk.2) (.int .i64 t259)) (fun _ hk => hk.2) (.int .i64 t260)) (fun _ hk => hk.2) (.string t261)) (fun _ hk => trivial))); (case aS => exact (eZ (by repeat (first | (with_reducible first | exact HB.out | apply eA | apply eN | apply eD | refine eU ?_ (by assumption)) | exact HB.out)))); (case aL => have := LMc17.out; omega); intro v266 w23 ho hb hg hat; rw [← Ny265.out] at ho; have n0_ := qM (blk_grown (g := g258) (o := .cells #[.slice A0_0 l0_0.length c0_0, .slice A0_1 l0_1.length c0_1, .int .i64 a0_2, .bool a0_3] 25 (0, 0)) (by (with_reducible repeat first | refine qN ?_ _ | refine qD ?_ | refine qA ?_ _); (iterate 3 (refine qR ?_ NB258_264.out _; (with_reducible repeat first | refine qN ?_ _ | refine qD ?_ | refine qA ?_ _))); exact B258.out) hg (Kd.R_ne HO_3.out B258.out (by decide))); have n1_ := qM (blk_grown (g := g264) (o := .cells #[.int .i64 t259, .int .i64 t260, .string t261] 43 (0, 0)) (by (with_reducible repeat first | refine qN ?_ _ | refine qD ?_ | refine qA ?_ _); apply puts3; (with_reducible repeat first | refine qN ?_ _ | refine qD ?_ | refine qA ?_ _); exact B264.out) hg (Kd.R_ne HO_3.out B264.out (by decide))); have n2_ := qM (hb); have n3_ := qM (ho); clear B258 B264 HB HO_3; have B258 := n0_; have B264 := n1_; have HB := n2_; have HO267 := n3_; clear n0_ n1_ n2_ n3_; clear ho hb hg hat))
       go_roundg k1
       case measure => have := HK1.out; omega
       case rel => exact ⟨(y265), (wrap64 (x4_1 + 1)), (by first | rfl | (simp; done) | (simp [*]; done)), H', ⟨by have := HK1.out; omega⟩, ⟨by (with_reducible repeat first | apply RA | apply RN | apply RD); exact HO267.out⟩, ⟨by (with_reducible repeat first | refine qN ?_ _ | refine qD ?_ | refine qA ?_ _); exact B258.out⟩, ⟨by repeat (first | (with_reducible first | exact HB.out | apply eA | apply eN | apply eD | refine eS ?_ GE258.out | refine eS ?_ GE264.out) | exact HB.out)⟩⟩
      ·rw [if_neg c17] at H
       exact absurd H (by simp)
   ·rw [if_neg c3] at H
    have c3b0 : decide (x4_1 < (l0_0.length : Int)) = false := decide_eq_false c3
    clear c3
    obtain rfl := Option.some.inj H
    obtain ⟨z24_0, z24_1, z24_2, z24_3, f24_0, f24_1, f24_2, f24_3⟩ := cells4 B258.out
    go_wp2
    go_ret
    exact ⟨_, by first | rfl | (simp [errW_none, errW_some] <;> rfl) | (simp [*, errW_none, errW_some] <;> rfl), by (with_reducible repeat first | apply RA | apply RN | apply RD); exact HO_3.out, by repeat (first | (with_reducible first | exact HB.out | apply eA | apply eN | apply eD | refine eS ?_ GE258.out) | exact HB.out)⟩

/-! ### hogsheadref10_Find: function 19 -/
def hogsheadref10_Find.l0 : Nat → Int → List ByteArray → List (S94) → Int → Bool → Int → Int → Option (ByteArray × Int)
 | 0, _, _, _, _, _, _, _ => none
 | k + 1, x6, x269000, x269001, x269002, x269003, x270000, x270001 => if x6 < (x269000.length : Int) then ((hogsheadref10_at.f k x269000 x269001 x269002 x269003 x6).bind fun bt270 => (if bt270.2.2.2.1 = true then (if bt270.1 = x270000 then (if bt270.2.1 = x270001 then (some (bt270.2.2.1, 0)) else (hogsheadref10_Find.l0 k (wrap64 (x6 + 1)) x269000 x269001 x269002 x269003 x270000 x270001)) else (hogsheadref10_Find.l0 k (wrap64 (x6 + 1)) x269000 x269001 x269002 x269003 x270000 x270001)) else (hogsheadref10_Find.l0 k (wrap64 (x6 + 1)) x269000 x269001 x269002 x269003 x270000 x270001))) else (some ((⟨#[]⟩ : ByteArray), 7))
def hogsheadref10_Find.f (k : Nat) (l0_0 : List ByteArray) (l0_1 : List (S94)) (a0_2 : Int) (a0_3 : Bool) (a1_0 : Int) (a1_1 : Int) : Option (ByteArray × Int) := hogsheadref10_Find.l0 k 0 l0_0 l0_1 a0_2 a0_3 a1_0 a1_1
theorem hogsheadref10_Find.mono_l : ∀ k, (∀ y0 y1 y2 y3 y4 y5 y6, LeO (hogsheadref10_Find.l0 k y0 y1 y2 y3 y4 y5 y6) (hogsheadref10_Find.l0 (k + 1) y0 y1 y2 y3 y4 y5 y6))
 | 0 => fun _ _ _ _ _ _ _ r h => by simp [hogsheadref10_Find.l0] at h
 | k + 1 => by
  have ih0 := hogsheadref10_Find.mono_l k
  ·intro y0 y1 y2 y3 y4 y5 y6
   unfold hogsheadref10_Find.l0
   repeat' first
   | (with_reducible exact ih0 _ _ _ _ _ _ _)
   | (with_reducible exact hogsheadref10_at.mono _ _ _ _ _ _)
   | (with_reducible exact LeO.refl _)
   | (with_reducible exact LeO.none _)
   | (with_reducible refine LeO.ite ?_ ?_)
   | (with_reducible refine LeO.bind ?_ (fun _ => ?_))
   | exact ih0 _ _ _ _ _ _ _
   | exact hogsheadref10_at.mono _ _ _ _ _ _
   | exact LeO.none _
   | refine LeO.ite ?_ ?_
   | refine LeO.bind ?_ (fun _ => ?_)
theorem hogsheadref10_Find.mono : ∀ a0 a1 a2 a3 a4 a5 k, LeO (hogsheadref10_Find.f k a0 a1 a2 a3 a4 a5) (hogsheadref10_Find.f (k + 1) a0 a1 a2 a3 a4 a5) := by
 intro a0 a1 a2 a3 a4 a5 k
 have ih0 := hogsheadref10_Find.mono_l k
 unfold hogsheadref10_Find.f
 repeat' first
   | (with_reducible exact ih0 _ _ _ _ _ _ _)
   | (with_reducible exact hogsheadref10_at.mono _ _ _ _ _ _)
   | (with_reducible exact LeO.refl _)
   | (with_reducible exact LeO.none _)
   | (with_reducible refine LeO.ite ?_ ?_)
   | (with_reducible refine LeO.bind ?_ (fun _ => ?_))
   | exact ih0 _ _ _ _ _ _ _
   | exact hogsheadref10_at.mono _ _ _ _ _ _
   | exact LeO.none _
   | refine LeO.ite ?_ ?_
   | refine LeO.bind ?_ (fun _ => ?_)
set_option maxHeartbeats 40000000 in
set_option maxRecDepth 100000 in
theorem hogsheadref10_Find.calls (k : Nat) (A0_0 : Option Addr) (c0_0 : Nat) (l0_0 : List ByteArray) (A0_1 : Option Addr) (c0_1 : Nat) (l0_1 : List (S94)) (a0_2 : Int) (a0_3 : Bool) (a1_0 : Int) (a1_1 : Int) (r1 : ByteArray) (r2 : Int) (w : World) (hr0_0 : Kd.C Kd.string w A0_0 l0_0.length l0_0) (hc0_0 : l0_0.length ≤ c0_0) (hr0_1 : Kd.C k94 w A0_1 l0_1.length l0_1) (hc0_1 : l0_1.length ≤ c0_1) (h : hogsheadref10_Find.f k l0_0 l0_1 a0_2 a0_3 a1_0 a1_1 = some (r1, r2)) :
  Calls Try.prog 19 #[.agg #[.slice A0_0 l0_0.length c0_0, .slice A0_1 l0_1.length c0_1, .int .i64 a0_2, .bool a0_3], .agg #[.int .i64 a1_0, .int .i64 a1_1]] w fun e w' => e = .returned (.tuple #[.string r1, .int .i64 r2]) ∧ Below w.heap.size w w' := by
 have hu25 := Try.underlying25
 have hu27 := Try.underlying27
 have hu43 := Try.underlying43
 have HR0_0 := qM hr0_0
 have HC0_0 := qM hc0_0
 clear hr0_0 hc0_0
 have HR0_1 := qM hr0_1
 have HC0_1 := qM hc0_1
 clear hr0_1 hc0_1
 have HB := qM (Below.refl w.heap.size w)
 have H : (hogsheadref10_Find.l0 k 0 l0_0 l0_1 a0_2 a0_3 a1_0 a1_1) = some (r1, r2) := h
 clear h
 have H' := qM H
 clear H
 go_enter Try.func19, Try.ntmps19
 go_wp2_with (first | ((with_reducible refine gate_dst (N := 2) rfl ?_); refine box_event ?hg (N := 2) ?hd (cs := #[.slice A0_0 l0_0.length c0_0, .slice A0_1 l0_1.length c0_1, .int .i64 a0_2, .bool a0_3]) (t := 25) ?hr ?_; (case hd => rfl); (case hg => rfl); (case hr => first | (go_simp; done) | (go_simp; rfl)); intro g268 hg w3 hbox hb; have n0_ := qM (eT (by repeat (first | (with_reducible first | exact HB.out | apply eA | apply eN | apply eD) | exact HB.out)) hb); have n1_ := qM (hbox); have n2_ := qM ((by rw [hg]; exact (eZ (by repeat (first | (with_reducible first | exact HB.out | apply eA | apply eN | apply eD) | exact HB.out))) : w.heap.size ≤ g268)); have n3_ := n2_; clear HB; have HB := n0_; have B268 := n1_; have GW268 := n2_; have GE268 := n3_; clear n0_ n1_ n2_ n3_; clear hb hbox hg) | ((with_reducible refine gate_dst (N := 3) rfl ?_); refine box_event ?hg (N := 3) ?hd (cs := #[.int .i64 a1_0, .int .i64 a1_1]) (t := 27) ?hr ?_; (case hd => rfl); (case hg => rfl); (case hr => first | (go_simp; done) | (go_simp; rfl)); intro g269 hg w4 hbox hb; have n0_ := qM (qB (g := g268) (by (with_reducible repeat first | refine qN ?_ _ | refine qD ?_ | refine qA ?_ _); exact B268.out) hb); have n1_ := qM (eT (by repeat (first | (with_reducible first | exact HB.out | apply eA | apply eN | apply eD | refine eU ?_ (by assumption)) | exact HB.out)) hb); have n2_ := qM (hbox); have n3_ := qM ((by rw [hg]; exact (eZ (by repeat (first | (with_reducible first | exact HB.out | apply eA | apply eN | apply eD | refine eU ?_ (by assumption)) | exact HB.out))) : w.heap.size ≤ g269)); have n4_ := n3_; have n5_ := qM ((by rw [hg]; exact Nat.ne_of_lt (qL (g := g268) (by (with_reducible repeat first | refine qN ?_ _ | refine qD ?_ | refine qA ?_ _); exact B268.out)) : g268 ≠ g269)); have n6_ := qM (Ne.symm n5_.out); clear B268 HB; have B268 := n0_; have HB := n1_; have B269 := n2_; have GW269 := n3_; have GE269 := n4_; have NB268_269 := n5_; have NB269_268 := n6_; clear n0_ n1_ n2_ n3_ n4_ n5_ n6_; clear hb hbox hg))
 go_loopg [6] k (fun kq v6 w' => ∃ (x6_1 : Int), v6 = .int .i64 x6_1 ∧ Aside0 (hogsheadref10_Find.l0 kq x6_1 l0_0 l0_1 a0_2 a0_3 a1_0 a1_1 = some (r1, r2)) ∧ Aside0 (kq ≤ k) ∧ Aside0 (w'.heap[g268]? = some (.cells #[(.slice A0_0 l0_0.length c0_0), (.slice A0_1 l0_1.length c0_1), .int .i64 a0_2, .bool a0_3] 25 (0, 0))) ∧ Aside0 (w'.heap[g269]? = some (.cells #[.int .i64 a1_0, .int .i64 a1_1] 27 (0, 0))) ∧ Aside0 (Below w.heap.size w w'))
 case atStart => exact ⟨(0), (by first | rfl | (simp; done) | (simp [*]; done)), H', ⟨Nat.le_refl _⟩, ⟨by (with_reducible repeat first | refine qN ?_ _ | refine qD ?_ | refine qA ?_ _); exact B268.out⟩, ⟨by (with_reducible repeat first | refine qN ?_ _ | refine qD ?_ | refine qA ?_ _); exact B269.out⟩, ⟨by repeat (first | (with_reducible first | exact HB.out | apply eA | apply eN | apply eD | refine eS ?_ GE268.out | refine eS ?_ GE269.out) | exact HB.out)⟩⟩
 case round =>
  clear H'
  try clear c1
  try clear p2
  obtain ⟨x6_1, rfl, HA, HK1, B268, B269, HB⟩ := hrel
  cases gk with
  | zero => exact absurd HA.out (by simp [hogsheadref10_Find.l0])
  | succ k1 =>
   have H := HA.out
   clear HA
   simp only [hogsheadref10_Find.l0] at H
   by_cases c5 : x6_1 < (l0_0.length : Int)
   ·rw [if_pos c5] at H
    have c5b0 : decide (x6_1 < (l0_0.length : Int)) = true := decide_eq_true c5
    clear c5
    replace H := Option.bind_eq_some_iff.mp H
    obtain ⟨⟨t270, t271, t272, t273, t274⟩, A60, H⟩ := H
    replace H : (if t273 = true then (if t270 = a1_0 then (if t271 = a1_1 then (some (t272, 0)) else (hogsheadref10_Find.l0 k1 (wrap64 (x6_1 + 1)) l0_0 l0_1 a0_2 a0_3 a1_0 a1_1)) else (hogsheadref10_Find.l0 k1 (wrap64 (x6_1 + 1)) l0_0 l0_1 a0_2 a0_3 a1_0 a1_1)) else (hogsheadref10_Find.l0 k1 (wrap64 (x6_1 + 1)) l0_0 l0_1 a0_2 a0_3 a1_0 a1_1)) = some (r1, r2) := H
    have A6 := qM A60
    clear A60
    by_cases c7 : t273 = true
    ·subst c7
     have H1 : (if t270 = a1_0 then (if t271 = a1_1 then (some (t272, 0)) else (hogsheadref10_Find.l0 k1 (wrap64 (x6_1 + 1)) l0_0 l0_1 a0_2 a0_3 a1_0 a1_1)) else (hogsheadref10_Find.l0 k1 (wrap64 (x6_1 + 1)) l0_0 l0_1 a0_2 a0_3 a1_0 a1_1)) = some (r1, r2) := by rw [if_pos rfl] at H; exact H
     clear H
     have H := H1
     clear H1
     by_cases c8 : t270 = a1_0
     ·rw [if_pos c8] at H
      have c8b0 : (t270 == a1_0) = true := beq_iff_eq.mpr c8
      have c8b1 : (t270 != a1_0) = false := bne_eq_false_iff_eq.mpr c8
      clear c8
      by_cases c9 : t271 = a1_1
      ·rw [if_pos c9] at H
       have c9b0 : (t271 == a1_1) = true := beq_iff_eq.mpr c9
       have c9b1 : (t271 != a1_1) = false := bne_eq_false_iff_eq.mpr c9
       clear c9
       simp only [Option.some.injEq, Prod.mk.injEq] at H
       obtain ⟨rfl, rfl⟩ := H
       have hnb10 := NB268_269.out
       have hnc10 := NB269_268.out
       obtain ⟨z11_0, z11_1, z11_2, z11_3, f11_0, f11_1, f11_2, f11_3⟩ := cells4 B268.out
       go_wp2_with (first | ((with_reducible refine gate_callee (f := 38) rfl ?_); refine goesL_ (some 20) rfl rfl Try.func38 (by kernel_rfl) rfl #[.agg #[.slice A0_0 l0_0.length c0_0, .slice A0_1 l0_1.length c0_1, .int .i64 a0_2, .bool a0_3], .int .i64 x6_1] rfl (by (try simp only [List.map_toArray, List.map_cons, List.map_nil]); first | done | rfl | (simp only [List.length_drop, List.length_take]; rfl)) ?_; (with_reducible refine (hogsheadref10_at.calls k1 _ _ l0_0 _ _ l0_1 a0_2 a0_3 x6_1 t270 t271 t272 true t274 _ ?side1 ?side2 ?side3 ?side4 A6.out).mono ?_); (case side1 => repeat (first | exact (Kd.C_below HR0_0.out HB.out) | (with_reducible refine Kd.C_alloc ?_ _) | (with_reducible refine Kd.C_drewN ?_ _) | (with_reducible refine Kd.C_drew ?_))); (case side2 => exact HC0_0.out); (case side3 => repeat (first | exact (Kd.C_below HR0_1.out HB.out) | (with_reducible refine Kd.C_alloc ?_ _) | (with_reducible refine Kd.C_drewN ?_ _) | (with_reducible refine Kd.C_drew ?_))); (case side4 => exact HC0_1.out); rintro e w12 ⟨rfl, hb⟩; refine ⟨_, rfl, ?_⟩; have n0_ := qM (qB (g := g268) (by (with_reducible repeat first | refine qN ?_ _ | refine qD ?_ | refine qA ?_ _); exact B268.out) hb); have n1_ := qM (qB (g := g269) (by (with_reducible repeat first | refine qN ?_ _ | refine qD ?_ | refine qA ?_ _); exact B269.out) hb); have n2_ := qM (eT (by repeat (first | (with_reducible first | exact HB.out | apply eA | apply eN | apply eD | refine eU ?_ (by assumption)) | exact HB.out)) hb); clear B268 B269 HB; have B268 := n0_; have B269 := n1_; have HB := n2_; clear n0_ n1_ n2_; (try clear hb); (try clear hb2); (try clear hk); (try clear hi)) | ((with_reducible refine gate_dst (N := 7) rfl ?_); refine box_event ?hg (N := 7) ?hd (cs := #[.int .i64 0, .int .i64 0, .string (⟨#[]⟩ : ByteArray)]) (t := 43) ?hr ?_; (case hd => rfl); (case hg => rfl); (case hr => first | (go_simp; done) | (go_simp; rfl)); intro g275 hg w13 hbox hb; have n0_ := qM (qB (g := g268) (by (with_reducible repeat first | refine qN ?_ _ | refine qD ?_ | refine qA ?_ _); exact B268.out) hb); have n1_ := qM (qB (g := g269) (by (with_reducible repeat first | refine qN ?_ _ | refine qD ?_ | refine qA ?_ _); exact B269.out) hb); have n2_ := qM (eT (by repeat (first | (with_reducible first | exact HB.out | apply eA | apply eN | apply eD | refine eU ?_ (by assumption)) | exact HB.out)) hb); have n3_ := qM (hbox); have n4_ := qM ((by rw [hg]; exact (eZ (by repeat (first | (with_reducible first | exact HB.out | apply eA | apply eN | apply eD | refine eU ?_ (by assumption)) | exact HB.out))) : w.heap.size ≤ g275)); have n5_ := n4_; have n6_ := qM ((by rw [hg]; exact Nat.ne_of_lt (qL (g := g268) (by (with_reducible repeat first | refine qN ?_ _ | refine qD ?_ | refine qA ?_ _); exact B268.out)) : g268 ≠ g275)); have n7_ := qM (Ne.symm n6_.out); have n8_ := qM ((by rw [hg]; exact Nat.ne_of_lt (qL (g := g269) (by (with_reducible repeat first | refine qN ?_ _ | refine qD ?_ | refine qA ?_ _); exact B269.out)) : g269 ≠ g275)); have n9_ := qM (Ne.symm n8_.out); clear B268 B269 HB; have B268 := n0_; have B269 := n1_; have HB := n2_; have B275 := n3_; have GW275 := n4_; have GE275 := n5_; have NB268_275 := n6_; have NB275_268 := n7_; have NB269_275 := n8_; have NB275_269 := n9_; clear n0_ n1_ n2_ n3_ n4_ n5_ n6_ n7_ n8_ n9_; clear hb hbox hg; have hnb14 := NB275_268.out; have hnc14 := NB268_275.out; have hnb15 := NB275_269.out; have hnc15 := NB269_275.out; obtain ⟨z16_0, z16_1, z16_2, f16_0, f16_1, f16_2⟩ := cells3 B275.out; have z17_0 : w13.cell? ⟨g269, 0, none⟩ = some (.int .i64 a1_0) := (qC B269.out 0).trans rfl; have z17_1 : w13.cell? ⟨g269, 1, none⟩ = some (.int .i64 a1_1) := (qC B269.out 1).trans rfl; have f17_0 := qF B269.out 0; have f17_1 := qF B269.out 1))
       go_ret2
       exact ⟨by first | rfl | (simp [errW_none, errW_some] <;> rfl) | (simp [*, errW_none, errW_some] <;> rfl), by repeat (first | (with_reducible first | exact HB.out | apply eA | apply eN | apply eD | refine eS ?_ GE268.out | refine eS ?_ GE269.out | refine eS ?_ GE275.out) | exact HB.out)⟩
      ·rw [if_neg c9] at H
       have c9b0 : (t271 == a1_1) = false := beq_eq_false_iff_ne.mpr c9
       have c9b1 : (t271 != a1_1) = true := bne_iff_ne.mpr c9
       have H' := qM H
       clear H
       have hnb18 := NB268_269.out
       have hnc18 := NB269_268.out
       obtain ⟨z19_0, z19_1, z19_2, z19_3, f19_0, f19_1, f19_2, f19_3⟩ := cells4 B268.out
       go_wp2_with (first | ((with_reducible refine gate_callee (f := 38) rfl ?_); refine goesL_ (some 20) rfl rfl Try.func38 (by kernel_rfl) rfl #[.agg #[.slice A0_0 l0_0.length c0_0, .slice A0_1 l0_1.length c0_1, .int .i64 a0_2, .bool a0_3], .int .i64 x6_1] rfl (by (try simp only [List.map_toArray, List.map_cons, List.map_nil]); first | done | rfl | (simp only [List.length_drop, List.length_take]; rfl)) ?_; (with_reducible refine (hogsheadref10_at.calls k1 _ _ l0_0 _ _ l0_1 a0_2 a0_3 x6_1 t270 t271 t272 true t274 _ ?side1 ?side2 ?side3 ?side4 A6.out).mono ?_); (case side1 => repeat (first | exact (Kd.C_below HR0_0.out HB.out) | (with_reducible refine Kd.C_alloc ?_ _) | (with_reducible refine Kd.C_drewN ?_ _) | (with_reducible refine Kd.C_drew ?_))); (case side2 => exact HC0_0.out); (case side3 => repeat (first | exact (Kd.C_below HR0_1.out HB.out) | (with_reducible refine Kd.C_alloc ?_ _) | (with_reducible refine Kd.C_drewN ?_ _) | (with_reducible refine Kd.C_drew ?_))); (case side4 => exact HC0_1.out); rintro e w20 ⟨rfl, hb⟩; refine ⟨_, rfl, ?_⟩; have n0_ := qM (qB (g := g268) (by (with_reducible repeat first | refine qN ?_ _ | refine qD ?_ | refine qA ?_ _); exact B268.out) hb); have n1_ := qM (qB (g := g269) (by (with_reducible repeat first | refine qN ?_ _ | refine qD ?_ | refine qA ?_ _); exact B269.out) hb); have n2_ := qM (eT (by repeat (first | (with_reducible first | exact HB.out | apply eA | apply eN | apply eD | refine eU ?_ (by assumption)) | exact HB.out)) hb); clear B268 B269 HB; have B268 := n0_; have B269 := n1_; have HB := n2_; clear n0_ n1_ n2_; (try clear hb); (try clear hb2); (try clear hk); (try clear hi)) | ((with_reducible refine gate_dst (N := 7) rfl ?_); refine box_event ?hg (N := 7) ?hd (cs := #[.int .i64 0, .int .i64 0, .string (⟨#[]⟩ : ByteArray)]) (t := 43) ?hr ?_; (case hd => rfl); (case hg => rfl); (case hr => first | (go_simp; done) | (go_simp; rfl)); intro g275 hg w21 hbox hb; have n0_ := qM (qB (g := g268) (by (with_reducible repeat first | refine qN ?_ _ | refine qD ?_ | refine qA ?_ _); exact B268.out) hb); have n1_ := qM (qB (g := g269) (by (with_reducible repeat first | refine qN ?_ _ | refine qD ?_ | refine qA ?_ _); exact B269.out) hb); have n2_ := qM (eT (by repeat (first | (with_reducible first | exact HB.out | apply eA | apply eN | apply eD | refine eU ?_ (by assumption)) | exact HB.out)) hb); have n3_ := qM (hbox); have n4_ := qM ((by rw [hg]; exact (eZ (by repeat (first | (with_reducible first | exact HB.out | apply eA | apply eN | apply eD | refine eU ?_ (by assumption)) | exact HB.out))) : w.heap.size ≤ g275)); have n5_ := n4_; have n6_ := qM ((by rw [hg]; exact Nat.ne_of_lt (qL (g := g268) (by (with_reducible repeat first | refine qN ?_ _ | refine qD ?_ | refine qA ?_ _); exact B268.out)) : g268 ≠ g275)); have n7_ := qM (Ne.symm n6_.out); have n8_ := qM ((by rw [hg]; exact Nat.ne_of_lt (qL (g := g269) (by (with_reducible repeat first | refine qN ?_ _ | refine qD ?_ | refine qA ?_ _); exact B269.out)) : g269 ≠ g275)); have n9_ := qM (Ne.symm n8_.out); clear B268 B269 HB; have B268 := n0_; have B269 := n1_; have HB := n2_; have B275 := n3_; have GW275 := n4_; have GE275 := n5_; have NB268_275 := n6_; have NB275_268 := n7_; have NB269_275 := n8_; have NB275_269 := n9_; clear n0_ n1_ n2_ n3_ n4_ n5_ n6_ n7_ n8_ n9_; clear hb hbox hg; have hnb22 := NB275_268.out; have hnc22 := NB268_275.out; have hnb23 := NB275_269.out; have hnc23 := NB269_275.out; obtain ⟨z24_0, z24_1, z24_2, f24_0, f24_1, f24_2⟩ := cells3 B275.out; have z25_0 : w21.cell? ⟨g269, 0, none⟩ = some (.int .i64 a1_0) := (qC B269.out 0).trans rfl; have z25_1 : w21.cell? ⟨g269, 1, none⟩ = some (.int .i64 a1_1) := (qC B269.out 1).trans rfl; have f25_0 := qF B269.out 0; have f25_1 := qF B269.out 1))
       go_roundg k1
       case measure => have := HK1.out; omega
       case rel => exact ⟨(wrap64 (x6_1 + 1)), (by first | rfl | (simp; done) | (simp [*]; done)), H', ⟨by have := HK1.out; omega⟩, ⟨by (with_reducible repeat first | refine qN ?_ _ | refine qD ?_ | refine qA ?_ _); (iterate 3 (refine qR ?_ NB268_275.out _; (with_reducible repeat first | refine qN ?_ _ | refine qD ?_ | refine qA ?_ _))); exact B268.out⟩, ⟨by (with_reducible repeat first | refine qN ?_ _ | refine qD ?_ | refine qA ?_ _); (iterate 3 (refine qR ?_ NB269_275.out _; (with_reducible repeat first | refine qN ?_ _ | refine qD ?_ | refine qA ?_ _))); exact B269.out⟩, ⟨by repeat (first | (with_reducible first | exact HB.out | apply eA | apply eN | apply eD | refine eS ?_ GE268.out | refine eS ?_ GE269.out | refine eS ?_ GE275.out) | exact HB.out)⟩⟩
     ·rw [if_neg c8] at H
      have c8b0 : (t270 == a1_0) = false := beq_eq_false_iff_ne.mpr c8
      have c8b1 : (t270 != a1_0) = true := bne_iff_ne.mpr c8
      have H' := qM H
      clear H
      have hnb26 := NB268_269.out
      have hnc26 := NB269_268.out
      obtain ⟨z27_0, z27_1, z27_2, z27_3, f27_0, f27_1, f27_2, f27_3⟩ := cells4 B268.out
      go_wp2_with (first | ((with_reducible refine gate_callee (f := 38) rfl ?_); refine goesL_ (some 20) rfl rfl Try.func38 (by kernel_rfl) rfl #[.agg #[.slice A0_0 l0_0.length c0_0, .slice A0_1 l0_1.length c0_1, .int .i64 a0_2, .bool a0_3], .int .i64 x6_1] rfl (by (try simp only [List.map_toArray, List.map_cons, List.map_nil]); first | done | rfl | (simp only [List.length_drop, List.length_take]; rfl)) ?_; (with_reducible refine (hogsheadref10_at.calls k1 _ _ l0_0 _ _ l0_1 a0_2 a0_3 x6_1 t270 t271 t272 true t274 _ ?side1 ?side2 ?side3 ?side4 A6.out).mono ?_); (case side1 => repeat (first | exact (Kd.C_below HR0_0.out HB.out) | (with_reducible refine Kd.C_alloc ?_ _) | (with_reducible refine Kd.C_drewN ?_ _) | (with_reducible refine Kd.C_drew ?_))); (case side2 => exact HC0_0.out); (case side3 => repeat (first | exact (Kd.C_below HR0_1.out HB.out) | (with_reducible refine Kd.C_alloc ?_ _) | (with_reducible refine Kd.C_drewN ?_ _) | (with_reducible refine Kd.C_drew ?_))); (case side4 => exact HC0_1.out); rintro e w28 ⟨rfl, hb⟩; refine ⟨_, rfl, ?_⟩; have n0_ := qM (qB (g := g268) (by (with_reducible repeat first | refine qN ?_ _ | refine qD ?_ | refine qA ?_ _); exact B268.out) hb); have n1_ := qM (qB (g := g269) (by (with_reducible repeat first | refine qN ?_ _ | refine qD ?_ | refine qA ?_ _); exact B269.out) hb); have n2_ := qM (eT (by repeat (first | (with_reducible first | exact HB.out | apply eA | apply eN | apply eD | refine eU ?_ (by assumption)) | exact HB.out)) hb); clear B268 B269 HB; have B268 := n0_; have B269 := n1_; have HB := n2_; clear n0_ n1_ n2_; (try clear hb); (try clear hb2); (try clear hk); (try clear hi)) | ((with_reducible refine gate_dst (N := 7) rfl ?_); refine box_event ?hg (N := 7) ?hd (cs := #[.int .i64 0, .int .i64 0, .string (⟨#[]⟩ : ByteArray)]) (t := 43) ?hr ?_; (case hd => rfl); (case hg => rfl); (case hr => first | (go_simp; done) | (go_simp; rfl)); intro g275 hg w29 hbox hb; have n0_ := qM (qB (g := g268) (by (with_reducible repeat first | refine qN ?_ _ | refine qD ?_ | refine qA ?_ _); exact B268.out) hb); have n1_ := qM (qB (g := g269) (by (with_reducible repeat first | refine qN ?_ _ | refine qD ?_ | refine qA ?_ _); exact B269.out) hb); have n2_ := qM (eT (by repeat (first | (with_reducible first | exact HB.out | apply eA | apply eN | apply eD | refine eU ?_ (by assumption)) | exact HB.out)) hb); have n3_ := qM (hbox); have n4_ := qM ((by rw [hg]; exact (eZ (by repeat (first | (with_reducible first | exact HB.out | apply eA | apply eN | apply eD | refine eU ?_ (by assumption)) | exact HB.out))) : w.heap.size ≤ g275)); have n5_ := n4_; have n6_ := qM ((by rw [hg]; exact Nat.ne_of_lt (qL (g := g268) (by (with_reducible repeat first | refine qN ?_ _ | refine qD ?_ | refine qA ?_ _); exact B268.out)) : g268 ≠ g275)); have n7_ := qM (Ne.symm n6_.out); have n8_ := qM ((by rw [hg]; exact Nat.ne_of_lt (qL (g := g269) (by (with_reducible repeat first | refine qN ?_ _ | refine qD ?_ | refine qA ?_ _); exact B269.out)) : g269 ≠ g275)); have n9_ := qM (Ne.symm n8_.out); clear B268 B269 HB; have B268 := n0_; have B269 := n1_; have HB := n2_; have B275 := n3_; have GW275 := n4_; have GE275 := n5_; have NB268_275 := n6_; have NB275_268 := n7_; have NB269_275 := n8_; have NB275_269 := n9_; clear n0_ n1_ n2_ n3_ n4_ n5_ n6_ n7_ n8_ n9_; clear hb hbox hg; have hnb30 := NB275_268.out; have hnc30 := NB268_275.out; have hnb31 := NB275_269.out; have hnc31 := NB269_275.out; obtain ⟨z32_0, z32_1, z32_2, f32_0, f32_1, f32_2⟩ := cells3 B275.out; have z33_0 : w29.cell? ⟨g269, 0, none⟩ = some (.int .i64 a1_0) := (qC B269.out 0).trans rfl; have z33_1 : w29.cell? ⟨g269, 1, none⟩ = some (.int .i64 a1_1) := (qC B269.out 1).trans rfl; have f33_0 := qF B269.out 0; have f33_1 := qF B269.out 1))
      go_roundg k1
      case measure => have := HK1.out; omega
      case rel => exact ⟨(wrap64 (x6_1 + 1)), (by first | rfl | (simp; done) | (simp [*]; done)), H', ⟨by have := HK1.out; omega⟩, ⟨by (with_reducible repeat first | refine qN ?_ _ | refine qD ?_ | refine qA ?_ _); (iterate 3 (refine qR ?_ NB268_275.out _; (with_reducible repeat first | refine qN ?_ _ | refine qD ?_ | refine qA ?_ _))); exact B268.out⟩, ⟨by (with_reducible repeat first | refine qN ?_ _ | refine qD ?_ | refine qA ?_ _); (iterate 3 (refine qR ?_ NB269_275.out _; (with_reducible repeat first | refine qN ?_ _ | refine qD ?_ | refine qA ?_ _))); exact B269.out⟩, ⟨by repeat (first | (with_reducible first | exact HB.out | apply eA | apply eN | apply eD | refine eS ?_ GE268.out | refine eS ?_ GE269.out | refine eS ?_ GE275.out) | exact HB.out)⟩⟩
    ·replace c7 := Bool.eq_false_iff.mpr c7
     subst c7
     have H1 : (hogsheadref10_Find.l0 k1 (wrap64 (x6_1 + 1)) l0_0 l0_1 a0_2 a0_3 a1_0 a1_1) = some (r1, r2) := by rw [if_neg (show ¬ (false = true) by decide)] at H; exact H
     clear H
     have H := H1
     clear H1
     have H' := qM H
     clear H
     have hnb34 := NB268_269.out
     have hnc34 := NB269_268.out
     obtain ⟨z35_0, z35_1, z35_2, z35_3, f35_0, f35_1, f35_2, f35_3⟩ := cells4 B268.out
     go_wp2_with (first | ((with_reducible refine gate_callee (f := 38) rfl ?_); refine goesL_ (some 20) rfl rfl Try.func38 (by kernel_rfl) rfl #[.agg #[.slice A0_0 l0_0.length c0_0, .slice A0_1 l0_1.length c0_1, .int .i64 a0_2, .bool a0_3], .int .i64 x6_1] rfl (by (try simp only [List.map_toArray, List.map_cons, List.map_nil]); first | done | rfl | (simp only [List.length_drop, List.length_take]; rfl)) ?_; (with_reducible refine (hogsheadref10_at.calls k1 _ _ l0_0 _ _ l0_1 a0_2 a0_3 x6_1 t270 t271 t272 false t274 _ ?side1 ?side2 ?side3 ?side4 A6.out).mono ?_); (case side1 => repeat (first | exact (Kd.C_below HR0_0.out HB.out) | (with_reducible refine Kd.C_alloc ?_ _) | (with_reducible refine Kd.C_drewN ?_ _) | (with_reducible refine Kd.C_drew ?_))); (case side2 => exact HC0_0.out); (case side3 => repeat (first | exact (Kd.C_below HR0_1.out HB.out) | (with_reducible refine Kd.C_alloc ?_ _) | (with_reducible refine Kd.C_drewN ?_ _) | (with_reducible refine Kd.C_drew ?_))); (case side4 => exact HC0_1.out); rintro e w36 ⟨rfl, hb⟩; refine ⟨_, rfl, ?_⟩; have n0_ := qM (qB (g := g268) (by (with_reducible repeat first | refine qN ?_ _ | refine qD ?_ | refine qA ?_ _); exact B268.out) hb); have n1_ := qM (qB (g := g269) (by (with_reducible repeat first | refine qN ?_ _ | refine qD ?_ | refine qA ?_ _); exact B269.out) hb); have n2_ := qM (eT (by repeat (first | (with_reducible first | exact HB.out | apply eA | apply eN | apply eD | refine eU ?_ (by assumption)) | exact HB.out)) hb); clear B268 B269 HB; have B268 := n0_; have B269 := n1_; have HB := n2_; clear n0_ n1_ n2_; (try clear hb); (try clear hb2); (try clear hk); (try clear hi)) | ((with_reducible refine gate_dst (N := 7) rfl ?_); refine box_event ?hg (N := 7) ?hd (cs := #[.int .i64 0, .int .i64 0, .string (⟨#[]⟩ : ByteArray)]) (t := 43) ?hr ?_; (case hd => rfl); (case hg => rfl); (case hr => first | (go_simp; done) | (go_simp; rfl)); intro g275 hg w37 hbox hb; have n0_ := qM (qB (g := g268) (by (with_reducible repeat first | refine qN ?_ _ | refine qD ?_ | refine qA ?_ _); exact B268.out) hb); have n1_ := qM (qB (g := g269) (by (with_reducible repeat first | refine qN ?_ _ | refine qD ?_ | refine qA ?_ _); exact B269.out) hb); have n2_ := qM (eT (by repeat (first | (with_reducible first | exact HB.out | apply eA | apply eN | apply eD | refine eU ?_ (by assumption)) | exact HB.out)) hb); have n3_ := qM (hbox); have n4_ := qM ((by rw [hg]; exact (eZ (by repeat (first | (with_reducible first | exact HB.out | apply eA | apply eN | apply eD | refine eU ?_ (by assumption)) | exact HB.out))) : w.heap.size ≤ g275)); have n5_ := n4_; have n6_ := qM ((by rw [hg]; exact Nat.ne_of_lt (qL (g := g268) (by (with_reducible repeat first | refine qN ?_ _ | refine qD ?_ | refine qA ?_ _); exact B268.out)) : g268 ≠ g275)); have n7_ := qM (Ne.symm n6_.out); have n8_ := qM ((by rw [hg]; exact Nat.ne_of_lt (qL (g := g269) (by (with_reducible repeat first | refine qN ?_ _ | refine qD ?_ | refine qA ?_ _); exact B269.out)) : g269 ≠ g275)); have n9_ := qM (Ne.symm n8_.out); clear B268 B269 HB; have B268 := n0_; have B269 := n1_; have HB := n2_; have B275 := n3_; have GW275 := n4_; have GE275 := n5_; have NB268_275 := n6_; have NB275_268 := n7_; have NB269_275 := n8_; have NB275_269 := n9_; clear n0_ n1_ n2_ n3_ n4_ n5_ n6_ n7_ n8_ n9_; clear hb hbox hg; have hnb38 := NB275_268.out; have hnc38 := NB268_275.out; have hnb39 := NB275_269.out; have hnc39 := NB269_275.out; obtain ⟨z40_0, z40_1, z40_2, f40_0, f40_1, f40_2⟩ := cells3 B275.out))
     go_roundg k1
     case measure => have := HK1.out; omega
     case rel => exact ⟨(wrap64 (x6_1 + 1)), (by first | rfl | (simp; done) | (simp [*]; done)), H', ⟨by have := HK1.out; omega⟩, ⟨by (with_reducible repeat first | refine qN ?_ _ | refine qD ?_ | refine qA ?_ _); (iterate 3 (refine qR ?_ NB268_275.out _; (with_reducible repeat first | refine qN ?_ _ | refine qD ?_ | refine qA ?_ _))); exact B268.out⟩, ⟨by (with_reducible repeat first | refine qN ?_ _ | refine qD ?_ | refine qA ?_ _); (iterate 3 (refine qR ?_ NB269_275.out _; (with_reducible repeat first | refine qN ?_ _ | refine qD ?_ | refine qA ?_ _))); exact B269.out⟩, ⟨by repeat (first | (with_reducible first | exact HB.out | apply eA | apply eN | apply eD | refine eS ?_ GE268.out | refine eS ?_ GE269.out | refine eS ?_ GE275.out) | exact HB.out)⟩⟩
   ·rw [if_neg c5] at H
    have c5b0 : decide (x6_1 < (l0_0.length : Int)) = false := decide_eq_false c5
    clear c5
    simp only [Option.some.injEq, Prod.mk.injEq] at H
    obtain ⟨rfl, rfl⟩ := H
    have hnb41 := NB268_269.out
    have hnc41 := NB269_268.out
    obtain ⟨z42_0, z42_1, z42_2, z42_3, f42_0, f42_1, f42_2, f42_3⟩ := cells4 B268.out
    go_wp2
    go_ret2
    exact ⟨by first | rfl | (simp [errW_none, errW_some] <;> rfl) | (simp [*, errW_none, errW_some] <;> rfl), by repeat (first | (with_reducible first | exact HB.out | apply eA | apply eN | apply eD | refine eS ?_ GE268.out | refine eS ?_ GE269.out) | exact HB.out)⟩

end Go.Proofs.Ytffjbbedjddpmaa.PAll
