/- Functions of the program as plain Lean functions, and that each call comes to what they say. Laid by a program of this session (hprint.py); Lean checks it. -/
import Derived.Test.YtlfonfceaiiinaaPAllx0
import Derived.Test.YtlfonfceaiiinaaPAllx2
import Derived.Test.YtlfonfceaiiinaaPAllx21
namespace Go.Proofs.Ytlfonfceaiiinaa.PAll
open Go.RowKit Go.Proofs.YtlfonfceaiiinaaW.PrintWords Go.Proofs.YtlfonfceaiiinaaW.PrintLast Go.Proofs.YtlfonfceaiiinaaW.PrintMore
attribute [local go_sem] max2_int min2_int max_two min_two max_three min_three max_four min_four   -- for this text's walks alone
set_option linter.unusedVariables false
set_option linter.unusedSimpArgs false
attribute [local irreducible] World.setCell

attribute [local go_sem high] eqA70
/-! ### hogsheadref10_List: function 24 -/
mutual
def hogsheadref10_List.l0 : Nat → List (S70) → Int → List ByteArray → List (S102) → Int → Bool → Option ((List (S70)))
 | 0, _, _, _, _, _, _ => none
 | k + 1, x3, x4, x222000, x222001, x222002, x222003 => if x4 < (x222000.length : Int) then ((hogsheadref10_at.f k x222000 x222001 x222002 x222003 x4).bind fun bt222 => (hogsheadref10_List.l1 k x3 x4 bt222.2.2.2.1 false 0 x222000 x222001 x222002 x222003 bt222.1 bt222.2.1)) else (some x3)
def hogsheadref10_List.l1 : Nat → List (S70) → Int → Bool → Bool → Int → List ByteArray → List (S102) → Int → Bool → Int → Int → Option ((List (S70)))
 | 0, _, _, _, _, _, _, _, _, _, _, _ => none
 | k + 1, x3, x4, x6, x9, x10, x222000, x222001, x222002, x222003, x229000, x229001 => if x10 < (x3.length : Int) then (if x9 = true then (hogsheadref10_List.l1 k x3 x4 x6 true (wrap64 (x10 + 1)) x222000 x222001 x222002 x222003 x229000 x229001) else (if 0 ≤ x10 then (hogsheadref10_List.l1 k x3 x4 x6 (((rd_T70 x3 x10).f0) == x229000 && (((rd_T70 x3 x10).f1) == x229001)) (wrap64 (x10 + 1)) x222000 x222001 x222002 x222003 x229000 x229001) else (none))) else (if x6 = true then (if x9 = true then (hogsheadref10_List.l0 k x3 (wrap64 (x4 + 1)) x222000 x222001 x222002 x222003) else (if x3.length < 8796093022208 then (hogsheadref10_List.l0 k (x3 ++ [(⟨x229000, x229001⟩ : S70)]) (wrap64 (x4 + 1)) x222000 x222001 x222002 x222003) else (none))) else (hogsheadref10_List.l0 k x3 (wrap64 (x4 + 1)) x222000 x222001 x222002 x222003))
end
def hogsheadref10_List.f (k : Nat) (l0_0 : List ByteArray) (l0_1 : List (S102)) (a0_2 : Int) (a0_3 : Bool) : Option ((List (S70))) := hogsheadref10_List.l0 k ([] : List (S70)) 0 l0_0 l0_1 a0_2 a0_3
theorem hogsheadref10_List.mono_l : ∀ k, (∀ y0 y1 y2 y3 y4 y5, LeO (hogsheadref10_List.l0 k y0 y1 y2 y3 y4 y5) (hogsheadref10_List.l0 (k + 1) y0 y1 y2 y3 y4 y5)) ∧ (∀ y0 y1 y2 y3 y4 y5 y6 y7 y8 y9 y10, LeO (hogsheadref10_List.l1 k y0 y1 y2 y3 y4 y5 y6 y7 y8 y9 y10) (hogsheadref10_List.l1 (k + 1) y0 y1 y2 y3 y4 y5 y6 y7 y8 y9 y10))
 | 0 => ⟨fun _ _ _ _ _ _ r h => by simp [hogsheadref10_List.l0] at h, fun _ _ _ _ _ _ _ _ _ _ _ r h => by simp [hogsheadref10_List.l1] at h⟩
 | k + 1 => by
  obtain ⟨ih0, ih1⟩ := hogsheadref10_List.mono_l k
  refine ⟨?_, ?_⟩
  ·intro y0 y1 y2 y3 y4 y5
   unfold hogsheadref10_List.l0
   repeat' first
   | (with_reducible exact ih0 _ _ _ _ _ _)
   | (with_reducible exact ih1 _ _ _ _ _ _ _ _ _ _ _)
   | (with_reducible exact hogsheadref10_at.mono _ _ _ _ _ _)
   | (with_reducible exact LeO.refl _)
   | (with_reducible exact LeO.none _)
   | (with_reducible refine LeO.ite ?_ ?_)
   | (with_reducible refine LeO.bind ?_ (fun _ => ?_))
   | exact ih0 _ _ _ _ _ _
   | exact ih1 _ _ _ _ _ _ _ _ _ _ _
   | exact hogsheadref10_at.mono _ _ _ _ _ _
   | exact LeO.none _
   | refine LeO.ite ?_ ?_
   | refine LeO.bind ?_ (fun _ => ?_)
  ·intro y0 y1 y2 y3 y4 y5 y6 y7 y8 y9 y10
   unfold hogsheadref10_List.l1
   repeat' first
   | (with_reducible exact ih0 _ _ _ _ _ _)
   | (with_reducible exact ih1 _ _ _ _ _ _ _ _ _ _ _)
   | (with_reducible exact hogsheadref10_at.mono _ _ _ _ _ _)
   | (with_reducible exact LeO.refl _)
   | (with_reducible exact LeO.none _)
   | (with_reducible refine LeO.ite ?_ ?_)
   | (with_reducible refine LeO.bind ?_ (fun _ => ?_))
   | exact ih0 _ _ _ _ _ _
   | exact ih1 _ _ _ _ _ _ _ _ _ _ _
   | exact hogsheadref10_at.mono _ _ _ _ _ _
   | exact LeO.none _
   | refine LeO.ite ?_ ?_
   | refine LeO.bind ?_ (fun _ => ?_)
theorem hogsheadref10_List.mono : ∀ a0 a1 a2 a3 k, LeO (hogsheadref10_List.f k a0 a1 a2 a3) (hogsheadref10_List.f (k + 1) a0 a1 a2 a3) := by
 intro a0 a1 a2 a3 k
 obtain ⟨ih0, ih1⟩ := hogsheadref10_List.mono_l k
 unfold hogsheadref10_List.f
 repeat' first
   | (with_reducible exact ih0 _ _ _ _ _ _)
   | (with_reducible exact ih1 _ _ _ _ _ _ _ _ _ _ _)
   | (with_reducible exact hogsheadref10_at.mono _ _ _ _ _ _)
   | (with_reducible exact LeO.refl _)
   | (with_reducible exact LeO.none _)
   | (with_reducible refine LeO.ite ?_ ?_)
   | (with_reducible refine LeO.bind ?_ (fun _ => ?_))
   | exact ih0 _ _ _ _ _ _
   | exact ih1 _ _ _ _ _ _ _ _ _ _ _
   | exact hogsheadref10_at.mono _ _ _ _ _ _
   | exact LeO.none _
   | refine LeO.ite ?_ ?_
   | refine LeO.bind ?_ (fun _ => ?_)
set_option maxHeartbeats 40000000 in
set_option maxRecDepth 100000 in
theorem hogsheadref10_List.calls (k : Nat) (A0_0 : Option Addr) (c0_0 : Nat) (l0_0 : List ByteArray) (A0_1 : Option Addr) (c0_1 : Nat) (l0_1 : List (S102)) (a0_2 : Int) (a0_3 : Bool) (r : List (S70)) (w : World) (hr0_0 : Kd.C Kd.string w A0_0 l0_0.length l0_0) (hc0_0 : l0_0.length ≤ c0_0) (hr0_1 : Kd.C k102 w A0_1 l0_1.length l0_1) (hc0_1 : l0_1.length ≤ c0_1) (h : hogsheadref10_List.f k l0_0 l0_1 a0_2 a0_3 = some r) :
  Calls Try.prog 24 #[.agg #[.slice A0_0 l0_0.length c0_0, .slice A0_1 l0_1.length c0_1, .int .i64 a0_2, .bool a0_3]] w fun e w' => ∃ v0_ : Value, e = .returned (v0_) ∧ Kd.R k70 70 w' w.heap.size (fun _ => True) v0_ r ∧ Below w.heap.size w w' := by
 have hu53 := Try.underlying53
 have hu87 := Try.underlying87
 have hu70 := Try.underlying70
 have HR0_0 := qM hr0_0
 have HC0_0 := qM hc0_0
 clear hr0_0 hc0_0
 have HR0_1 := qM hr0_1
 have HC0_1 := qM hc0_1
 clear hr0_1 hc0_1
 have HB := qM (Below.refl w.heap.size w)
 have H : (hogsheadref10_List.l0 k ([] : List (S70)) 0 l0_0 l0_1 a0_2 a0_3) = some r := h
 clear h
 have H' := qM H
 clear H
 go_enter Try.func24, Try.ntmps24
 go_wp2_with (first | ((with_reducible refine gate_dst (N := 1) rfl ?_); refine box_event ?hg (N := 1) ?hd (cs := #[.slice A0_0 l0_0.length c0_0, .slice A0_1 l0_1.length c0_1, .int .i64 a0_2, .bool a0_3]) (t := 53) ?hr ?_; (case hd => rfl); (case hg => rfl); (case hr => first | (go_simp; done) | (go_simp; rfl)); intro g221 hg w2 hbox hb; have n0_ := qM (eT (by repeat (first | (with_reducible first | exact HB.out | apply eA | apply eN | apply eD) | exact HB.out)) hb); have n1_ := qM (hbox); have n2_ := qM ((by rw [hg]; exact (eZ (by repeat (first | (with_reducible first | exact HB.out | apply eA | apply eN | apply eD) | exact HB.out))) : w.heap.size ≤ g221)); have n3_ := n2_; clear HB; have HB := n0_; have B221 := n1_; have GW221 := n2_; have GE221 := n3_; clear n0_ n1_ n2_ n3_; clear hb hbox hg))
 repeat (go_quiet (first | ((with_reducible refine gate_dst (N := 1) rfl ?_); refine box_event ?hg (N := 1) ?hd (cs := #[.slice A0_0 l0_0.length c0_0, .slice A0_1 l0_1.length c0_1, .int .i64 a0_2, .bool a0_3]) (t := 53) ?hr ?_; (case hd => rfl); (case hg => rfl); (case hr => first | (go_simp; done) | (go_simp; rfl)); intro g221 hg w2 hbox hb; have n0_ := qM (eT (by repeat (first | (with_reducible first | exact HB.out | apply eA | apply eN | apply eD) | exact HB.out)) hb); have n1_ := qM (hbox); have n2_ := qM ((by rw [hg]; exact (eZ (by repeat (first | (with_reducible first | exact HB.out | apply eA | apply eN | apply eD) | exact HB.out))) : w.heap.size ≤ g221)); have n3_ := n2_; clear HB; have HB := n0_; have B221 := n1_; have GW221 := n2_; have GE221 := n3_; clear n0_ n1_ n2_ n3_; clear hb hbox hg)); try go_wp2_with (first | ((with_reducible refine gate_dst (N := 1) rfl ?_); refine box_event ?hg (N := 1) ?hd (cs := #[.slice A0_0 l0_0.length c0_0, .slice A0_1 l0_1.length c0_1, .int .i64 a0_2, .bool a0_3]) (t := 53) ?hr ?_; (case hd => rfl); (case hg => rfl); (case hr => first | (go_simp; done) | (go_simp; rfl)); intro g221 hg w2 hbox hb; have n0_ := qM (eT (by repeat (first | (with_reducible first | exact HB.out | apply eA | apply eN | apply eD) | exact HB.out)) hb); have n1_ := qM (hbox); have n2_ := qM ((by rw [hg]; exact (eZ (by repeat (first | (with_reducible first | exact HB.out | apply eA | apply eN | apply eD) | exact HB.out))) : w.heap.size ≤ g221)); have n3_ := n2_; clear HB; have HB := n0_; have B221 := n1_; have GW221 := n2_; have GE221 := n3_; clear n0_ n1_ n2_ n3_; clear hb hbox hg)))
 go_loopg [3, 4] k (fun kq v3 v4 w' => ∃ (x3_1 : List (S70)) (x4_1 : Int), v4 = .int .i64 x4_1 ∧ Aside0 (hogsheadref10_List.l0 kq x3_1 x4_1 l0_0 l0_1 a0_2 a0_3 = some r) ∧ Aside0 (kq ≤ k) ∧ Aside0 (Kd.R k70 70 w' w.heap.size (fun _ => True) v3 x3_1) ∧ Aside0 (w'.heap[g221]? = some (.cells #[(.slice A0_0 l0_0.length c0_0), (.slice A0_1 l0_1.length c0_1), .int .i64 a0_2, .bool a0_3] 53 (0, 0))) ∧ Aside0 (Below w.heap.size w w'))
 case atStart => exact ⟨(([] : List (S70))), (0), (by first | rfl | (simp; done) | (simp [*]; done)), H', ⟨Nat.le_refl _⟩, ⟨by first | exact Kd.R_nil _ _ _ _ _ | exact Kd.N_nil _ _ _ _ _ | exact Kd.V_nil _ _ _ _ _ | exact Kd.Q_nil _ _ _ _ _ | exact Kd.S_nil _ _ _ _ _⟩, ⟨by (with_reducible repeat first | refine qN ?_ _ | refine qD ?_ | refine qA ?_ _); exact B221.out⟩, ⟨by repeat (first | (with_reducible first | exact HB.out | apply eA | apply eN | apply eD | refine eS ?_ GE221.out) | exact HB.out)⟩⟩
 case round =>
  clear H'
  try clear c2
  try clear p2
  obtain ⟨x3_1, x4_1, rfl, HA, HK1, HO_3, B221, HB⟩ := hrel
  cases gk with
  | zero => exact absurd HA.out (by simp [hogsheadref10_List.l0])
  | succ k1 =>
   have H := HA.out
   clear HA
   simp only [hogsheadref10_List.l0] at H
   by_cases c3 : x4_1 < (l0_0.length : Int)
   ·rw [if_pos c3] at H
    have c3b0 : decide (x4_1 < (l0_0.length : Int)) = true := decide_eq_true c3
    clear c3
    replace H := Option.bind_eq_some_iff.mp H
    obtain ⟨⟨t222, t223, t224, t225, t226⟩, A40, H⟩ := H
    replace H : (hogsheadref10_List.l1 k1 x3_1 x4_1 t225 false 0 l0_0 l0_1 a0_2 a0_3 t222 t223) = some r := H
    have A4 := qM A40
    clear A40
    have H' := qM H
    clear H
    obtain ⟨z5_0, z5_1, z5_2, z5_3, f5_0, f5_1, f5_2, f5_3⟩ := cells4 B221.out
    go_wp2_with (first | (go_at_call 36; (with_reducible refine (hogsheadref10_at.calls k1 _ _ l0_0 _ _ l0_1 a0_2 a0_3 x4_1 t222 t223 t224 t225 t226 _ ?side1 ?side2 ?side3 ?side4 A4.out).mono ?_); (case side1 => repeat (first | exact (Kd.C_below HR0_0.out HB.out) | (with_reducible refine Kd.C_alloc ?_ _) | (with_reducible refine Kd.C_drewN ?_ _) | (with_reducible refine Kd.C_drew ?_))); (case side2 => exact HC0_0.out); (case side3 => repeat (first | exact (Kd.C_below HR0_1.out HB.out) | (with_reducible refine Kd.C_alloc ?_ _) | (with_reducible refine Kd.C_drewN ?_ _) | (with_reducible refine Kd.C_drew ?_))); (case side4 => exact HC0_1.out); rintro e w6 ⟨rfl, hb⟩; have n0_ := qM (Kd.R_below (by (with_reducible repeat first | apply RA | apply RN | apply RD); exact HO_3.out) hb); have n1_ := qM (qB (g := g221) (by (with_reducible repeat first | refine qN ?_ _ | refine qD ?_ | refine qA ?_ _); exact B221.out) hb); have n2_ := qM (eT (by repeat (first | (with_reducible first | exact HB.out | apply eA | apply eN | apply eD | refine eU ?_ (by assumption)) | exact HB.out)) hb); clear HO_3 B221 HB; have HO_3 := n0_; have B221 := n1_; have HB := n2_; clear n0_ n1_ n2_; (try clear hb); (try clear hb2); (try clear hk); (try clear hi)) | ((with_reducible refine gate_dst (N := 5) rfl ?_); refine box_event ?hg (N := 5) ?hd (cs := #[.int .i64 0, .int .i64 0, .string (⟨#[]⟩ : ByteArray)]) (t := 87) ?hr ?_; (case hd => rfl); (case hg => rfl); (case hr => first | (go_simp; done) | (go_simp; rfl)); intro g227 hg w7 hbox hb; have n0_ := qM (Kd.R_below (by (with_reducible repeat first | apply RA | apply RN | apply RD); exact HO_3.out) hb); have n1_ := qM (qB (g := g221) (by (with_reducible repeat first | refine qN ?_ _ | refine qD ?_ | refine qA ?_ _); exact B221.out) hb); have n2_ := qM (eT (by repeat (first | (with_reducible first | exact HB.out | apply eA | apply eN | apply eD | refine eU ?_ (by assumption)) | exact HB.out)) hb); have n3_ := qM (hbox); have n4_ := qM ((by rw [hg]; exact (eZ (by repeat (first | (with_reducible first | exact HB.out | apply eA | apply eN | apply eD | refine eU ?_ (by assumption)) | exact HB.out))) : w.heap.size ≤ g227)); have n5_ := n4_; have n6_ := qM ((by rw [hg]; exact Nat.ne_of_lt (qL (g := g221) (by (with_reducible repeat first | refine qN ?_ _ | refine qD ?_ | refine qA ?_ _); exact B221.out)) : g221 ≠ g227)); have n7_ := qM (Ne.symm n6_.out); clear HO_3 B221 HB; have HO_3 := n0_; have B221 := n1_; have HB := n2_; have B227 := n3_; have GW227 := n4_; have GE227 := n5_; have NB221_227 := n6_; have NB227_221 := n7_; clear n0_ n1_ n2_ n3_ n4_ n5_ n6_ n7_; clear hb hbox hg; have hnb8 := NB227_221.out; have hnc8 := NB221_227.out; obtain ⟨z9_0, z9_1, z9_2, f9_0, f9_1, f9_2⟩ := cells3 B227.out) | ((with_reducible refine gate_dst (N := 8) rfl ?_); refine box_event ?hg (N := 8) ?hd (cs := #[.int .i64 0, .int .i64 0]) (t := 70) ?hr ?_; (case hd => rfl); (case hg => rfl); (case hr => first | (go_simp; done) | (go_simp; rfl)); intro g228 hg w10 hbox hb; have n0_ := qM (Kd.R_below (Kd.R_elderB (by (with_reducible repeat first | apply RA | apply RN | apply RD); exact (Kd.R_mono (Kd.R_far (p := ⟨g227, 2, none⟩) (Kd.R_far (p := ⟨g227, 1, none⟩) (Kd.R_far (p := ⟨g227, 0, none⟩) (Kd.R_types HO_3.out B227.out (by decide)) (fun _ hk => hk.2) (.int .i64 t222)) (fun _ hk => hk.2) (.int .i64 t223)) (fun _ hk => hk.2) (.string t224)) (fun _ h_ => h_.1))) g228 (Nat.le_of_eq hg.symm)) hb); have n1_ := qM (qB (g := g221) (o := .cells #[.slice A0_0 l0_0.length c0_0, .slice A0_1 l0_1.length c0_1, .int .i64 a0_2, .bool a0_3] 53 (0, 0)) (by (with_reducible repeat first | refine qN ?_ _ | refine qD ?_ | refine qA ?_ _); (iterate 3 (refine qR ?_ NB221_227.out _; (with_reducible repeat first | refine qN ?_ _ | refine qD ?_ | refine qA ?_ _))); exact B221.out) hb); have n2_ := qM (qB (g := g227) (by (with_reducible repeat first | refine qN ?_ _ | refine qD ?_ | refine qA ?_ _); apply puts3; (with_reducible repeat first | refine qN ?_ _ | refine qD ?_ | refine qA ?_ _); exact B227.out) hb); have n3_ := qM (eT (by repeat (first | (with_reducible first | exact HB.out | apply eA | apply eN | apply eD | refine eU ?_ (by assumption)) | exact HB.out)) hb); have n4_ := qM (hbox); have n5_ := qM ((by rw [hg]; exact (eZ (by repeat (first | (with_reducible first | exact HB.out | apply eA | apply eN | apply eD | refine eU ?_ (by assumption)) | exact HB.out))) : w.heap.size ≤ g228)); have n6_ := n5_; have n7_ := qM ((by rw [hg]; exact Nat.ne_of_lt (by (with_reducible repeat first | refine Nat.lt_of_lt_of_le ?_ ((Below.refl 0 _).setCell (Nat.zero_le _) _).size | refine Nat.lt_of_lt_of_le ?_ ((Below.refl 0 _).alloc (Nat.zero_le _) _).size); exact qL B221.out) : g221 ≠ g228)); have n8_ := qM ((by rw [hg]; exact Nat.ne_of_gt (by (with_reducible repeat first | refine Nat.lt_of_lt_of_le ?_ ((Below.refl 0 _).setCell (Nat.zero_le _) _).size | refine Nat.lt_of_lt_of_le ?_ ((Below.refl 0 _).alloc (Nat.zero_le _) _).size); exact qL B221.out) : g228 ≠ g221)); have n9_ := qM ((by rw [hg]; exact Nat.ne_of_lt (qL (g := g227) (by (with_reducible repeat first | refine qN ?_ _ | refine qD ?_ | refine qA ?_ _); apply puts3; (with_reducible repeat first | refine qN ?_ _ | refine qD ?_ | refine qA ?_ _); exact B227.out)) : g227 ≠ g228)); have n10_ := qM ((by rw [hg]; exact Nat.ne_of_gt (qL (g := g227) (by (with_reducible repeat first | refine qN ?_ _ | refine qD ?_ | refine qA ?_ _); apply puts3; (with_reducible repeat first | refine qN ?_ _ | refine qD ?_ | refine qA ?_ _); exact B227.out)) : g228 ≠ g227)); clear HO_3 B221 B227 HB; have HO_3 := n0_; have B221 := n1_; have B227 := n2_; have HB := n3_; have B228 := n4_; have GW228 := n5_; have GE228 := n6_; have NB221_228 := n7_; have NB228_221 := n8_; have NB227_228 := n9_; have NB228_227 := n10_; clear n0_ n1_ n2_ n3_ n4_ n5_ n6_ n7_ n8_ n9_ n10_; clear hb hbox hg; have hnb11 := NB228_221.out; have hnc11 := NB221_228.out; have hnb12 := NB228_227.out; have hnc12 := NB227_228.out; have z13_0 : w10.cell? ⟨g228, 0, none⟩ = some (.int .i64 0) := (qC B228.out 0).trans rfl; have z13_1 : w10.cell? ⟨g228, 1, none⟩ = some (.int .i64 0) := (qC B228.out 1).trans rfl; have f13_0 := qF B228.out 0; have f13_1 := qF B228.out 1))
    repeat (go_quiet (first | (go_at_call 36; (with_reducible refine (hogsheadref10_at.calls k1 _ _ l0_0 _ _ l0_1 a0_2 a0_3 x4_1 t222 t223 t224 t225 t226 _ ?side1 ?side2 ?side3 ?side4 A4.out).mono ?_); (case side1 => repeat (first | exact (Kd.C_below HR0_0.out HB.out) | (with_reducible refine Kd.C_alloc ?_ _) | (with_reducible refine Kd.C_drewN ?_ _) | (with_reducible refine Kd.C_drew ?_))); (case side2 => exact HC0_0.out); (case side3 => repeat (first | exact (Kd.C_below HR0_1.out HB.out) | (with_reducible refine Kd.C_alloc ?_ _) | (with_reducible refine Kd.C_drewN ?_ _) | (with_reducible refine Kd.C_drew ?_))); (case side4 => exact HC0_1.out); rintro e w6 ⟨rfl, hb⟩; have n0_ := qM (Kd.R_below (by (with_reducible repeat first | apply RA | apply RN | apply RD); exact HO_3.out) hb); have n1_ := qM (qB (g := g221) (by (with_reducible repeat first | refine qN ?_ _ | refine qD ?_ | refine qA ?_ _); exact B221.out) hb); have n2_ := qM (eT (by repeat (first | (with_reducible first | exact HB.out | apply eA | apply eN | apply eD | refine eU ?_ (by assumption)) | exact HB.out)) hb); clear HO_3 B221 HB; have HO_3 := n0_; have B221 := n1_; have HB := n2_; clear n0_ n1_ n2_; (try clear hb); (try clear hb2); (try clear hk); (try clear hi)) | ((with_reducible refine gate_dst (N := 5) rfl ?_); refine box_event ?hg (N := 5) ?hd (cs := #[.int .i64 0, .int .i64 0, .string (⟨#[]⟩ : ByteArray)]) (t := 87) ?hr ?_; (case hd => rfl); (case hg => rfl); (case hr => first | (go_simp; done) | (go_simp; rfl)); intro g227 hg w7 hbox hb; have n0_ := qM (Kd.R_below (by (with_reducible repeat first | apply RA | apply RN | apply RD); exact HO_3.out) hb); have n1_ := qM (qB (g := g221) (by (with_reducible repeat first | refine qN ?_ _ | refine qD ?_ | refine qA ?_ _); exact B221.out) hb); have n2_ := qM (eT (by repeat (first | (with_reducible first | exact HB.out | apply eA | apply eN | apply eD | refine eU ?_ (by assumption)) | exact HB.out)) hb); have n3_ := qM (hbox); have n4_ := qM ((by rw [hg]; exact (eZ (by repeat (first | (with_reducible first | exact HB.out | apply eA | apply eN | apply eD | refine eU ?_ (by assumption)) | exact HB.out))) : w.heap.size ≤ g227)); have n5_ := n4_; have n6_ := qM ((by rw [hg]; exact Nat.ne_of_lt (qL (g := g221) (by (with_reducible repeat first | refine qN ?_ _ | refine qD ?_ | refine qA ?_ _); exact B221.out)) : g221 ≠ g227)); have n7_ := qM (Ne.symm n6_.out); clear HO_3 B221 HB; have HO_3 := n0_; have B221 := n1_; have HB := n2_; have B227 := n3_; have GW227 := n4_; have GE227 := n5_; have NB221_227 := n6_; have NB227_221 := n7_; clear n0_ n1_ n2_ n3_ n4_ n5_ n6_ n7_; clear hb hbox hg; have hnb8 := NB227_221.out; have hnc8 := NB221_227.out; obtain ⟨z9_0, z9_1, z9_2, f9_0, f9_1, f9_2⟩ := cells3 B227.out) | ((with_reducible refine gate_dst (N := 8) rfl ?_); refine box_event ?hg (N := 8) ?hd (cs := #[.int .i64 0, .int .i64 0]) (t := 70) ?hr ?_; (case hd => rfl); (case hg => rfl); (case hr => first | (go_simp; done) | (go_simp; rfl)); intro g228 hg w10 hbox hb; have n0_ := qM (Kd.R_below (Kd.R_elderB (by (with_reducible repeat first | apply RA | apply RN | apply RD); exact (Kd.R_mono (Kd.R_far (p := ⟨g227, 2, none⟩) (Kd.R_far (p := ⟨g227, 1, none⟩) (Kd.R_far (p := ⟨g227, 0, none⟩) (Kd.R_types HO_3.out B227.out (by decide)) (fun _ hk => hk.2) (.int .i64 t222)) (fun _ hk => hk.2) (.int .i64 t223)) (fun _ hk => hk.2) (.string t224)) (fun _ h_ => h_.1))) g228 (Nat.le_of_eq hg.symm)) hb); have n1_ := qM (qB (g := g221) (o := .cells #[.slice A0_0 l0_0.length c0_0, .slice A0_1 l0_1.length c0_1, .int .i64 a0_2, .bool a0_3] 53 (0, 0)) (by (with_reducible repeat first | refine qN ?_ _ | refine qD ?_ | refine qA ?_ _); (iterate 3 (refine qR ?_ NB221_227.out _; (with_reducible repeat first | refine qN ?_ _ | refine qD ?_ | refine qA ?_ _))); exact B221.out) hb); have n2_ := qM (qB (g := g227) (by (with_reducible repeat first | refine qN ?_ _ | refine qD ?_ | refine qA ?_ _); apply puts3; (with_reducible repeat first | refine qN ?_ _ | refine qD ?_ | refine qA ?_ _); exact B227.out) hb); have n3_ := qM (eT (by repeat (first | (with_reducible first | exact HB.out | apply eA | apply eN | apply eD | refine eU ?_ (by assumption)) | exact HB.out)) hb); have n4_ := qM (hbox); have n5_ := qM ((by rw [hg]; exact (eZ (by repeat (first | (with_reducible first | exact HB.out | apply eA | apply eN | apply eD | refine eU ?_ (by assumption)) | exact HB.out))) : w.heap.size ≤ g228)); have n6_ := n5_; have n7_ := qM ((by rw [hg]; exact Nat.ne_of_lt (by (with_reducible repeat first | refine Nat.lt_of_lt_of_le ?_ ((Below.refl 0 _).setCell (Nat.zero_le _) _).size | refine Nat.lt_of_lt_of_le ?_ ((Below.refl 0 _).alloc (Nat.zero_le _) _).size); exact qL B221.out) : g221 ≠ g228)); have n8_ := qM ((by rw [hg]; exact Nat.ne_of_gt (by (with_reducible repeat first | refine Nat.lt_of_lt_of_le ?_ ((Below.refl 0 _).setCell (Nat.zero_le _) _).size | refine Nat.lt_of_lt_of_le ?_ ((Below.refl 0 _).alloc (Nat.zero_le _) _).size); exact qL B221.out) : g228 ≠ g221)); have n9_ := qM ((by rw [hg]; exact Nat.ne_of_lt (qL (g := g227) (by (with_reducible repeat first | refine qN ?_ _ | refine qD ?_ | refine qA ?_ _); apply puts3; (with_reducible repeat first | refine qN ?_ _ | refine qD ?_ | refine qA ?_ _); exact B227.out)) : g227 ≠ g228)); have n10_ := qM ((by rw [hg]; exact Nat.ne_of_gt (qL (g := g227) (by (with_reducible repeat first | refine qN ?_ _ | refine qD ?_ | refine qA ?_ _); apply puts3; (with_reducible repeat first | refine qN ?_ _ | refine qD ?_ | refine qA ?_ _); exact B227.out)) : g228 ≠ g227)); clear HO_3 B221 B227 HB; have HO_3 := n0_; have B221 := n1_; have B227 := n2_; have HB := n3_; have B228 := n4_; have GW228 := n5_; have GE228 := n6_; have NB221_228 := n7_; have NB228_221 := n8_; have NB227_228 := n9_; have NB228_227 := n10_; clear n0_ n1_ n2_ n3_ n4_ n5_ n6_ n7_ n8_ n9_ n10_; clear hb hbox hg; have hnb11 := NB228_221.out; have hnc11 := NB221_228.out; have hnb12 := NB228_227.out; have hnc12 := NB227_228.out; have z13_0 : w10.cell? ⟨g228, 0, none⟩ = some (.int .i64 0) := (qC B228.out 0).trans rfl; have z13_1 : w10.cell? ⟨g228, 1, none⟩ = some (.int .i64 0) := (qC B228.out 1).trans rfl; have f13_0 := qF B228.out 0; have f13_1 := qF B228.out 1)); try go_wp2_with (first | (go_at_call 36; (with_reducible refine (hogsheadref10_at.calls k1 _ _ l0_0 _ _ l0_1 a0_2 a0_3 x4_1 t222 t223 t224 t225 t226 _ ?side1 ?side2 ?side3 ?side4 A4.out).mono ?_); (case side1 => repeat (first | exact (Kd.C_below HR0_0.out HB.out) | (with_reducible refine Kd.C_alloc ?_ _) | (with_reducible refine Kd.C_drewN ?_ _) | (with_reducible refine Kd.C_drew ?_))); (case side2 => exact HC0_0.out); (case side3 => repeat (first | exact (Kd.C_below HR0_1.out HB.out) | (with_reducible refine Kd.C_alloc ?_ _) | (with_reducible refine Kd.C_drewN ?_ _) | (with_reducible refine Kd.C_drew ?_))); (case side4 => exact HC0_1.out); rintro e w6 ⟨rfl, hb⟩; have n0_ := qM (Kd.R_below (by (with_reducible repeat first | apply RA | apply RN | apply RD); exact HO_3.out) hb); have n1_ := qM (qB (g := g221) (by (with_reducible repeat first | refine qN ?_ _ | refine qD ?_ | refine qA ?_ _); exact B221.out) hb); have n2_ := qM (eT (by repeat (first | (with_reducible first | exact HB.out | apply eA | apply eN | apply eD | refine eU ?_ (by assumption)) | exact HB.out)) hb); clear HO_3 B221 HB; have HO_3 := n0_; have B221 := n1_; have HB := n2_; clear n0_ n1_ n2_; (try clear hb); (try clear hb2); (try clear hk); (try clear hi)) | ((with_reducible refine gate_dst (N := 5) rfl ?_); refine box_event ?hg (N := 5) ?hd (cs := #[.int .i64 0, .int .i64 0, .string (⟨#[]⟩ : ByteArray)]) (t := 87) ?hr ?_; (case hd => rfl); (case hg => rfl); (case hr => first | (go_simp; done) | (go_simp; rfl)); intro g227 hg w7 hbox hb; have n0_ := qM (Kd.R_below (by (with_reducible repeat first | apply RA | apply RN | apply RD); exact HO_3.out) hb); have n1_ := qM (qB (g := g221) (by (with_reducible repeat first | refine qN ?_ _ | refine qD ?_ | refine qA ?_ _); exact B221.out) hb); have n2_ := qM (eT (by repeat (first | (with_reducible first | exact HB.out | apply eA | apply eN | apply eD | refine eU ?_ (by assumption)) | exact HB.out)) hb); have n3_ := qM (hbox); have n4_ := qM ((by rw [hg]; exact (eZ (by repeat (first | (with_reducible first | exact HB.out | apply eA | apply eN | apply eD | refine eU ?_ (by assumption)) | exact HB.out))) : w.heap.size ≤ g227)); have n5_ := n4_; have n6_ := qM ((by rw [hg]; exact Nat.ne_of_lt (qL (g := g221) (by (with_reducible repeat first | refine qN ?_ _ | refine qD ?_ | refine qA ?_ _); exact B221.out)) : g221 ≠ g227)); have n7_ := qM (Ne.symm n6_.out); clear HO_3 B221 HB; have HO_3 := n0_; have B221 := n1_; have HB := n2_; have B227 := n3_; have GW227 := n4_; have GE227 := n5_; have NB221_227 := n6_; have NB227_221 := n7_; clear n0_ n1_ n2_ n3_ n4_ n5_ n6_ n7_; clear hb hbox hg; have hnb8 := NB227_221.out; have hnc8 := NB221_227.out; obtain ⟨z9_0, z9_1, z9_2, f9_0, f9_1, f9_2⟩ := cells3 B227.out) | ((with_reducible refine gate_dst (N := 8) rfl ?_); refine box_event ?hg (N := 8) ?hd (cs := #[.int .i64 0, .int .i64 0]) (t := 70) ?hr ?_; (case hd => rfl); (case hg => rfl); (case hr => first | (go_simp; done) | (go_simp; rfl)); intro g228 hg w10 hbox hb; have n0_ := qM (Kd.R_below (Kd.R_elderB (by (with_reducible repeat first | apply RA | apply RN | apply RD); exact (Kd.R_mono (Kd.R_far (p := ⟨g227, 2, none⟩) (Kd.R_far (p := ⟨g227, 1, none⟩) (Kd.R_far (p := ⟨g227, 0, none⟩) (Kd.R_types HO_3.out B227.out (by decide)) (fun _ hk => hk.2) (.int .i64 t222)) (fun _ hk => hk.2) (.int .i64 t223)) (fun _ hk => hk.2) (.string t224)) (fun _ h_ => h_.1))) g228 (Nat.le_of_eq hg.symm)) hb); have n1_ := qM (qB (g := g221) (o := .cells #[.slice A0_0 l0_0.length c0_0, .slice A0_1 l0_1.length c0_1, .int .i64 a0_2, .bool a0_3] 53 (0, 0)) (by (with_reducible repeat first | refine qN ?_ _ | refine qD ?_ | refine qA ?_ _); (iterate 3 (refine qR ?_ NB221_227.out _; (with_reducible repeat first | refine qN ?_ _ | refine qD ?_ | refine qA ?_ _))); exact B221.out) hb); have n2_ := qM (qB (g := g227) (by (with_reducible repeat first | refine qN ?_ _ | refine qD ?_ | refine qA ?_ _); apply puts3; (with_reducible repeat first | refine qN ?_ _ | refine qD ?_ | refine qA ?_ _); exact B227.out) hb); have n3_ := qM (eT (by repeat (first | (with_reducible first | exact HB.out | apply eA | apply eN | apply eD | refine eU ?_ (by assumption)) | exact HB.out)) hb); have n4_ := qM (hbox); have n5_ := qM ((by rw [hg]; exact (eZ (by repeat (first | (with_reducible first | exact HB.out | apply eA | apply eN | apply eD | refine eU ?_ (by assumption)) | exact HB.out))) : w.heap.size ≤ g228)); have n6_ := n5_; have n7_ := qM ((by rw [hg]; exact Nat.ne_of_lt (by (with_reducible repeat first | refine Nat.lt_of_lt_of_le ?_ ((Below.refl 0 _).setCell (Nat.zero_le _) _).size | refine Nat.lt_of_lt_of_le ?_ ((Below.refl 0 _).alloc (Nat.zero_le _) _).size); exact qL B221.out) : g221 ≠ g228)); have n8_ := qM ((by rw [hg]; exact Nat.ne_of_gt (by (with_reducible repeat first | refine Nat.lt_of_lt_of_le ?_ ((Below.refl 0 _).setCell (Nat.zero_le _) _).size | refine Nat.lt_of_lt_of_le ?_ ((Below.refl 0 _).alloc (Nat.zero_le _) _).size); exact qL B221.out) : g228 ≠ g221)); have n9_ := qM ((by rw [hg]; exact Nat.ne_of_lt (qL (g := g227) (by (with_reducible repeat first | refine qN ?_ _ | refine qD ?_ | refine qA ?_ _); apply puts3; (with_reducible repeat first | refine qN ?_ _ | refine qD ?_ | refine qA ?_ _); exact B227.out)) : g227 ≠ g228)); have n10_ := qM ((by rw [hg]; exact Nat.ne_of_gt (qL (g := g227) (by (with_reducible repeat first | refine qN ?_ _ | refine qD ?_ | refine qA ?_ _); apply puts3; (with_reducible repeat first | refine qN ?_ _ | refine qD ?_ | refine qA ?_ _); exact B227.out)) : g228 ≠ g227)); clear HO_3 B221 B227 HB; have HO_3 := n0_; have B221 := n1_; have B227 := n2_; have HB := n3_; have B228 := n4_; have GW228 := n5_; have GE228 := n6_; have NB221_228 := n7_; have NB228_221 := n8_; have NB227_228 := n9_; have NB228_227 := n10_; clear n0_ n1_ n2_ n3_ n4_ n5_ n6_ n7_ n8_ n9_ n10_; clear hb hbox hg; have hnb11 := NB228_221.out; have hnc11 := NB221_228.out; have hnb12 := NB228_227.out; have hnc12 := NB227_228.out; have z13_0 : w10.cell? ⟨g228, 0, none⟩ = some (.int .i64 0) := (qC B228.out 0).trans rfl; have z13_1 : w10.cell? ⟨g228, 1, none⟩ = some (.int .i64 0) := (qC B228.out 1).trans rfl; have f13_0 := qF B228.out 0; have f13_1 := qF B228.out 1)))
    go_loopg [9, 10] k1 (fun kq v9 v10 w' => ∃ (x9_2 : Bool) (x10_2 : Int), v9 = .bool x9_2 ∧ v10 = .int .i64 x10_2 ∧ Aside0 (hogsheadref10_List.l1 kq x3_1 x4_1 t225 x9_2 x10_2 l0_0 l0_1 a0_2 a0_3 t222 t223 = some r) ∧ Aside0 (kq ≤ k1) ∧ Aside0 (Kd.R k70 70 w' w.heap.size (fun k_ => k_ ≠ g228) u3 x3_1) ∧ Aside0 (w'.heap[g221]? = some (.cells #[(.slice A0_0 l0_0.length c0_0), (.slice A0_1 l0_1.length c0_1), .int .i64 a0_2, .bool a0_3] 53 (0, 0))) ∧ Aside0 (w'.heap[g227]? = some (.cells #[.int .i64 t222, .int .i64 t223, .string t224] 87 (0, 0))) ∧ Aside0 (w'.heap[g228]? = some (.cells #[.int .i64 t222, .int .i64 t223] 70 (0, 0))) ∧ Aside0 (Below w.heap.size w w'))
    case atStart => exact ⟨(false), (0), (by first | rfl | (simp; done) | (simp [*]; done)), (by first | rfl | (simp; done) | (simp [*]; done)), H', ⟨Nat.le_refl _⟩, ⟨by (with_reducible repeat first | apply RA | apply RN | apply RD); exact Kd.R_mono (Kd.R_far (p := ⟨g228, 1, none⟩) (Kd.R_far (p := ⟨g228, 0, none⟩) (Kd.R_mono HO_3.out (fun k_ hk => (⟨hk, hk.2⟩ : _ ∧ k_ ≠ g228))) (fun _ hk => hk.2) (.int .i64 t222)) (fun _ hk => hk.2) (.int .i64 t223)) (fun _ hk => hk.1.2)⟩, ⟨by (with_reducible repeat first | refine qN ?_ _ | refine qD ?_ | refine qA ?_ _); (iterate 2 (refine qR ?_ NB221_228.out _; (with_reducible repeat first | refine qN ?_ _ | refine qD ?_ | refine qA ?_ _))); exact B221.out⟩, ⟨by (with_reducible repeat first | refine qN ?_ _ | refine qD ?_ | refine qA ?_ _); (iterate 2 (refine qR ?_ NB227_228.out _; (with_reducible repeat first | refine qN ?_ _ | refine qD ?_ | refine qA ?_ _))); exact B227.out⟩, ⟨by (with_reducible repeat first | refine qN ?_ _ | refine qD ?_ | refine qA ?_ _); refine qP (cs := #[.int .i64 t222, .int .i64 0]) ?_ 1 _ rfl; (with_reducible repeat first | refine qN ?_ _ | refine qD ?_ | refine qA ?_ _); refine qP (cs := #[.int .i64 0, .int .i64 0]) ?_ 0 _ rfl; (with_reducible repeat first | refine qN ?_ _ | refine qD ?_ | refine qA ?_ _); exact B228.out⟩, ⟨by repeat (first | (with_reducible first | exact HB.out | apply eA | apply eN | apply eD | refine eS ?_ GE221.out | refine eS ?_ GE227.out | refine eS ?_ GE228.out) | exact HB.out)⟩⟩
    case round =>
     clear H'
     try clear c1
     try clear c2
     try clear p2
     try clear c3
     try clear c3b0
     try clear c8
     try clear c11
     try clear c12
     try clear z13_0
     try clear z13_1
     try clear z5_0
     try clear z5_1
     try clear z5_2
     try clear z5_3
     try clear z9_0
     try clear z9_1
     try clear z9_2
     try clear f13_0
     try clear f13_1
     try clear f5_0
     try clear f5_1
     try clear f5_2
     try clear f5_3
     try clear f9_0
     try clear f9_1
     try clear f9_2
     try clear p2
     obtain ⟨x9_2, x10_2, rfl, rfl, HA, HK2, HO_3, B221, B227, B228, HB⟩ := hrel
     cases gk with
     | zero => exact absurd HA.out (by simp [hogsheadref10_List.l1])
     | succ k2 =>
      have H := HA.out
      clear HA
      simp only [hogsheadref10_List.l1] at H
      by_cases c14 : x10_2 < (x3_1.length : Int)
      ·rw [if_pos c14] at H
       have c14b0 : decide (x10_2 < (x3_1.length : Int)) = true := decide_eq_true c14
       clear c14
       by_cases c15 : x9_2 = true
       ·subst c15
        have H1 : (hogsheadref10_List.l1 k2 x3_1 x4_1 t225 true (wrap64 (x10_2 + 1)) l0_0 l0_1 a0_2 a0_3 t222 t223) = some r := by rw [if_pos rfl] at H; exact H
        clear H
        have H := H1
        clear H1
        have H' := qM H
        clear H
        obtain ⟨Ao16, co16, eo16⟩ := Kd.R_slice HO_3.out
        subst eo16
        go_wp2
        repeat (go_quiet (fail); try go_wp2)
        go_roundg k2
        case measure => have := HK1.out; have := HK2.out; omega
        case rel => exact ⟨(true), (wrap64 (x10_2 + 1)), (by first | rfl | (simp; done) | (simp [*]; done)), (by first | rfl | (simp; done) | (simp [*]; done)), H', ⟨by have := HK1.out; have := HK2.out; omega⟩, ⟨by (with_reducible repeat first | apply RA | apply RN | apply RD); exact HO_3.out⟩, ⟨by (with_reducible repeat first | refine qN ?_ _ | refine qD ?_ | refine qA ?_ _); exact B221.out⟩, ⟨by (with_reducible repeat first | refine qN ?_ _ | refine qD ?_ | refine qA ?_ _); exact B227.out⟩, ⟨by (with_reducible repeat first | refine qN ?_ _ | refine qD ?_ | refine qA ?_ _); exact B228.out⟩, ⟨by repeat (first | (with_reducible first | exact HB.out | apply eA | apply eN | apply eD | refine eS ?_ GE221.out | refine eS ?_ GE227.out | refine eS ?_ GE228.out) | exact HB.out)⟩⟩
       ·replace c15 := Bool.eq_false_iff.mpr c15
        subst c15
        have H1 : (if 0 ≤ x10_2 then (hogsheadref10_List.l1 k2 x3_1 x4_1 t225 (((rd_T70 x3_1 x10_2).f0) == t222 && (((rd_T70 x3_1 x10_2).f1) == t223)) (wrap64 (x10_2 + 1)) l0_0 l0_1 a0_2 a0_3 t222 t223) else (none)) = some r := by rw [if_neg (show ¬ (false = true) by decide)] at H; exact H
        clear H
        have H := H1
        clear H1
        by_cases c17 : 0 ≤ x10_2
        ·rw [if_pos c17] at H
         have c17b0 : decide (0 ≤ x10_2) = true := decide_eq_true c17
         clear c17
         have H' := qM H
         clear H
         obtain ⟨Ao18, co18, eo18⟩ := Kd.R_slice HO_3.out
         subst eo18
         have p229 : 0 ≤ (x10_2 : Int) := of_decide_eq_true (by first | (with_reducible assumption) | assumption)
         have q229 : x10_2 < (x3_1.length : Int) := of_decide_eq_true (by first | (with_reducible assumption) | assumption)
         obtain ⟨ad229, e229, hx229_0, hx229_1⟩ := at_T70 (Kd.R_reads' HO_3.out).2.2 x10_2 p229 q229
         cases e229
         replace p229 := eq_true p229
         replace q229 := eq_true q229
         have hnb19 := NB228_221.out
         have hnc19 := NB221_228.out
         have hnb20 := NB228_227.out
         have hnc20 := NB227_228.out
         have z21_0 : wr.cell? ⟨g228, 0, none⟩ = some (.int .i64 t222) := (qC B228.out 0).trans rfl
         have z21_1 : wr.cell? ⟨g228, 1, none⟩ = some (.int .i64 t223) := (qC B228.out 1).trans rfl
         have f21_0 := qF B228.out 0
         have f21_1 := qF B228.out 1
         go_wp2
         repeat (go_quiet (fail); try go_wp2)
         go_roundg k2
         case measure => have := HK1.out; have := HK2.out; omega
         case rel => exact ⟨((((rd_T70 x3_1 x10_2).f0) == t222 && (((rd_T70 x3_1 x10_2).f1) == t223))), (wrap64 (x10_2 + 1)), (by first | rfl | (simp; done) | (simp [*]; done)), (by first | rfl | (simp; done) | (simp [*]; done)), H', ⟨by have := HK1.out; have := HK2.out; omega⟩, ⟨by (with_reducible repeat first | apply RA | apply RN | apply RD); exact HO_3.out⟩, ⟨by (with_reducible repeat first | refine qN ?_ _ | refine qD ?_ | refine qA ?_ _); exact B221.out⟩, ⟨by (with_reducible repeat first | refine qN ?_ _ | refine qD ?_ | refine qA ?_ _); exact B227.out⟩, ⟨by (with_reducible repeat first | refine qN ?_ _ | refine qD ?_ | refine qA ?_ _); exact B228.out⟩, ⟨by repeat (first | (with_reducible first | exact HB.out | apply eA | apply eN | apply eD | refine eS ?_ GE221.out | refine eS ?_ GE227.out | refine eS ?_ GE228.out) | exact HB.out)⟩⟩
        ·rw [if_neg c17] at H
         exact absurd H (by simp)
      ·rw [if_neg c14] at H
       have c14b0 : decide (x10_2 < (x3_1.length : Int)) = false := decide_eq_false c14
       clear c14
       by_cases c22 : t225 = true
       ·subst c22
        have H1 : (if x9_2 = true then (hogsheadref10_List.l0 k2 x3_1 (wrap64 (x4_1 + 1)) l0_0 l0_1 a0_2 a0_3) else (if x3_1.length < 8796093022208 then (hogsheadref10_List.l0 k2 (x3_1 ++ [(⟨t222, t223⟩ : S70)]) (wrap64 (x4_1 + 1)) l0_0 l0_1 a0_2 a0_3) else (none))) = some r := by rw [if_pos rfl] at H; exact H
        clear H
        have H := H1
        clear H1
        by_cases c23 : x9_2 = true
        ·subst c23
         have H1 : (hogsheadref10_List.l0 k2 x3_1 (wrap64 (x4_1 + 1)) l0_0 l0_1 a0_2 a0_3) = some r := by rw [if_pos rfl] at H; exact H
         clear H
         have H := H1
         clear H1
         have H' := qM H
         clear H
         obtain ⟨Ao24, co24, eo24⟩ := Kd.R_slice HO_3.out
         subst eo24
         go_wp2
         repeat (go_quiet (fail); try go_wp2)
         go_roundg k2
         case measure => have := HK1.out; have := HK2.out; omega
         case rel => exact ⟨(x3_1), (wrap64 (x4_1 + 1)), (by first | rfl | (simp; done) | (simp [*]; done)), H', ⟨by have := HK1.out; have := HK2.out; omega⟩, ⟨by (with_reducible repeat first | apply RA | apply RN | apply RD); exact Kd.R_mono HO_3.out (fun _ hk => trivial)⟩, ⟨by (with_reducible repeat first | refine qN ?_ _ | refine qD ?_ | refine qA ?_ _); exact B221.out⟩, ⟨by repeat (first | (with_reducible first | exact HB.out | apply eA | apply eN | apply eD | refine eS ?_ GE221.out | refine eS ?_ GE227.out | refine eS ?_ GE228.out) | exact HB.out)⟩⟩
        ·replace c23 := Bool.eq_false_iff.mpr c23
         subst c23
         have H1 : (if x3_1.length < 8796093022208 then (hogsheadref10_List.l0 k2 (x3_1 ++ [(⟨t222, t223⟩ : S70)]) (wrap64 (x4_1 + 1)) l0_0 l0_1 a0_2 a0_3) else (none)) = some r := by rw [if_neg (show ¬ (false = true) by decide)] at H; exact H
         clear H
         have H := H1
         clear H1
         by_cases c25 : x3_1.length < 8796093022208
         ·rw [if_pos c25] at H
          have LMc25 := qM c25
          clear c25
          obtain ⟨y230, hy230⟩ : ∃ y_ : List (S70), y_ = (x3_1 ++ [(⟨t222, t223⟩ : S70)]) := ⟨_, rfl⟩
          replace H : (hogsheadref10_List.l0 k2 y230 (wrap64 (x4_1 + 1)) l0_0 l0_1 a0_2 a0_3) = some r := by first | (rw [hy230]; with_reducible exact H) | (have H2_ := (Option.bind_some _ _).symm.trans H; rw [hy230]; with_reducible exact H2_) | (have H2_ := (Option.bind_some _ _).symm.trans H; with_reducible exact H2_) | with_reducible exact H | (rw [hy230]; exact H) | exact H
          have Ny230 := qM hy230
          clear hy230
          have H' := qM H
          clear H
          obtain ⟨Ao26, co26, eo26⟩ := Kd.R_slice HO_3.out
          subst eo26
          have hnb27 := NB228_221.out
          have hnc27 := NB221_228.out
          have hnb28 := NB228_227.out
          have hnc28 := NB227_228.out
          have z29_0 : wr.cell? ⟨g228, 0, none⟩ = some (.int .i64 t222) := (qC B228.out 0).trans rfl
          have z29_1 : wr.cell? ⟨g228, 1, none⟩ = some (.int .i64 t223) := (qC B228.out 1).trans rfl
          have f29_0 := qF B228.out 0
          have f29_1 := qF B228.out 1
          go_wp2_with (first | ((with_reducible refine gate_builtin (b := .append) (xs := #[.tmp 50, .tmp 52]) rfl ?_); at_builtin; refine Kd.R_append k70 (w0 := w) w.heap.size rfl (.tmp 50) (.tmp 52) 65 70 (.agg #[(.int .i64 0), (.int .i64 0)]) 16 rfl Try.underlying65 info70 rfl (by decide) (by omega) (.slice Ao26 x3_1.length co26) x3_1 (⟨t222, t223⟩ : S70) [.int .i64 t222, .int .i64 t223] (fun k_ => k_ ≠ g228) (fun _ => False) rfl rfl ?aP (fun _ hk => hk.elim) ?aF ?aO ?aB ?aS ?aL ?_; (case aP => exact k70_mkM _ _ _ (⟨t222, t223⟩ : S70)); (case aB => exact (by repeat (first | (with_reducible first | exact HB.out | apply eA | apply eN | apply eD | refine eU ?_ (by assumption)) | exact HB.out))); (case aF => exact (fun k_ hk => Fb (g := g228) (by (with_reducible repeat first | refine qN ?_ _ | refine qD ?_ | refine qA ?_ _); exact B228.out) k_ hk)); (case aO => exact (by (with_reducible repeat first | apply RA | apply RN | apply RD); exact HO_3.out)); (case aS => exact (eZ (by repeat (first | (with_reducible first | exact HB.out | apply eA | apply eN | apply eD | refine eU ?_ (by assumption)) | exact HB.out)))); (case aL => have := LMc25.out; omega); intro v231 w30 ho hb hg hat; rw [← Ny230.out] at ho; have n0_ := qM (blk_grown (g := g221) (o := .cells #[.slice A0_0 l0_0.length c0_0, .slice A0_1 l0_1.length c0_1, .int .i64 a0_2, .bool a0_3] 53 (0, 0)) (by (with_reducible repeat first | refine qN ?_ _ | refine qD ?_ | refine qA ?_ _); exact B221.out) hg (Kd.R_ne HO_3.out B221.out (by decide))); have n1_ := qM (blk_grown (g := g227) (o := .cells #[.int .i64 t222, .int .i64 t223, .string t224] 87 (0, 0)) (by (with_reducible repeat first | refine qN ?_ _ | refine qD ?_ | refine qA ?_ _); exact B227.out) hg (Kd.R_ne HO_3.out B227.out (by decide))); have n2_ := qM (blk_grown (g := g228) (o := .cells #[.int .i64 t222, .int .i64 t223] 70 (0, 0)) (by (with_reducible repeat first | refine qN ?_ _ | refine qD ?_ | refine qA ?_ _); exact B228.out) hg (Kd.R_away HO_3.out (fun _ hk => hk))); have n3_ := qM (hb); have n4_ := qM (ho); clear B221 B227 B228 HB HO_3; have B221 := n0_; have B227 := n1_; have B228 := n2_; have HB := n3_; have HO232 := n4_; clear n0_ n1_ n2_ n3_ n4_; clear ho hb hg hat))
          repeat (go_quiet (first | ((with_reducible refine gate_builtin (b := .append) (xs := #[.tmp 50, .tmp 52]) rfl ?_); at_builtin; refine Kd.R_append k70 (w0 := w) w.heap.size rfl (.tmp 50) (.tmp 52) 65 70 (.agg #[(.int .i64 0), (.int .i64 0)]) 16 rfl Try.underlying65 info70 rfl (by decide) (by omega) (.slice Ao26 x3_1.length co26) x3_1 (⟨t222, t223⟩ : S70) [.int .i64 t222, .int .i64 t223] (fun k_ => k_ ≠ g228) (fun _ => False) rfl rfl ?aP (fun _ hk => hk.elim) ?aF ?aO ?aB ?aS ?aL ?_; (case aP => exact k70_mkM _ _ _ (⟨t222, t223⟩ : S70)); (case aB => exact (by repeat (first | (with_reducible first | exact HB.out | apply eA | apply eN | apply eD | refine eU ?_ (by assumption)) | exact HB.out))); (case aF => exact (fun k_ hk => Fb (g := g228) (by (with_reducible repeat first | refine qN ?_ _ | refine qD ?_ | refine qA ?_ _); exact B228.out) k_ hk)); (case aO => exact (by (with_reducible repeat first | apply RA | apply RN | apply RD); exact HO_3.out)); (case aS => exact (eZ (by repeat (first | (with_reducible first | exact HB.out | apply eA | apply eN | apply eD | refine eU ?_ (by assumption)) | exact HB.out)))); (case aL => have := LMc25.out; omega); intro v231 w30 ho hb hg hat; rw [← Ny230.out] at ho; have n0_ := qM (blk_grown (g := g221) (o := .cells #[.slice A0_0 l0_0.length c0_0, .slice A0_1 l0_1.length c0_1, .int .i64 a0_2, .bool a0_3] 53 (0, 0)) (by (with_reducible repeat first | refine qN ?_ _ | refine qD ?_ | refine qA ?_ _); exact B221.out) hg (Kd.R_ne HO_3.out B221.out (by decide))); have n1_ := qM (blk_grown (g := g227) (o := .cells #[.int .i64 t222, .int .i64 t223, .string t224] 87 (0, 0)) (by (with_reducible repeat first | refine qN ?_ _ | refine qD ?_ | refine qA ?_ _); exact B227.out) hg (Kd.R_ne HO_3.out B227.out (by decide))); have n2_ := qM (blk_grown (g := g228) (o := .cells #[.int .i64 t222, .int .i64 t223] 70 (0, 0)) (by (with_reducible repeat first | refine qN ?_ _ | refine qD ?_ | refine qA ?_ _); exact B228.out) hg (Kd.R_away HO_3.out (fun _ hk => hk))); have n3_ := qM (hb); have n4_ := qM (ho); clear B221 B227 B228 HB HO_3; have B221 := n0_; have B227 := n1_; have B228 := n2_; have HB := n3_; have HO232 := n4_; clear n0_ n1_ n2_ n3_ n4_; clear ho hb hg hat)); try go_wp2_with (first | ((with_reducible refine gate_builtin (b := .append) (xs := #[.tmp 50, .tmp 52]) rfl ?_); at_builtin; refine Kd.R_append k70 (w0 := w) w.heap.size rfl (.tmp 50) (.tmp 52) 65 70 (.agg #[(.int .i64 0), (.int .i64 0)]) 16 rfl Try.underlying65 info70 rfl (by decide) (by omega) (.slice Ao26 x3_1.length co26) x3_1 (⟨t222, t223⟩ : S70) [.int .i64 t222, .int .i64 t223] (fun k_ => k_ ≠ g228) (fun _ => False) rfl rfl ?aP (fun _ hk => hk.elim) ?aF ?aO ?aB ?aS ?aL ?_; (case aP => exact k70_mkM _ _ _ (⟨t222, t223⟩ : S70)); (case aB => exact (by repeat (first | (with_reducible first | exact HB.out | apply eA | apply eN | apply eD | refine eU ?_ (by assumption)) | exact HB.out))); (case aF => exact (fun k_ hk => Fb (g := g228) (by (with_reducible repeat first | refine qN ?_ _ | refine qD ?_ | refine qA ?_ _); exact B228.out) k_ hk)); (case aO => exact (by (with_reducible repeat first | apply RA | apply RN | apply RD); exact HO_3.out)); (case aS => exact (eZ (by repeat (first | (with_reducible first | exact HB.out | apply eA | apply eN | apply eD | refine eU ?_ (by assumption)) | exact HB.out)))); (case aL => have := LMc25.out; omega); intro v231 w30 ho hb hg hat; rw [← Ny230.out] at ho; have n0_ := qM (blk_grown (g := g221) (o := .cells #[.slice A0_0 l0_0.length c0_0, .slice A0_1 l0_1.length c0_1, .int .i64 a0_2, .bool a0_3] 53 (0, 0)) (by (with_reducible repeat first | refine qN ?_ _ | refine qD ?_ | refine qA ?_ _); exact B221.out) hg (Kd.R_ne HO_3.out B221.out (by decide))); have n1_ := qM (blk_grown (g := g227) (o := .cells #[.int .i64 t222, .int .i64 t223, .string t224] 87 (0, 0)) (by (with_reducible repeat first | refine qN ?_ _ | refine qD ?_ | refine qA ?_ _); exact B227.out) hg (Kd.R_ne HO_3.out B227.out (by decide))); have n2_ := qM (blk_grown (g := g228) (o := .cells #[.int .i64 t222, .int .i64 t223] 70 (0, 0)) (by (with_reducible repeat first | refine qN ?_ _ | refine qD ?_ | refine qA ?_ _); exact B228.out) hg (Kd.R_away HO_3.out (fun _ hk => hk))); have n3_ := qM (hb); have n4_ := qM (ho); clear B221 B227 B228 HB HO_3; have B221 := n0_; have B227 := n1_; have B228 := n2_; have HB := n3_; have HO232 := n4_; clear n0_ n1_ n2_ n3_ n4_; clear ho hb hg hat)))
          go_roundg k2
          case measure => have := HK1.out; have := HK2.out; omega
          case rel => exact ⟨(y230), (wrap64 (x4_1 + 1)), (by first | rfl | (simp; done) | (simp [*]; done)), H', ⟨by have := HK1.out; have := HK2.out; omega⟩, ⟨by (with_reducible repeat first | apply RA | apply RN | apply RD); exact Kd.R_mono HO232.out (fun _ hk => trivial)⟩, ⟨by (with_reducible repeat first | refine qN ?_ _ | refine qD ?_ | refine qA ?_ _); exact B221.out⟩, ⟨by repeat (first | (with_reducible first | exact HB.out | apply eA | apply eN | apply eD | refine eS ?_ GE221.out | refine eS ?_ GE227.out | refine eS ?_ GE228.out) | exact HB.out)⟩⟩
         ·rw [if_neg c25] at H
          exact absurd H (by simp)
       ·replace c22 := Bool.eq_false_iff.mpr c22
        subst c22
        have H1 : (hogsheadref10_List.l0 k2 x3_1 (wrap64 (x4_1 + 1)) l0_0 l0_1 a0_2 a0_3) = some r := by rw [if_neg (show ¬ (false = true) by decide)] at H; exact H
        clear H
        have H := H1
        clear H1
        have H' := qM H
        clear H
        obtain ⟨Ao31, co31, eo31⟩ := Kd.R_slice HO_3.out
        subst eo31
        go_wp2
        repeat (go_quiet (fail); try go_wp2)
        go_roundg k2
        case measure => have := HK1.out; have := HK2.out; omega
        case rel => exact ⟨(x3_1), (wrap64 (x4_1 + 1)), (by first | rfl | (simp; done) | (simp [*]; done)), H', ⟨by have := HK1.out; have := HK2.out; omega⟩, ⟨by (with_reducible repeat first | apply RA | apply RN | apply RD); exact Kd.R_mono HO_3.out (fun _ hk => trivial)⟩, ⟨by (with_reducible repeat first | refine qN ?_ _ | refine qD ?_ | refine qA ?_ _); exact B221.out⟩, ⟨by repeat (first | (with_reducible first | exact HB.out | apply eA | apply eN | apply eD | refine eS ?_ GE221.out | refine eS ?_ GE227.out | refine eS ?_ GE228.out) | exact HB.out)⟩⟩
   ·rw [if_neg c3] at H
    have c3b0 : decide (x4_1 < (l0_0.length : Int)) = false := decide_eq_false c3
    clear c3
    obtain rfl := Option.some.inj H
    obtain ⟨z32_0, z32_1, z32_2, z32_3, f32_0, f32_1, f32_2, f32_3⟩ := cells4 B221.out
    go_wp2
    repeat (go_quiet (fail); try go_wp2)
    go_ret
    exact ⟨_, by first | rfl | (simp [errW_none, errW_some] <;> rfl) | (simp [*, errW_none, errW_some] <;> rfl), by (with_reducible repeat first | apply RA | apply RN | apply RD); exact HO_3.out, by repeat (first | (with_reducible first | exact HB.out | apply eA | apply eN | apply eD | refine eS ?_ GE221.out) | exact HB.out)⟩

end Go.Proofs.Ytlfonfceaiiinaa.PAll
