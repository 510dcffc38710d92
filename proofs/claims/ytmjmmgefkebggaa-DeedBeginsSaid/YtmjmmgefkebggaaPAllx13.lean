/- Functions of the program as plain Lean functions, and that each call comes to what they say. Laid by a program of this session (hprint.py); Lean checks it. -/
import Derived.Test.YtmjmmgefkebggaaPAllx0
import Derived.Test.YtmjmmgefkebggaaPAllx1
import Derived.Test.YtmjmmgefkebggaaPAllx3
import Derived.Test.YtmjmmgefkebggaaPAllx11
import Derived.Test.YtmjmmgefkebggaaPAllx12
namespace Go.Proofs.Ytmjmmgefkebggaa.PAll
open Go.RowKit Go.Proofs.YtmjmmgefkebggaaW.PrintWords Go.Proofs.YtmjmmgefkebggaaW.PrintLast Go.Proofs.YtmjmmgefkebggaaW.PrintMore
attribute [local go_sem] max2_int min2_int max_two min_two max_three min_three max_four min_four   -- for this text's walks alone
set_option linter.unusedVariables false
set_option linter.unusedSimpArgs false
attribute [local irreducible] World.setCell

attribute [local go_sem high] eqA28
/-! ### hogsheadlaw17_DeedBegins: function 3 -/
def hogsheadlaw17_DeedBegins.j0 : Nat → Bool → Option (Bool)
 | 0, _ => none
 | k + 1, x2 => some x2
def hogsheadlaw17_DeedBegins.f (k : Nat) (a0_0 : Int) (a0_1 : Int) (a0_2 : ByteArray) (a0_3 : ByteArray) (a0_4 : Int) : Option (Bool) := (hogsheadlaw17_shown.f k).bind fun t218 => ((deed_New.f k a0_0 a0_1 a0_2 a0_3 a0_4).bind fun bt219 => ((hogsheadref17_New.f k a0_0 a0_1 a0_2 a0_3 a0_4).bind fun bt235 => (if t218 = true then (if (bt219.1 == bt235.1 && (bt219.2.1 == bt235.2.1 && (bt219.2.2.1.toList == bt235.2.2.1.toList && (bt219.2.2.2.1.toList == bt235.2.2.2.1.toList && (bt219.2.2.2.2.1 == bt235.2.2.2.2.1 && (bt219.2.2.2.2.2.1 == bt235.2.2.2.2.2.1 && (bt219.2.2.2.2.2.2.1 == bt235.2.2.2.2.2.2.1 && (bt219.2.2.2.2.2.2.2.1 == bt235.2.2.2.2.2.2.2.1 && (bt219.2.2.2.2.2.2.2.2.1 == bt235.2.2.2.2.2.2.2.2.1 && (bt219.2.2.2.2.2.2.2.2.2.1 == bt235.2.2.2.2.2.2.2.2.2.1 && (bt219.2.2.2.2.2.2.2.2.2.2.1 == bt235.2.2.2.2.2.2.2.2.2.2.1 && (bt219.2.2.2.2.2.2.2.2.2.2.2.1 == bt235.2.2.2.2.2.2.2.2.2.2.2.1 && (bt219.2.2.2.2.2.2.2.2.2.2.2.2.1.toList == bt235.2.2.2.2.2.2.2.2.2.2.2.2.1.toList && (bt219.2.2.2.2.2.2.2.2.2.2.2.2.2.1 == bt235.2.2.2.2.2.2.2.2.2.2.2.2.2.1)))))))))))))) = true then (hogsheadlaw17_DeedBegins.j0 k (bt219.2.2.2.2.2.2.2.2.2.2.2.2.2.2 == bt235.2.2.2.2.2.2.2.2.2.2.2.2.2.2)) else (hogsheadlaw17_DeedBegins.j0 k false)) else (hogsheadlaw17_DeedBegins.j0 k false))))
theorem hogsheadlaw17_DeedBegins.mono_l : ∀ k, (∀ y0, LeO (hogsheadlaw17_DeedBegins.j0 k y0) (hogsheadlaw17_DeedBegins.j0 (k + 1) y0))
 | 0 => fun _ r h => by simp [hogsheadlaw17_DeedBegins.j0] at h
 | k + 1 => by
  have ih0 := hogsheadlaw17_DeedBegins.mono_l k
  ·intro y0
   unfold hogsheadlaw17_DeedBegins.j0
   repeat' first
   | (with_reducible exact ih0 _)
   | (with_reducible exact deed_New.mono _ _ _ _ _ _)
   | (with_reducible exact hogsheadlaw17_shown.mono _)
   | (with_reducible exact hogsheadref17_New.mono _ _ _ _ _ _)
   | (with_reducible exact LeO.refl _)
   | (with_reducible exact LeO.none _)
   | (with_reducible refine LeO.ite ?_ ?_)
   | (with_reducible refine LeO.bind ?_ (fun _ => ?_))
   | exact ih0 _
   | exact deed_New.mono _ _ _ _ _ _
   | exact hogsheadlaw17_shown.mono _
   | exact hogsheadref17_New.mono _ _ _ _ _ _
   | exact LeO.none _
   | refine LeO.ite ?_ ?_
   | refine LeO.bind ?_ (fun _ => ?_)
theorem hogsheadlaw17_DeedBegins.mono : ∀ a0 a1 a2 a3 a4 k, LeO (hogsheadlaw17_DeedBegins.f k a0 a1 a2 a3 a4) (hogsheadlaw17_DeedBegins.f (k + 1) a0 a1 a2 a3 a4) := by
 intro a0 a1 a2 a3 a4 k
 have ih0 := hogsheadlaw17_DeedBegins.mono_l k
 unfold hogsheadlaw17_DeedBegins.f
 repeat' first
   | (with_reducible exact ih0 _)
   | (with_reducible exact deed_New.mono _ _ _ _ _ _)
   | (with_reducible exact hogsheadlaw17_shown.mono _)
   | (with_reducible exact hogsheadref17_New.mono _ _ _ _ _ _)
   | (with_reducible exact LeO.refl _)
   | (with_reducible exact LeO.none _)
   | (with_reducible refine LeO.ite ?_ ?_)
   | (with_reducible refine LeO.bind ?_ (fun _ => ?_))
   | exact ih0 _
   | exact deed_New.mono _ _ _ _ _ _
   | exact hogsheadlaw17_shown.mono _
   | exact hogsheadref17_New.mono _ _ _ _ _ _
   | exact LeO.none _
   | refine LeO.ite ?_ ?_
   | refine LeO.bind ?_ (fun _ => ?_)
set_option maxHeartbeats 40000000 in
set_option maxRecDepth 100000 in
theorem hogsheadlaw17_DeedBegins.calls (k : Nat) (a0_0 : Int) (a0_1 : Int) (a0_2 : ByteArray) (a0_3 : ByteArray) (a0_4 : Int) (r : Bool) (w : World) (h : hogsheadlaw17_DeedBegins.f k a0_0 a0_1 a0_2 a0_3 a0_4 = some r) :
  Calls Try.prog 3 #[.agg #[.int .i64 a0_0, .int .i64 a0_1, .string a0_2, .string a0_3, .int .i64 a0_4]] w fun e w' => e = .returned (.bool r) ∧ Below w.heap.size w w' := by
 have hu23 := Try.underlying23
 have hu28 := Try.underlying28
 have HB := qM (Below.refl w.heap.size w)
 have H : ((hogsheadlaw17_shown.f k).bind fun t218 => ((deed_New.f k a0_0 a0_1 a0_2 a0_3 a0_4).bind fun bt219 => ((hogsheadref17_New.f k a0_0 a0_1 a0_2 a0_3 a0_4).bind fun bt235 => (if t218 = true then (if (bt219.1 == bt235.1 && (bt219.2.1 == bt235.2.1 && (bt219.2.2.1.toList == bt235.2.2.1.toList && (bt219.2.2.2.1.toList == bt235.2.2.2.1.toList && (bt219.2.2.2.2.1 == bt235.2.2.2.2.1 && (bt219.2.2.2.2.2.1 == bt235.2.2.2.2.2.1 && (bt219.2.2.2.2.2.2.1 == bt235.2.2.2.2.2.2.1 && (bt219.2.2.2.2.2.2.2.1 == bt235.2.2.2.2.2.2.2.1 && (bt219.2.2.2.2.2.2.2.2.1 == bt235.2.2.2.2.2.2.2.2.1 && (bt219.2.2.2.2.2.2.2.2.2.1 == bt235.2.2.2.2.2.2.2.2.2.1 && (bt219.2.2.2.2.2.2.2.2.2.2.1 == bt235.2.2.2.2.2.2.2.2.2.2.1 && (bt219.2.2.2.2.2.2.2.2.2.2.2.1 == bt235.2.2.2.2.2.2.2.2.2.2.2.1 && (bt219.2.2.2.2.2.2.2.2.2.2.2.2.1.toList == bt235.2.2.2.2.2.2.2.2.2.2.2.2.1.toList && (bt219.2.2.2.2.2.2.2.2.2.2.2.2.2.1 == bt235.2.2.2.2.2.2.2.2.2.2.2.2.2.1)))))))))))))) = true then (hogsheadlaw17_DeedBegins.j0 k (bt219.2.2.2.2.2.2.2.2.2.2.2.2.2.2 == bt235.2.2.2.2.2.2.2.2.2.2.2.2.2.2)) else (hogsheadlaw17_DeedBegins.j0 k false)) else (hogsheadlaw17_DeedBegins.j0 k false))))) = some r := h
 clear h
 replace H := Option.bind_eq_some_iff.mp H
 obtain ⟨t218, A20, H⟩ := H
 replace H : ((deed_New.f k a0_0 a0_1 a0_2 a0_3 a0_4).bind fun bt219 => ((hogsheadref17_New.f k a0_0 a0_1 a0_2 a0_3 a0_4).bind fun bt235 => (if t218 = true then (if (bt219.1 == bt235.1 && (bt219.2.1 == bt235.2.1 && (bt219.2.2.1.toList == bt235.2.2.1.toList && (bt219.2.2.2.1.toList == bt235.2.2.2.1.toList && (bt219.2.2.2.2.1 == bt235.2.2.2.2.1 && (bt219.2.2.2.2.2.1 == bt235.2.2.2.2.2.1 && (bt219.2.2.2.2.2.2.1 == bt235.2.2.2.2.2.2.1 && (bt219.2.2.2.2.2.2.2.1 == bt235.2.2.2.2.2.2.2.1 && (bt219.2.2.2.2.2.2.2.2.1 == bt235.2.2.2.2.2.2.2.2.1 && (bt219.2.2.2.2.2.2.2.2.2.1 == bt235.2.2.2.2.2.2.2.2.2.1 && (bt219.2.2.2.2.2.2.2.2.2.2.1 == bt235.2.2.2.2.2.2.2.2.2.2.1 && (bt219.2.2.2.2.2.2.2.2.2.2.2.1 == bt235.2.2.2.2.2.2.2.2.2.2.2.1 && (bt219.2.2.2.2.2.2.2.2.2.2.2.2.1.toList == bt235.2.2.2.2.2.2.2.2.2.2.2.2.1.toList && (bt219.2.2.2.2.2.2.2.2.2.2.2.2.2.1 == bt235.2.2.2.2.2.2.2.2.2.2.2.2.2.1)))))))))))))) = true then (hogsheadlaw17_DeedBegins.j0 k (bt219.2.2.2.2.2.2.2.2.2.2.2.2.2.2 == bt235.2.2.2.2.2.2.2.2.2.2.2.2.2.2)) else (hogsheadlaw17_DeedBegins.j0 k false)) else (hogsheadlaw17_DeedBegins.j0 k false)))) = some r := H
 have A2 := qM A20
 clear A20
 replace H := Option.bind_eq_some_iff.mp H
 obtain ⟨⟨t219, t220, t221, t222, t223, t224, t225, t226, t227, t228, t229, t230, t231, t232, t233⟩, A30, H⟩ := H
 replace H : ((hogsheadref17_New.f k a0_0 a0_1 a0_2 a0_3 a0_4).bind fun bt235 => (if t218 = true then (if (t219 == bt235.1 && (t220 == bt235.2.1 && (t221.toList == bt235.2.2.1.toList && (t222.toList == bt235.2.2.2.1.toList && (t223 == bt235.2.2.2.2.1 && (t224 == bt235.2.2.2.2.2.1 && (t225 == bt235.2.2.2.2.2.2.1 && (t226 == bt235.2.2.2.2.2.2.2.1 && (t227 == bt235.2.2.2.2.2.2.2.2.1 && (t228 == bt235.2.2.2.2.2.2.2.2.2.1 && (t229 == bt235.2.2.2.2.2.2.2.2.2.2.1 && (t230 == bt235.2.2.2.2.2.2.2.2.2.2.2.1 && (t231.toList == bt235.2.2.2.2.2.2.2.2.2.2.2.2.1.toList && (t232 == bt235.2.2.2.2.2.2.2.2.2.2.2.2.2.1)))))))))))))) = true then (hogsheadlaw17_DeedBegins.j0 k (t233 == bt235.2.2.2.2.2.2.2.2.2.2.2.2.2.2)) else (hogsheadlaw17_DeedBegins.j0 k false)) else (hogsheadlaw17_DeedBegins.j0 k false))) = some r := H
 have A3 := qM A30
 clear A30
 replace H := Option.bind_eq_some_iff.mp H
 obtain ⟨⟨t235, t236, t237, t238, t239, t240, t241, t242, t243, t244, t245, t246, t247, t248, t249⟩, A40, H⟩ := H
 replace H : (if t218 = true then (if (t219 == t235 && (t220 == t236 && (t221.toList == t237.toList && (t222.toList == t238.toList && (t223 == t239 && (t224 == t240 && (t225 == t241 && (t226 == t242 && (t227 == t243 && (t228 == t244 && (t229 == t245 && (t230 == t246 && (t231.toList == t247.toList && (t232 == t248)))))))))))))) = true then (hogsheadlaw17_DeedBegins.j0 k (t233 == t249)) else (hogsheadlaw17_DeedBegins.j0 k false)) else (hogsheadlaw17_DeedBegins.j0 k false)) = some r := H
 have A4 := qM A40
 clear A40
 have HC5 := qM H
 clear H
 go_enter Try.func3, Try.ntmps3
 go_upto_region 9 with (first | ((with_reducible refine gate_dst (N := 1) rfl ?_); refine box_event ?hg (N := 1) ?hd (cs := #[.int .i64 a0_0, .int .i64 a0_1, .string a0_2, .string a0_3, .int .i64 a0_4]) (t := 23) ?hr ?_; (case hd => rfl); (case hg => rfl); (case hr => first | (go_simp; done) | (go_simp; rfl)); intro g217 hg w6 hbox hb; have n0_ := qM (eT (by repeat (first | (with_reducible first | exact HB.out | apply eA | apply eN | apply eD) | exact HB.out)) hb); have n1_ := qM (hbox); have n2_ := qM ((by rw [hg]; exact (eZ (by repeat (first | (with_reducible first | exact HB.out | apply eA | apply eN | apply eD) | exact HB.out))) : w.heap.size ≤ g217)); have n3_ := n2_; clear HB; have HB := n0_; have B217 := n1_; have GW217 := n2_; have GE217 := n3_; clear n0_ n1_ n2_ n3_; clear hb hbox hg; obtain ⟨z7_0, z7_1, z7_2, z7_3, z7_4, f7_0, f7_1, f7_2, f7_3, f7_4⟩ := cells5 B217.out) | ((with_reducible refine gate_callee (f := 9) rfl ?_); refine goesL_ (some 23) rfl rfl Try.func9 (by kernel_rfl) rfl #[] rfl (by (try simp only [List.map_toArray, List.map_cons, List.map_nil]); first | done | rfl | (simp only [List.length_drop, List.length_take]; rfl)) ?_; (with_reducible refine (hogsheadlaw17_shown.calls k  t218 _ A2.out).mono ?_); rintro e w8 ⟨rfl, hb⟩; refine ⟨_, rfl, ?_⟩; have n0_ := qM (qB (g := g217) (by (with_reducible repeat first | refine qN ?_ _ | refine qD ?_ | refine qA ?_ _); exact B217.out) hb); have n1_ := qM (eT (by repeat (first | (with_reducible first | exact HB.out | apply eA | apply eN | apply eD | refine eS ?_ GE217.out) | exact HB.out)) hb); clear B217; clear HB; have B217 := n0_; have HB := n1_; clear n0_ n1_; (try clear hb); (try clear hb2); (try clear hk); (try clear hi)) | ((with_reducible refine gate_callee (f := 10) rfl ?_); refine goesL_ (some 30) rfl rfl Try.func10 (by kernel_rfl) rfl #[.int .i64 a0_0, .int .i64 a0_1, .string a0_2, .string a0_3, .int .i64 a0_4] rfl (by (try simp only [List.map_toArray, List.map_cons, List.map_nil]); first | done | rfl | (simp only [List.length_drop, List.length_take]; rfl)) ?_; (with_reducible refine (deed_New.calls k a0_0 a0_1 a0_2 a0_3 a0_4 t219 t220 t221 t222 t223 t224 t225 t226 t227 t228 t229 t230 t231 t232 t233 _ A3.out).mono ?_); rintro e w9 ⟨rfl, hb⟩; refine ⟨_, rfl, ?_⟩; have n0_ := qM (qB (g := g217) (by (with_reducible repeat first | refine qN ?_ _ | refine qD ?_ | refine qA ?_ _); exact B217.out) hb); have n1_ := qM (eT (by repeat (first | (with_reducible first | exact HB.out | apply eA | apply eN | apply eD | refine eS ?_ GE217.out) | exact HB.out)) hb); clear B217; clear HB; have B217 := n0_; have HB := n1_; clear n0_ n1_; (try clear hb); (try clear hb2); (try clear hk); (try clear hi)) | ((with_reducible refine gate_dst (N := 9) rfl ?_); refine box_event ?hg (N := 9) ?hd (cs := #[.int .i64 0, .int .i64 0, .string (⟨#[]⟩ : ByteArray), .string (⟨#[]⟩ : ByteArray), .int .i64 0, .int .i64 0, .int .i64 0, .int .i64 0, .int .i64 0, .int .u32 0, .int .i64 0, .int .i64 0, .string (⟨#[]⟩ : ByteArray), .bool false]) (t := 28) ?hr ?_; (case hd => rfl); (case hg => rfl); (case hr => first | (go_simp; done) | (go_simp; rfl)); intro g234 hg w10 hbox hb; have n0_ := qM (qB (g := g217) (by (with_reducible repeat first | refine qN ?_ _ | refine qD ?_ | refine qA ?_ _); exact B217.out) hb); have n1_ := qM (eT (by repeat (first | (with_reducible first | exact HB.out | apply eA | apply eN | apply eD | refine eS ?_ GE217.out) | exact HB.out)) hb); have n2_ := qM (hbox); have n3_ := qM ((by rw [hg]; exact (eZ (by repeat (first | (with_reducible first | exact HB.out | apply eA | apply eN | apply eD | refine eS ?_ GE217.out) | exact HB.out))) : w.heap.size ≤ g234)); have n4_ := n3_; have n5_ := qM ((by rw [hg]; exact Nat.ne_of_lt (qL (g := g217) (by (with_reducible repeat first | refine qN ?_ _ | refine qD ?_ | refine qA ?_ _); exact B217.out)) : g217 ≠ g234)); have n6_ := qM (Ne.symm n5_.out); clear B217; clear HB; have B217 := n0_; have HB := n1_; have B234 := n2_; have GW234 := n3_; have GE234 := n4_; have NB217_234 := n5_; have NB234_217 := n6_; clear n0_ n1_ n2_ n3_ n4_ n5_ n6_; clear hb hbox hg; have hnb11 := NB234_217.out; have hnc11 := NB217_234.out; obtain ⟨z12_0, z12_1, z12_2, z12_3, z12_4, z12_5, z12_6, z12_7, z12_8, z12_9, z12_10, z12_11, z12_12, z12_13, f12_0, f12_1, f12_2, f12_3, f12_4, f12_5, f12_6, f12_7, f12_8, f12_9, f12_10, f12_11, f12_12, f12_13⟩ := cells14 B234.out) | ((with_reducible refine gate_callee (f := 11) rfl ?_); refine goesL_ (some 39) rfl rfl Try.func11 (by kernel_rfl) rfl #[.int .i64 a0_0, .int .i64 a0_1, .string a0_2, .string a0_3, .int .i64 a0_4] rfl (by (try simp only [List.map_toArray, List.map_cons, List.map_nil]); first | done | rfl | (simp only [List.length_drop, List.length_take]; rfl)) ?_; (with_reducible refine (hogsheadref17_New.calls k a0_0 a0_1 a0_2 a0_3 a0_4 t235 t236 t237 t238 t239 t240 t241 t242 t243 t244 t245 t246 t247 t248 t249 _ A4.out).mono ?_); rintro e w13 ⟨rfl, hb⟩; refine ⟨_, rfl, ?_⟩; have n0_ := qM (qB (g := g217) (o := .cells #[.int .i64 a0_0, .int .i64 a0_1, .string a0_2, .string a0_3, .int .i64 a0_4] 23 (0, 0)) (by (with_reducible repeat first | refine qN ?_ _ | refine qD ?_ | refine qA ?_ _); (iterate 14 (refine qR ?_ NB217_234.out _; (with_reducible repeat first | refine qN ?_ _ | refine qD ?_ | refine qA ?_ _))); exact B217.out) hb); have n1_ := qM (qB (g := g234) (by (with_reducible repeat first | refine qN ?_ _ | refine qD ?_ | refine qA ?_ _); apply puts14; (with_reducible repeat first | refine qN ?_ _ | refine qD ?_ | refine qA ?_ _); exact B234.out) hb); have n2_ := qM (eT (by repeat (first | (with_reducible first | exact HB.out | apply eA | apply eN | apply eD | refine eS ?_ GE217.out | refine eS ?_ GE234.out) | exact HB.out)) hb); clear B217; clear B234; clear HB; have B217 := n0_; have B234 := n1_; have HB := n2_; clear n0_ n1_ n2_; (try clear hb); (try clear hb2); (try clear hk); (try clear hi)) | ((with_reducible refine gate_dst (N := 11) rfl ?_); refine box_event ?hg (N := 11) ?hd (cs := #[.int .i64 0, .int .i64 0, .string (⟨#[]⟩ : ByteArray), .string (⟨#[]⟩ : ByteArray), .int .i64 0, .int .i64 0, .int .i64 0, .int .i64 0, .int .i64 0, .int .u32 0, .int .i64 0, .int .i64 0, .string (⟨#[]⟩ : ByteArray), .bool false]) (t := 28) ?hr ?_; (case hd => rfl); (case hg => rfl); (case hr => first | (go_simp; done) | (go_simp; rfl)); intro g250 hg w14 hbox hb; have n0_ := qM (qB (g := g217) (by (with_reducible repeat first | refine qN ?_ _ | refine qD ?_ | refine qA ?_ _); exact B217.out) hb); have n1_ := qM (qB (g := g234) (by (with_reducible repeat first | refine qN ?_ _ | refine qD ?_ | refine qA ?_ _); exact B234.out) hb); have n2_ := qM (eT (by repeat (first | (with_reducible first | exact HB.out | apply eA | apply eN | apply eD | refine eS ?_ GE217.out | refine eS ?_ GE234.out) | exact HB.out)) hb); have n3_ := qM (hbox); have n4_ := qM ((by rw [hg]; exact (eZ (by repeat (first | (with_reducible first | exact HB.out | apply eA | apply eN | apply eD | refine eS ?_ GE217.out | refine eS ?_ GE234.out) | exact HB.out))) : w.heap.size ≤ g250)); have n5_ := n4_; have n6_ := qM ((by rw [hg]; exact Nat.ne_of_lt (qL (g := g217) (by (with_reducible repeat first | refine qN ?_ _ | refine qD ?_ | refine qA ?_ _); exact B217.out)) : g217 ≠ g250)); have n7_ := qM (Ne.symm n6_.out); have n8_ := qM ((by rw [hg]; exact Nat.ne_of_lt (qL (g := g234) (by (with_reducible repeat first | refine qN ?_ _ | refine qD ?_ | refine qA ?_ _); exact B234.out)) : g234 ≠ g250)); have n9_ := qM (Ne.symm n8_.out); clear B217; clear B234; clear HB; have B217 := n0_; have B234 := n1_; have HB := n2_; have B250 := n3_; have GW250 := n4_; have GE250 := n5_; have NB217_250 := n6_; have NB250_217 := n7_; have NB234_250 := n8_; have NB250_234 := n9_; clear n0_ n1_ n2_ n3_ n4_ n5_ n6_ n7_ n8_ n9_; clear hb hbox hg; have hnb15 := NB250_217.out; have hnc15 := NB217_250.out; have hnb16 := NB250_234.out; have hnc16 := NB234_250.out; obtain ⟨z17_0, z17_1, z17_2, z17_3, z17_4, z17_5, z17_6, z17_7, z17_8, z17_9, z17_10, z17_11, z17_12, z17_13, f17_0, f17_1, f17_2, f17_3, f17_4, f17_5, f17_6, f17_7, f17_8, f17_9, f17_10, f17_11, f17_12, f17_13⟩ := cells14 B250.out))
 (try simp only [Act.put, List.setIfInBounds_toArray, List.set_cons_zero, List.set_cons_succ])
 go_cut [2] (fun v2 wc => ∃ (kq : Nat) (x2_4 : Bool), v2 = .bool x2_4 ∧ Aside0 (hogsheadlaw17_DeedBegins.j0 kq x2_4 = some r) ∧ Aside0 (kq ≤ k) ∧ Aside0 (wc.heap[g217]? = some (.cells #[.int .i64 a0_0, .int .i64 a0_1, .string a0_2, .string a0_3, .int .i64 a0_4] 23 (0, 0))) ∧ Aside0 (wc.heap[g234]? = some (.cells #[.int .i64 t219, .int .i64 t220, .string t221, .string t222, .int .i64 t223, .int .i64 t224, .int .i64 t225, .int .i64 t226, .int .i64 t227, .int .u32 t228, .int .i64 t229, .int .i64 t230, .string t231, .bool t232] 28 (0, 0))) ∧ Aside0 (wc.heap[g250]? = some (.cells #[.int .i64 t235, .int .i64 t236, .string t237, .string t238, .int .i64 t239, .int .i64 t240, .int .i64 t241, .int .i64 t242, .int .i64 t243, .int .u32 t244, .int .i64 t245, .int .i64 t246, .string t247, .bool t248] 28 (0, 0))) ∧ Aside0 (Below w.heap.size w wc))
 case first =>
  have H := HC5.out
  clear HC5
  by_cases c18 : t218 = true
  ·subst c18
   have H1 : (if (t219 == t235 && (t220 == t236 && (t221.toList == t237.toList && (t222.toList == t238.toList && (t223 == t239 && (t224 == t240 && (t225 == t241 && (t226 == t242 && (t227 == t243 && (t228 == t244 && (t229 == t245 && (t230 == t246 && (t231.toList == t247.toList && (t232 == t248)))))))))))))) = true then (hogsheadlaw17_DeedBegins.j0 k (t233 == t249)) else (hogsheadlaw17_DeedBegins.j0 k false)) = some r := by rw [if_pos rfl] at H; exact H
   clear H
   have H := H1
   clear H1
   by_cases c19 : (t219 == t235 && (t220 == t236 && (t221.toList == t237.toList && (t222.toList == t238.toList && (t223 == t239 && (t224 == t240 && (t225 == t241 && (t226 == t242 && (t227 == t243 && (t228 == t244 && (t229 == t245 && (t230 == t246 && (t231.toList == t247.toList && (t232 == t248)))))))))))))) = true
   ·rw [if_pos c19] at H
    have c19b0 : (t219 == t235 && (t220 == t236 && (t221.toList == t237.toList && (t222.toList == t238.toList && (t223 == t239 && (t224 == t240 && (t225 == t241 && (t226 == t242 && (t227 == t243 && (t228 == t244 && (t229 == t245 && (t230 == t246 && (t231.toList == t247.toList && (t232 == t248)))))))))))))) = true := c19
    (try (have c19b1 : decide (t219 = t235 && (t220 == t236 && (t221.toList == t237.toList && (t222.toList == t238.toList && (t223 == t239 && (t224 == t240 && (t225 == t241 && (t226 == t242 && (t227 == t243 && (t228 == t244 && (t229 == t245 && (t230 == t246 && (t231.toList == t247.toList && (t232 == t248)))))))))))))) = true := by simpa using c19))
    (try (have c19b2 : (t219 == t235 && (t220 == t236 && (t221.toList == t237.toList && (t222.toList == t238.toList && (t223 == t239 && (t224 == t240 && (t225 == t241 && (t226 == t242 && (t227 == t243 && (t228 == t244 && (t229 == t245 && (t230 == t246 && (t231.toList == t247.toList && (t232 == t248)))))))))))))) = true := by simpa using c19))
    clear c19
    (first | rw [c19b0] | (simp only [i64_w, i32_w]; rw [c19b0]) | skip)
    have H' := qM H
    clear H
    have hnb20 := NB234_217.out
    have hnc20 := NB217_234.out
    have hnb21 := NB234_250.out
    have hnc21 := NB250_234.out
    obtain ⟨z22_0, z22_1, z22_2, z22_3, z22_4, z22_5, z22_6, z22_7, z22_8, z22_9, z22_10, z22_11, z22_12, z22_13, f22_0, f22_1, f22_2, f22_3, f22_4, f22_5, f22_6, f22_7, f22_8, f22_9, f22_10, f22_11, f22_12, f22_13⟩ := cells14 B234.out
    have hnb23 := NB250_217.out
    have hnc23 := NB217_250.out
    obtain ⟨z24_0, z24_1, z24_2, z24_3, z24_4, z24_5, z24_6, z24_7, z24_8, z24_9, z24_10, z24_11, z24_12, z24_13, f24_0, f24_1, f24_2, f24_3, f24_4, f24_5, f24_6, f24_7, f24_8, f24_9, f24_10, f24_11, f24_12, f24_13⟩ := cells14 B250.out
    go_wp2
    go_meet
    case rel => exact ⟨_, ((t233 == t249)), (by first | rfl | (simp; done) | (simp [*]; done)), H', ⟨by first | omega | exact Nat.le_refl _⟩, ⟨by (with_reducible repeat first | refine qN ?_ _ | refine qD ?_ | refine qA ?_ _); (iterate 14 (refine qR ?_ NB217_250.out _; (with_reducible repeat first | refine qN ?_ _ | refine qD ?_ | refine qA ?_ _))); exact B217.out⟩, ⟨by (with_reducible repeat first | refine qN ?_ _ | refine qD ?_ | refine qA ?_ _); (iterate 14 (refine qR ?_ NB234_250.out _; (with_reducible repeat first | refine qN ?_ _ | refine qD ?_ | refine qA ?_ _))); exact B234.out⟩, ⟨by (with_reducible repeat first | refine qN ?_ _ | refine qD ?_ | refine qA ?_ _); apply puts14; (with_reducible repeat first | refine qN ?_ _ | refine qD ?_ | refine qA ?_ _); exact B250.out⟩, ⟨by repeat (first | (with_reducible first | exact HB.out | apply eA | apply eN | apply eD | refine eS ?_ GE217.out | refine eS ?_ GE234.out | refine eS ?_ GE250.out) | exact HB.out)⟩⟩
   ·rw [if_neg c19] at H
    have c19b0 : (t219 == t235 && (t220 == t236 && (t221.toList == t237.toList && (t222.toList == t238.toList && (t223 == t239 && (t224 == t240 && (t225 == t241 && (t226 == t242 && (t227 == t243 && (t228 == t244 && (t229 == t245 && (t230 == t246 && (t231.toList == t247.toList && (t232 == t248)))))))))))))) = false := by simpa using c19
    (try (have c19b1 : decide (t219 = t235 && (t220 == t236 && (t221.toList == t237.toList && (t222.toList == t238.toList && (t223 == t239 && (t224 == t240 && (t225 == t241 && (t226 == t242 && (t227 == t243 && (t228 == t244 && (t229 == t245 && (t230 == t246 && (t231.toList == t247.toList && (t232 == t248)))))))))))))) = false := by simpa using c19))
    (try (have c19b2 : (t219 == t235 && (t220 == t236 && (t221.toList == t237.toList && (t222.toList == t238.toList && (t223 == t239 && (t224 == t240 && (t225 == t241 && (t226 == t242 && (t227 == t243 && (t228 == t244 && (t229 == t245 && (t230 == t246 && (t231.toList == t247.toList && (t232 == t248)))))))))))))) = false := by simpa using c19))
    (try (have c19b3 : ¬ (t219 = t235 && (t220 == t236 && (t221.toList == t237.toList && (t222.toList == t238.toList && (t223 == t239 && (t224 == t240 && (t225 == t241 && (t226 == t242 && (t227 == t243 && (t228 == t244 && (t229 == t245 && (t230 == t246 && (t231.toList == t247.toList && (t232 == t248)))))))))))))) := by simpa using c19))
    clear c19
    (first | rw [c19b0] | (simp only [i64_w, i32_w]; rw [c19b0]) | skip)
    have H' := qM H
    clear H
    have hnb25 := NB234_217.out
    have hnc25 := NB217_234.out
    have hnb26 := NB234_250.out
    have hnc26 := NB250_234.out
    obtain ⟨z27_0, z27_1, z27_2, z27_3, z27_4, z27_5, z27_6, z27_7, z27_8, z27_9, z27_10, z27_11, z27_12, z27_13, f27_0, f27_1, f27_2, f27_3, f27_4, f27_5, f27_6, f27_7, f27_8, f27_9, f27_10, f27_11, f27_12, f27_13⟩ := cells14 B234.out
    have hnb28 := NB250_217.out
    have hnc28 := NB217_250.out
    obtain ⟨z29_0, z29_1, z29_2, z29_3, z29_4, z29_5, z29_6, z29_7, z29_8, z29_9, z29_10, z29_11, z29_12, z29_13, f29_0, f29_1, f29_2, f29_3, f29_4, f29_5, f29_6, f29_7, f29_8, f29_9, f29_10, f29_11, f29_12, f29_13⟩ := cells14 B250.out
    go_wp2
    go_meet
    case rel => exact ⟨_, (false), (by first | rfl | (simp; done) | (simp [*]; done)), H', ⟨by first | omega | exact Nat.le_refl _⟩, ⟨by (with_reducible repeat first | refine qN ?_ _ | refine qD ?_ | refine qA ?_ _); (iterate 14 (refine qR ?_ NB217_250.out _; (with_reducible repeat first | refine qN ?_ _ | refine qD ?_ | refine qA ?_ _))); exact B217.out⟩, ⟨by (with_reducible repeat first | refine qN ?_ _ | refine qD ?_ | refine qA ?_ _); (iterate 14 (refine qR ?_ NB234_250.out _; (with_reducible repeat first | refine qN ?_ _ | refine qD ?_ | refine qA ?_ _))); exact B234.out⟩, ⟨by (with_reducible repeat first | refine qN ?_ _ | refine qD ?_ | refine qA ?_ _); apply puts14; (with_reducible repeat first | refine qN ?_ _ | refine qD ?_ | refine qA ?_ _); exact B250.out⟩, ⟨by repeat (first | (with_reducible first | exact HB.out | apply eA | apply eN | apply eD | refine eS ?_ GE217.out | refine eS ?_ GE234.out | refine eS ?_ GE250.out) | exact HB.out)⟩⟩
  ·replace c18 := Bool.eq_false_iff.mpr c18
   subst c18
   have H1 : (hogsheadlaw17_DeedBegins.j0 k false) = some r := by rw [if_neg (show ¬ (false = true) by decide)] at H; exact H
   clear H
   have H := H1
   clear H1
   have H' := qM H
   clear H
   go_wp2
   go_meet
   case rel => exact ⟨_, (false), (by first | rfl | (simp; done) | (simp [*]; done)), H', ⟨by first | omega | exact Nat.le_refl _⟩, ⟨by (with_reducible repeat first | refine qN ?_ _ | refine qD ?_ | refine qA ?_ _); (iterate 14 (refine qR ?_ NB217_250.out _; (with_reducible repeat first | refine qN ?_ _ | refine qD ?_ | refine qA ?_ _))); exact B217.out⟩, ⟨by (with_reducible repeat first | refine qN ?_ _ | refine qD ?_ | refine qA ?_ _); (iterate 14 (refine qR ?_ NB234_250.out _; (with_reducible repeat first | refine qN ?_ _ | refine qD ?_ | refine qA ?_ _))); exact B234.out⟩, ⟨by (with_reducible repeat first | refine qN ?_ _ | refine qD ?_ | refine qA ?_ _); apply puts14; (with_reducible repeat first | refine qN ?_ _ | refine qD ?_ | refine qA ?_ _); exact B250.out⟩, ⟨by repeat (first | (with_reducible first | exact HB.out | apply eA | apply eN | apply eD | refine eS ?_ GE217.out | refine eS ?_ GE234.out | refine eS ?_ GE250.out) | exact HB.out)⟩⟩
 case rest =>
  clear HC5
  try clear c1
  try clear c2
  try clear p2
  try clear c3
  try clear c9
  try clear c10
  try clear c11
  try clear c15
  try clear c16
  try clear c18
  try clear c19
  try clear c19b0
  try clear c19b1
  try clear c19b2
  try clear c20
  try clear c21
  try clear c23
  try clear c25
  try clear c26
  try clear c28
  try clear z12_0
  try clear z12_1
  try clear z12_10
  try clear z12_11
  try clear z12_12
  try clear z12_13
  try clear z12_2
  try clear z12_3
  try clear z12_4
  try clear z12_5
  try clear z12_6
  try clear z12_7
  try clear z12_8
  try clear z12_9
  try clear z17_0
  try clear z17_1
  try clear z17_10
  try clear z17_11
  try clear z17_12
  try clear z17_13
  try clear z17_2
  try clear z17_3
  try clear z17_4
  try clear z17_5
  try clear z17_6
  try clear z17_7
  try clear z17_8
  try clear z17_9
  try clear z22_0
  try clear z22_1
  try clear z22_10
  try clear z22_11
  try clear z22_12
  try clear z22_13
  try clear z22_2
  try clear z22_3
  try clear z22_4
  try clear z22_5
  try clear z22_6
  try clear z22_7
  try clear z22_8
  try clear z22_9
  try clear z24_0
  try clear z24_1
  try clear z24_10
  try clear z24_11
  try clear z24_12
  try clear z24_13
  try clear z24_2
  try clear z24_3
  try clear z24_4
  try clear z24_5
  try clear z24_6
  try clear z24_7
  try clear z24_8
  try clear z24_9
  try clear z27_0
  try clear z27_1
  try clear z27_10
  try clear z27_11
  try clear z27_12
  try clear z27_13
  try clear z27_2
  try clear z27_3
  try clear z27_4
  try clear z27_5
  try clear z27_6
  try clear z27_7
  try clear z27_8
  try clear z27_9
  try clear z29_0
  try clear z29_1
  try clear z29_10
  try clear z29_11
  try clear z29_12
  try clear z29_13
  try clear z29_2
  try clear z29_3
  try clear z29_4
  try clear z29_5
  try clear z29_6
  try clear z29_7
  try clear z29_8
  try clear z29_9
  try clear z7_0
  try clear z7_1
  try clear z7_2
  try clear z7_3
  try clear z7_4
  try clear f12_0
  try clear f12_1
  try clear f12_10
  try clear f12_11
  try clear f12_12
  try clear f12_13
  try clear f12_2
  try clear f12_3
  try clear f12_4
  try clear f12_5
  try clear f12_6
  try clear f12_7
  try clear f12_8
  try clear f12_9
  try clear f17_0
  try clear f17_1
  try clear f17_10
  try clear f17_11
  try clear f17_12
  try clear f17_13
  try clear f17_2
  try clear f17_3
  try clear f17_4
  try clear f17_5
  try clear f17_6
  try clear f17_7
  try clear f17_8
  try clear f17_9
  try clear f22_0
  try clear f22_1
  try clear f22_10
  try clear f22_11
  try clear f22_12
  try clear f22_13
  try clear f22_2
  try clear f22_3
  try clear f22_4
  try clear f22_5
  try clear f22_6
  try clear f22_7
  try clear f22_8
  try clear f22_9
  try clear f24_0
  try clear f24_1
  try clear f24_10
  try clear f24_11
  try clear f24_12
  try clear f24_13
  try clear f24_2
  try clear f24_3
  try clear f24_4
  try clear f24_5
  try clear f24_6
  try clear f24_7
  try clear f24_8
  try clear f24_9
  try clear f27_0
  try clear f27_1
  try clear f27_10
  try clear f27_11
  try clear f27_12
  try clear f27_13
  try clear f27_2
  try clear f27_3
  try clear f27_4
  try clear f27_5
  try clear f27_6
  try clear f27_7
  try clear f27_8
  try clear f27_9
  try clear f29_0
  try clear f29_1
  try clear f29_10
  try clear f29_11
  try clear f29_12
  try clear f29_13
  try clear f29_2
  try clear f29_3
  try clear f29_4
  try clear f29_5
  try clear f29_6
  try clear f29_7
  try clear f29_8
  try clear f29_9
  try clear f7_0
  try clear f7_1
  try clear f7_2
  try clear f7_3
  try clear f7_4
  obtain ⟨kq, x2_4, rfl, HA, HJ4, B217, B234, B250, HB⟩ := hcut
  cases kq with
  | zero => exact absurd HA.out (by simp [hogsheadlaw17_DeedBegins.j0])
  | succ kj4 =>
   have H := HA.out
   clear HA
   simp only [hogsheadlaw17_DeedBegins.j0] at H
   obtain rfl := Option.some.inj H
   go_wp2
   go_ret
   exact ⟨by first | rfl | (simp [errW_none, errW_some] <;> rfl) | (simp [*, errW_none, errW_some] <;> rfl), by repeat (first | (with_reducible first | exact HB.out | apply eA | apply eN | apply eD | refine eS ?_ GE217.out | refine eS ?_ GE234.out | refine eS ?_ GE250.out) | exact HB.out)⟩

end Go.Proofs.Ytmjmmgefkebggaa.PAll
