/- Functions of the program as plain Lean functions, and that each call comes to what they say. Laid by a program of this session (hprint.py); Lean checks it. -/
import Derived.Test.YtmjmmgefkebggaaPAllx0
import Derived.Test.YtmjmmgefkebggaaPAllx8
import Derived.Test.YtmjmmgefkebggaaPAllx11
import Derived.Test.YtmjmmgefkebggaaPAllx16
import Derived.Test.YtmjmmgefkebggaaPAllx18
namespace Go.Proofs.Ytmjmmgefkebggaa.PAll
open Go.RowKit Go.Proofs.YtmjmmgefkebggaaW.PrintWords Go.Proofs.YtmjmmgefkebggaaW.PrintLast Go.Proofs.YtmjmmgefkebggaaW.PrintMore
attribute [local go_sem] max2_int min2_int max_two min_two max_three min_three max_four min_four   -- for this text's walks alone
set_option linter.unusedVariables false
set_option linter.unusedSimpArgs false
attribute [local irreducible] World.setCell

/-! ### hogsheadlaw17_DeedWants: function 4 -/
def hogsheadlaw17_DeedWants.j0 : Nat → Bool → Option (Bool)
 | 0, _ => none
 | k + 1, x2 => some x2
def hogsheadlaw17_DeedWants.f (k : Nat) (a0_0 : Int) (a0_1 : Int) (a0_2 : ByteArray) (a0_3 : ByteArray) (a0_4 : Int) (a0_5 : Int) (a0_6 : Int) (a0_7 : Int) (a0_8 : Int) (a0_9 : Int) (a0_10 : Int) (a0_11 : Int) (a0_12 : ByteArray) (a0_13 : Bool) : Option (Bool) := (hogsheadlaw17_shown.f k).bind fun t261 => ((deed_Want.f a0_0 a0_1 a0_2 a0_3 a0_4 a0_5 a0_6 a0_7 a0_8 a0_9 a0_10 a0_11 a0_12 a0_13).bind fun bt262 => ((hogsheadref17_Want.f k a0_0 a0_1 a0_2 a0_3 a0_4 a0_5 a0_6 a0_7 a0_8 a0_9 a0_10 a0_11 a0_12 a0_13).bind fun bt278 => ((hogsheadref15_SameCmd.f k bt262.1 bt262.2.1 bt262.2.2.1 bt262.2.2.2.1 bt262.2.2.2.2.1 bt262.2.2.2.2.2.1 bt262.2.2.2.2.2.2.1 bt262.2.2.2.2.2.2.2.1 bt262.2.2.2.2.2.2.2.2.1 bt262.2.2.2.2.2.2.2.2.2.1 bt262.2.2.2.2.2.2.2.2.2.2.1 bt262.2.2.2.2.2.2.2.2.2.2.2.1 bt278.1 bt278.2.1 bt278.2.2.1 bt278.2.2.2.1 bt278.2.2.2.2.1 bt278.2.2.2.2.2.1 bt278.2.2.2.2.2.2.1 bt278.2.2.2.2.2.2.2.1 bt278.2.2.2.2.2.2.2.2.1 bt278.2.2.2.2.2.2.2.2.2.1 bt278.2.2.2.2.2.2.2.2.2.2.1 bt278.2.2.2.2.2.2.2.2.2.2.2.1).bind fun t294 => (if t261 = true then (if t294 = true then (hogsheadlaw17_DeedWants.j0 k (bt262.2.2.2.2.2.2.2.2.2.2.2.2 == bt278.2.2.2.2.2.2.2.2.2.2.2.2)) else (hogsheadlaw17_DeedWants.j0 k false)) else (hogsheadlaw17_DeedWants.j0 k false)))))
theorem hogsheadlaw17_DeedWants.mono_l : ∀ k, (∀ y0, LeO (hogsheadlaw17_DeedWants.j0 k y0) (hogsheadlaw17_DeedWants.j0 (k + 1) y0))
 | 0 => fun _ r h => by simp [hogsheadlaw17_DeedWants.j0] at h
 | k + 1 => by
  have ih0 := hogsheadlaw17_DeedWants.mono_l k
  ·intro y0
   unfold hogsheadlaw17_DeedWants.j0
   repeat' first
   | (with_reducible exact ih0 _)
   | (with_reducible exact hogsheadlaw17_shown.mono _)
   | (with_reducible exact hogsheadref15_SameCmd.mono _ _ _ _ _ _ _ _ _ _ _ _ _ _ _ _ _ _ _ _ _ _ _ _ _)
   | (with_reducible exact hogsheadref17_Want.mono _ _ _ _ _ _ _ _ _ _ _ _ _ _ _)
   | (with_reducible exact LeO.refl _)
   | (with_reducible exact LeO.none _)
   | (with_reducible refine LeO.ite ?_ ?_)
   | (with_reducible refine LeO.bind ?_ (fun _ => ?_))
   | exact ih0 _
   | exact hogsheadlaw17_shown.mono _
   | exact hogsheadref15_SameCmd.mono _ _ _ _ _ _ _ _ _ _ _ _ _ _ _ _ _ _ _ _ _ _ _ _ _
   | exact hogsheadref17_Want.mono _ _ _ _ _ _ _ _ _ _ _ _ _ _ _
   | exact LeO.none _
   | refine LeO.ite ?_ ?_
   | refine LeO.bind ?_ (fun _ => ?_)
theorem hogsheadlaw17_DeedWants.mono : ∀ a0 a1 a2 a3 a4 a5 a6 a7 a8 a9 a10 a11 a12 a13 k, LeO (hogsheadlaw17_DeedWants.f k a0 a1 a2 a3 a4 a5 a6 a7 a8 a9 a10 a11 a12 a13) (hogsheadlaw17_DeedWants.f (k + 1) a0 a1 a2 a3 a4 a5 a6 a7 a8 a9 a10 a11 a12 a13) := by
 intro a0 a1 a2 a3 a4 a5 a6 a7 a8 a9 a10 a11 a12 a13 k
 have ih0 := hogsheadlaw17_DeedWants.mono_l k
 unfold hogsheadlaw17_DeedWants.f
 repeat' first
   | (with_reducible exact ih0 _)
   | (with_reducible exact hogsheadlaw17_shown.mono _)
   | (with_reducible exact hogsheadref15_SameCmd.mono _ _ _ _ _ _ _ _ _ _ _ _ _ _ _ _ _ _ _ _ _ _ _ _ _)
   | (with_reducible exact hogsheadref17_Want.mono _ _ _ _ _ _ _ _ _ _ _ _ _ _ _)
   | (with_reducible exact LeO.refl _)
   | (with_reducible exact LeO.none _)
   | (with_reducible refine LeO.ite ?_ ?_)
   | (with_reducible refine LeO.bind ?_ (fun _ => ?_))
   | exact ih0 _
   | exact hogsheadlaw17_shown.mono _
   | exact hogsheadref15_SameCmd.mono _ _ _ _ _ _ _ _ _ _ _ _ _ _ _ _ _ _ _ _ _ _ _ _ _
   | exact hogsheadref17_Want.mono _ _ _ _ _ _ _ _ _ _ _ _ _ _ _
   | exact LeO.none _
   | refine LeO.ite ?_ ?_
   | refine LeO.bind ?_ (fun _ => ?_)
set_option maxHeartbeats 40000000 in
set_option maxRecDepth 100000 in
theorem hogsheadlaw17_DeedWants.calls (k : Nat) (a0_0 : Int) (a0_1 : Int) (a0_2 : ByteArray) (a0_3 : ByteArray) (a0_4 : Int) (a0_5 : Int) (a0_6 : Int) (a0_7 : Int) (a0_8 : Int) (a0_9 : Int) (a0_10 : Int) (a0_11 : Int) (a0_12 : ByteArray) (a0_13 : Bool) (r : Bool) (w : World) (h : hogsheadlaw17_DeedWants.f k a0_0 a0_1 a0_2 a0_3 a0_4 a0_5 a0_6 a0_7 a0_8 a0_9 a0_10 a0_11 a0_12 a0_13 = some r) :
  Calls Try.prog 4 #[.agg #[.int .i64 a0_0, .int .i64 a0_1, .string a0_2, .string a0_3, .int .i64 a0_4, .int .i64 a0_5, .int .i64 a0_6, .int .i64 a0_7, .int .i64 a0_8, .int .u32 a0_9, .int .i64 a0_10, .int .i64 a0_11, .string a0_12, .bool a0_13]] w fun e w' => e = .returned (.bool r) ∧ Below w.heap.size w w' := by
 have hu28 := Try.underlying28
 have hu36 := Try.underlying36
 have HB := qM (Below.refl w.heap.size w)
 have H : ((hogsheadlaw17_shown.f k).bind fun t261 => ((deed_Want.f a0_0 a0_1 a0_2 a0_3 a0_4 a0_5 a0_6 a0_7 a0_8 a0_9 a0_10 a0_11 a0_12 a0_13).bind fun bt262 => ((hogsheadref17_Want.f k a0_0 a0_1 a0_2 a0_3 a0_4 a0_5 a0_6 a0_7 a0_8 a0_9 a0_10 a0_11 a0_12 a0_13).bind fun bt278 => ((hogsheadref15_SameCmd.f k bt262.1 bt262.2.1 bt262.2.2.1 bt262.2.2.2.1 bt262.2.2.2.2.1 bt262.2.2.2.2.2.1 bt262.2.2.2.2.2.2.1 bt262.2.2.2.2.2.2.2.1 bt262.2.2.2.2.2.2.2.2.1 bt262.2.2.2.2.2.2.2.2.2.1 bt262.2.2.2.2.2.2.2.2.2.2.1 bt262.2.2.2.2.2.2.2.2.2.2.2.1 bt278.1 bt278.2.1 bt278.2.2.1 bt278.2.2.2.1 bt278.2.2.2.2.1 bt278.2.2.2.2.2.1 bt278.2.2.2.2.2.2.1 bt278.2.2.2.2.2.2.2.1 bt278.2.2.2.2.2.2.2.2.1 bt278.2.2.2.2.2.2.2.2.2.1 bt278.2.2.2.2.2.2.2.2.2.2.1 bt278.2.2.2.2.2.2.2.2.2.2.2.1).bind fun t294 => (if t261 = true then (if t294 = true then (hogsheadlaw17_DeedWants.j0 k (bt262.2.2.2.2.2.2.2.2.2.2.2.2 == bt278.2.2.2.2.2.2.2.2.2.2.2.2)) else (hogsheadlaw17_DeedWants.j0 k false)) else (hogsheadlaw17_DeedWants.j0 k false)))))) = some r := h
 clear h
 replace H := Option.bind_eq_some_iff.mp H
 obtain ⟨t261, A20, H⟩ := H
 replace H : ((deed_Want.f a0_0 a0_1 a0_2 a0_3 a0_4 a0_5 a0_6 a0_7 a0_8 a0_9 a0_10 a0_11 a0_12 a0_13).bind fun bt262 => ((hogsheadref17_Want.f k a0_0 a0_1 a0_2 a0_3 a0_4 a0_5 a0_6 a0_7 a0_8 a0_9 a0_10 a0_11 a0_12 a0_13).bind fun bt278 => ((hogsheadref15_SameCmd.f k bt262.1 bt262.2.1 bt262.2.2.1 bt262.2.2.2.1 bt262.2.2.2.2.1 bt262.2.2.2.2.2.1 bt262.2.2.2.2.2.2.1 bt262.2.2.2.2.2.2.2.1 bt262.2.2.2.2.2.2.2.2.1 bt262.2.2.2.2.2.2.2.2.2.1 bt262.2.2.2.2.2.2.2.2.2.2.1 bt262.2.2.2.2.2.2.2.2.2.2.2.1 bt278.1 bt278.2.1 bt278.2.2.1 bt278.2.2.2.1 bt278.2.2.2.2.1 bt278.2.2.2.2.2.1 bt278.2.2.2.2.2.2.1 bt278.2.2.2.2.2.2.2.1 bt278.2.2.2.2.2.2.2.2.1 bt278.2.2.2.2.2.2.2.2.2.1 bt278.2.2.2.2.2.2.2.2.2.2.1 bt278.2.2.2.2.2.2.2.2.2.2.2.1).bind fun t294 => (if t261 = true then (if t294 = true then (hogsheadlaw17_DeedWants.j0 k (bt262.2.2.2.2.2.2.2.2.2.2.2.2 == bt278.2.2.2.2.2.2.2.2.2.2.2.2)) else (hogsheadlaw17_DeedWants.j0 k false)) else (hogsheadlaw17_DeedWants.j0 k false))))) = some r := H
 have A2 := qM A20
 clear A20
 replace H := Option.bind_eq_some_iff.mp H
 obtain ⟨⟨t262, t263, t264, t265, t266, t267, t268, t269, t270, t271, t272, t273, t276⟩, A30, H⟩ := H
 replace H : ((hogsheadref17_Want.f k a0_0 a0_1 a0_2 a0_3 a0_4 a0_5 a0_6 a0_7 a0_8 a0_9 a0_10 a0_11 a0_12 a0_13).bind fun bt278 => ((hogsheadref15_SameCmd.f k t262 t263 t264 t265 t266 t267 t268 t269 t270 t271 t272 t273 bt278.1 bt278.2.1 bt278.2.2.1 bt278.2.2.2.1 bt278.2.2.2.2.1 bt278.2.2.2.2.2.1 bt278.2.2.2.2.2.2.1 bt278.2.2.2.2.2.2.2.1 bt278.2.2.2.2.2.2.2.2.1 bt278.2.2.2.2.2.2.2.2.2.1 bt278.2.2.2.2.2.2.2.2.2.2.1 bt278.2.2.2.2.2.2.2.2.2.2.2.1).bind fun t294 => (if t261 = true then (if t294 = true then (hogsheadlaw17_DeedWants.j0 k (t276 == bt278.2.2.2.2.2.2.2.2.2.2.2.2)) else (hogsheadlaw17_DeedWants.j0 k false)) else (hogsheadlaw17_DeedWants.j0 k false)))) = some r := H
 have A3 := qM A30
 clear A30
 replace H := Option.bind_eq_some_iff.mp H
 obtain ⟨⟨t278, t279, t280, t281, t282, t283, t284, t285, t286, t287, t288, t289, t292⟩, A40, H⟩ := H
 replace H : ((hogsheadref15_SameCmd.f k t262 t263 t264 t265 t266 t267 t268 t269 t270 t271 t272 t273 t278 t279 t280 t281 t282 t283 t284 t285 t286 t287 t288 t289).bind fun t294 => (if t261 = true then (if t294 = true then (hogsheadlaw17_DeedWants.j0 k (t276 == t292)) else (hogsheadlaw17_DeedWants.j0 k false)) else (hogsheadlaw17_DeedWants.j0 k false))) = some r := H
 have A4 := qM A40
 clear A40
 replace H := Option.bind_eq_some_iff.mp H
 obtain ⟨t294, A50, H⟩ := H
 replace H : (if t261 = true then (if t294 = true then (hogsheadlaw17_DeedWants.j0 k (t276 == t292)) else (hogsheadlaw17_DeedWants.j0 k false)) else (hogsheadlaw17_DeedWants.j0 k false)) = some r := H
 have A5 := qM A50
 clear A50
 have HC6 := qM H
 clear H
 go_enter Try.func4, Try.ntmps4
 go_upto_region 5 with (first | ((with_reducible refine gate_dst (N := 1) rfl ?_); refine box_event ?hg (N := 1) ?hd (cs := #[.int .i64 a0_0, .int .i64 a0_1, .string a0_2, .string a0_3, .int .i64 a0_4, .int .i64 a0_5, .int .i64 a0_6, .int .i64 a0_7, .int .i64 a0_8, .int .u32 a0_9, .int .i64 a0_10, .int .i64 a0_11, .string a0_12, .bool a0_13]) (t := 28) ?hr ?_; (case hd => rfl); (case hg => rfl); (case hr => first | (go_simp; done) | (go_simp; rfl)); intro g260 hg w7 hbox hb; have n0_ := qM (eT (by repeat (first | (with_reducible first | exact HB.out | apply eA | apply eN | apply eD) | exact HB.out)) hb); have n1_ := qM (hbox); have n2_ := qM ((by rw [hg]; exact (eZ (by repeat (first | (with_reducible first | exact HB.out | apply eA | apply eN | apply eD) | exact HB.out))) : w.heap.size ≤ g260)); have n3_ := n2_; clear HB; have HB := n0_; have B260 := n1_; have GW260 := n2_; have GE260 := n3_; clear n0_ n1_ n2_ n3_; clear hb hbox hg) | ((with_reducible refine gate_callee (f := 9) rfl ?_); refine goesL_ (some 9) rfl rfl Try.func9 (by kernel_rfl) rfl #[] rfl (by (try simp only [List.map_toArray, List.map_cons, List.map_nil]); first | done | rfl | (simp only [List.length_drop, List.length_take]; rfl)) ?_; (with_reducible refine (hogsheadlaw17_shown.calls k  t261 _ A2.out).mono ?_); rintro e w8 ⟨rfl, hb⟩; refine ⟨_, rfl, ?_⟩; have n0_ := qM (qB (g := g260) (by (with_reducible repeat first | refine qN ?_ _ | refine qD ?_ | refine qA ?_ _); exact B260.out) hb); have n1_ := qM (eT (by repeat (first | (with_reducible first | exact HB.out | apply eA | apply eN | apply eD | refine eS ?_ GE260.out) | exact HB.out)) hb); clear B260; clear HB; have B260 := n0_; have HB := n1_; clear n0_ n1_; (try clear hb); (try clear hb2); (try clear hk); (try clear hi); obtain ⟨z9_0, z9_1, z9_2, z9_3, z9_4, z9_5, z9_6, z9_7, z9_8, z9_9, z9_10, z9_11, z9_12, z9_13, f9_0, f9_1, f9_2, f9_3, f9_4, f9_5, f9_6, f9_7, f9_8, f9_9, f9_10, f9_11, f9_12, f9_13⟩ := cells14 B260.out) | ((with_reducible refine gate_callee (f := 12) rfl ?_); refine goesL_ (some 12) rfl rfl Try.func12 (by kernel_rfl) rfl #[.agg #[.int .i64 a0_0, .int .i64 a0_1, .string a0_2, .string a0_3, .int .i64 a0_4, .int .i64 a0_5, .int .i64 a0_6, .int .i64 a0_7, .int .i64 a0_8, .int .u32 a0_9, .int .i64 a0_10, .int .i64 a0_11, .string a0_12, .bool a0_13]] rfl (by (try simp only [List.map_toArray, List.map_cons, List.map_nil]); first | done | rfl | (simp only [List.length_drop, List.length_take]; rfl)) ?_; (with_reducible refine (deed_Want.calls a0_0 a0_1 a0_2 a0_3 a0_4 a0_5 a0_6 a0_7 a0_8 a0_9 a0_10 a0_11 a0_12 a0_13 t262 t263 t264 t265 t266 t267 t268 t269 t270 t271 t272 t273 t276 _ A3.out).mono ?_); rintro e w10 ⟨v274, rfl, ho0, hb⟩; refine ⟨_, rfl, ?_⟩; have n0_ := qM (Kd.R_lower ho0 (eZ (by repeat (first | (with_reducible first | exact HB.out | apply eA | apply eN | apply eD | refine eS ?_ GE260.out) | exact HB.out)))); have n1_ := qM (qB (g := g260) (by (with_reducible repeat first | refine qN ?_ _ | refine qD ?_ | refine qA ?_ _); exact B260.out) hb); have n2_ := qM (eT (by repeat (first | (with_reducible first | exact HB.out | apply eA | apply eN | apply eD | refine eS ?_ GE260.out) | exact HB.out)) hb); clear B260; clear HB; have HO275 := n0_; have B260 := n1_; have HB := n2_; clear n0_ n1_ n2_; (try clear hb); (try clear hb2); (try clear hk); (try clear hi); (try clear ho0)) | ((with_reducible refine gate_dst (N := 4) rfl ?_); refine box_event ?hg (N := 4) ?hd (cs := #[.int .i64 0, .int .i64 0, .int .i64 0, .string (⟨#[]⟩ : ByteArray), .int .i64 0, .int .i64 0, .int .i64 0, .int .u32 0, .int .i64 0, .int .i64 0, .int .i64 0, .slice none 0 0]) (t := 36) ?hr ?_; (case hd => rfl); (case hg => rfl); (case hr => first | (go_simp; done) | (go_simp; rfl)); intro g277 hg w11 hbox hb; have n0_ := qM (Kd.R_below (by (with_reducible repeat first | apply RA | apply RN | apply RD); exact HO275.out) hb); have n1_ := qM (qB (g := g260) (by (with_reducible repeat first | refine qN ?_ _ | refine qD ?_ | refine qA ?_ _); exact B260.out) hb); have n2_ := qM (eT (by repeat (first | (with_reducible first | exact HB.out | apply eA | apply eN | apply eD | refine eS ?_ GE260.out) | exact HB.out)) hb); have n3_ := qM (hbox); have n4_ := qM ((by rw [hg]; exact (eZ (by repeat (first | (with_reducible first | exact HB.out | apply eA | apply eN | apply eD | refine eS ?_ GE260.out) | exact HB.out))) : w.heap.size ≤ g277)); have n5_ := n4_; have n6_ := qM ((by rw [hg]; exact Nat.ne_of_lt (qL (g := g260) (by (with_reducible repeat first | refine qN ?_ _ | refine qD ?_ | refine qA ?_ _); exact B260.out)) : g260 ≠ g277)); have n7_ := qM (Ne.symm n6_.out); clear HO275; clear B260; clear HB; have HO275 := n0_; have B260 := n1_; have HB := n2_; have B277 := n3_; have GW277 := n4_; have GE277 := n5_; have NB260_277 := n6_; have NB277_260 := n7_; clear n0_ n1_ n2_ n3_ n4_ n5_ n6_ n7_; clear hb hbox hg; have hnb12 := NB277_260.out; have hnc12 := NB260_277.out; obtain ⟨z13_0, z13_1, z13_2, z13_3, z13_4, z13_5, z13_6, z13_7, z13_8, z13_9, z13_10, z13_11, f13_0, f13_1, f13_2, f13_3, f13_4, f13_5, f13_6, f13_7, f13_8, f13_9, f13_10, f13_11⟩ := cells12 B277.out; obtain ⟨Ao14, co14, eo14⟩ := Kd.R_slice HO275.out; subst eo14; obtain ⟨z15_0, z15_1, z15_2, z15_3, z15_4, z15_5, z15_6, z15_7, z15_8, z15_9, z15_10, z15_11, z15_12, z15_13, f15_0, f15_1, f15_2, f15_3, f15_4, f15_5, f15_6, f15_7, f15_8, f15_9, f15_10, f15_11, f15_12, f15_13⟩ := cells14 B260.out) | ((with_reducible refine gate_callee (f := 13) rfl ?_); refine goesL_ (some 17) rfl rfl Try.func13 (by kernel_rfl) rfl #[.agg #[.int .i64 a0_0, .int .i64 a0_1, .string a0_2, .string a0_3, .int .i64 a0_4, .int .i64 a0_5, .int .i64 a0_6, .int .i64 a0_7, .int .i64 a0_8, .int .u32 a0_9, .int .i64 a0_10, .int .i64 a0_11, .string a0_12, .bool a0_13]] rfl (by (try simp only [List.map_toArray, List.map_cons, List.map_nil]); first | done | rfl | (simp only [List.length_drop, List.length_take]; rfl)) ?_; (with_reducible refine (hogsheadref17_Want.calls k a0_0 a0_1 a0_2 a0_3 a0_4 a0_5 a0_6 a0_7 a0_8 a0_9 a0_10 a0_11 a0_12 a0_13 t278 t279 t280 t281 t282 t283 t284 t285 t286 t287 t288 t289 t292 _ A4.out).mono ?_); rintro e w16 ⟨v290, rfl, ho0, hb⟩; refine ⟨_, rfl, ?_⟩; have n0_ := qM (Kd.R_elder' (by (with_reducible repeat first | apply RA | apply RN | apply RD); exact (Kd.R_mono (Kd.R_far (p := ⟨g277, 11, none⟩) (Kd.R_far (p := ⟨g277, 10, none⟩) (Kd.R_far (p := ⟨g277, 9, none⟩) (Kd.R_far (p := ⟨g277, 8, none⟩) (Kd.R_far (p := ⟨g277, 7, none⟩) (Kd.R_far (p := ⟨g277, 6, none⟩) (Kd.R_far (p := ⟨g277, 5, none⟩) (Kd.R_far (p := ⟨g277, 4, none⟩) (Kd.R_far (p := ⟨g277, 3, none⟩) (Kd.R_far (p := ⟨g277, 2, none⟩) (Kd.R_far (p := ⟨g277, 1, none⟩) (Kd.R_far (p := ⟨g277, 0, none⟩) (Kd.R_types HO275.out B277.out (by decide)) (fun _ hk => hk.2) (.int .i64 t262)) (fun _ hk => hk.2) (.int .i64 t263)) (fun _ hk => hk.2) (.int .i64 t264)) (fun _ hk => hk.2) (.string t265)) (fun _ hk => hk.2) (.int .i64 t266)) (fun _ hk => hk.2) (.int .i64 t267)) (fun _ hk => hk.2) (.int .i64 t268)) (fun _ hk => hk.2) (.int .u32 t269)) (fun _ hk => hk.2) (.int .i64 t270)) (fun _ hk => hk.2) (.int .i64 t271)) (fun _ hk => hk.2) (.int .i64 t272)) (fun _ hk => hk.2) (.slice Ao14 t273.length co14)) (fun _ h_ => h_.1))) (Kd.R_base ho0) hb); have n1_ := qM (Kd.R_lower (Kd.R_new' ho0 (Kd.R_lt (by (with_reducible repeat first | apply RA | apply RN | apply RD); exact (Kd.R_mono (Kd.R_far (p := ⟨g277, 11, none⟩) (Kd.R_far (p := ⟨g277, 10, none⟩) (Kd.R_far (p := ⟨g277, 9, none⟩) (Kd.R_far (p := ⟨g277, 8, none⟩) (Kd.R_far (p := ⟨g277, 7, none⟩) (Kd.R_far (p := ⟨g277, 6, none⟩) (Kd.R_far (p := ⟨g277, 5, none⟩) (Kd.R_far (p := ⟨g277, 4, none⟩) (Kd.R_far (p := ⟨g277, 3, none⟩) (Kd.R_far (p := ⟨g277, 2, none⟩) (Kd.R_far (p := ⟨g277, 1, none⟩) (Kd.R_far (p := ⟨g277, 0, none⟩) (Kd.R_types HO275.out B277.out (by decide)) (fun _ hk => hk.2) (.int .i64 t262)) (fun _ hk => hk.2) (.int .i64 t263)) (fun _ hk => hk.2) (.int .i64 t264)) (fun _ hk => hk.2) (.string t265)) (fun _ hk => hk.2) (.int .i64 t266)) (fun _ hk => hk.2) (.int .i64 t267)) (fun _ hk => hk.2) (.int .i64 t268)) (fun _ hk => hk.2) (.int .u32 t269)) (fun _ hk => hk.2) (.int .i64 t270)) (fun _ hk => hk.2) (.int .i64 t271)) (fun _ hk => hk.2) (.int .i64 t272)) (fun _ hk => hk.2) (.slice Ao14 t273.length co14)) (fun _ h_ => h_.1))))) (eZ (by repeat (first | (with_reducible first | exact HB.out | apply eA | apply eN | apply eD | refine eS ?_ GE260.out | refine eS ?_ GE277.out) | exact HB.out)))); have n2_ := qM (qB (g := g260) (o := .cells #[.int .i64 a0_0, .int .i64 a0_1, .string a0_2, .string a0_3, .int .i64 a0_4, .int .i64 a0_5, .int .i64 a0_6, .int .i64 a0_7, .int .i64 a0_8, .int .u32 a0_9, .int .i64 a0_10, .int .i64 a0_11, .string a0_12, .bool a0_13] 28 (0, 0)) (by (with_reducible repeat first | refine qN ?_ _ | refine qD ?_ | refine qA ?_ _); (iterate 12 (refine qR ?_ NB260_277.out _; (with_reducible repeat first | refine qN ?_ _ | refine qD ?_ | refine qA ?_ _))); exact B260.out) hb); have n3_ := qM (qB (g := g277) (by (with_reducible repeat first | refine qN ?_ _ | refine qD ?_ | refine qA ?_ _); apply puts12; (with_reducible repeat first | refine qN ?_ _ | refine qD ?_ | refine qA ?_ _); exact B277.out) hb); have n4_ := qM (eT (by repeat (first | (with_reducible first | exact HB.out | apply eA | apply eN | apply eD | refine eS ?_ GE260.out | refine eS ?_ GE277.out) | exact HB.out)) hb); clear HO275; clear B260; clear B277; clear HB; have HO275 := n0_; have HO291 := n1_; have B260 := n2_; have B277 := n3_; have HB := n4_; clear n0_ n1_ n2_ n3_ n4_; (try clear hb); (try clear hb2); (try clear hk); (try clear hi); (try clear ho0)) | ((with_reducible refine gate_dst (N := 6) rfl ?_); refine box_event ?hg (N := 6) ?hd (cs := #[.int .i64 0, .int .i64 0, .int .i64 0, .string (⟨#[]⟩ : ByteArray), .int .i64 0, .int .i64 0, .int .i64 0, .int .u32 0, .int .i64 0, .int .i64 0, .int .i64 0, .slice none 0 0]) (t := 36) ?hr ?_; (case hd => rfl); (case hg => rfl); (case hr => first | (go_simp; done) | (go_simp; rfl)); intro g293 hg w17 hbox hb; have n0_ := qM (Kd.R_below (by (with_reducible repeat first | apply RA | apply RN | apply RD); exact HO275.out) hb); have n1_ := qM (Kd.R_below (by (with_reducible repeat first | apply RA | apply RN | apply RD); exact HO291.out) hb); have n2_ := qM (qB (g := g260) (by (with_reducible repeat first | refine qN ?_ _ | refine qD ?_ | refine qA ?_ _); exact B260.out) hb); have n3_ := qM (qB (g := g277) (by (with_reducible repeat first | refine qN ?_ _ | refine qD ?_ | refine qA ?_ _); exact B277.out) hb); have n4_ := qM (eT (by repeat (first | (with_reducible first | exact HB.out | apply eA | apply eN | apply eD | refine eS ?_ GE260.out | refine eS ?_ GE277.out) | exact HB.out)) hb); have n5_ := qM (hbox); have n6_ := qM ((by rw [hg]; exact (eZ (by repeat (first | (with_reducible first | exact HB.out | apply eA | apply eN | apply eD | refine eS ?_ GE260.out | refine eS ?_ GE277.out) | exact HB.out))) : w.heap.size ≤ g293)); have n7_ := n6_; have n8_ := qM ((by rw [hg]; exact Nat.ne_of_lt (qL (g := g260) (by (with_reducible repeat first | refine qN ?_ _ | refine qD ?_ | refine qA ?_ _); exact B260.out)) : g260 ≠ g293)); have n9_ := qM (Ne.symm n8_.out); have n10_ := qM ((by rw [hg]; exact Nat.ne_of_lt (qL (g := g277) (by (with_reducible repeat first | refine qN ?_ _ | refine qD ?_ | refine qA ?_ _); exact B277.out)) : g277 ≠ g293)); have n11_ := qM (Ne.symm n10_.out); clear HO275; clear HO291; clear B260; clear B277; clear HB; have HO275 := n0_; have HO291 := n1_; have B260 := n2_; have B277 := n3_; have HB := n4_; have B293 := n5_; have GW293 := n6_; have GE293 := n7_; have NB260_293 := n8_; have NB293_260 := n9_; have NB277_293 := n10_; have NB293_277 := n11_; clear n0_ n1_ n2_ n3_ n4_ n5_ n6_ n7_ n8_ n9_ n10_ n11_; clear hb hbox hg; have hnb18 := NB293_260.out; have hnc18 := NB260_293.out; have hnb19 := NB293_277.out; have hnc19 := NB277_293.out; obtain ⟨z20_0, z20_1, z20_2, z20_3, z20_4, z20_5, z20_6, z20_7, z20_8, z20_9, z20_10, z20_11, f20_0, f20_1, f20_2, f20_3, f20_4, f20_5, f20_6, f20_7, f20_8, f20_9, f20_10, f20_11⟩ := cells12 B293.out; obtain ⟨Ao21, co21, eo21⟩ := Kd.R_slice HO291.out; subst eo21; obtain ⟨z22_0, z22_1, z22_2, z22_3, z22_4, z22_5, z22_6, z22_7, z22_8, z22_9, z22_10, z22_11, f22_0, f22_1, f22_2, f22_3, f22_4, f22_5, f22_6, f22_7, f22_8, f22_9, f22_10, f22_11⟩ := cells12 B277.out) | ((with_reducible refine gate_callee (f := 14) rfl ?_); refine goesL_ (some 22) rfl rfl Try.func14 (by kernel_rfl) rfl #[.agg #[.int .i64 t262, .int .i64 t263, .int .i64 t264, .string t265, .int .i64 t266, .int .i64 t267, .int .i64 t268, .int .u32 t269, .int .i64 t270, .int .i64 t271, .int .i64 t272, .slice Ao14 t273.length co14], .agg #[.int .i64 t278, .int .i64 t279, .int .i64 t280, .string t281, .int .i64 t282, .int .i64 t283, .int .i64 t284, .int .u32 t285, .int .i64 t286, .int .i64 t287, .int .i64 t288, .slice Ao21 t289.length co21]] rfl (by (try simp only [List.map_toArray, List.map_cons, List.map_nil]); first | done | rfl | (simp only [List.length_drop, List.length_take]; rfl)) ?_; (with_reducible refine (hogsheadref15_SameCmd.calls k t262 t263 t264 t265 t266 t267 t268 t269 t270 t271 t272 _ _ t273 t278 t279 t280 t281 t282 t283 t284 t285 t286 t287 t288 _ _ t289 t294 _ ?side1 ?side2 ?side3 ?side4 A5.out).mono ?_); (case side1 => refine (Kd.R_reads' (e := 69) (base := w.heap.size) (ok := fun k_ => (True ∧ some k_ ≠ (.slice Ao21 t289.length co21 : Value).ownBlock)) (n := t273.length) (c := co14) ?_).2.2; exact (by (with_reducible repeat first | apply RA | apply RN | apply RD); exact (Kd.R_mono (Kd.R_far (p := ⟨g293, 11, none⟩) (Kd.R_far (p := ⟨g293, 10, none⟩) (Kd.R_far (p := ⟨g293, 9, none⟩) (Kd.R_far (p := ⟨g293, 8, none⟩) (Kd.R_far (p := ⟨g293, 7, none⟩) (Kd.R_far (p := ⟨g293, 6, none⟩) (Kd.R_far (p := ⟨g293, 5, none⟩) (Kd.R_far (p := ⟨g293, 4, none⟩) (Kd.R_far (p := ⟨g293, 3, none⟩) (Kd.R_far (p := ⟨g293, 2, none⟩) (Kd.R_far (p := ⟨g293, 1, none⟩) (Kd.R_far (p := ⟨g293, 0, none⟩) (Kd.R_types HO275.out B293.out (by decide)) (fun _ hk => hk.2) (.int .i64 t278)) (fun _ hk => hk.2) (.int .i64 t279)) (fun _ hk => hk.2) (.int .i64 t280)) (fun _ hk => hk.2) (.string t281)) (fun _ hk => hk.2) (.int .i64 t282)) (fun _ hk => hk.2) (.int .i64 t283)) (fun _ hk => hk.2) (.int .i64 t284)) (fun _ hk => hk.2) (.int .u32 t285)) (fun _ hk => hk.2) (.int .i64 t286)) (fun _ hk => hk.2) (.int .i64 t287)) (fun _ hk => hk.2) (.int .i64 t288)) (fun _ hk => hk.2) (.slice Ao21 t289.length co21)) (fun _ h_ => h_.1)))); (case side2 => exact (Kd.R_reads' HO275.out).2.1); (case side3 => refine (Kd.R_reads' (e := 69) (base := w.heap.size) (ok := fun k_ => (True ∧ some k_ ≠ (.slice Ao14 t273.length co14 : Value).ownBlock)) (n := t289.length) (c := co21) ?_).2.2; exact (by (with_reducible repeat first | apply RA | apply RN | apply RD); exact (Kd.R_mono (Kd.R_far (p := ⟨g293, 11, none⟩) (Kd.R_far (p := ⟨g293, 10, none⟩) (Kd.R_far (p := ⟨g293, 9, none⟩) (Kd.R_far (p := ⟨g293, 8, none⟩) (Kd.R_far (p := ⟨g293, 7, none⟩) (Kd.R_far (p := ⟨g293, 6, none⟩) (Kd.R_far (p := ⟨g293, 5, none⟩) (Kd.R_far (p := ⟨g293, 4, none⟩) (Kd.R_far (p := ⟨g293, 3, none⟩) (Kd.R_far (p := ⟨g293, 2, none⟩) (Kd.R_far (p := ⟨g293, 1, none⟩) (Kd.R_far (p := ⟨g293, 0, none⟩) (Kd.R_types HO291.out B293.out (by decide)) (fun _ hk => hk.2) (.int .i64 t278)) (fun _ hk => hk.2) (.int .i64 t279)) (fun _ hk => hk.2) (.int .i64 t280)) (fun _ hk => hk.2) (.string t281)) (fun _ hk => hk.2) (.int .i64 t282)) (fun _ hk => hk.2) (.int .i64 t283)) (fun _ hk => hk.2) (.int .i64 t284)) (fun _ hk => hk.2) (.int .u32 t285)) (fun _ hk => hk.2) (.int .i64 t286)) (fun _ hk => hk.2) (.int .i64 t287)) (fun _ hk => hk.2) (.int .i64 t288)) (fun _ hk => hk.2) (.slice Ao21 t289.length co21)) (fun _ h_ => h_.1)))); (case side4 => exact (Kd.R_reads' HO291.out).2.1); rintro e w23 ⟨rfl, hb⟩; refine ⟨_, rfl, ?_⟩; have n0_ := qM (Kd.R_below (by (with_reducible repeat first | apply RA | apply RN | apply RD); exact (Kd.R_mono (Kd.R_far (p := ⟨g293, 11, none⟩) (Kd.R_far (p := ⟨g293, 10, none⟩) (Kd.R_far (p := ⟨g293, 9, none⟩) (Kd.R_far (p := ⟨g293, 8, none⟩) (Kd.R_far (p := ⟨g293, 7, none⟩) (Kd.R_far (p := ⟨g293, 6, none⟩) (Kd.R_far (p := ⟨g293, 5, none⟩) (Kd.R_far (p := ⟨g293, 4, none⟩) (Kd.R_far (p := ⟨g293, 3, none⟩) (Kd.R_far (p := ⟨g293, 2, none⟩) (Kd.R_far (p := ⟨g293, 1, none⟩) (Kd.R_far (p := ⟨g293, 0, none⟩) (Kd.R_types HO275.out B293.out (by decide)) (fun _ hk => hk.2) (.int .i64 t278)) (fun _ hk => hk.2) (.int .i64 t279)) (fun _ hk => hk.2) (.int .i64 t280)) (fun _ hk => hk.2) (.string t281)) (fun _ hk => hk.2) (.int .i64 t282)) (fun _ hk => hk.2) (.int .i64 t283)) (fun _ hk => hk.2) (.int .i64 t284)) (fun _ hk => hk.2) (.int .u32 t285)) (fun _ hk => hk.2) (.int .i64 t286)) (fun _ hk => hk.2) (.int .i64 t287)) (fun _ hk => hk.2) (.int .i64 t288)) (fun _ hk => hk.2) (.slice Ao21 t289.length co21)) (fun _ h_ => h_.1))) hb); have n1_ := qM (Kd.R_below (by (with_reducible repeat first | apply RA | apply RN | apply RD); exact (Kd.R_mono (Kd.R_far (p := ⟨g293, 11, none⟩) (Kd.R_far (p := ⟨g293, 10, none⟩) (Kd.R_far (p := ⟨g293, 9, none⟩) (Kd.R_far (p := ⟨g293, 8, none⟩) (Kd.R_far (p := ⟨g293, 7, none⟩) (Kd.R_far (p := ⟨g293, 6, none⟩) (Kd.R_far (p := ⟨g293, 5, none⟩) (Kd.R_far (p := ⟨g293, 4, none⟩) (Kd.R_far (p := ⟨g293, 3, none⟩) (Kd.R_far (p := ⟨g293, 2, none⟩) (Kd.R_far (p := ⟨g293, 1, none⟩) (Kd.R_far (p := ⟨g293, 0, none⟩) (Kd.R_types HO291.out B293.out (by decide)) (fun _ hk => hk.2) (.int .i64 t278)) (fun _ hk => hk.2) (.int .i64 t279)) (fun _ hk => hk.2) (.int .i64 t280)) (fun _ hk => hk.2) (.string t281)) (fun _ hk => hk.2) (.int .i64 t282)) (fun _ hk => hk.2) (.int .i64 t283)) (fun _ hk => hk.2) (.int .i64 t284)) (fun _ hk => hk.2) (.int .u32 t285)) (fun _ hk => hk.2) (.int .i64 t286)) (fun _ hk => hk.2) (.int .i64 t287)) (fun _ hk => hk.2) (.int .i64 t288)) (fun _ hk => hk.2) (.slice Ao21 t289.length co21)) (fun _ h_ => h_.1))) hb); have n2_ := qM (qB (g := g260) (o := .cells #[.int .i64 a0_0, .int .i64 a0_1, .string a0_2, .string a0_3, .int .i64 a0_4, .int .i64 a0_5, .int .i64 a0_6, .int .i64 a0_7, .int .i64 a0_8, .int .u32 a0_9, .int .i64 a0_10, .int .i64 a0_11, .string a0_12, .bool a0_13] 28 (0, 0)) (by (with_reducible repeat first | refine qN ?_ _ | refine qD ?_ | refine qA ?_ _); (iterate 12 (refine qR ?_ NB260_293.out _; (with_reducible repeat first | refine qN ?_ _ | refine qD ?_ | refine qA ?_ _))); exact B260.out) hb); have n3_ := qM (qB (g := g277) (o := .cells #[.int .i64 t262, .int .i64 t263, .int .i64 t264, .string t265, .int .i64 t266, .int .i64 t267, .int .i64 t268, .int .u32 t269, .int .i64 t270, .int .i64 t271, .int .i64 t272, .slice Ao14 t273.length co14] 36 (0, 0)) (by (with_reducible repeat first | refine qN ?_ _ | refine qD ?_ | refine qA ?_ _); (iterate 12 (refine qR ?_ NB277_293.out _; (with_reducible repeat first | refine qN ?_ _ | refine qD ?_ | refine qA ?_ _))); exact B277.out) hb); have n4_ := qM (qB (g := g293) (by (with_reducible repeat first | refine qN ?_ _ | refine qD ?_ | refine qA ?_ _); apply puts12; (with_reducible repeat first | refine qN ?_ _ | refine qD ?_ | refine qA ?_ _); exact B293.out) hb); have n5_ := qM (eT (by repeat (first | (with_reducible first | exact HB.out | apply eA | apply eN | apply eD | refine eS ?_ GE260.out | refine eS ?_ GE277.out | refine eS ?_ GE293.out) | exact HB.out)) hb); clear HO275; clear HO291; clear B260; clear B277; clear B293; clear HB; have HO275 := n0_; have HO291 := n1_; have B260 := n2_; have B277 := n3_; have B293 := n4_; have HB := n5_; clear n0_ n1_ n2_ n3_ n4_ n5_; (try clear hb); (try clear hb2); (try clear hk); (try clear hi)))
 (try simp only [Act.put, List.setIfInBounds_toArray, List.set_cons_zero, List.set_cons_succ])
 go_cut [2] (fun v2 wc => ∃ (kq : Nat) (x2_5 : Bool), v2 = .bool x2_5 ∧ Aside0 (hogsheadlaw17_DeedWants.j0 kq x2_5 = some r) ∧ Aside0 (kq ≤ k) ∧ Aside0 (Kd.R k69 69 wc w.heap.size (fun k_ => some k_ ≠ ((.slice Ao21 t289.length co21) : Value).ownBlock) (.slice Ao14 t273.length co14) t273) ∧ Aside0 (Kd.R k69 69 wc w.heap.size (fun k_ => some k_ ≠ ((.slice Ao14 t273.length co14) : Value).ownBlock) (.slice Ao21 t289.length co21) t289) ∧ Aside0 (wc.heap[g260]? = some (.cells #[.int .i64 a0_0, .int .i64 a0_1, .string a0_2, .string a0_3, .int .i64 a0_4, .int .i64 a0_5, .int .i64 a0_6, .int .i64 a0_7, .int .i64 a0_8, .int .u32 a0_9, .int .i64 a0_10, .int .i64 a0_11, .string a0_12, .bool a0_13] 28 (0, 0))) ∧ Aside0 (wc.heap[g277]? = some (.cells #[.int .i64 t262, .int .i64 t263, .int .i64 t264, .string t265, .int .i64 t266, .int .i64 t267, .int .i64 t268, .int .u32 t269, .int .i64 t270, .int .i64 t271, .int .i64 t272, (.slice Ao14 t273.length co14)] 36 (0, 0))) ∧ Aside0 (wc.heap[g293]? = some (.cells #[.int .i64 t278, .int .i64 t279, .int .i64 t280, .string t281, .int .i64 t282, .int .i64 t283, .int .i64 t284, .int .u32 t285, .int .i64 t286, .int .i64 t287, .int .i64 t288, (.slice Ao21 t289.length co21)] 36 (0, 0))) ∧ Aside0 (Below w.heap.size w wc))
 case first =>
  have H := HC6.out
  clear HC6
  by_cases c24 : t261 = true
  ·subst c24
   have H1 : (if t294 = true then (hogsheadlaw17_DeedWants.j0 k (t276 == t292)) else (hogsheadlaw17_DeedWants.j0 k false)) = some r := by rw [if_pos rfl] at H; exact H
   clear H
   have H := H1
   clear H1
   by_cases c25 : t294 = true
   ·subst c25
    have H1 : (hogsheadlaw17_DeedWants.j0 k (t276 == t292)) = some r := by rw [if_pos rfl] at H; exact H
    clear H
    have H := H1
    clear H1
    have H' := qM H
    clear H
    go_wp2
    go_meet
    case rel => exact ⟨_, ((t276 == t292)), (by first | rfl | (simp; done) | (simp [*]; done)), H', ⟨by first | omega | exact Nat.le_refl _⟩, ⟨by (with_reducible repeat first | apply RA | apply RN | apply RD); exact Kd.R_mono HO275.out (fun _ hk => hk.2)⟩, ⟨by (with_reducible repeat first | apply RA | apply RN | apply RD); exact Kd.R_mono HO291.out (fun _ hk => hk.2)⟩, ⟨by (with_reducible repeat first | refine qN ?_ _ | refine qD ?_ | refine qA ?_ _); exact B260.out⟩, ⟨by (with_reducible repeat first | refine qN ?_ _ | refine qD ?_ | refine qA ?_ _); exact B277.out⟩, ⟨by (with_reducible repeat first | refine qN ?_ _ | refine qD ?_ | refine qA ?_ _); exact B293.out⟩, ⟨by repeat (first | (with_reducible first | exact HB.out | apply eA | apply eN | apply eD | refine eS ?_ GE260.out | refine eS ?_ GE277.out | refine eS ?_ GE293.out) | exact HB.out)⟩⟩
   ·replace c25 := Bool.eq_false_iff.mpr c25
    subst c25
    have H1 : (hogsheadlaw17_DeedWants.j0 k false) = some r := by rw [if_neg (show ¬ (false = true) by decide)] at H; exact H
    clear H
    have H := H1
    clear H1
    have H' := qM H
    clear H
    go_wp2
    go_meet
    case rel => exact ⟨_, (false), (by first | rfl | (simp; done) | (simp [*]; done)), H', ⟨by first | omega | exact Nat.le_refl _⟩, ⟨by (with_reducible repeat first | apply RA | apply RN | apply RD); exact Kd.R_mono HO275.out (fun _ hk => hk.2)⟩, ⟨by (with_reducible repeat first | apply RA | apply RN | apply RD); exact Kd.R_mono HO291.out (fun _ hk => hk.2)⟩, ⟨by (with_reducible repeat first | refine qN ?_ _ | refine qD ?_ | refine qA ?_ _); exact B260.out⟩, ⟨by (with_reducible repeat first | refine qN ?_ _ | refine qD ?_ | refine qA ?_ _); exact B277.out⟩, ⟨by (with_reducible repeat first | refine qN ?_ _ | refine qD ?_ | refine qA ?_ _); exact B293.out⟩, ⟨by repeat (first | (with_reducible first | exact HB.out | apply eA | apply eN | apply eD | refine eS ?_ GE260.out | refine eS ?_ GE277.out | refine eS ?_ GE293.out) | exact HB.out)⟩⟩
  ·replace c24 := Bool.eq_false_iff.mpr c24
   subst c24
   have H1 : (hogsheadlaw17_DeedWants.j0 k false) = some r := by rw [if_neg (show ¬ (false = true) by decide)] at H; exact H
   clear H
   have H := H1
   clear H1
   have H' := qM H
   clear H
   go_wp2
   go_meet
   case rel => exact ⟨_, (false), (by first | rfl | (simp; done) | (simp [*]; done)), H', ⟨by first | omega | exact Nat.le_refl _⟩, ⟨by (with_reducible repeat first | apply RA | apply RN | apply RD); exact Kd.R_mono HO275.out (fun _ hk => hk.2)⟩, ⟨by (with_reducible repeat first | apply RA | apply RN | apply RD); exact Kd.R_mono HO291.out (fun _ hk => hk.2)⟩, ⟨by (with_reducible repeat first | refine qN ?_ _ | refine qD ?_ | refine qA ?_ _); exact B260.out⟩, ⟨by (with_reducible repeat first | refine qN ?_ _ | refine qD ?_ | refine qA ?_ _); exact B277.out⟩, ⟨by (with_reducible repeat first | refine qN ?_ _ | refine qD ?_ | refine qA ?_ _); exact B293.out⟩, ⟨by repeat (first | (with_reducible first | exact HB.out | apply eA | apply eN | apply eD | refine eS ?_ GE260.out | refine eS ?_ GE277.out | refine eS ?_ GE293.out) | exact HB.out)⟩⟩
 case rest =>
  clear HC6
  try clear c1
  try clear c2
  try clear p2
  try clear c4
  try clear c9
  try clear c12
  try clear c13
  try clear c14
  try clear c18
  try clear c19
  try clear c24
  try clear c25
  try clear z13_0
  try clear z13_1
  try clear z13_10
  try clear z13_11
  try clear z13_2
  try clear z13_3
  try clear z13_4
  try clear z13_5
  try clear z13_6
  try clear z13_7
  try clear z13_8
  try clear z13_9
  try clear z15_0
  try clear z15_1
  try clear z15_10
  try clear z15_11
  try clear z15_12
  try clear z15_13
  try clear z15_2
  try clear z15_3
  try clear z15_4
  try clear z15_5
  try clear z15_6
  try clear z15_7
  try clear z15_8
  try clear z15_9
  try clear z20_0
  try clear z20_1
  try clear z20_10
  try clear z20_11
  try clear z20_2
  try clear z20_3
  try clear z20_4
  try clear z20_5
  try clear z20_6
  try clear z20_7
  try clear z20_8
  try clear z20_9
  try clear z22_0
  try clear z22_1
  try clear z22_10
  try clear z22_11
  try clear z22_2
  try clear z22_3
  try clear z22_4
  try clear z22_5
  try clear z22_6
  try clear z22_7
  try clear z22_8
  try clear z22_9
  try clear z9_0
  try clear z9_1
  try clear z9_10
  try clear z9_11
  try clear z9_12
  try clear z9_13
  try clear z9_2
  try clear z9_3
  try clear z9_4
  try clear z9_5
  try clear z9_6
  try clear z9_7
  try clear z9_8
  try clear z9_9
  try clear f13_0
  try clear f13_1
  try clear f13_10
  try clear f13_11
  try clear f13_2
  try clear f13_3
  try clear f13_4
  try clear f13_5
  try clear f13_6
  try clear f13_7
  try clear f13_8
  try clear f13_9
  try clear f15_0
  try clear f15_1
  try clear f15_10
  try clear f15_11
  try clear f15_12
  try clear f15_13
  try clear f15_2
  try clear f15_3
  try clear f15_4
  try clear f15_5
  try clear f15_6
  try clear f15_7
  try clear f15_8
  try clear f15_9
  try clear f20_0
  try clear f20_1
  try clear f20_10
  try clear f20_11
  try clear f20_2
  try clear f20_3
  try clear f20_4
  try clear f20_5
  try clear f20_6
  try clear f20_7
  try clear f20_8
  try clear f20_9
  try clear f22_0
  try clear f22_1
  try clear f22_10
  try clear f22_11
  try clear f22_2
  try clear f22_3
  try clear f22_4
  try clear f22_5
  try clear f22_6
  try clear f22_7
  try clear f22_8
  try clear f22_9
  try clear f9_0
  try clear f9_1
  try clear f9_10
  try clear f9_11
  try clear f9_12
  try clear f9_13
  try clear f9_2
  try clear f9_3
  try clear f9_4
  try clear f9_5
  try clear f9_6
  try clear f9_7
  try clear f9_8
  try clear f9_9
  obtain ⟨kq, x2_5, rfl, HA, HJ5, HO_278011, HO_294011, B260, B277, B293, HB⟩ := hcut
  cases kq with
  | zero => exact absurd HA.out (by simp [hogsheadlaw17_DeedWants.j0])
  | succ kj5 =>
   have H := HA.out
   clear HA
   simp only [hogsheadlaw17_DeedWants.j0] at H
   obtain rfl := Option.some.inj H
   go_wp2
   go_ret
   exact ⟨by first | rfl | (simp [errW_none, errW_some] <;> rfl) | (simp [*, errW_none, errW_some] <;> rfl), by repeat (first | (with_reducible first | exact HB.out | apply eA | apply eN | apply eD | refine eS ?_ GE260.out | refine eS ?_ GE277.out | refine eS ?_ GE293.out) | exact HB.out)⟩

end Go.Proofs.Ytmjmmgefkebggaa.PAll
