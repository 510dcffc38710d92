/- Functions of the program as plain Lean functions, and that each call comes to what they say. Laid by a program of this session (hprint.py); Lean checks it. -/
import Derived.Test.YtmjmmgefkebggaaPAllx0
import Derived.Test.YtmjmmgefkebggaaPAllx3
import Derived.Test.YtmjmmgefkebggaaPAllx8
import Derived.Test.YtmjmmgefkebggaaPAllx10
namespace Go.Proofs.Ytmjmmgefkebggaa.PAll
open Go.RowKit Go.Proofs.YtmjmmgefkebggaaW.PrintWords Go.Proofs.YtmjmmgefkebggaaW.PrintLast Go.Proofs.YtmjmmgefkebggaaW.PrintMore
attribute [local go_sem] max2_int min2_int max_two min_two max_three min_three max_four min_four   -- for this text's walks alone
set_option linter.unusedVariables false
set_option linter.unusedSimpArgs false
attribute [local irreducible] World.setCell

/-! ### hogsheadlaw17_shown: function 9 -/
def hogsheadlaw17_shown.j0 : Nat → Bool → Option (Bool)
 | 0, _ => none
 | k + 1, x0 => some x0
def hogsheadlaw17_shown.f (k : Nat)  : Option (Bool) := (deed_New.f k 1 2 (⟨#[97]⟩ : ByteArray) (⟨#[]⟩ : ByteArray) 5).bind fun bt170 => ((deed_Want.f bt170.1 bt170.2.1 bt170.2.2.1 bt170.2.2.2.1 bt170.2.2.2.2.1 bt170.2.2.2.2.2.1 bt170.2.2.2.2.2.2.1 bt170.2.2.2.2.2.2.2.1 bt170.2.2.2.2.2.2.2.2.1 bt170.2.2.2.2.2.2.2.2.2.1 bt170.2.2.2.2.2.2.2.2.2.2.1 bt170.2.2.2.2.2.2.2.2.2.2.2.1 bt170.2.2.2.2.2.2.2.2.2.2.2.2.1 bt170.2.2.2.2.2.2.2.2.2.2.2.2.2.1).bind fun bt186 => ((deed_Heard.f bt170.1 bt170.2.1 bt170.2.2.1 bt170.2.2.2.1 bt170.2.2.2.2.1 bt170.2.2.2.2.2.1 bt170.2.2.2.2.2.2.1 bt170.2.2.2.2.2.2.2.1 bt170.2.2.2.2.2.2.2.2.1 bt170.2.2.2.2.2.2.2.2.2.1 bt170.2.2.2.2.2.2.2.2.2.2.1 bt170.2.2.2.2.2.2.2.2.2.2.2.1 bt170.2.2.2.2.2.2.2.2.2.2.2.2.1 bt170.2.2.2.2.2.2.2.2.2.2.2.2.2.1 0 0 0 0 0 false).bind fun bt202 => (if bt170.2.2.2.2.2.2.2.2.2.2.2.2.2.2 = 0 then (if bt186.2.2.2.2.2.2.2.2.2.2.2.2 = true then (if bt186.1 = 5 then (if bt186.2.2.1 = 5 then (if bt202.2.2.2.2.2.1 = 8 then (hogsheadlaw17_shown.j0 k (bt202.2.2.2.2.2.2.2.2.2.2.2.1 == 7)) else (hogsheadlaw17_shown.j0 k false)) else (hogsheadlaw17_shown.j0 k false)) else (hogsheadlaw17_shown.j0 k false)) else (hogsheadlaw17_shown.j0 k false)) else (hogsheadlaw17_shown.j0 k false))))
theorem hogsheadlaw17_shown.mono_l : ∀ k, (∀ y0, LeO (hogsheadlaw17_shown.j0 k y0) (hogsheadlaw17_shown.j0 (k + 1) y0))
 | 0 => fun _ r h => by simp [hogsheadlaw17_shown.j0] at h
 | k + 1 => by
  have ih0 := hogsheadlaw17_shown.mono_l k
  ·intro y0
   unfold hogsheadlaw17_shown.j0
   repeat' first
   | (with_reducible exact ih0 _)
   | (with_reducible exact deed_New.mono _ _ _ _ _ _)
   | (with_reducible exact LeO.refl _)
   | (with_reducible exact LeO.none _)
   | (with_reducible refine LeO.ite ?_ ?_)
   | (with_reducible refine LeO.bind ?_ (fun _ => ?_))
   | exact ih0 _
   | exact deed_New.mono _ _ _ _ _ _
   | exact LeO.none _
   | refine LeO.ite ?_ ?_
   | refine LeO.bind ?_ (fun _ => ?_)
theorem hogsheadlaw17_shown.mono : ∀ k, LeO (hogsheadlaw17_shown.f k ) (hogsheadlaw17_shown.f (k + 1) ) := by
 intro  k
 have ih0 := hogsheadlaw17_shown.mono_l k
 unfold hogsheadlaw17_shown.f
 repeat' first
   | (with_reducible exact ih0 _)
   | (with_reducible exact deed_New.mono _ _ _ _ _ _)
   | (with_reducible exact LeO.refl _)
   | (with_reducible exact LeO.none _)
   | (with_reducible refine LeO.ite ?_ ?_)
   | (with_reducible refine LeO.bind ?_ (fun _ => ?_))
   | exact ih0 _
   | exact deed_New.mono _ _ _ _ _ _
   | exact LeO.none _
   | refine LeO.ite ?_ ?_
   | refine LeO.bind ?_ (fun _ => ?_)
set_option maxHeartbeats 40000000 in
set_option maxRecDepth 100000 in
theorem hogsheadlaw17_shown.calls (k : Nat)  (r : Bool) (w : World) (h : hogsheadlaw17_shown.f k  = some r) :
  Calls Try.prog 9 #[] w fun e w' => e = .returned (.bool r) ∧ Below w.heap.size w w' := by
 have hu28 := Try.underlying28
 have hu36 := Try.underlying36
 have hu42 := Try.underlying42
 have HB := qM (Below.refl w.heap.size w)
 have H : ((deed_New.f k 1 2 (⟨#[97]⟩ : ByteArray) (⟨#[]⟩ : ByteArray) 5).bind fun bt170 => ((deed_Want.f bt170.1 bt170.2.1 bt170.2.2.1 bt170.2.2.2.1 bt170.2.2.2.2.1 bt170.2.2.2.2.2.1 bt170.2.2.2.2.2.2.1 bt170.2.2.2.2.2.2.2.1 bt170.2.2.2.2.2.2.2.2.1 bt170.2.2.2.2.2.2.2.2.2.1 bt170.2.2.2.2.2.2.2.2.2.2.1 bt170.2.2.2.2.2.2.2.2.2.2.2.1 bt170.2.2.2.2.2.2.2.2.2.2.2.2.1 bt170.2.2.2.2.2.2.2.2.2.2.2.2.2.1).bind fun bt186 => ((deed_Heard.f bt170.1 bt170.2.1 bt170.2.2.1 bt170.2.2.2.1 bt170.2.2.2.2.1 bt170.2.2.2.2.2.1 bt170.2.2.2.2.2.2.1 bt170.2.2.2.2.2.2.2.1 bt170.2.2.2.2.2.2.2.2.1 bt170.2.2.2.2.2.2.2.2.2.1 bt170.2.2.2.2.2.2.2.2.2.2.1 bt170.2.2.2.2.2.2.2.2.2.2.2.1 bt170.2.2.2.2.2.2.2.2.2.2.2.2.1 bt170.2.2.2.2.2.2.2.2.2.2.2.2.2.1 0 0 0 0 0 false).bind fun bt202 => (if bt170.2.2.2.2.2.2.2.2.2.2.2.2.2.2 = 0 then (if bt186.2.2.2.2.2.2.2.2.2.2.2.2 = true then (if bt186.1 = 5 then (if bt186.2.2.1 = 5 then (if bt202.2.2.2.2.2.1 = 8 then (hogsheadlaw17_shown.j0 k (bt202.2.2.2.2.2.2.2.2.2.2.2.1 == 7)) else (hogsheadlaw17_shown.j0 k false)) else (hogsheadlaw17_shown.j0 k false)) else (hogsheadlaw17_shown.j0 k false)) else (hogsheadlaw17_shown.j0 k false)) else (hogsheadlaw17_shown.j0 k false))))) = some r := h
 clear h
 replace H := Option.bind_eq_some_iff.mp H
 obtain ⟨⟨t170, t171, t172, t173, t174, t175, t176, t177, t178, t179, t180, t181, t182, t183, t184⟩, A10, H⟩ := H
 replace H : ((deed_Want.f t170 t171 t172 t173 t174 t175 t176 t177 t178 t179 t180 t181 t182 t183).bind fun bt186 => ((deed_Heard.f t170 t171 t172 t173 t174 t175 t176 t177 t178 t179 t180 t181 t182 t183 0 0 0 0 0 false).bind fun bt202 => (if t184 = 0 then (if bt186.2.2.2.2.2.2.2.2.2.2.2.2 = true then (if bt186.1 = 5 then (if bt186.2.2.1 = 5 then (if bt202.2.2.2.2.2.1 = 8 then (hogsheadlaw17_shown.j0 k (bt202.2.2.2.2.2.2.2.2.2.2.2.1 == 7)) else (hogsheadlaw17_shown.j0 k false)) else (hogsheadlaw17_shown.j0 k false)) else (hogsheadlaw17_shown.j0 k false)) else (hogsheadlaw17_shown.j0 k false)) else (hogsheadlaw17_shown.j0 k false)))) = some r := H
 have A1 := qM A10
 clear A10
 replace H := Option.bind_eq_some_iff.mp H
 obtain ⟨⟨t186, t187, t188, t189, t190, t191, t192, t193, t194, t195, t196, t197, t200⟩, A20, H⟩ := H
 replace H : ((deed_Heard.f t170 t171 t172 t173 t174 t175 t176 t177 t178 t179 t180 t181 t182 t183 0 0 0 0 0 false).bind fun bt202 => (if t184 = 0 then (if t200 = true then (if t186 = 5 then (if t188 = 5 then (if bt202.2.2.2.2.2.1 = 8 then (hogsheadlaw17_shown.j0 k (bt202.2.2.2.2.2.2.2.2.2.2.2.1 == 7)) else (hogsheadlaw17_shown.j0 k false)) else (hogsheadlaw17_shown.j0 k false)) else (hogsheadlaw17_shown.j0 k false)) else (hogsheadlaw17_shown.j0 k false)) else (hogsheadlaw17_shown.j0 k false))) = some r := H
 have A2 := qM A20
 clear A20
 replace H := Option.bind_eq_some_iff.mp H
 obtain ⟨⟨t202, t203, t204, t205, t206, t207, t208, t209, t210, t211, t212, t213, t214, t215⟩, A30, H⟩ := H
 replace H : (if t184 = 0 then (if t200 = true then (if t186 = 5 then (if t188 = 5 then (if t207 = 8 then (hogsheadlaw17_shown.j0 k (t213 == 7)) else (hogsheadlaw17_shown.j0 k false)) else (hogsheadlaw17_shown.j0 k false)) else (hogsheadlaw17_shown.j0 k false)) else (hogsheadlaw17_shown.j0 k false)) else (hogsheadlaw17_shown.j0 k false)) = some r := H
 have A3 := qM A30
 clear A30
 have HC4 := qM H
 clear H
 go_enter Try.func9, Try.ntmps9
 go_upto_region 4 with (first | ((with_reducible refine gate_callee (f := 10) rfl ?_); refine goesL_ (some 6) rfl rfl Try.func10 (by kernel_rfl) rfl #[.int .i64 1, .int .i64 2, .string (⟨#[97]⟩ : ByteArray), .string (⟨#[]⟩ : ByteArray), .int .i64 5] rfl (by (try simp only [List.map_toArray, List.map_cons, List.map_nil]); first | done | rfl | (simp only [List.length_drop, List.length_take]; rfl)) ?_; (with_reducible refine (deed_New.calls k 1 2 (⟨#[97]⟩ : ByteArray) (⟨#[]⟩ : ByteArray) 5 t170 t171 t172 t173 t174 t175 t176 t177 t178 t179 t180 t181 t182 t183 t184 _ A1.out).mono ?_); rintro e w5 ⟨rfl, hb⟩; refine ⟨_, rfl, ?_⟩; have n0_ := qM (eT (by repeat (first | (with_reducible first | exact HB.out | apply eA | apply eN | apply eD) | exact HB.out)) hb); clear HB; have HB := n0_; clear n0_; (try clear hb); (try clear hb2); (try clear hk); (try clear hi)) | ((with_reducible refine gate_dst (N := 1) rfl ?_); refine box_event ?hg (N := 1) ?hd (cs := #[.int .i64 0, .int .i64 0, .string (⟨#[]⟩ : ByteArray), .string (⟨#[]⟩ : ByteArray), .int .i64 0, .int .i64 0, .int .i64 0, .int .i64 0, .int .i64 0, .int .u32 0, .int .i64 0, .int .i64 0, .string (⟨#[]⟩ : ByteArray), .bool false]) (t := 28) ?hr ?_; (case hd => rfl); (case hg => rfl); (case hr => first | (go_simp; done) | (go_simp; rfl)); intro g185 hg w6 hbox hb; have n0_ := qM (eT (by repeat (first | (with_reducible first | exact HB.out | apply eA | apply eN | apply eD) | exact HB.out)) hb); have n1_ := qM (hbox); have n2_ := qM ((by rw [hg]; exact (eZ (by repeat (first | (with_reducible first | exact HB.out | apply eA | apply eN | apply eD) | exact HB.out))) : w.heap.size ≤ g185)); have n3_ := n2_; clear HB; have HB := n0_; have B185 := n1_; have GW185 := n2_; have GE185 := n3_; clear n0_ n1_ n2_ n3_; clear hb hbox hg; obtain ⟨z7_0, z7_1, z7_2, z7_3, z7_4, z7_5, z7_6, z7_7, z7_8, z7_9, z7_10, z7_11, z7_12, z7_13, f7_0, f7_1, f7_2, f7_3, f7_4, f7_5, f7_6, f7_7, f7_8, f7_9, f7_10, f7_11, f7_12, f7_13⟩ := cells14 B185.out) | ((with_reducible refine gate_callee (f := 12) rfl ?_); refine goesL_ (some 11) rfl rfl Try.func12 (by kernel_rfl) rfl #[.agg #[.int .i64 t170, .int .i64 t171, .string t172, .string t173, .int .i64 t174, .int .i64 t175, .int .i64 t176, .int .i64 t177, .int .i64 t178, .int .u32 t179, .int .i64 t180, .int .i64 t181, .string t182, .bool t183]] rfl (by (try simp only [List.map_toArray, List.map_cons, List.map_nil]); first | done | rfl | (simp only [List.length_drop, List.length_take]; rfl)) ?_; (with_reducible refine (deed_Want.calls t170 t171 t172 t173 t174 t175 t176 t177 t178 t179 t180 t181 t182 t183 t186 t187 t188 t189 t190 t191 t192 t193 t194 t195 t196 t197 t200 _ A2.out).mono ?_); rintro e w8 ⟨v198, rfl, ho0, hb⟩; refine ⟨_, rfl, ?_⟩; have n0_ := qM (Kd.R_lower ho0 (eZ (by repeat (first | (with_reducible first | exact HB.out | apply eA | apply eN | apply eD | refine eS ?_ GE185.out) | exact HB.out)))); have n1_ := qM (qB (g := g185) (by (with_reducible repeat first | refine qN ?_ _ | refine qD ?_ | refine qA ?_ _); apply puts14; (with_reducible repeat first | refine qN ?_ _ | refine qD ?_ | refine qA ?_ _); exact B185.out) hb); have n2_ := qM (eT (by repeat (first | (with_reducible first | exact HB.out | apply eA | apply eN | apply eD | refine eS ?_ GE185.out) | exact HB.out)) hb); clear B185; clear HB; have HO199 := n0_; have B185 := n1_; have HB := n2_; clear n0_ n1_ n2_; (try clear hb); (try clear hb2); (try clear hk); (try clear hi); (try clear ho0)) | ((with_reducible refine gate_dst (N := 3) rfl ?_); refine box_event ?hg (N := 3) ?hd (cs := #[.int .i64 0, .int .i64 0, .int .i64 0, .string (⟨#[]⟩ : ByteArray), .int .i64 0, .int .i64 0, .int .i64 0, .int .u32 0, .int .i64 0, .int .i64 0, .int .i64 0, .slice none 0 0]) (t := 36) ?hr ?_; (case hd => rfl); (case hg => rfl); (case hr => first | (go_simp; done) | (go_simp; rfl)); intro g201 hg w9 hbox hb; have n0_ := qM (Kd.R_below (by (with_reducible repeat first | apply RA | apply RN | apply RD); exact HO199.out) hb); have n1_ := qM (qB (g := g185) (by (with_reducible repeat first | refine qN ?_ _ | refine qD ?_ | refine qA ?_ _); exact B185.out) hb); have n2_ := qM (eT (by repeat (first | (with_reducible first | exact HB.out | apply eA | apply eN | apply eD | refine eS ?_ GE185.out) | exact HB.out)) hb); have n3_ := qM (hbox); have n4_ := qM ((by rw [hg]; exact (eZ (by repeat (first | (with_reducible first | exact HB.out | apply eA | apply eN | apply eD | refine eS ?_ GE185.out) | exact HB.out))) : w.heap.size ≤ g201)); have n5_ := n4_; have n6_ := qM ((by rw [hg]; exact Nat.ne_of_lt (qL (g := g185) (by (with_reducible repeat first | refine qN ?_ _ | refine qD ?_ | refine qA ?_ _); exact B185.out)) : g185 ≠ g201)); have n7_ := qM (Ne.symm n6_.out); clear HO199; clear B185; clear HB; have HO199 := n0_; have B185 := n1_; have HB := n2_; have B201 := n3_; have GW201 := n4_; have GE201 := n5_; have NB185_201 := n6_; have NB201_185 := n7_; clear n0_ n1_ n2_ n3_ n4_ n5_ n6_ n7_; clear hb hbox hg; have hnb10 := NB201_185.out; have hnc10 := NB185_201.out; obtain ⟨z11_0, z11_1, z11_2, z11_3, z11_4, z11_5, z11_6, z11_7, z11_8, z11_9, z11_10, z11_11, f11_0, f11_1, f11_2, f11_3, f11_4, f11_5, f11_6, f11_7, f11_8, f11_9, f11_10, f11_11⟩ := cells12 B201.out; obtain ⟨Ao12, co12, eo12⟩ := Kd.R_slice HO199.out; subst eo12; obtain ⟨z13_0, z13_1, z13_2, z13_3, z13_4, z13_5, z13_6, z13_7, z13_8, z13_9, z13_10, z13_11, z13_12, z13_13, f13_0, f13_1, f13_2, f13_3, f13_4, f13_5, f13_6, f13_7, f13_8, f13_9, f13_10, f13_11, f13_12, f13_13⟩ := cells14 B185.out) | ((with_reducible refine gate_callee (f := 17) rfl ?_); refine goesL_ (some 16) rfl rfl Try.func17 (by kernel_rfl) rfl #[.agg #[.int .i64 t170, .int .i64 t171, .string t172, .string t173, .int .i64 t174, .int .i64 t175, .int .i64 t176, .int .i64 t177, .int .i64 t178, .int .u32 t179, .int .i64 t180, .int .i64 t181, .string t182, .bool t183], .agg #[.int .i64 0, .int .i64 0, .int .i64 0, .int .i64 0, .int .u32 0, .bool false]] rfl (by (try simp only [List.map_toArray, List.map_cons, List.map_nil]); first | done | rfl | (simp only [List.length_drop, List.length_take]; rfl)) ?_; (with_reducible refine (deed_Heard.calls t170 t171 t172 t173 t174 t175 t176 t177 t178 t179 t180 t181 t182 t183 0 0 0 0 0 false t202 t203 t204 t205 t206 t207 t208 t209 t210 t211 t212 t213 t214 t215 _ A3.out).mono ?_); rintro e w14 ⟨rfl, hb⟩; refine ⟨_, rfl, ?_⟩; have n0_ := qM (Kd.R_below (by (with_reducible repeat first | apply RA | apply RN | apply RD); exact (Kd.R_mono (Kd.R_far (p := ⟨g201, 11, none⟩) (Kd.R_far (p := ⟨g201, 10, none⟩) (Kd.R_far (p := ⟨g201, 9, none⟩) (Kd.R_far (p := ⟨g201, 8, none⟩) (Kd.R_far (p := ⟨g201, 7, none⟩) (Kd.R_far (p := ⟨g201, 6, none⟩) (Kd.R_far (p := ⟨g201, 5, none⟩) (Kd.R_far (p := ⟨g201, 4, none⟩) (Kd.R_far (p := ⟨g201, 3, none⟩) (Kd.R_far (p := ⟨g201, 2, none⟩) (Kd.R_far (p := ⟨g201, 1, none⟩) (Kd.R_far (p := ⟨g201, 0, none⟩) (Kd.R_types HO199.out B201.out (by decide)) (fun _ hk => hk.2) (.int .i64 t186)) (fun _ hk => hk.2) (.int .i64 t187)) (fun _ hk => hk.2) (.int .i64 t188)) (fun _ hk => hk.2) (.string t189)) (fun _ hk => hk.2) (.int .i64 t190)) (fun _ hk => hk.2) (.int .i64 t191)) (fun _ hk => hk.2) (.int .i64 t192)) (fun _ hk => hk.2) (.int .u32 t193)) (fun _ hk => hk.2) (.int .i64 t194)) (fun _ hk => hk.2) (.int .i64 t195)) (fun _ hk => hk.2) (.int .i64 t196)) (fun _ hk => hk.2) (.slice Ao12 t197.length co12)) (fun _ h_ => h_.1))) hb); have n1_ := qM (qB (g := g185) (o := .cells #[.int .i64 t170, .int .i64 t171, .string t172, .string t173, .int .i64 t174, .int .i64 t175, .int .i64 t176, .int .i64 t177, .int .i64 t178, .int .u32 t179, .int .i64 t180, .int .i64 t181, .string t182, .bool t183] 28 (0, 0)) (by (with_reducible repeat first | refine qN ?_ _ | refine qD ?_ | refine qA ?_ _); (iterate 12 (refine qR ?_ NB185_201.out _; (with_reducible repeat first | refine qN ?_ _ | refine qD ?_ | refine qA ?_ _))); exact B185.out) hb); have n2_ := qM (qB (g := g201) (by (with_reducible repeat first | refine qN ?_ _ | refine qD ?_ | refine qA ?_ _); apply puts12; (with_reducible repeat first | refine qN ?_ _ | refine qD ?_ | refine qA ?_ _); exact B201.out) hb); have n3_ := qM (eT (by repeat (first | (with_reducible first | exact HB.out | apply eA | apply eN | apply eD | refine eS ?_ GE185.out | refine eS ?_ GE201.out) | exact HB.out)) hb); clear HO199; clear B185; clear B201; clear HB; have HO199 := n0_; have B185 := n1_; have B201 := n2_; have HB := n3_; clear n0_ n1_ n2_ n3_; (try clear hb); (try clear hb2); (try clear hk); (try clear hi); obtain ⟨z15_0, z15_1, z15_2, z15_3, z15_4, z15_5, z15_6, z15_7, z15_8, z15_9, z15_10, z15_11, z15_12, z15_13, f15_0, f15_1, f15_2, f15_3, f15_4, f15_5, f15_6, f15_7, f15_8, f15_9, f15_10, f15_11, f15_12, f15_13⟩ := cells14 B185.out))
 (try simp only [Act.put, List.setIfInBounds_toArray, List.set_cons_zero, List.set_cons_succ])
 go_cut [0] (fun v0 wc => ∃ (kq : Nat) (x0_3 : Bool), v0 = .bool x0_3 ∧ Aside0 (hogsheadlaw17_shown.j0 kq x0_3 = some r) ∧ Aside0 (kq ≤ k) ∧ Aside0 (Kd.R k69 69 wc w.heap.size (fun _ => True) (.slice Ao12 t197.length co12) t197) ∧ Aside0 (wc.heap[g185]? = some (.cells #[.int .i64 t202, .int .i64 t203, .string t204, .string t205, .int .i64 t206, .int .i64 t207, .int .i64 t208, .int .i64 t209, .int .i64 t210, .int .u32 t211, .int .i64 t212, .int .i64 t213, .string t214, .bool t215] 28 (0, 0))) ∧ Aside0 (wc.heap[g201]? = some (.cells #[.int .i64 t186, .int .i64 t187, .int .i64 t188, .string t189, .int .i64 t190, .int .i64 t191, .int .i64 t192, .int .u32 t193, .int .i64 t194, .int .i64 t195, .int .i64 t196, (.slice Ao12 t197.length co12)] 36 (0, 0))) ∧ Aside0 (Below w.heap.size w wc))
 case first =>
  have H := HC4.out
  clear HC4
  by_cases c16 : t184 = 0
  ·rw [if_pos c16] at H
   have c16b0 : (t184 == 0) = true := beq_iff_eq.mpr c16
   have c16b1 : (t184 != 0) = false := bne_eq_false_iff_eq.mpr c16
   clear c16
   (first | rw [c16b0] | (simp only [i64_w, i32_w]; rw [c16b0]) | skip)
   by_cases c17 : t200 = true
   ·subst c17
    have H1 : (if t186 = 5 then (if t188 = 5 then (if t207 = 8 then (hogsheadlaw17_shown.j0 k (t213 == 7)) else (hogsheadlaw17_shown.j0 k false)) else (hogsheadlaw17_shown.j0 k false)) else (hogsheadlaw17_shown.j0 k false)) = some r := by rw [if_pos rfl] at H; exact H
    clear H
    have H := H1
    clear H1
    by_cases c18 : t186 = 5
    ·rw [if_pos c18] at H
     have c18b0 : (t186 == 5) = true := beq_iff_eq.mpr c18
     have c18b1 : (t186 != 5) = false := bne_eq_false_iff_eq.mpr c18
     clear c18
     by_cases c19 : t188 = 5
     ·rw [if_pos c19] at H
      have c19b0 : (t188 == 5) = true := beq_iff_eq.mpr c19
      have c19b1 : (t188 != 5) = false := bne_eq_false_iff_eq.mpr c19
      clear c19
      by_cases c20 : t207 = 8
      ·rw [if_pos c20] at H
       have c20b0 : (t207 == 8) = true := beq_iff_eq.mpr c20
       have c20b1 : (t207 != 8) = false := bne_eq_false_iff_eq.mpr c20
       clear c20
       have H' := qM H
       clear H
       have hnb21 := NB201_185.out
       have hnc21 := NB185_201.out
       obtain ⟨z22_0, z22_1, z22_2, z22_3, z22_4, z22_5, z22_6, z22_7, z22_8, z22_9, z22_10, z22_11, f22_0, f22_1, f22_2, f22_3, f22_4, f22_5, f22_6, f22_7, f22_8, f22_9, f22_10, f22_11⟩ := cells12 B201.out
       obtain ⟨z23_0, z23_1, z23_2, z23_3, z23_4, z23_5, z23_6, z23_7, z23_8, z23_9, z23_10, z23_11, z23_12, z23_13, f23_0, f23_1, f23_2, f23_3, f23_4, f23_5, f23_6, f23_7, f23_8, f23_9, f23_10, f23_11, f23_12, f23_13⟩ := cells14 B185.out
       go_wp2
       go_meet
       case rel => exact ⟨_, ((t213 == 7)), (by first | rfl | (simp; done) | (simp [*]; done)), H', ⟨by first | omega | exact Nat.le_refl _⟩, ⟨by (with_reducible repeat first | apply RA | apply RN | apply RD); exact Kd.R_mono (Kd.R_far (p := ⟨g185, 13, none⟩) (Kd.R_far (p := ⟨g185, 12, none⟩) (Kd.R_far (p := ⟨g185, 11, none⟩) (Kd.R_far (p := ⟨g185, 10, none⟩) (Kd.R_far (p := ⟨g185, 9, none⟩) (Kd.R_far (p := ⟨g185, 8, none⟩) (Kd.R_far (p := ⟨g185, 7, none⟩) (Kd.R_far (p := ⟨g185, 6, none⟩) (Kd.R_far (p := ⟨g185, 5, none⟩) (Kd.R_far (p := ⟨g185, 4, none⟩) (Kd.R_far (p := ⟨g185, 3, none⟩) (Kd.R_far (p := ⟨g185, 2, none⟩) (Kd.R_far (p := ⟨g185, 1, none⟩) (Kd.R_far (p := ⟨g185, 0, none⟩) (Kd.R_types HO199.out B185.out (by decide)) (fun _ hk => hk.2) (.int .i64 t202)) (fun _ hk => hk.2) (.int .i64 t203)) (fun _ hk => hk.2) (.string t204)) (fun _ hk => hk.2) (.string t205)) (fun _ hk => hk.2) (.int .i64 t206)) (fun _ hk => hk.2) (.int .i64 t207)) (fun _ hk => hk.2) (.int .i64 t208)) (fun _ hk => hk.2) (.int .i64 t209)) (fun _ hk => hk.2) (.int .i64 t210)) (fun _ hk => hk.2) (.int .u32 t211)) (fun _ hk => hk.2) (.int .i64 t212)) (fun _ hk => hk.2) (.int .i64 t213)) (fun _ hk => hk.2) (.string t214)) (fun _ hk => hk.2) (.bool t215)) (fun _ hk => trivial)⟩, ⟨by (with_reducible repeat first | refine qN ?_ _ | refine qD ?_ | refine qA ?_ _); apply puts14; (with_reducible repeat first | refine qN ?_ _ | refine qD ?_ | refine qA ?_ _); exact B185.out⟩, ⟨by (with_reducible repeat first | refine qN ?_ _ | refine qD ?_ | refine qA ?_ _); (iterate 14 (refine qR ?_ NB201_185.out _; (with_reducible repeat first | refine qN ?_ _ | refine qD ?_ | refine qA ?_ _))); exact B201.out⟩, ⟨by repeat (first | (with_reducible first | exact HB.out | apply eA | apply eN | apply eD | refine eS ?_ GE185.out | refine eS ?_ GE201.out) | exact HB.out)⟩⟩
      ·rw [if_neg c20] at H
       have c20b0 : (t207 == 8) = false := beq_eq_false_iff_ne.mpr c20
       have c20b1 : (t207 != 8) = true := bne_iff_ne.mpr c20
       have H' := qM H
       clear H
       have hnb24 := NB201_185.out
       have hnc24 := NB185_201.out
       obtain ⟨z25_0, z25_1, z25_2, z25_3, z25_4, z25_5, z25_6, z25_7, z25_8, z25_9, z25_10, z25_11, f25_0, f25_1, f25_2, f25_3, f25_4, f25_5, f25_6, f25_7, f25_8, f25_9, f25_10, f25_11⟩ := cells12 B201.out
       obtain ⟨z26_0, z26_1, z26_2, z26_3, z26_4, z26_5, z26_6, z26_7, z26_8, z26_9, z26_10, z26_11, z26_12, z26_13, f26_0, f26_1, f26_2, f26_3, f26_4, f26_5, f26_6, f26_7, f26_8, f26_9, f26_10, f26_11, f26_12, f26_13⟩ := cells14 B185.out
       go_wp2
       go_meet
       case rel => exact ⟨_, (false), (by first | rfl | (simp; done) | (simp [*]; done)), H', ⟨by first | omega | exact Nat.le_refl _⟩, ⟨by (with_reducible repeat first | apply RA | apply RN | apply RD); exact Kd.R_mono (Kd.R_far (p := ⟨g185, 13, none⟩) (Kd.R_far (p := ⟨g185, 12, none⟩) (Kd.R_far (p := ⟨g185, 11, none⟩) (Kd.R_far (p := ⟨g185, 10, none⟩) (Kd.R_far (p := ⟨g185, 9, none⟩) (Kd.R_far (p := ⟨g185, 8, none⟩) (Kd.R_far (p := ⟨g185, 7, none⟩) (Kd.R_far (p := ⟨g185, 6, none⟩) (Kd.R_far (p := ⟨g185, 5, none⟩) (Kd.R_far (p := ⟨g185, 4, none⟩) (Kd.R_far (p := ⟨g185, 3, none⟩) (Kd.R_far (p := ⟨g185, 2, none⟩) (Kd.R_far (p := ⟨g185, 1, none⟩) (Kd.R_far (p := ⟨g185, 0, none⟩) (Kd.R_types HO199.out B185.out (by decide)) (fun _ hk => hk.2) (.int .i64 t202)) (fun _ hk => hk.2) (.int .i64 t203)) (fun _ hk => hk.2) (.string t204)) (fun _ hk => hk.2) (.string t205)) (fun _ hk => hk.2) (.int .i64 t206)) (fun _ hk => hk.2) (.int .i64 t207)) (fun _ hk => hk.2) (.int .i64 t208)) (fun _ hk => hk.2) (.int .i64 t209)) (fun _ hk => hk.2) (.int .i64 t210)) (fun _ hk => hk.2) (.int .u32 t211)) (fun _ hk => hk.2) (.int .i64 t212)) (fun _ hk => hk.2) (.int .i64 t213)) (fun _ hk => hk.2) (.string t214)) (fun _ hk => hk.2) (.bool t215)) (fun _ hk => trivial)⟩, ⟨by (with_reducible repeat first | refine qN ?_ _ | refine qD ?_ | refine qA ?_ _); apply puts14; (with_reducible repeat first | refine qN ?_ _ | refine qD ?_ | refine qA ?_ _); exact B185.out⟩, ⟨by (with_reducible repeat first | refine qN ?_ _ | refine qD ?_ | refine qA ?_ _); (iterate 14 (refine qR ?_ NB201_185.out _; (with_reducible repeat first | refine qN ?_ _ | refine qD ?_ | refine qA ?_ _))); exact B201.out⟩, ⟨by repeat (first | (with_reducible first | exact HB.out | apply eA | apply eN | apply eD | refine eS ?_ GE185.out | refine eS ?_ GE201.out) | exact HB.out)⟩⟩
     ·rw [if_neg c19] at H
      have c19b0 : (t188 == 5) = false := beq_eq_false_iff_ne.mpr c19
      have c19b1 : (t188 != 5) = true := bne_iff_ne.mpr c19
      have H' := qM H
      clear H
      have hnb27 := NB201_185.out
      have hnc27 := NB185_201.out
      obtain ⟨z28_0, z28_1, z28_2, z28_3, z28_4, z28_5, z28_6, z28_7, z28_8, z28_9, z28_10, z28_11, f28_0, f28_1, f28_2, f28_3, f28_4, f28_5, f28_6, f28_7, f28_8, f28_9, f28_10, f28_11⟩ := cells12 B201.out
      go_wp2
      go_meet
      case rel => exact ⟨_, (false), (by first | rfl | (simp; done) | (simp [*]; done)), H', ⟨by first | omega | exact Nat.le_refl _⟩, ⟨by (with_reducible repeat first | apply RA | apply RN | apply RD); exact Kd.R_mono (Kd.R_far (p := ⟨g185, 13, none⟩) (Kd.R_far (p := ⟨g185, 12, none⟩) (Kd.R_far (p := ⟨g185, 11, none⟩) (Kd.R_far (p := ⟨g185, 10, none⟩) (Kd.R_far (p := ⟨g185, 9, none⟩) (Kd.R_far (p := ⟨g185, 8, none⟩) (Kd.R_far (p := ⟨g185, 7, none⟩) (Kd.R_far (p := ⟨g185, 6, none⟩) (Kd.R_far (p := ⟨g185, 5, none⟩) (Kd.R_far (p := ⟨g185, 4, none⟩) (Kd.R_far (p := ⟨g185, 3, none⟩) (Kd.R_far (p := ⟨g185, 2, none⟩) (Kd.R_far (p := ⟨g185, 1, none⟩) (Kd.R_far (p := ⟨g185, 0, none⟩) (Kd.R_types HO199.out B185.out (by decide)) (fun _ hk => hk.2) (.int .i64 t202)) (fun _ hk => hk.2) (.int .i64 t203)) (fun _ hk => hk.2) (.string t204)) (fun _ hk => hk.2) (.string t205)) (fun _ hk => hk.2) (.int .i64 t206)) (fun _ hk => hk.2) (.int .i64 t207)) (fun _ hk => hk.2) (.int .i64 t208)) (fun _ hk => hk.2) (.int .i64 t209)) (fun _ hk => hk.2) (.int .i64 t210)) (fun _ hk => hk.2) (.int .u32 t211)) (fun _ hk => hk.2) (.int .i64 t212)) (fun _ hk => hk.2) (.int .i64 t213)) (fun _ hk => hk.2) (.string t214)) (fun _ hk => hk.2) (.bool t215)) (fun _ hk => trivial)⟩, ⟨by (with_reducible repeat first | refine qN ?_ _ | refine qD ?_ | refine qA ?_ _); apply puts14; (with_reducible repeat first | refine qN ?_ _ | refine qD ?_ | refine qA ?_ _); exact B185.out⟩, ⟨by (with_reducible repeat first | refine qN ?_ _ | refine qD ?_ | refine qA ?_ _); (iterate 14 (refine qR ?_ NB201_185.out _; (with_reducible repeat first | refine qN ?_ _ | refine qD ?_ | refine qA ?_ _))); exact B201.out⟩, ⟨by repeat (first | (with_reducible first | exact HB.out | apply eA | apply eN | apply eD | refine eS ?_ GE185.out | refine eS ?_ GE201.out) | exact HB.out)⟩⟩
    ·rw [if_neg c18] at H
     have c18b0 : (t186 == 5) = false := beq_eq_false_iff_ne.mpr c18
     have c18b1 : (t186 != 5) = true := bne_iff_ne.mpr c18
     have H' := qM H
     clear H
     have hnb29 := NB201_185.out
     have hnc29 := NB185_201.out
     obtain ⟨z30_0, z30_1, z30_2, z30_3, z30_4, z30_5, z30_6, z30_7, z30_8, z30_9, z30_10, z30_11, f30_0, f30_1, f30_2, f30_3, f30_4, f30_5, f30_6, f30_7, f30_8, f30_9, f30_10, f30_11⟩ := cells12 B201.out
     go_wp2
     go_meet
     case rel => exact ⟨_, (false), (by first | rfl | (simp; done) | (simp [*]; done)), H', ⟨by first | omega | exact Nat.le_refl _⟩, ⟨by (with_reducible repeat first | apply RA | apply RN | apply RD); exact Kd.R_mono (Kd.R_far (p := ⟨g185, 13, none⟩) (Kd.R_far (p := ⟨g185, 12, none⟩) (Kd.R_far (p := ⟨g185, 11, none⟩) (Kd.R_far (p := ⟨g185, 10, none⟩) (Kd.R_far (p := ⟨g185, 9, none⟩) (Kd.R_far (p := ⟨g185, 8, none⟩) (Kd.R_far (p := ⟨g185, 7, none⟩) (Kd.R_far (p := ⟨g185, 6, none⟩) (Kd.R_far (p := ⟨g185, 5, none⟩) (Kd.R_far (p := ⟨g185, 4, none⟩) (Kd.R_far (p := ⟨g185, 3, none⟩) (Kd.R_far (p := ⟨g185, 2, none⟩) (Kd.R_far (p := ⟨g185, 1, none⟩) (Kd.R_far (p := ⟨g185, 0, none⟩) (Kd.R_types HO199.out B185.out (by decide)) (fun _ hk => hk.2) (.int .i64 t202)) (fun _ hk => hk.2) (.int .i64 t203)) (fun _ hk => hk.2) (.string t204)) (fun _ hk => hk.2) (.string t205)) (fun _ hk => hk.2) (.int .i64 t206)) (fun _ hk => hk.2) (.int .i64 t207)) (fun _ hk => hk.2) (.int .i64 t208)) (fun _ hk => hk.2) (.int .i64 t209)) (fun _ hk => hk.2) (.int .i64 t210)) (fun _ hk => hk.2) (.int .u32 t211)) (fun _ hk => hk.2) (.int .i64 t212)) (fun _ hk => hk.2) (.int .i64 t213)) (fun _ hk => hk.2) (.string t214)) (fun _ hk => hk.2) (.bool t215)) (fun _ hk => trivial)⟩, ⟨by (with_reducible repeat first | refine qN ?_ _ | refine qD ?_ | refine qA ?_ _); apply puts14; (with_reducible repeat first | refine qN ?_ _ | refine qD ?_ | refine qA ?_ _); exact B185.out⟩, ⟨by (with_reducible repeat first | refine qN ?_ _ | refine qD ?_ | refine qA ?_ _); (iterate 14 (refine qR ?_ NB201_185.out _; (with_reducible repeat first | refine qN ?_ _ | refine qD ?_ | refine qA ?_ _))); exact B201.out⟩, ⟨by repeat (first | (with_reducible first | exact HB.out | apply eA | apply eN | apply eD | refine eS ?_ GE185.out | refine eS ?_ GE201.out) | exact HB.out)⟩⟩
   ·replace c17 := Bool.eq_false_iff.mpr c17
    subst c17
    have H1 : (hogsheadlaw17_shown.j0 k false) = some r := by rw [if_neg (show ¬ (false = true) by decide)] at H; exact H
    clear H
    have H := H1
    clear H1
    have H' := qM H
    clear H
    go_wp2
    go_meet
    case rel => exact ⟨_, (false), (by first | rfl | (simp; done) | (simp [*]; done)), H', ⟨by first | omega | exact Nat.le_refl _⟩, ⟨by (with_reducible repeat first | apply RA | apply RN | apply RD); exact Kd.R_mono (Kd.R_far (p := ⟨g185, 13, none⟩) (Kd.R_far (p := ⟨g185, 12, none⟩) (Kd.R_far (p := ⟨g185, 11, none⟩) (Kd.R_far (p := ⟨g185, 10, none⟩) (Kd.R_far (p := ⟨g185, 9, none⟩) (Kd.R_far (p := ⟨g185, 8, none⟩) (Kd.R_far (p := ⟨g185, 7, none⟩) (Kd.R_far (p := ⟨g185, 6, none⟩) (Kd.R_far (p := ⟨g185, 5, none⟩) (Kd.R_far (p := ⟨g185, 4, none⟩) (Kd.R_far (p := ⟨g185, 3, none⟩) (Kd.R_far (p := ⟨g185, 2, none⟩) (Kd.R_far (p := ⟨g185, 1, none⟩) (Kd.R_far (p := ⟨g185, 0, none⟩) (Kd.R_types HO199.out B185.out (by decide)) (fun _ hk => hk.2) (.int .i64 t202)) (fun _ hk => hk.2) (.int .i64 t203)) (fun _ hk => hk.2) (.string t204)) (fun _ hk => hk.2) (.string t205)) (fun _ hk => hk.2) (.int .i64 t206)) (fun _ hk => hk.2) (.int .i64 t207)) (fun _ hk => hk.2) (.int .i64 t208)) (fun _ hk => hk.2) (.int .i64 t209)) (fun _ hk => hk.2) (.int .i64 t210)) (fun _ hk => hk.2) (.int .u32 t211)) (fun _ hk => hk.2) (.int .i64 t212)) (fun _ hk => hk.2) (.int .i64 t213)) (fun _ hk => hk.2) (.string t214)) (fun _ hk => hk.2) (.bool t215)) (fun _ hk => trivial)⟩, ⟨by (with_reducible repeat first | refine qN ?_ _ | refine qD ?_ | refine qA ?_ _); apply puts14; (with_reducible repeat first | refine qN ?_ _ | refine qD ?_ | refine qA ?_ _); exact B185.out⟩, ⟨by (with_reducible repeat first | refine qN ?_ _ | refine qD ?_ | refine qA ?_ _); (iterate 14 (refine qR ?_ NB201_185.out _; (with_reducible repeat first | refine qN ?_ _ | refine qD ?_ | refine qA ?_ _))); exact B201.out⟩, ⟨by repeat (first | (with_reducible first | exact HB.out | apply eA | apply eN | apply eD | refine eS ?_ GE185.out | refine eS ?_ GE201.out) | exact HB.out)⟩⟩
  ·rw [if_neg c16] at H
   have c16b0 : (t184 == 0) = false := beq_eq_false_iff_ne.mpr c16
   have c16b1 : (t184 != 0) = true := bne_iff_ne.mpr c16
   (first | rw [c16b0] | (simp only [i64_w, i32_w]; rw [c16b0]) | skip)
   have H' := qM H
   clear H
   go_wp2
   go_meet
   case rel => exact ⟨_, (false), (by first | rfl | (simp; done) | (simp [*]; done)), H', ⟨by first | omega | exact Nat.le_refl _⟩, ⟨by (with_reducible repeat first | apply RA | apply RN | apply RD); exact Kd.R_mono (Kd.R_far (p := ⟨g185, 13, none⟩) (Kd.R_far (p := ⟨g185, 12, none⟩) (Kd.R_far (p := ⟨g185, 11, none⟩) (Kd.R_far (p := ⟨g185, 10, none⟩) (Kd.R_far (p := ⟨g185, 9, none⟩) (Kd.R_far (p := ⟨g185, 8, none⟩) (Kd.R_far (p := ⟨g185, 7, none⟩) (Kd.R_far (p := ⟨g185, 6, none⟩) (Kd.R_far (p := ⟨g185, 5, none⟩) (Kd.R_far (p := ⟨g185, 4, none⟩) (Kd.R_far (p := ⟨g185, 3, none⟩) (Kd.R_far (p := ⟨g185, 2, none⟩) (Kd.R_far (p := ⟨g185, 1, none⟩) (Kd.R_far (p := ⟨g185, 0, none⟩) (Kd.R_types HO199.out B185.out (by decide)) (fun _ hk => hk.2) (.int .i64 t202)) (fun _ hk => hk.2) (.int .i64 t203)) (fun _ hk => hk.2) (.string t204)) (fun _ hk => hk.2) (.string t205)) (fun _ hk => hk.2) (.int .i64 t206)) (fun _ hk => hk.2) (.int .i64 t207)) (fun _ hk => hk.2) (.int .i64 t208)) (fun _ hk => hk.2) (.int .i64 t209)) (fun _ hk => hk.2) (.int .i64 t210)) (fun _ hk => hk.2) (.int .u32 t211)) (fun _ hk => hk.2) (.int .i64 t212)) (fun _ hk => hk.2) (.int .i64 t213)) (fun _ hk => hk.2) (.string t214)) (fun _ hk => hk.2) (.bool t215)) (fun _ hk => trivial)⟩, ⟨by (with_reducible repeat first | refine qN ?_ _ | refine qD ?_ | refine qA ?_ _); apply puts14; (with_reducible repeat first | refine qN ?_ _ | refine qD ?_ | refine qA ?_ _); exact B185.out⟩, ⟨by (with_reducible repeat first | refine qN ?_ _ | refine qD ?_ | refine qA ?_ _); (iterate 14 (refine qR ?_ NB201_185.out _; (with_reducible repeat first | refine qN ?_ _ | refine qD ?_ | refine qA ?_ _))); exact B201.out⟩, ⟨by repeat (first | (with_reducible first | exact HB.out | apply eA | apply eN | apply eD | refine eS ?_ GE185.out | refine eS ?_ GE201.out) | exact HB.out)⟩⟩
 case rest =>
  clear HC4
  try clear c1
  try clear c2
  try clear p2
  try clear c9
  try clear c10
  try clear c12
  try clear c16
  try clear c16b0
  try clear c16b1
  try clear c17
  try clear c18
  try clear c18b0
  try clear c18b1
  try clear c19
  try clear c19b0
  try clear c19b1
  try clear c20
  try clear c20b0
  try clear c20b1
  try clear c21
  try clear c24
  try clear c27
  try clear c29
  try clear z11_0
  try clear z11_1
  try clear z11_10
  try clear z11_11
  try clear z11_2
  try clear z11_3
  try clear z11_4
  try clear z11_5
  try clear z11_6
  try clear z11_7
  try clear z11_8
  try clear z11_9
  try clear z13_0
  try clear z13_1
  try clear z13_10
  try clear z13_11
  try clear z13_12
  try clear z13_13
  try clear z13_2
  try clear z13_3
  try clear z13_4
  try clear z13_5
  try clear z13_6
  try clear z13_7
  try clear z13_8
  try clear z13_9
  try clear z15_0
  try clear z15_1
  try clear z15_10
  try clear z15_11
  try clear z15_12
  try clear z15_13
  try clear z15_2
  try clear z15_3
  try clear z15_4
  try clear z15_5
  try clear z15_6
  try clear z15_7
  try clear z15_8
  try clear z15_9
  try clear z22_0
  try clear z22_1
  try clear z22_10
  try clear z22_11
  try clear z22_2
  try clear z22_3
  try clear z22_4
  try clear z22_5
  try clear z22_6
  try clear z22_7
  try clear z22_8
  try clear z22_9
  try clear z23_0
  try clear z23_1
  try clear z23_10
  try clear z23_11
  try clear z23_12
  try clear z23_13
  try clear z23_2
  try clear z23_3
  try clear z23_4
  try clear z23_5
  try clear z23_6
  try clear z23_7
  try clear z23_8
  try clear z23_9
  try clear z25_0
  try clear z25_1
  try clear z25_10
  try clear z25_11
  try clear z25_2
  try clear z25_3
  try clear z25_4
  try clear z25_5
  try clear z25_6
  try clear z25_7
  try clear z25_8
  try clear z25_9
  try clear z26_0
  try clear z26_1
  try clear z26_10
  try clear z26_11
  try clear z26_12
  try clear z26_13
  try clear z26_2
  try clear z26_3
  try clear z26_4
  try clear z26_5
  try clear z26_6
  try clear z26_7
  try clear z26_8
  try clear z26_9
  try clear z28_0
  try clear z28_1
  try clear z28_10
  try clear z28_11
  try clear z28_2
  try clear z28_3
  try clear z28_4
  try clear z28_5
  try clear z28_6
  try clear z28_7
  try clear z28_8
  try clear z28_9
  try clear z30_0
  try clear z30_1
  try clear z30_10
  try clear z30_11
  try clear z30_2
  try clear z30_3
  try clear z30_4
  try clear z30_5
  try clear z30_6
  try clear z30_7
  try clear z30_8
  try clear z30_9
  try clear z7_0
  try clear z7_1
  try clear z7_10
  try clear z7_11
  try clear z7_12
  try clear z7_13
  try clear z7_2
  try clear z7_3
  try clear z7_4
  try clear z7_5
  try clear z7_6
  try clear z7_7
  try clear z7_8
  try clear z7_9
  try clear f11_0
  try clear f11_1
  try clear f11_10
  try clear f11_11
  try clear f11_2
  try clear f11_3
  try clear f11_4
  try clear f11_5
  try clear f11_6
  try clear f11_7
  try clear f11_8
  try clear f11_9
  try clear f13_0
  try clear f13_1
  try clear f13_10
  try clear f13_11
  try clear f13_12
  try clear f13_13
  try clear f13_2
  try clear f13_3
  try clear f13_4
  try clear f13_5
  try clear f13_6
  try clear f13_7
  try clear f13_8
  try clear f13_9
  try clear f15_0
  try clear f15_1
  try clear f15_10
  try clear f15_11
  try clear f15_12
  try clear f15_13
  try clear f15_2
  try clear f15_3
  try clear f15_4
  try clear f15_5
  try clear f15_6
  try clear f15_7
  try clear f15_8
  try clear f15_9
  try clear f22_0
  try clear f22_1
  try clear f22_10
  try clear f22_11
  try clear f22_2
  try clear f22_3
  try clear f22_4
  try clear f22_5
  try clear f22_6
  try clear f22_7
  try clear f22_8
  try clear f22_9
  try clear f23_0
  try clear f23_1
  try clear f23_10
  try clear f23_11
  try clear f23_12
  try clear f23_13
  try clear f23_2
  try clear f23_3
  try clear f23_4
  try clear f23_5
  try clear f23_6
  try clear f23_7
  try clear f23_8
  try clear f23_9
  try clear f25_0
  try clear f25_1
  try clear f25_10
  try clear f25_11
  try clear f25_2
  try clear f25_3
  try clear f25_4
  try clear f25_5
  try clear f25_6
  try clear f25_7
  try clear f25_8
  try clear f25_9
  try clear f26_0
  try clear f26_1
  try clear f26_10
  try clear f26_11
  try clear f26_12
  try clear f26_13
  try clear f26_2
  try clear f26_3
  try clear f26_4
  try clear f26_5
  try clear f26_6
  try clear f26_7
  try clear f26_8
  try clear f26_9
  try clear f28_0
  try clear f28_1
  try clear f28_10
  try clear f28_11
  try clear f28_2
  try clear f28_3
  try clear f28_4
  try clear f28_5
  try clear f28_6
  try clear f28_7
  try clear f28_8
  try clear f28_9
  try clear f30_0
  try clear f30_1
  try clear f30_10
  try clear f30_11
  try clear f30_2
  try clear f30_3
  try clear f30_4
  try clear f30_5
  try clear f30_6
  try clear f30_7
  try clear f30_8
  try clear f30_9
  try clear f7_0
  try clear f7_1
  try clear f7_10
  try clear f7_11
  try clear f7_12
  try clear f7_13
  try clear f7_2
  try clear f7_3
  try clear f7_4
  try clear f7_5
  try clear f7_6
  try clear f7_7
  try clear f7_8
  try clear f7_9
  obtain ⟨kq, x0_3, rfl, HA, HJ3, HO_202011, B185, B201, HB⟩ := hcut
  cases kq with
  | zero => exact absurd HA.out (by simp [hogsheadlaw17_shown.j0])
  | succ kj3 =>
   have H := HA.out
   clear HA
   simp only [hogsheadlaw17_shown.j0] at H
   obtain rfl := Option.some.inj H
   go_wp2
   go_ret
   exact ⟨by first | rfl | (simp [errW_none, errW_some] <;> rfl) | (simp [*, errW_none, errW_some] <;> rfl), by repeat (first | (with_reducible first | exact HB.out | apply eA | apply eN | apply eD | refine eS ?_ GE185.out | refine eS ?_ GE201.out) | exact HB.out)⟩

end Go.Proofs.Ytmjmmgefkebggaa.PAll
