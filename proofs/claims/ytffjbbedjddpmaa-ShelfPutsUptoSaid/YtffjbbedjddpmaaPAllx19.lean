/- Functions of the program as plain Lean functions, and that each call comes to what they say. Laid by a program of this session (hprint.py); Lean checks it. -/
import Derived.Test.YtffjbbedjddpmaaPAllx0
import Derived.Test.YtffjbbedjddpmaaPAllx1
import Derived.Test.YtffjbbedjddpmaaPAllx12
import Derived.Test.YtffjbbedjddpmaaPAllx17
import Derived.Test.YtffjbbedjddpmaaPAllx18
namespace Go.Proofs.Ytffjbbedjddpmaa.PAll
open Go.RowKit Go.Proofs.YtffjbbedjddpmaaW.PrintWords Go.Proofs.YtffjbbedjddpmaaW.PrintLast Go.Proofs.YtffjbbedjddpmaaW.PrintMore
attribute [local go_sem] max2_int min2_int max_two min_two max_three min_three max_four min_four   -- for this text's walks alone
set_option linter.unusedVariables false
set_option linter.unusedSimpArgs false
attribute [local irreducible] World.setCell

attribute [local go_sem high] eqA27
/-! ### hogsheadlaw10_shown: function 11 -/
def hogsheadlaw10_shown.j0 : Nat → Bool → Option (Bool)
 | 0, _ => none
 | k + 1, x0 => some x0
def hogsheadlaw10_shown.f (k : Nat)  : Option (Bool) := (hogsheadref08_New.f 2).bind fun bt144 => ((shelf_Put.f k bt144.1 bt144.2.1 bt144.2.2.1 bt144.2.2.2.1 1 0 (⟨#[97, 98]⟩ : ByteArray)).bind fun bt154 => ((shelf_Put.f k bt154.1 bt154.2.1 bt154.2.2.1 bt154.2.2.2.1 1 0 (⟨#[99, 100]⟩ : ByteArray)).bind fun bt163 => ((shelf_List.f k bt154.1 bt154.2.1 bt154.2.2.1 bt154.2.2.2.1).bind fun t173 => (if bt154.2.2.2.2 = 0 then (if bt163.2.2.2.2 = 8 then (if (t173.length : Int) = 1 then (if 0 < (t173.length : Int) then (hogsheadlaw10_shown.j0 k (((rd_T27 t173 0).f0) == 1 && (((rd_T27 t173 0).f1) == 0))) else (none)) else (hogsheadlaw10_shown.j0 k false)) else (hogsheadlaw10_shown.j0 k false)) else (hogsheadlaw10_shown.j0 k false)))))
theorem hogsheadlaw10_shown.mono_l : ∀ k, (∀ y0, LeO (hogsheadlaw10_shown.j0 k y0) (hogsheadlaw10_shown.j0 (k + 1) y0))
 | 0 => fun _ r h => by simp [hogsheadlaw10_shown.j0] at h
 | k + 1 => by
  have ih0 := hogsheadlaw10_shown.mono_l k
  ·intro y0
   unfold hogsheadlaw10_shown.j0
   repeat' first
   | (with_reducible exact ih0 _)
   | (with_reducible exact shelf_List.mono _ _ _ _ _)
   | (with_reducible exact shelf_Put.mono _ _ _ _ _ _ _ _)
   | (with_reducible exact LeO.refl _)
   | (with_reducible exact LeO.none _)
   | (with_reducible refine LeO.ite ?_ ?_)
   | (with_reducible refine LeO.bind ?_ (fun _ => ?_))
   | exact ih0 _
   | exact shelf_List.mono _ _ _ _ _
   | exact shelf_Put.mono _ _ _ _ _ _ _ _
   | exact LeO.none _
   | refine LeO.ite ?_ ?_
   | refine LeO.bind ?_ (fun _ => ?_)
theorem hogsheadlaw10_shown.mono : ∀ k, LeO (hogsheadlaw10_shown.f k ) (hogsheadlaw10_shown.f (k + 1) ) := by
 intro  k
 have ih0 := hogsheadlaw10_shown.mono_l k
 unfold hogsheadlaw10_shown.f
 repeat' first
   | (with_reducible exact ih0 _)
   | (with_reducible exact shelf_List.mono _ _ _ _ _)
   | (with_reducible exact shelf_Put.mono _ _ _ _ _ _ _ _)
   | (with_reducible exact LeO.refl _)
   | (with_reducible exact LeO.none _)
   | (with_reducible refine LeO.ite ?_ ?_)
   | (with_reducible refine LeO.bind ?_ (fun _ => ?_))
   | exact ih0 _
   | exact shelf_List.mono _ _ _ _ _
   | exact shelf_Put.mono _ _ _ _ _ _ _ _
   | exact LeO.none _
   | refine LeO.ite ?_ ?_
   | refine LeO.bind ?_ (fun _ => ?_)
set_option maxHeartbeats 40000000 in
set_option maxRecDepth 100000 in
theorem hogsheadlaw10_shown.calls (k : Nat)  (r : Bool) (w : World) (h : hogsheadlaw10_shown.f k  = some r) :
  Calls Try.prog 11 #[] w fun e w' => e = .returned (.bool r) ∧ Below w.heap.size w w' := by
 have hu25 := Try.underlying25
 have hu43 := Try.underlying43
 have hu27 := Try.underlying27
 have HB := qM (Below.refl w.heap.size w)
 have H : ((hogsheadref08_New.f 2).bind fun bt144 => ((shelf_Put.f k bt144.1 bt144.2.1 bt144.2.2.1 bt144.2.2.2.1 1 0 (⟨#[97, 98]⟩ : ByteArray)).bind fun bt154 => ((shelf_Put.f k bt154.1 bt154.2.1 bt154.2.2.1 bt154.2.2.2.1 1 0 (⟨#[99, 100]⟩ : ByteArray)).bind fun bt163 => ((shelf_List.f k bt154.1 bt154.2.1 bt154.2.2.1 bt154.2.2.2.1).bind fun t173 => (if bt154.2.2.2.2 = 0 then (if bt163.2.2.2.2 = 8 then (if (t173.length : Int) = 1 then (if 0 < (t173.length : Int) then (hogsheadlaw10_shown.j0 k (((rd_T27 t173 0).f0) == 1 && (((rd_T27 t173 0).f1) == 0))) else (none)) else (hogsheadlaw10_shown.j0 k false)) else (hogsheadlaw10_shown.j0 k false)) else (hogsheadlaw10_shown.j0 k false)))))) = some r := h
 clear h
 replace H := Option.bind_eq_some_iff.mp H
 obtain ⟨⟨t144, t147, t150, t151, t152⟩, A10, H⟩ := H
 replace H : ((shelf_Put.f k t144 t147 t150 t151 1 0 (⟨#[97, 98]⟩ : ByteArray)).bind fun bt154 => ((shelf_Put.f k bt154.1 bt154.2.1 bt154.2.2.1 bt154.2.2.2.1 1 0 (⟨#[99, 100]⟩ : ByteArray)).bind fun bt163 => ((shelf_List.f k bt154.1 bt154.2.1 bt154.2.2.1 bt154.2.2.2.1).bind fun t173 => (if bt154.2.2.2.2 = 0 then (if bt163.2.2.2.2 = 8 then (if (t173.length : Int) = 1 then (if 0 < (t173.length : Int) then (hogsheadlaw10_shown.j0 k (((rd_T27 t173 0).f0) == 1 && (((rd_T27 t173 0).f1) == 0))) else (none)) else (hogsheadlaw10_shown.j0 k false)) else (hogsheadlaw10_shown.j0 k false)) else (hogsheadlaw10_shown.j0 k false))))) = some r := H
 have A1 := qM A10
 clear A10
 replace H := Option.bind_eq_some_iff.mp H
 obtain ⟨⟨t154, t157, t160, t161, t162⟩, A20, H⟩ := H
 replace H : ((shelf_Put.f k t154 t157 t160 t161 1 0 (⟨#[99, 100]⟩ : ByteArray)).bind fun bt163 => ((shelf_List.f k t154 t157 t160 t161).bind fun t173 => (if t162 = 0 then (if bt163.2.2.2.2 = 8 then (if (t173.length : Int) = 1 then (if 0 < (t173.length : Int) then (hogsheadlaw10_shown.j0 k (((rd_T27 t173 0).f0) == 1 && (((rd_T27 t173 0).f1) == 0))) else (none)) else (hogsheadlaw10_shown.j0 k false)) else (hogsheadlaw10_shown.j0 k false)) else (hogsheadlaw10_shown.j0 k false)))) = some r := H
 have A2 := qM A20
 clear A20
 replace H := Option.bind_eq_some_iff.mp H
 obtain ⟨⟨t163, t166, t169, t170, t171⟩, A30, H⟩ := H
 replace H : ((shelf_List.f k t154 t157 t160 t161).bind fun t173 => (if t162 = 0 then (if t171 = 8 then (if (t173.length : Int) = 1 then (if 0 < (t173.length : Int) then (hogsheadlaw10_shown.j0 k (((rd_T27 t173 0).f0) == 1 && (((rd_T27 t173 0).f1) == 0))) else (none)) else (hogsheadlaw10_shown.j0 k false)) else (hogsheadlaw10_shown.j0 k false)) else (hogsheadlaw10_shown.j0 k false))) = some r := H
 have A3 := qM A30
 clear A30
 replace H := Option.bind_eq_some_iff.mp H
 obtain ⟨t173, A40, H⟩ := H
 replace H : (if t162 = 0 then (if t171 = 8 then (if (t173.length : Int) = 1 then (if 0 < (t173.length : Int) then (hogsheadlaw10_shown.j0 k (((rd_T27 t173 0).f0) == 1 && (((rd_T27 t173 0).f1) == 0))) else (none)) else (hogsheadlaw10_shown.j0 k false)) else (hogsheadlaw10_shown.j0 k false)) else (hogsheadlaw10_shown.j0 k false)) = some r := H
 have A4 := qM A40
 clear A40
 have HC5 := qM H
 clear H
 go_enter Try.func11, Try.ntmps11
 go_upto_region 5 with (first | ((with_reducible refine gate_callee (f := 35) rfl ?_); refine goesL_ (some 8) rfl rfl Try.func35 (by kernel_rfl) rfl #[.int .i64 2] rfl (by (try simp only [List.map_toArray, List.map_cons, List.map_nil]); first | done | rfl | (simp only [List.length_drop, List.length_take]; rfl)) ?_; (with_reducible refine (hogsheadref08_New.calls 2 t144 t147 t150 t151 t152 _ A1.out).mono ?_); rintro e w6 ⟨v145, v148, rfl, ho0, ho1, hb⟩; refine ⟨_, rfl, ?_⟩; have n0_ := qM (Kd.R_lower ho0 (eZ (by repeat (first | (with_reducible first | exact HB.out | apply eA | apply eN | apply eD) | exact HB.out)))); have n1_ := qM (Kd.R_lower ho1 (eZ (by repeat (first | (with_reducible first | exact HB.out | apply eA | apply eN | apply eD) | exact HB.out)))); have n2_ := qM (eT (by repeat (first | (with_reducible first | exact HB.out | apply eA | apply eN | apply eD) | exact HB.out)) hb); clear HB; have HO146 := n0_; have HO149 := n1_; have HB := n2_; clear n0_ n1_ n2_; (try clear hb); (try clear hb2); (try clear hk); (try clear hi); (try clear ho0); (try clear ho1)) | ((with_reducible refine gate_dst (N := 1) rfl ?_); (try (refine gate_guard (by rfl) ?_; dsimp only)); refine box_event ?hg (N := 1) ?hd (cs := #[.slice none 0 0, .slice none 0 0, .int .i64 0, .bool false]) (t := 25) ?hr ?_; (case hd => rfl); (case hg => rfl); (case hr => first | (go_simp; done) | (go_simp; rfl)); intro g153 hg w7 hbox hb; have n0_ := qM (Kd.R_below (by (with_reducible repeat first | apply RA | apply RN | apply RD); exact HO146.out) hb); have n1_ := qM (Kd.R_below (by (with_reducible repeat first | apply RA | apply RN | apply RD); exact HO149.out) hb); have n2_ := qM (eT (by repeat (first | (with_reducible first | exact HB.out | apply eA | apply eN | apply eD) | exact HB.out)) hb); have n3_ := qM (hbox); have n4_ := qM ((by rw [hg]; exact (eZ (by repeat (first | (with_reducible first | exact HB.out | apply eA | apply eN | apply eD) | exact HB.out))) : w.heap.size ≤ g153)); have n5_ := n4_; clear HO146 HO149 HB; have HO146 := n0_; have HO149 := n1_; have HB := n2_; have B153 := n3_; have GW153 := n4_; have GE153 := n5_; clear n0_ n1_ n2_ n3_ n4_ n5_; clear hb hbox hg; obtain ⟨Ao8, co8, eo8⟩ := Kd.R_slice HO146.out; subst eo8; obtain ⟨z9_0, z9_1, z9_2, z9_3, f9_0, f9_1, f9_2, f9_3⟩ := cells4 B153.out; obtain ⟨Ao10, co10, eo10⟩ := Kd.R_slice HO149.out; subst eo10) | ((with_reducible refine gate_store (t := 25) (p := 1) rfl ?_); refine store_event (t := 25) (p := 1) (v := ?vo_w11) (w1 := ((((w7.setCell ⟨g153, 0, none⟩ (.slice Ao8 t144.length co8)).setCell ⟨g153, 1, none⟩ (.slice Ao10 t147.length co10)).setCell ⟨g153, 2, none⟩ (.int .i64 t150)).setCell ⟨g153, 3, none⟩ (.bool t151))) ?hg ?ho ?hn ?hr ?_; (case ho => rfl); (case hg => rfl); (case hn => rfl); (case hr => first | (go_simp; done) | (go_simp; rfl)); intro w11 hw; have n0_ : Aside0 (Kd.R Kd.string 9 w11 w.heap.size (fun _ => True) (.slice Ao8 t144.length co8) t144) := ⟨(by rw [hw]; exact (by (with_reducible repeat first | apply RA | apply RN | apply RD); exact Kd.R_mono (Kd.R_far (p := ⟨g153, 3, none⟩) (Kd.R_far (p := ⟨g153, 2, none⟩) (Kd.R_far (p := ⟨g153, 1, none⟩) (Kd.R_far (p := ⟨g153, 0, none⟩) (Kd.R_types HO146.out B153.out (by decide)) (fun _ hk => hk.2) (.slice Ao8 t144.length co8)) (fun _ hk => hk.2) (.slice Ao10 t147.length co10)) (fun _ hk => hk.2) (.int .i64 t150)) (fun _ hk => hk.2) (.bool t151)) (fun _ hk => trivial)))⟩; have n1_ : Aside0 (Kd.R k94 94 w11 w.heap.size (fun _ => True) (.slice Ao10 t147.length co10) t147) := ⟨(by rw [hw]; exact (by (with_reducible repeat first | apply RA | apply RN | apply RD); exact Kd.R_mono (Kd.R_far (p := ⟨g153, 3, none⟩) (Kd.R_far (p := ⟨g153, 2, none⟩) (Kd.R_far (p := ⟨g153, 1, none⟩) (Kd.R_far (p := ⟨g153, 0, none⟩) (Kd.R_types HO149.out B153.out (by decide)) (fun _ hk => hk.2) (.slice Ao8 t144.length co8)) (fun _ hk => hk.2) (.slice Ao10 t147.length co10)) (fun _ hk => hk.2) (.int .i64 t150)) (fun _ hk => hk.2) (.bool t151)) (fun _ hk => trivial)))⟩; have n2_ : Aside0 (w11.heap[g153]? = some (.cells #[.slice Ao8 t144.length co8, .slice Ao10 t147.length co10, .int .i64 t150, .bool t151] 25 (0, 0))) := ⟨(by rw [hw]; exact (by (with_reducible repeat first | refine qN ?_ _ | refine qD ?_ | refine qA ?_ _); apply puts4; (with_reducible repeat first | refine qN ?_ _ | refine qD ?_ | refine qA ?_ _); exact B153.out))⟩; have n3_ : Aside0 (Below w.heap.size w w11) := ⟨(by rw [hw]; exact (by repeat (first | (with_reducible first | exact HB.out | apply eA | apply eN | apply eD | refine eU ?_ (by assumption)) | exact HB.out)))⟩; clear hw HO146 HO149 B153 HB; have HO146 := n0_; have HO149 := n1_; have B153 := n2_; have HB := n3_; clear n0_ n1_ n2_ n3_; obtain ⟨z12_0, z12_1, z12_2, z12_3, f12_0, f12_1, f12_2, f12_3⟩ := cells4 B153.out) | ((with_reducible refine gate_callee (f := 22) rfl ?_); refine goesL_ (some 14) rfl rfl Try.func22 (by kernel_rfl) rfl #[.agg #[.slice Ao8 t144.length co8, .slice Ao10 t147.length co10, .int .i64 t150, .bool t151], .agg #[.int .i64 1, .int .i64 0, .string (⟨#[97, 98]⟩ : ByteArray)]] rfl (by (try simp only [List.map_toArray, List.map_cons, List.map_nil]); first | done | rfl | (simp only [List.length_drop, List.length_take]; rfl)) ?_; (with_reducible refine (shelf_Put.calls k (fun k_ => some k_ = (.slice Ao8 t144.length co8 : Value).ownBlock) _ _ t144 (fun k_ => some k_ = (.slice Ao10 t147.length co10 : Value).ownBlock) _ _ t147 t150 t151 1 0 (⟨#[97, 98]⟩ : ByteArray) t154 t157 t160 t161 t162 _ ?side1 ?side2 A2.out).mono ?_); (case side1 => exact Kd.R_V (Kd.R_tight rfl (Kd.R_types (Kd.R_apart' (HO146.out) (Kd.R_typed HO149.out) (by decide)) B153.out (by decide)))); (case side2 => exact Kd.R_V (Kd.R_tight rfl (Kd.R_types (Kd.R_apart' (HO149.out) (Kd.R_typed HO146.out) (by decide)) B153.out (by decide)))); rintro e w13 ⟨v155, v158, rfl, ho0, ho1, hb⟩; refine ⟨_, rfl, ?_⟩; have n0_ := qM (Kd.R_below (by (with_reducible repeat first | apply RA | apply RN | apply RD); exact HO146.out) hb); have n1_ := qM (Kd.R_below (by (with_reducible repeat first | apply RA | apply RN | apply RD); exact HO149.out) hb); have n2_ := qM (Vl (Vm (ok' := fun k_ => k_ ≠ g153) ho0 (fun k_ hk_ => Or.elim hk_ (fun hs_ => Or.elim hs_ (fun hs_ => ((Kd.R_types (Kd.R_apart' (HO146.out) (Kd.R_typed HO149.out) (by decide)) B153.out (by decide)).1 k_ hs_.symm).2) (fun hs_ => ((Kd.R_types (Kd.R_apart' (HO149.out) (Kd.R_typed HO146.out) (by decide)) B153.out (by decide)).1 k_ hs_.symm).2)) (fun hn_ => (Fb (g := g153) (by (with_reducible repeat first | refine qN ?_ _ | refine qD ?_ | refine qA ?_ _); exact B153.out) k_ hn_)))) (eZ (by repeat (first | (with_reducible first | exact HB.out | apply eA | apply eN | apply eD | refine eU ?_ (by assumption)) | exact HB.out)))); have n3_ := qM (Vl (Vm (ok' := fun k_ => k_ ≠ g153) ho1 (fun k_ hk_ => Or.elim hk_ (fun hs_ => Or.elim hs_ (fun hs_ => ((Kd.R_types (Kd.R_apart' (HO146.out) (Kd.R_typed HO149.out) (by decide)) B153.out (by decide)).1 k_ hs_.symm).2) (fun hs_ => ((Kd.R_types (Kd.R_apart' (HO149.out) (Kd.R_typed HO146.out) (by decide)) B153.out (by decide)).1 k_ hs_.symm).2)) (fun hn_ => (Fb (g := g153) (by (with_reducible repeat first | refine qN ?_ _ | refine qD ?_ | refine qA ?_ _); exact B153.out) k_ hn_)))) (eZ (by repeat (first | (with_reducible first | exact HB.out | apply eA | apply eN | apply eD | refine eU ?_ (by assumption)) | exact HB.out)))); have n4_ := qM (qB (g := g153) (by (with_reducible repeat first | refine qN ?_ _ | refine qD ?_ | refine qA ?_ _); exact B153.out) hb); have n5_ := qM (eT (by repeat (first | (with_reducible first | exact HB.out | apply eA | apply eN | apply eD | refine eU ?_ (by assumption)) | exact HB.out)) hb); clear HO146 HO149 B153 HB; have HO146 := n0_; have HO149 := n1_; have HO156 := n2_; have HO159 := n3_; have B153 := n4_; have HB := n5_; clear n0_ n1_ n2_ n3_ n4_ n5_; (try clear hb); (try clear hb2); (try clear hk); (try clear hi); (try clear ho0); (try clear ho1); obtain ⟨Ao14, co14, eo14⟩ := Kd.V_slice HO156.out; subst eo14; obtain ⟨z15_0, z15_1, z15_2, z15_3, f15_0, f15_1, f15_2, f15_3⟩ := cells4 B153.out; obtain ⟨Ao16, co16, eo16⟩ := Kd.V_slice HO159.out; subst eo16) | ((with_reducible refine gate_store (t := 25) (p := 1) rfl ?_); refine store_event (t := 25) (p := 1) (v := ?vo_w17) (w1 := ((((w13.setCell ⟨g153, 0, none⟩ (.slice Ao14 t154.length co14)).setCell ⟨g153, 1, none⟩ (.slice Ao16 t157.length co16)).setCell ⟨g153, 2, none⟩ (.int .i64 t160)).setCell ⟨g153, 3, none⟩ (.bool t161))) ?hg ?ho ?hn ?hr ?_; (case ho => rfl); (case hg => rfl); (case hn => rfl); (case hr => first | (go_simp; done) | (go_simp; rfl)); intro w17 hw; have n0_ : Aside0 (Kd.R Kd.string 9 w17 w.heap.size (fun _ => True) (.slice Ao8 t144.length co8) t144) := ⟨(by rw [hw]; exact (by (with_reducible repeat first | apply RA | apply RN | apply RD); exact Kd.R_mono (Kd.R_far (p := ⟨g153, 3, none⟩) (Kd.R_far (p := ⟨g153, 2, none⟩) (Kd.R_far (p := ⟨g153, 1, none⟩) (Kd.R_far (p := ⟨g153, 0, none⟩) (Kd.R_types HO146.out B153.out (by decide)) (fun _ hk => hk.2) (.slice Ao14 t154.length co14)) (fun _ hk => hk.2) (.slice Ao16 t157.length co16)) (fun _ hk => hk.2) (.int .i64 t160)) (fun _ hk => hk.2) (.bool t161)) (fun _ hk => trivial)))⟩; have n1_ : Aside0 (Kd.R k94 94 w17 w.heap.size (fun _ => True) (.slice Ao10 t147.length co10) t147) := ⟨(by rw [hw]; exact (by (with_reducible repeat first | apply RA | apply RN | apply RD); exact Kd.R_mono (Kd.R_far (p := ⟨g153, 3, none⟩) (Kd.R_far (p := ⟨g153, 2, none⟩) (Kd.R_far (p := ⟨g153, 1, none⟩) (Kd.R_far (p := ⟨g153, 0, none⟩) (Kd.R_types HO149.out B153.out (by decide)) (fun _ hk => hk.2) (.slice Ao14 t154.length co14)) (fun _ hk => hk.2) (.slice Ao16 t157.length co16)) (fun _ hk => hk.2) (.int .i64 t160)) (fun _ hk => hk.2) (.bool t161)) (fun _ hk => trivial)))⟩; have n2_ : Aside0 (Kd.V Kd.string 9 w17 w.heap.size (fun k_ => k_ ≠ g153) (.slice Ao14 t154.length co14) t154) := ⟨(by rw [hw]; exact (by (with_reducible repeat first | apply VA | apply VN | apply VD); exact Vm (Vf (p := ⟨g153, 3, none⟩) (Vf (p := ⟨g153, 2, none⟩) (Vf (p := ⟨g153, 1, none⟩) (Vf (p := ⟨g153, 0, none⟩) (Vm HO156.out (fun k_ hk => (⟨hk, hk⟩ : _ ∧ k_ ≠ g153))) (fun _ hk => hk.2) (.slice Ao14 t154.length co14)) (fun _ hk => hk.2) (.slice Ao16 t157.length co16)) (fun _ hk => hk.2) (.int .i64 t160)) (fun _ hk => hk.2) (.bool t161)) (fun _ hk => hk.1)))⟩; have n3_ : Aside0 (Kd.V k94 94 w17 w.heap.size (fun k_ => k_ ≠ g153) (.slice Ao16 t157.length co16) t157) := ⟨(by rw [hw]; exact (by (with_reducible repeat first | apply VA | apply VN | apply VD); exact Vm (Vf (p := ⟨g153, 3, none⟩) (Vf (p := ⟨g153, 2, none⟩) (Vf (p := ⟨g153, 1, none⟩) (Vf (p := ⟨g153, 0, none⟩) (Vm HO159.out (fun k_ hk => (⟨hk, hk⟩ : _ ∧ k_ ≠ g153))) (fun _ hk => hk.2) (.slice Ao14 t154.length co14)) (fun _ hk => hk.2) (.slice Ao16 t157.length co16)) (fun _ hk => hk.2) (.int .i64 t160)) (fun _ hk => hk.2) (.bool t161)) (fun _ hk => hk.1)))⟩; have n4_ : Aside0 (w17.heap[g153]? = some (.cells #[.slice Ao14 t154.length co14, .slice Ao16 t157.length co16, .int .i64 t160, .bool t161] 25 (0, 0))) := ⟨(by rw [hw]; exact (by (with_reducible repeat first | refine qN ?_ _ | refine qD ?_ | refine qA ?_ _); apply puts4; (with_reducible repeat first | refine qN ?_ _ | refine qD ?_ | refine qA ?_ _); exact B153.out))⟩; have n5_ : Aside0 (Below w.heap.size w w17) := ⟨(by rw [hw]; exact (by repeat (first | (with_reducible first | exact HB.out | apply eA | apply eN | apply eD | refine eU ?_ (by assumption)) | exact HB.out)))⟩; clear hw HO146 HO149 HO156 HO159 B153 HB; have HO146 := n0_; have HO149 := n1_; have HO156 := n2_; have HO159 := n3_; have B153 := n4_; have HB := n5_; clear n0_ n1_ n2_ n3_ n4_ n5_; obtain ⟨z18_0, z18_1, z18_2, z18_3, f18_0, f18_1, f18_2, f18_3⟩ := cells4 B153.out) | ((with_reducible refine gate_callee (f := 22) rfl ?_); refine goesL_ (some 20) rfl rfl Try.func22 (by kernel_rfl) rfl #[.agg #[.slice Ao14 t154.length co14, .slice Ao16 t157.length co16, .int .i64 t160, .bool t161], .agg #[.int .i64 1, .int .i64 0, .string (⟨#[99, 100]⟩ : ByteArray)]] rfl (by (try simp only [List.map_toArray, List.map_cons, List.map_nil]); first | done | rfl | (simp only [List.length_drop, List.length_take]; rfl)) ?_; (with_reducible refine (shelf_Put.calls k (fun k_ => k_ ≠ g153) _ _ t154 (fun k_ => k_ ≠ g153) _ _ t157 t160 t161 1 0 (⟨#[99, 100]⟩ : ByteArray) t163 t166 t169 t170 t171 _ ?side1 ?side2 A3.out).mono ?_); (case side1 => exact HO156.out); (case side2 => exact HO159.out); rintro e w19 ⟨v164, v167, rfl, ho0, ho1, hb⟩; refine ⟨_, rfl, ?_⟩; have n0_ := qM (Kd.R_below (by (with_reducible repeat first | apply RA | apply RN | apply RD); exact HO146.out) hb); have n1_ := qM (Kd.R_below (by (with_reducible repeat first | apply RA | apply RN | apply RD); exact HO149.out) hb); have n2_ := qM (Vb (by (with_reducible repeat first | apply VA | apply VN | apply VD); exact HO156.out) hb); have n3_ := qM (Vb (by (with_reducible repeat first | apply VA | apply VN | apply VD); exact HO159.out) hb); have n4_ := qM (Vl (Vm (ok' := fun k_ => k_ ≠ g153) ho0 (fun k_ hk_ => Or.elim hk_ (fun hs_ => Or.elim hs_ (fun hs_ => hs_) (fun hs_ => hs_)) (fun hn_ => (Fb (g := g153) (by (with_reducible repeat first | refine qN ?_ _ | refine qD ?_ | refine qA ?_ _); exact B153.out) k_ hn_)))) (eZ (by repeat (first | (with_reducible first | exact HB.out | apply eA | apply eN | apply eD | refine eU ?_ (by assumption)) | exact HB.out)))); have n5_ := qM (Vl (Vm (ok' := fun k_ => k_ ≠ g153) ho1 (fun k_ hk_ => Or.elim hk_ (fun hs_ => Or.elim hs_ (fun hs_ => hs_) (fun hs_ => hs_)) (fun hn_ => (Fb (g := g153) (by (with_reducible repeat first | refine qN ?_ _ | refine qD ?_ | refine qA ?_ _); exact B153.out) k_ hn_)))) (eZ (by repeat (first | (with_reducible first | exact HB.out | apply eA | apply eN | apply eD | refine eU ?_ (by assumption)) | exact HB.out)))); have n6_ := qM (qB (g := g153) (by (with_reducible repeat first | refine qN ?_ _ | refine qD ?_ | refine qA ?_ _); exact B153.out) hb); have n7_ := qM (eT (by repeat (first | (with_reducible first | exact HB.out | apply eA | apply eN | apply eD | refine eU ?_ (by assumption)) | exact HB.out)) hb); clear HO146 HO149 HO156 HO159 B153 HB; have HO146 := n0_; have HO149 := n1_; have HO156 := n2_; have HO159 := n3_; have HO165 := n4_; have HO168 := n5_; have B153 := n6_; have HB := n7_; clear n0_ n1_ n2_ n3_ n4_ n5_ n6_ n7_; (try clear hb); (try clear hb2); (try clear hk); (try clear hi); (try clear ho0); (try clear ho1)) | ((with_reducible refine gate_dst (N := 4) rfl ?_); (try (refine gate_guard (by rfl) ?_; dsimp only)); refine box_event ?hg (N := 4) ?hd (cs := #[.slice none 0 0, .slice none 0 0, .int .i64 0, .bool false]) (t := 25) ?hr ?_; (case hd => rfl); (case hg => rfl); (case hr => first | (go_simp; done) | (go_simp; rfl)); intro g172 hg w20 hbox hb; have n0_ := qM (Kd.R_below (by (with_reducible repeat first | apply RA | apply RN | apply RD); exact HO146.out) hb); have n1_ := qM (Kd.R_below (by (with_reducible repeat first | apply RA | apply RN | apply RD); exact HO149.out) hb); have n2_ := qM (Vb (Kd.V_elderB (by (with_reducible repeat first | apply VA | apply VN | apply VD); exact HO156.out) g172 (Nat.le_of_eq hg.symm)) hb); have n3_ := qM (Vb (Kd.V_elderB (by (with_reducible repeat first | apply VA | apply VN | apply VD); exact HO159.out) g172 (Nat.le_of_eq hg.symm)) hb); have n4_ := qM (Vb (Kd.V_elderB (by (with_reducible repeat first | apply VA | apply VN | apply VD); exact HO165.out) g172 (Nat.le_of_eq hg.symm)) hb); have n5_ := qM (Vb (Kd.V_elderB (by (with_reducible repeat first | apply VA | apply VN | apply VD); exact HO168.out) g172 (Nat.le_of_eq hg.symm)) hb); have n6_ := qM (qB (g := g153) (by (with_reducible repeat first | refine qN ?_ _ | refine qD ?_ | refine qA ?_ _); exact B153.out) hb); have n7_ := qM (eT (by repeat (first | (with_reducible first | exact HB.out | apply eA | apply eN | apply eD | refine eU ?_ (by assumption)) | exact HB.out)) hb); have n8_ := qM (hbox); have n9_ := qM ((by rw [hg]; exact (eZ (by repeat (first | (with_reducible first | exact HB.out | apply eA | apply eN | apply eD | refine eU ?_ (by assumption)) | exact HB.out))) : w.heap.size ≤ g172)); have n10_ := n9_; have n11_ := qM ((by rw [hg]; exact Nat.ne_of_lt (qL (g := g153) (by (with_reducible repeat first | refine qN ?_ _ | refine qD ?_ | refine qA ?_ _); exact B153.out)) : g153 ≠ g172)); have n12_ := qM (Ne.symm n11_.out); clear HO146 HO149 HO156 HO159 HO165 HO168 B153 HB; have HO146 := n0_; have HO149 := n1_; have HO156 := n2_; have HO159 := n3_; have HO165 := n4_; have HO168 := n5_; have B153 := n6_; have HB := n7_; have B172 := n8_; have GW172 := n9_; have GE172 := n10_; have NB153_172 := n11_; have NB172_153 := n12_; clear n0_ n1_ n2_ n3_ n4_ n5_ n6_ n7_ n8_ n9_ n10_ n11_ n12_; clear hb hbox hg; obtain ⟨Ao21, co21, eo21⟩ := Kd.V_slice HO165.out; subst eo21; have hnb22 := NB172_153.out; have hnc22 := NB153_172.out; obtain ⟨z23_0, z23_1, z23_2, z23_3, f23_0, f23_1, f23_2, f23_3⟩ := cells4 B172.out; obtain ⟨Ao24, co24, eo24⟩ := Kd.V_slice HO168.out; subst eo24; obtain ⟨z25_0, z25_1, z25_2, z25_3, f25_0, f25_1, f25_2, f25_3⟩ := cells4 B153.out) | ((with_reducible refine gate_callee (f := 13) rfl ?_); refine goesL_ (some 24) rfl rfl Try.func13 (by kernel_rfl) rfl #[.agg #[.slice Ao14 t154.length co14, .slice Ao16 t157.length co16, .int .i64 t160, .bool t161]] rfl (by (try simp only [List.map_toArray, List.map_cons, List.map_nil]); first | done | rfl | (simp only [List.length_drop, List.length_take]; rfl)) ?_; (with_reducible refine (shelf_List.calls k _ _ t154 _ _ t157 t160 t161 t173 _ ?side1 ?side2 ?side3 ?side4 A4.out).mono ?_); (case side1 => refine (Kd.V_reads' (e := 9) (base := w.heap.size) (ok := fun k_ => (k_ ≠ g153 ∧ k_ ≠ g172)) (n := t154.length) (c := co14) ?_).2.2; exact (by (with_reducible repeat first | apply VA | apply VN | apply VD); exact (Vm (Vf (p := ⟨g172, 3, none⟩) (Vf (p := ⟨g172, 2, none⟩) (Vf (p := ⟨g172, 1, none⟩) (Vf (p := ⟨g172, 0, none⟩) (Vm HO156.out (fun k_ hk => (⟨hk, hk.2⟩ : _ ∧ k_ ≠ g172))) (fun _ hk => hk.2) (.slice Ao21 t163.length co21)) (fun _ hk => hk.2) (.slice Ao24 t166.length co24)) (fun _ hk => hk.2) (.int .i64 t169)) (fun _ hk => hk.2) (.bool t170)) (fun _ h_ => h_.1)))); (case side2 => exact (Kd.V_reads' HO156.out).2.1); (case side3 => refine (Kd.V_reads' (e := 94) (base := w.heap.size) (ok := fun k_ => (k_ ≠ g153 ∧ k_ ≠ g172)) (n := t157.length) (c := co16) ?_).2.2; exact (by (with_reducible repeat first | apply VA | apply VN | apply VD); exact (Vm (Vf (p := ⟨g172, 3, none⟩) (Vf (p := ⟨g172, 2, none⟩) (Vf (p := ⟨g172, 1, none⟩) (Vf (p := ⟨g172, 0, none⟩) (Vm HO159.out (fun k_ hk => (⟨hk, hk.2⟩ : _ ∧ k_ ≠ g172))) (fun _ hk => hk.2) (.slice Ao21 t163.length co21)) (fun _ hk => hk.2) (.slice Ao24 t166.length co24)) (fun _ hk => hk.2) (.int .i64 t169)) (fun _ hk => hk.2) (.bool t170)) (fun _ h_ => h_.1)))); (case side4 => exact (Kd.V_reads' HO159.out).2.1); rintro e w26 ⟨v174, rfl, ho0, hb⟩; refine ⟨_, rfl, ?_⟩; have n0_ := qM (Kd.R_below (by (with_reducible repeat first | apply RA | apply RN | apply RD); exact (Kd.R_mono (Kd.R_far (p := ⟨g172, 3, none⟩) (Kd.R_far (p := ⟨g172, 2, none⟩) (Kd.R_far (p := ⟨g172, 1, none⟩) (Kd.R_far (p := ⟨g172, 0, none⟩) (Kd.R_types HO146.out B172.out (by decide)) (fun _ hk => hk.2) (.slice Ao21 t163.length co21)) (fun _ hk => hk.2) (.slice Ao24 t166.length co24)) (fun _ hk => hk.2) (.int .i64 t169)) (fun _ hk => hk.2) (.bool t170)) (fun _ h_ => h_.1))) hb); have n1_ := qM (Kd.R_below (by (with_reducible repeat first | apply RA | apply RN | apply RD); exact (Kd.R_mono (Kd.R_far (p := ⟨g172, 3, none⟩) (Kd.R_far (p := ⟨g172, 2, none⟩) (Kd.R_far (p := ⟨g172, 1, none⟩) (Kd.R_far (p := ⟨g172, 0, none⟩) (Kd.R_types HO149.out B172.out (by decide)) (fun _ hk => hk.2) (.slice Ao21 t163.length co21)) (fun _ hk => hk.2) (.slice Ao24 t166.length co24)) (fun _ hk => hk.2) (.int .i64 t169)) (fun _ hk => hk.2) (.bool t170)) (fun _ h_ => h_.1))) hb); have n2_ := qM (Kd.V_elder' (by (with_reducible repeat first | apply VA | apply VN | apply VD); exact (Vm (Vf (p := ⟨g172, 3, none⟩) (Vf (p := ⟨g172, 2, none⟩) (Vf (p := ⟨g172, 1, none⟩) (Vf (p := ⟨g172, 0, none⟩) (Vm HO156.out (fun k_ hk => (⟨hk, hk.2⟩ : _ ∧ k_ ≠ g172))) (fun _ hk => hk.2) (.slice Ao21 t163.length co21)) (fun _ hk => hk.2) (.slice Ao24 t166.length co24)) (fun _ hk => hk.2) (.int .i64 t169)) (fun _ hk => hk.2) (.bool t170)) (fun _ h_ => h_.1))) (Kd.R_base ho0) hb); have n3_ := qM (Kd.V_elder' (by (with_reducible repeat first | apply VA | apply VN | apply VD); exact (Vm (Vf (p := ⟨g172, 3, none⟩) (Vf (p := ⟨g172, 2, none⟩) (Vf (p := ⟨g172, 1, none⟩) (Vf (p := ⟨g172, 0, none⟩) (Vm HO159.out (fun k_ hk => (⟨hk, hk.2⟩ : _ ∧ k_ ≠ g172))) (fun _ hk => hk.2) (.slice Ao21 t163.length co21)) (fun _ hk => hk.2) (.slice Ao24 t166.length co24)) (fun _ hk => hk.2) (.int .i64 t169)) (fun _ hk => hk.2) (.bool t170)) (fun _ h_ => h_.1))) (Kd.R_base ho0) hb); have n4_ := qM (Kd.V_elder' (by (with_reducible repeat first | apply VA | apply VN | apply VD); exact (Vm (Vf (p := ⟨g172, 3, none⟩) (Vf (p := ⟨g172, 2, none⟩) (Vf (p := ⟨g172, 1, none⟩) (Vf (p := ⟨g172, 0, none⟩) (Vm HO165.out (fun k_ hk => (⟨hk, hk.2⟩ : _ ∧ k_ ≠ g172))) (fun _ hk => hk.2) (.slice Ao21 t163.length co21)) (fun _ hk => hk.2) (.slice Ao24 t166.length co24)) (fun _ hk => hk.2) (.int .i64 t169)) (fun _ hk => hk.2) (.bool t170)) (fun _ h_ => h_.1))) (Kd.R_base ho0) hb); have n5_ := qM (Kd.V_elder' (by (with_reducible repeat first | apply VA | apply VN | apply VD); exact (Vm (Vf (p := ⟨g172, 3, none⟩) (Vf (p := ⟨g172, 2, none⟩) (Vf (p := ⟨g172, 1, none⟩) (Vf (p := ⟨g172, 0, none⟩) (Vm HO168.out (fun k_ hk => (⟨hk, hk.2⟩ : _ ∧ k_ ≠ g172))) (fun _ hk => hk.2) (.slice Ao21 t163.length co21)) (fun _ hk => hk.2) (.slice Ao24 t166.length co24)) (fun _ hk => hk.2) (.int .i64 t169)) (fun _ hk => hk.2) (.bool t170)) (fun _ h_ => h_.1))) (Kd.R_base ho0) hb); have n6_ := qM (Kd.R_lower ho0 (eZ (by repeat (first | (with_reducible first | exact HB.out | apply eA | apply eN | apply eD | refine eU ?_ (by assumption)) | exact HB.out)))); have n7_ := qM (qB (g := g153) (o := .cells #[.slice Ao14 t154.length co14, .slice Ao16 t157.length co16, .int .i64 t160, .bool t161] 25 (0, 0)) (by (with_reducible repeat first | refine qN ?_ _ | refine qD ?_ | refine qA ?_ _); (iterate 4 (refine qR ?_ NB153_172.out _; (with_reducible repeat first | refine qN ?_ _ | refine qD ?_ | refine qA ?_ _))); exact B153.out) hb); have n8_ := qM (qB (g := g172) (by (with_reducible repeat first | refine qN ?_ _ | refine qD ?_ | refine qA ?_ _); apply puts4; (with_reducible repeat first | refine qN ?_ _ | refine qD ?_ | refine qA ?_ _); exact B172.out) hb); have n9_ := qM (eT (by repeat (first | (with_reducible first | exact HB.out | apply eA | apply eN | apply eD | refine eU ?_ (by assumption)) | exact HB.out)) hb); clear HO146 HO149 HO156 HO159 HO165 HO168 B153 B172 HB; have HO146 := n0_; have HO149 := n1_; have HO156 := n2_; have HO159 := n3_; have HO165 := n4_; have HO168 := n5_; have HO175 := n6_; have B153 := n7_; have B172 := n8_; have HB := n9_; clear n0_ n1_ n2_ n3_ n4_ n5_ n6_ n7_ n8_ n9_; (try clear hb); (try clear hb2); (try clear hk); (try clear hi); (try clear ho0)))
 (try simp only [Act.put, List.setIfInBounds_toArray, List.set_cons_zero, List.set_cons_succ])
 go_cut [0] (fun v0 wc => ∃ (kq : Nat) (x0_4 : Bool), v0 = .bool x0_4 ∧ Aside0 (hogsheadlaw10_shown.j0 kq x0_4 = some r) ∧ Aside0 (kq ≤ k) ∧ Aside0 (Kd.V Kd.string 9 wc w.heap.size (fun k_ => k_ ≠ g153 ∧ k_ ≠ g172) (.slice Ao14 t154.length co14) t154) ∧ Aside0 (Kd.V k94 94 wc w.heap.size (fun k_ => k_ ≠ g153 ∧ k_ ≠ g172) (.slice Ao16 t157.length co16) t157) ∧ Aside0 (Kd.V Kd.string 9 wc w.heap.size (fun k_ => k_ ≠ g153 ∧ k_ ≠ g172) (.slice Ao21 t163.length co21) t163) ∧ Aside0 (Kd.V k94 94 wc w.heap.size (fun k_ => k_ ≠ g153 ∧ k_ ≠ g172) (.slice Ao24 t166.length co24) t166) ∧ Aside0 (wc.heap[g153]? = some (.cells #[(.slice Ao14 t154.length co14), (.slice Ao16 t157.length co16), .int .i64 t160, .bool t161] 25 (0, 0))) ∧ Aside0 (wc.heap[g172]? = some (.cells #[(.slice Ao21 t163.length co21), (.slice Ao24 t166.length co24), .int .i64 t169, .bool t170] 25 (0, 0))) ∧ Aside0 (Below w.heap.size w wc))
 case first =>
  have H := HC5.out
  clear HC5
  by_cases c27 : t162 = 0
  ·rw [if_pos c27] at H
   have c27b0 : (t162 == 0) = true := beq_iff_eq.mpr c27
   have c27b1 : (t162 != 0) = false := bne_eq_false_iff_eq.mpr c27
   clear c27
   (first | rw [c27b0] | (simp only [i64_w, i32_w]; rw [c27b0]) | skip)
   by_cases c28 : t171 = 8
   ·rw [if_pos c28] at H
    have c28b0 : (t171 == 8) = true := beq_iff_eq.mpr c28
    have c28b1 : (t171 != 8) = false := bne_eq_false_iff_eq.mpr c28
    clear c28
    by_cases c29 : (t173.length : Int) = 1
    ·rw [if_pos c29] at H
     have c29b0 : ((t173.length : Int) == 1) = true := beq_iff_eq.mpr c29
     have c29b1 : ((t173.length : Int) != 1) = false := bne_eq_false_iff_eq.mpr c29
     clear c29
     by_cases c30 : 0 < (t173.length : Int)
     ·rw [if_pos c30] at H
      have c30b0 : decide (0 < (t173.length : Int)) = true := decide_eq_true c30
      have c30b1 : decide (0 < t173.length) = true := decide_eq_true (by omega)
      clear c30
      have H' := qM H
      clear H
      obtain ⟨Ao31, co31, eo31⟩ := Kd.R_slice HO175.out
      subst eo31
      have p176 : 0 ≤ (0 : Int) := (by omega)
      have q176 : 0 < (t173.length : Int) := of_decide_eq_true (by first | (with_reducible assumption) | assumption)
      obtain ⟨ad176, e176, hx176_0, hx176_1⟩ := at_T27 (Kd.R_reads' HO175.out).2.2 0 p176 q176
      cases e176
      have qi176 : (0 < t173.length) = True := eq_true (by omega)
      (try rw [show ((0 : Int)).toNat = 0 from rfl] at hx176_0)
      (try rw [show 0 * 2 = 0 from rfl] at hx176_0)
      (try rw [Addr.add_zero'] at hx176_0)
      (try rw [show ((0 : Int)).toNat = 0 from rfl] at hx176_1)
      (try rw [show 0 * 2 = 0 from rfl] at hx176_1)
      (try rw [Addr.add_zero'] at hx176_1)
      replace p176 := eq_true p176
      replace q176 := eq_true q176
      go_wp2
      go_meet
      case rel => exact ⟨_, ((((rd_T27 t173 0).f0) == 1 && (((rd_T27 t173 0).f1) == 0))), (by first | rfl | (simp; done) | (simp [*]; done)), H', ⟨by first | omega | exact Nat.le_refl _⟩, ⟨by (with_reducible repeat first | apply VA | apply VN | apply VD); exact Vm HO156.out (fun _ hk => ⟨hk.1.1, hk.1.2⟩)⟩, ⟨by (with_reducible repeat first | apply VA | apply VN | apply VD); exact Vm HO159.out (fun _ hk => ⟨hk.1.1, hk.1.2⟩)⟩, ⟨by (with_reducible repeat first | apply VA | apply VN | apply VD); exact Vm HO165.out (fun _ hk => ⟨hk.1.1, hk.1.2⟩)⟩, ⟨by (with_reducible repeat first | apply VA | apply VN | apply VD); exact Vm HO168.out (fun _ hk => ⟨hk.1.1, hk.1.2⟩)⟩, ⟨by (with_reducible repeat first | refine qN ?_ _ | refine qD ?_ | refine qA ?_ _); exact B153.out⟩, ⟨by (with_reducible repeat first | refine qN ?_ _ | refine qD ?_ | refine qA ?_ _); exact B172.out⟩, ⟨by repeat (first | (with_reducible first | exact HB.out | apply eA | apply eN | apply eD | refine eS ?_ GE153.out | refine eS ?_ GE172.out) | exact HB.out)⟩⟩
     ·rw [if_neg c30] at H
      exact absurd H (by simp)
    ·rw [if_neg c29] at H
     have c29b0 : ((t173.length : Int) == 1) = false := beq_eq_false_iff_ne.mpr c29
     have c29b1 : ((t173.length : Int) != 1) = true := bne_iff_ne.mpr c29
     have H' := qM H
     clear H
     obtain ⟨Ao32, co32, eo32⟩ := Kd.R_slice HO175.out
     subst eo32
     go_wp2
     go_meet
     case rel => exact ⟨_, (false), (by first | rfl | (simp; done) | (simp [*]; done)), H', ⟨by first | omega | exact Nat.le_refl _⟩, ⟨by (with_reducible repeat first | apply VA | apply VN | apply VD); exact Vm HO156.out (fun _ hk => ⟨hk.1.1, hk.1.2⟩)⟩, ⟨by (with_reducible repeat first | apply VA | apply VN | apply VD); exact Vm HO159.out (fun _ hk => ⟨hk.1.1, hk.1.2⟩)⟩, ⟨by (with_reducible repeat first | apply VA | apply VN | apply VD); exact Vm HO165.out (fun _ hk => ⟨hk.1.1, hk.1.2⟩)⟩, ⟨by (with_reducible repeat first | apply VA | apply VN | apply VD); exact Vm HO168.out (fun _ hk => ⟨hk.1.1, hk.1.2⟩)⟩, ⟨by (with_reducible repeat first | refine qN ?_ _ | refine qD ?_ | refine qA ?_ _); exact B153.out⟩, ⟨by (with_reducible repeat first | refine qN ?_ _ | refine qD ?_ | refine qA ?_ _); exact B172.out⟩, ⟨by repeat (first | (with_reducible first | exact HB.out | apply eA | apply eN | apply eD | refine eS ?_ GE153.out | refine eS ?_ GE172.out) | exact HB.out)⟩⟩
   ·rw [if_neg c28] at H
    have c28b0 : (t171 == 8) = false := beq_eq_false_iff_ne.mpr c28
    have c28b1 : (t171 != 8) = true := bne_iff_ne.mpr c28
    have H' := qM H
    clear H
    go_wp2
    go_meet
    case rel => exact ⟨_, (false), (by first | rfl | (simp; done) | (simp [*]; done)), H', ⟨by first | omega | exact Nat.le_refl _⟩, ⟨by (with_reducible repeat first | apply VA | apply VN | apply VD); exact Vm HO156.out (fun _ hk => ⟨hk.1.1, hk.1.2⟩)⟩, ⟨by (with_reducible repeat first | apply VA | apply VN | apply VD); exact Vm HO159.out (fun _ hk => ⟨hk.1.1, hk.1.2⟩)⟩, ⟨by (with_reducible repeat first | apply VA | apply VN | apply VD); exact Vm HO165.out (fun _ hk => ⟨hk.1.1, hk.1.2⟩)⟩, ⟨by (with_reducible repeat first | apply VA | apply VN | apply VD); exact Vm HO168.out (fun _ hk => ⟨hk.1.1, hk.1.2⟩)⟩, ⟨by (with_reducible repeat first | refine qN ?_ _ | refine qD ?_ | refine qA ?_ _); exact B153.out⟩, ⟨by (with_reducible repeat first | refine qN ?_ _ | refine qD ?_ | refine qA ?_ _); exact B172.out⟩, ⟨by repeat (first | (with_reducible first | exact HB.out | apply eA | apply eN | apply eD | refine eS ?_ GE153.out | refine eS ?_ GE172.out) | exact HB.out)⟩⟩
  ·rw [if_neg c27] at H
   have c27b0 : (t162 == 0) = false := beq_eq_false_iff_ne.mpr c27
   have c27b1 : (t162 != 0) = true := bne_iff_ne.mpr c27
   (first | rw [c27b0] | (simp only [i64_w, i32_w]; rw [c27b0]) | skip)
   have H' := qM H
   clear H
   go_wp2
   go_meet
   case rel => exact ⟨_, (false), (by first | rfl | (simp; done) | (simp [*]; done)), H', ⟨by first | omega | exact Nat.le_refl _⟩, ⟨by (with_reducible repeat first | apply VA | apply VN | apply VD); exact Vm HO156.out (fun _ hk => ⟨hk.1.1, hk.1.2⟩)⟩, ⟨by (with_reducible repeat first | apply VA | apply VN | apply VD); exact Vm HO159.out (fun _ hk => ⟨hk.1.1, hk.1.2⟩)⟩, ⟨by (with_reducible repeat first | apply VA | apply VN | apply VD); exact Vm HO165.out (fun _ hk => ⟨hk.1.1, hk.1.2⟩)⟩, ⟨by (with_reducible repeat first | apply VA | apply VN | apply VD); exact Vm HO168.out (fun _ hk => ⟨hk.1.1, hk.1.2⟩)⟩, ⟨by (with_reducible repeat first | refine qN ?_ _ | refine qD ?_ | refine qA ?_ _); exact B153.out⟩, ⟨by (with_reducible repeat first | refine qN ?_ _ | refine qD ?_ | refine qA ?_ _); exact B172.out⟩, ⟨by repeat (first | (with_reducible first | exact HB.out | apply eA | apply eN | apply eD | refine eS ?_ GE153.out | refine eS ?_ GE172.out) | exact HB.out)⟩⟩
 case rest =>
  clear HC5
  try clear c1
  try clear p1
  try clear q1
  try clear hx1
  try clear qi1
  try clear c2
  try clear p2
  try clear c3
  try clear c11
  try clear c13
  try clear p17
  try clear q17
  try clear hx17
  try clear qi17
  try clear c22
  try clear c27
  try clear c27b0
  try clear c27b1
  try clear c28
  try clear c28b0
  try clear c28b1
  try clear c29
  try clear c29b0
  try clear c29b1
  try clear c30
  try clear c30b0
  try clear c30b1
  try clear z12_0
  try clear z12_1
  try clear z12_2
  try clear z12_3
  try clear z15_0
  try clear z15_1
  try clear z15_2
  try clear z15_3
  try clear z18_0
  try clear z18_1
  try clear z18_2
  try clear z18_3
  try clear z23_0
  try clear z23_1
  try clear z23_2
  try clear z23_3
  try clear z25_0
  try clear z25_1
  try clear z25_2
  try clear z25_3
  try clear z9_0
  try clear z9_1
  try clear z9_2
  try clear z9_3
  try clear f12_0
  try clear f12_1
  try clear f12_2
  try clear f12_3
  try clear f15_0
  try clear f15_1
  try clear f15_2
  try clear f15_3
  try clear f18_0
  try clear f18_1
  try clear f18_2
  try clear f18_3
  try clear f23_0
  try clear f23_1
  try clear f23_2
  try clear f23_3
  try clear f25_0
  try clear f25_1
  try clear f25_2
  try clear f25_3
  try clear f9_0
  try clear f9_1
  try clear f9_2
  try clear f9_3
  try clear hx176_0
  try clear hx176_1
  try clear p176
  try clear q176
  obtain ⟨kq, x0_4, rfl, HA, HJ4, HO_154000, HO_154001, HO_173000, HO_173001, B153, B172, HB⟩ := hcut
  cases kq with
  | zero => exact absurd HA.out (by simp [hogsheadlaw10_shown.j0])
  | succ kj4 =>
   have H := HA.out
   clear HA
   simp only [hogsheadlaw10_shown.j0] at H
   obtain rfl := Option.some.inj H
   go_wp2
   go_ret
   exact ⟨by first | rfl | (simp [errW_none, errW_some] <;> rfl) | (simp [*, errW_none, errW_some] <;> rfl), by repeat (first | (with_reducible first | exact HB.out | apply eA | apply eN | apply eD | refine eS ?_ GE153.out | refine eS ?_ GE172.out) | exact HB.out)⟩

end Go.Proofs.Ytffjbbedjddpmaa.PAll
