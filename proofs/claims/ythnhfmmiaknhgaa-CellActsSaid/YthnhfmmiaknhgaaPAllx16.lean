/- Functions of the program as plain Lean functions, and that each call comes to what they say. Laid by a program of this session (hprint.py); Lean checks it. -/
import Derived.Test.YthnhfmmiaknhgaaPAllx0
import Derived.Test.YthnhfmmiaknhgaaPAllx9
import Derived.Test.YthnhfmmiaknhgaaPAllx11
import Derived.Test.YthnhfmmiaknhgaaPAllx13
import Derived.Test.YthnhfmmiaknhgaaPAllx14
import Derived.Test.YthnhfmmiaknhgaaPAllx15
namespace Go.Proofs.Ythnhfmmiaknhgaa.PAll
open Go.RowKit Go.Proofs.YthnhfmmiaknhgaaW.PrintWords Go.Proofs.YthnhfmmiaknhgaaW.PrintLast Go.Proofs.YthnhfmmiaknhgaaW.PrintMore
attribute [local go_sem] max2_int min2_int max_two min_two max_three min_three max_four min_four   -- for this text's walks alone
set_option linter.unusedVariables false
set_option linter.unusedSimpArgs false

/-! ### hogsheadlaw09_shown: function 10 -/
def hogsheadlaw09_shown.j0 : Nat → Bool → Option (Bool)
 | 0, _ => none
 | k + 1, x0 => some x0
def hogsheadlaw09_shown.f (k : Nat)  : Option (Bool) := (hogsheadref08_New.f 2).bind fun bt190 => ((cell_Write.f k bt190.1 bt190.2.1 bt190.2.2.1 bt190.2.2.2.1 0 (⟨#[120]⟩ : ByteArray)).bind fun bt200 => ((hogsheadref08_Flush.f k bt200.1 bt200.2.1 bt200.2.2.1 bt200.2.2.2.1).bind fun bt209 => ((cell_Write.f k bt209.1 bt209.2.1 bt209.2.2.1 bt209.2.2.2.1 0 (⟨#[121]⟩ : ByteArray)).bind fun bt218 => ((hogsheadref08_Crash.f k bt218.1 bt218.2.1 bt218.2.2.1 bt218.2.2.2.1 0 3).bind fun bt227 => ((cell_Read.f k bt227.1 bt227.2.1 bt227.2.2.1 bt227.2.2.2 0).bind fun bt235 => (if bt200.2.2.2.2 = 0 then (if bt218.2.2.2.2 = 0 then (if bt235.2.2 = 0 then (if bt235.1.toList = ([120] : List UInt8) then (hogsheadlaw09_shown.j0 k (bt235.2.1 == 1)) else (hogsheadlaw09_shown.j0 k false)) else (hogsheadlaw09_shown.j0 k false)) else (hogsheadlaw09_shown.j0 k false)) else (hogsheadlaw09_shown.j0 k false)))))))
theorem hogsheadlaw09_shown.mono_l : ∀ k, (∀ y0, LeO (hogsheadlaw09_shown.j0 k y0) (hogsheadlaw09_shown.j0 (k + 1) y0))
 | 0 => fun _ r h => by simp [hogsheadlaw09_shown.j0] at h
 | k + 1 => by
  have ih0 := hogsheadlaw09_shown.mono_l k
  ·intro y0
   unfold hogsheadlaw09_shown.j0
   repeat' first
   | (with_reducible exact ih0 _)
   | (with_reducible exact cell_Read.mono _ _ _ _ _ _)
   | (with_reducible exact cell_Write.mono _ _ _ _ _ _ _)
   | (with_reducible exact hogsheadref08_Crash.mono _ _ _ _ _ _ _)
   | (with_reducible exact hogsheadref08_Flush.mono _ _ _ _ _)
   | (with_reducible exact LeO.refl _)
   | (with_reducible exact LeO.none _)
   | (with_reducible refine LeO.ite ?_ ?_)
   | (with_reducible refine LeO.bind ?_ (fun _ => ?_))
   | exact ih0 _
   | exact cell_Read.mono _ _ _ _ _ _
   | exact cell_Write.mono _ _ _ _ _ _ _
   | exact hogsheadref08_Crash.mono _ _ _ _ _ _ _
   | exact hogsheadref08_Flush.mono _ _ _ _ _
   | exact LeO.none _
   | refine LeO.ite ?_ ?_
   | refine LeO.bind ?_ (fun _ => ?_)
theorem hogsheadlaw09_shown.mono : ∀ k, LeO (hogsheadlaw09_shown.f k ) (hogsheadlaw09_shown.f (k + 1) ) := by
 intro  k
 have ih0 := hogsheadlaw09_shown.mono_l k
 unfold hogsheadlaw09_shown.f
 repeat' first
   | (with_reducible exact ih0 _)
   | (with_reducible exact cell_Read.mono _ _ _ _ _ _)
   | (with_reducible exact cell_Write.mono _ _ _ _ _ _ _)
   | (with_reducible exact hogsheadref08_Crash.mono _ _ _ _ _ _ _)
   | (with_reducible exact hogsheadref08_Flush.mono _ _ _ _ _)
   | (with_reducible exact LeO.refl _)
   | (with_reducible exact LeO.none _)
   | (with_reducible refine LeO.ite ?_ ?_)
   | (with_reducible refine LeO.bind ?_ (fun _ => ?_))
   | exact ih0 _
   | exact cell_Read.mono _ _ _ _ _ _
   | exact cell_Write.mono _ _ _ _ _ _ _
   | exact hogsheadref08_Crash.mono _ _ _ _ _ _ _
   | exact hogsheadref08_Flush.mono _ _ _ _ _
   | exact LeO.none _
   | refine LeO.ite ?_ ?_
   | refine LeO.bind ?_ (fun _ => ?_)
set_option maxHeartbeats 40000000 in
set_option maxRecDepth 100000 in
theorem hogsheadlaw09_shown.calls (k : Nat)  (r : Bool) (w : World) (h : hogsheadlaw09_shown.f k  = some r) :
  Calls Try.prog 10 #[] w fun e w' => e = .returned (.bool r) ∧ Below w.heap.size w w' := by
 have hu37 := Try.underlying37
 have HB := qM (Below.refl w.heap.size w)
 have H : ((hogsheadref08_New.f 2).bind fun bt190 => ((cell_Write.f k bt190.1 bt190.2.1 bt190.2.2.1 bt190.2.2.2.1 0 (⟨#[120]⟩ : ByteArray)).bind fun bt200 => ((hogsheadref08_Flush.f k bt200.1 bt200.2.1 bt200.2.2.1 bt200.2.2.2.1).bind fun bt209 => ((cell_Write.f k bt209.1 bt209.2.1 bt209.2.2.1 bt209.2.2.2.1 0 (⟨#[121]⟩ : ByteArray)).bind fun bt218 => ((hogsheadref08_Crash.f k bt218.1 bt218.2.1 bt218.2.2.1 bt218.2.2.2.1 0 3).bind fun bt227 => ((cell_Read.f k bt227.1 bt227.2.1 bt227.2.2.1 bt227.2.2.2 0).bind fun bt235 => (if bt200.2.2.2.2 = 0 then (if bt218.2.2.2.2 = 0 then (if bt235.2.2 = 0 then (if bt235.1.toList = ([120] : List UInt8) then (hogsheadlaw09_shown.j0 k (bt235.2.1 == 1)) else (hogsheadlaw09_shown.j0 k false)) else (hogsheadlaw09_shown.j0 k false)) else (hogsheadlaw09_shown.j0 k false)) else (hogsheadlaw09_shown.j0 k false)))))))) = some r := h
 clear h
 replace H := Option.bind_eq_some_iff.mp H
 obtain ⟨⟨t190, t193, t196, t197, t198⟩, A10, H⟩ := H
 replace H : ((cell_Write.f k t190 t193 t196 t197 0 (⟨#[120]⟩ : ByteArray)).bind fun bt200 => ((hogsheadref08_Flush.f k bt200.1 bt200.2.1 bt200.2.2.1 bt200.2.2.2.1).bind fun bt209 => ((cell_Write.f k bt209.1 bt209.2.1 bt209.2.2.1 bt209.2.2.2.1 0 (⟨#[121]⟩ : ByteArray)).bind fun bt218 => ((hogsheadref08_Crash.f k bt218.1 bt218.2.1 bt218.2.2.1 bt218.2.2.2.1 0 3).bind fun bt227 => ((cell_Read.f k bt227.1 bt227.2.1 bt227.2.2.1 bt227.2.2.2 0).bind fun bt235 => (if bt200.2.2.2.2 = 0 then (if bt218.2.2.2.2 = 0 then (if bt235.2.2 = 0 then (if bt235.1.toList = ([120] : List UInt8) then (hogsheadlaw09_shown.j0 k (bt235.2.1 == 1)) else (hogsheadlaw09_shown.j0 k false)) else (hogsheadlaw09_shown.j0 k false)) else (hogsheadlaw09_shown.j0 k false)) else (hogsheadlaw09_shown.j0 k false))))))) = some r := H
 have A1 := qM A10
 clear A10
 replace H := Option.bind_eq_some_iff.mp H
 obtain ⟨⟨t200, t203, t206, t207, t208⟩, A20, H⟩ := H
 replace H : ((hogsheadref08_Flush.f k t200 t203 t206 t207).bind fun bt209 => ((cell_Write.f k bt209.1 bt209.2.1 bt209.2.2.1 bt209.2.2.2.1 0 (⟨#[121]⟩ : ByteArray)).bind fun bt218 => ((hogsheadref08_Crash.f k bt218.1 bt218.2.1 bt218.2.2.1 bt218.2.2.2.1 0 3).bind fun bt227 => ((cell_Read.f k bt227.1 bt227.2.1 bt227.2.2.1 bt227.2.2.2 0).bind fun bt235 => (if t208 = 0 then (if bt218.2.2.2.2 = 0 then (if bt235.2.2 = 0 then (if bt235.1.toList = ([120] : List UInt8) then (hogsheadlaw09_shown.j0 k (bt235.2.1 == 1)) else (hogsheadlaw09_shown.j0 k false)) else (hogsheadlaw09_shown.j0 k false)) else (hogsheadlaw09_shown.j0 k false)) else (hogsheadlaw09_shown.j0 k false)))))) = some r := H
 have A2 := qM A20
 clear A20
 replace H := Option.bind_eq_some_iff.mp H
 obtain ⟨⟨t209, t212, t215, t216, t217⟩, A30, H⟩ := H
 replace H : ((cell_Write.f k t209 t212 t215 t216 0 (⟨#[121]⟩ : ByteArray)).bind fun bt218 => ((hogsheadref08_Crash.f k bt218.1 bt218.2.1 bt218.2.2.1 bt218.2.2.2.1 0 3).bind fun bt227 => ((cell_Read.f k bt227.1 bt227.2.1 bt227.2.2.1 bt227.2.2.2 0).bind fun bt235 => (if t208 = 0 then (if bt218.2.2.2.2 = 0 then (if bt235.2.2 = 0 then (if bt235.1.toList = ([120] : List UInt8) then (hogsheadlaw09_shown.j0 k (bt235.2.1 == 1)) else (hogsheadlaw09_shown.j0 k false)) else (hogsheadlaw09_shown.j0 k false)) else (hogsheadlaw09_shown.j0 k false)) else (hogsheadlaw09_shown.j0 k false))))) = some r := H
 have A3 := qM A30
 clear A30
 replace H := Option.bind_eq_some_iff.mp H
 obtain ⟨⟨t218, t221, t224, t225, t226⟩, A40, H⟩ := H
 replace H : ((hogsheadref08_Crash.f k t218 t221 t224 t225 0 3).bind fun bt227 => ((cell_Read.f k bt227.1 bt227.2.1 bt227.2.2.1 bt227.2.2.2 0).bind fun bt235 => (if t208 = 0 then (if t226 = 0 then (if bt235.2.2 = 0 then (if bt235.1.toList = ([120] : List UInt8) then (hogsheadlaw09_shown.j0 k (bt235.2.1 == 1)) else (hogsheadlaw09_shown.j0 k false)) else (hogsheadlaw09_shown.j0 k false)) else (hogsheadlaw09_shown.j0 k false)) else (hogsheadlaw09_shown.j0 k false)))) = some r := H
 have A4 := qM A40
 clear A40
 replace H := Option.bind_eq_some_iff.mp H
 obtain ⟨⟨t227, t230, t233, t234⟩, A50, H⟩ := H
 replace H : ((cell_Read.f k t227 t230 t233 t234 0).bind fun bt235 => (if t208 = 0 then (if t226 = 0 then (if bt235.2.2 = 0 then (if bt235.1.toList = ([120] : List UInt8) then (hogsheadlaw09_shown.j0 k (bt235.2.1 == 1)) else (hogsheadlaw09_shown.j0 k false)) else (hogsheadlaw09_shown.j0 k false)) else (hogsheadlaw09_shown.j0 k false)) else (hogsheadlaw09_shown.j0 k false))) = some r := H
 have A5 := qM A50
 clear A50
 replace H := Option.bind_eq_some_iff.mp H
 obtain ⟨⟨t235, t236, t237⟩, A60, H⟩ := H
 replace H : (if t208 = 0 then (if t226 = 0 then (if t237 = 0 then (if t235.toList = ([120] : List UInt8) then (hogsheadlaw09_shown.j0 k (t236 == 1)) else (hogsheadlaw09_shown.j0 k false)) else (hogsheadlaw09_shown.j0 k false)) else (hogsheadlaw09_shown.j0 k false)) else (hogsheadlaw09_shown.j0 k false)) = some r := H
 have A6 := qM A60
 clear A60
 have HC7 := qM H
 clear H
 go_enter Try.func10, Try.ntmps10
 go_upto_region 6 with (first | ((with_reducible refine gate_callee (f := 23) rfl ?_); refine goesL_ (some 9) rfl rfl Try.func23 (by kernel_rfl) rfl #[.int .i64 2] rfl (by (try simp only [List.map_toArray, List.map_cons, List.map_nil]); first | done | rfl | (simp only [List.length_drop, List.length_take]; rfl)) ?_; (with_reducible refine (hogsheadref08_New.calls 2 t190 t193 t196 t197 t198 _ A1.out).mono ?_); rintro e w8 ⟨v191, v194, rfl, ho0, ho1, hb⟩; refine ⟨_, rfl, ?_⟩; have n0_ := qM (Kd.R_lower ho0 (eZ (by repeat (first | (with_reducible first | exact HB.out | apply eA | apply eN | apply eD) | exact HB.out)))); have n1_ := qM (Kd.R_lower ho1 (eZ (by repeat (first | (with_reducible first | exact HB.out | apply eA | apply eN | apply eD) | exact HB.out)))); have n2_ := qM (eT (by repeat (first | (with_reducible first | exact HB.out | apply eA | apply eN | apply eD) | exact HB.out)) hb); clear HB; have HO192 := n0_; have HO195 := n1_; have HB := n2_; clear n0_ n1_ n2_; (try clear hb); (try clear hb2); (try clear hk); (try clear hi); (try clear ho0); (try clear ho1)) | ((with_reducible refine gate_dst (N := 1) rfl ?_); refine box_event ?hg (N := 1) ?hd (cs := #[.slice none 0 0, .slice none 0 0, .int .i64 0, .bool false]) (t := 37) ?hr ?_; (case hd => rfl); (case hg => rfl); (case hr => first | (go_simp; done) | (go_simp; rfl)); intro g199 hg w9 hbox hb; have n0_ := qM (Kd.R_below (by (with_reducible repeat first | apply RA | apply RN | apply RD); exact HO192.out) hb); have n1_ := qM (Kd.R_below (by (with_reducible repeat first | apply RA | apply RN | apply RD); exact HO195.out) hb); have n2_ := qM (eT (by repeat (first | (with_reducible first | exact HB.out | apply eA | apply eN | apply eD) | exact HB.out)) hb); have n3_ := qM (hbox); have n4_ := qM ((by rw [hg]; exact (eZ (by repeat (first | (with_reducible first | exact HB.out | apply eA | apply eN | apply eD) | exact HB.out))) : w.heap.size ≤ g199)); have n5_ := n4_; clear HO192; clear HO195; clear HB; have HO192 := n0_; have HO195 := n1_; have HB := n2_; have B199 := n3_; have GW199 := n4_; have GE199 := n5_; clear n0_ n1_ n2_ n3_ n4_ n5_; clear hb hbox hg; obtain ⟨Ao10, co10, eo10⟩ := Kd.R_slice HO192.out; subst eo10; obtain ⟨z11_0, z11_1, z11_2, z11_3, f11_0, f11_1, f11_2, f11_3⟩ := cells4 B199.out; obtain ⟨Ao12, co12, eo12⟩ := Kd.R_slice HO195.out; subst eo12) | ((with_reducible refine gate_store (t := 37) (p := 1) rfl ?_); refine store_event (t := 37) (p := 1) (v := ?vo_w13) (w1 := ((((w9.setCell ⟨g199, 0, none⟩ (.slice Ao10 t190.length co10)).setCell ⟨g199, 1, none⟩ (.slice Ao12 t193.length co12)).setCell ⟨g199, 2, none⟩ (.int .i64 t196)).setCell ⟨g199, 3, none⟩ (.bool t197))) ?hg ?ho ?hn ?hr ?_; (case ho => rfl); (case hg => rfl); (case hn => rfl); (case hr => first | (go_simp; done) | (go_simp; rfl)); intro w13 hw; have n0_ : Aside0 (Kd.R Kd.string 9 w13 w.heap.size (fun _ => True) (.slice Ao10 t190.length co10) t190) := ⟨(by rw [hw]; exact (by (with_reducible repeat first | apply RA | apply RN | apply RD); exact Kd.R_mono (Kd.R_far (p := ⟨g199, 3, none⟩) (Kd.R_far (p := ⟨g199, 2, none⟩) (Kd.R_far (p := ⟨g199, 1, none⟩) (Kd.R_far (p := ⟨g199, 0, none⟩) (Kd.R_types HO192.out B199.out (by decide)) (fun _ hk => hk.2) (.slice Ao10 t190.length co10)) (fun _ hk => hk.2) (.slice Ao12 t193.length co12)) (fun _ hk => hk.2) (.int .i64 t196)) (fun _ hk => hk.2) (.bool t197)) (fun _ hk => trivial)))⟩; have n1_ : Aside0 (Kd.R k77 77 w13 w.heap.size (fun _ => True) (.slice Ao12 t193.length co12) t193) := ⟨(by rw [hw]; exact (by (with_reducible repeat first | apply RA | apply RN | apply RD); exact Kd.R_mono (Kd.R_far (p := ⟨g199, 3, none⟩) (Kd.R_far (p := ⟨g199, 2, none⟩) (Kd.R_far (p := ⟨g199, 1, none⟩) (Kd.R_far (p := ⟨g199, 0, none⟩) (Kd.R_types HO195.out B199.out (by decide)) (fun _ hk => hk.2) (.slice Ao10 t190.length co10)) (fun _ hk => hk.2) (.slice Ao12 t193.length co12)) (fun _ hk => hk.2) (.int .i64 t196)) (fun _ hk => hk.2) (.bool t197)) (fun _ hk => trivial)))⟩; have n2_ : Aside0 (w13.heap[g199]? = some (.cells #[.slice Ao10 t190.length co10, .slice Ao12 t193.length co12, .int .i64 t196, .bool t197] 37 (0, 0))) := ⟨(by rw [hw]; exact (by (with_reducible repeat first | refine qN ?_ _ | refine qD ?_ | refine qA ?_ _); apply puts4; (with_reducible repeat first | refine qN ?_ _ | refine qD ?_ | refine qA ?_ _); exact B199.out))⟩; have n3_ : Aside0 (Below w.heap.size w w13) := ⟨(by rw [hw]; exact (by repeat (first | (with_reducible first | exact HB.out | apply eA | apply eN | apply eD | refine eS ?_ GE199.out) | exact HB.out)))⟩; clear hw; clear HO192; clear HO195; clear B199; clear HB; have HO192 := n0_; have HO195 := n1_; have B199 := n2_; have HB := n3_; clear n0_ n1_ n2_ n3_; obtain ⟨z14_0, z14_1, z14_2, z14_3, f14_0, f14_1, f14_2, f14_3⟩ := cells4 B199.out) | ((with_reducible refine gate_callee (f := 17) rfl ?_); refine goesL_ (some 14) rfl rfl Try.func17 (by kernel_rfl) rfl #[.agg #[.slice Ao10 t190.length co10, .slice Ao12 t193.length co12, .int .i64 t196, .bool t197], .int .i64 0, .string (⟨#[120]⟩ : ByteArray)] rfl (by (try simp only [List.map_toArray, List.map_cons, List.map_nil]); first | done | rfl | (simp only [List.length_drop, List.length_take]; rfl)) ?_; (with_reducible refine (cell_Write.calls k (fun k_ => some k_ = (.slice Ao10 t190.length co10 : Value).ownBlock) _ _ t190 (fun k_ => some k_ = (.slice Ao12 t193.length co12 : Value).ownBlock) _ _ t193 t196 t197 0 (⟨#[120]⟩ : ByteArray) t200 t203 t206 t207 t208 _ ?side1 ?side2 A2.out).mono ?_); (case side1 => exact Kd.R_V (Kd.R_tight rfl (Kd.R_types (Kd.R_apart' (HO192.out) (Kd.R_typed HO195.out) (by decide)) B199.out (by decide)))); (case side2 => exact Kd.R_V (Kd.R_tight rfl (Kd.R_types (Kd.R_apart' (HO195.out) (Kd.R_typed HO192.out) (by decide)) B199.out (by decide)))); rintro e w15 ⟨v201, v204, rfl, ho0, ho1, hb⟩; refine ⟨_, rfl, ?_⟩; have n0_ := qM (Kd.R_below (by (with_reducible repeat first | apply RA | apply RN | apply RD); exact HO192.out) hb); have n1_ := qM (Kd.R_below (by (with_reducible repeat first | apply RA | apply RN | apply RD); exact HO195.out) hb); have n2_ := qM (Vl (Vm (ok' := fun k_ => k_ ≠ g199) ho0 (fun k_ hk_ => Or.elim hk_ (fun hs_ => Or.elim hs_ (fun hs_ => ((Kd.R_types (Kd.R_apart' (HO192.out) (Kd.R_typed HO195.out) (by decide)) B199.out (by decide)).1 k_ hs_.symm).2) (fun hs_ => ((Kd.R_types (Kd.R_apart' (HO195.out) (Kd.R_typed HO192.out) (by decide)) B199.out (by decide)).1 k_ hs_.symm).2)) (fun hn_ => (Fb (g := g199) (by (with_reducible repeat first | refine qN ?_ _ | refine qD ?_ | refine qA ?_ _); exact B199.out) k_ hn_)))) (eZ (by repeat (first | (with_reducible first | exact HB.out | apply eA | apply eN | apply eD | refine eS ?_ GE199.out) | exact HB.out)))); have n3_ := qM (Vl (Vm (ok' := fun k_ => k_ ≠ g199) ho1 (fun k_ hk_ => Or.elim hk_ (fun hs_ => Or.elim hs_ (fun hs_ => ((Kd.R_types (Kd.R_apart' (HO192.out) (Kd.R_typed HO195.out) (by decide)) B199.out (by decide)).1 k_ hs_.symm).2) (fun hs_ => ((Kd.R_types (Kd.R_apart' (HO195.out) (Kd.R_typed HO192.out) (by decide)) B199.out (by decide)).1 k_ hs_.symm).2)) (fun hn_ => (Fb (g := g199) (by (with_reducible repeat first | refine qN ?_ _ | refine qD ?_ | refine qA ?_ _); exact B199.out) k_ hn_)))) (eZ (by repeat (first | (with_reducible first | exact HB.out | apply eA | apply eN | apply eD | refine eS ?_ GE199.out) | exact HB.out)))); have n4_ := qM (qB (g := g199) (by (with_reducible repeat first | refine qN ?_ _ | refine qD ?_ | refine qA ?_ _); exact B199.out) hb); have n5_ := qM (eT (by repeat (first | (with_reducible first | exact HB.out | apply eA | apply eN | apply eD | refine eS ?_ GE199.out) | exact HB.out)) hb); clear HO192; clear HO195; clear B199; clear HB; have HO192 := n0_; have HO195 := n1_; have HO202 := n2_; have HO205 := n3_; have B199 := n4_; have HB := n5_; clear n0_ n1_ n2_ n3_ n4_ n5_; (try clear hb); (try clear hb2); (try clear hk); (try clear hi); (try clear ho0); (try clear ho1); obtain ⟨Ao16, co16, eo16⟩ := Kd.V_slice HO202.out; subst eo16; obtain ⟨z17_0, z17_1, z17_2, z17_3, f17_0, f17_1, f17_2, f17_3⟩ := cells4 B199.out; obtain ⟨Ao18, co18, eo18⟩ := Kd.V_slice HO205.out; subst eo18) | ((with_reducible refine gate_store (t := 37) (p := 1) rfl ?_); refine store_event (t := 37) (p := 1) (v := ?vo_w19) (w1 := ((((w15.setCell ⟨g199, 0, none⟩ (.slice Ao16 t200.length co16)).setCell ⟨g199, 1, none⟩ (.slice Ao18 t203.length co18)).setCell ⟨g199, 2, none⟩ (.int .i64 t206)).setCell ⟨g199, 3, none⟩ (.bool t207))) ?hg ?ho ?hn ?hr ?_; (case ho => rfl); (case hg => rfl); (case hn => rfl); (case hr => first | (go_simp; done) | (go_simp; rfl)); intro w19 hw; have n0_ : Aside0 (Kd.R Kd.string 9 w19 w.heap.size (fun _ => True) (.slice Ao10 t190.length co10) t190) := ⟨(by rw [hw]; exact (by (with_reducible repeat first | apply RA | apply RN | apply RD); exact Kd.R_mono (Kd.R_far (p := ⟨g199, 3, none⟩) (Kd.R_far (p := ⟨g199, 2, none⟩) (Kd.R_far (p := ⟨g199, 1, none⟩) (Kd.R_far (p := ⟨g199, 0, none⟩) (Kd.R_types HO192.out B199.out (by decide)) (fun _ hk => hk.2) (.slice Ao16 t200.length co16)) (fun _ hk => hk.2) (.slice Ao18 t203.length co18)) (fun _ hk => hk.2) (.int .i64 t206)) (fun _ hk => hk.2) (.bool t207)) (fun _ hk => trivial)))⟩; have n1_ : Aside0 (Kd.R k77 77 w19 w.heap.size (fun _ => True) (.slice Ao12 t193.length co12) t193) := ⟨(by rw [hw]; exact (by (with_reducible repeat first | apply RA | apply RN | apply RD); exact Kd.R_mono (Kd.R_far (p := ⟨g199, 3, none⟩) (Kd.R_far (p := ⟨g199, 2, none⟩) (Kd.R_far (p := ⟨g199, 1, none⟩) (Kd.R_far (p := ⟨g199, 0, none⟩) (Kd.R_types HO195.out B199.out (by decide)) (fun _ hk => hk.2) (.slice Ao16 t200.length co16)) (fun _ hk => hk.2) (.slice Ao18 t203.length co18)) (fun _ hk => hk.2) (.int .i64 t206)) (fun _ hk => hk.2) (.bool t207)) (fun _ hk => trivial)))⟩; have n2_ : Aside0 (Kd.V Kd.string 9 w19 w.heap.size (fun k_ => k_ ≠ g199) (.slice Ao16 t200.length co16) t200) := ⟨(by rw [hw]; exact (by (with_reducible repeat first | apply VA | apply VN | apply VD); exact Vm (Vf (p := ⟨g199, 3, none⟩) (Vf (p := ⟨g199, 2, none⟩) (Vf (p := ⟨g199, 1, none⟩) (Vf (p := ⟨g199, 0, none⟩) (Vm HO202.out (fun k_ hk => (⟨hk, hk⟩ : _ ∧ k_ ≠ g199))) (fun _ hk => hk.2) (.slice Ao16 t200.length co16)) (fun _ hk => hk.2) (.slice Ao18 t203.length co18)) (fun _ hk => hk.2) (.int .i64 t206)) (fun _ hk => hk.2) (.bool t207)) (fun _ hk => hk.1)))⟩; have n3_ : Aside0 (Kd.V k77 77 w19 w.heap.size (fun k_ => k_ ≠ g199) (.slice Ao18 t203.length co18) t203) := ⟨(by rw [hw]; exact (by (with_reducible repeat first | apply VA | apply VN | apply VD); exact Vm (Vf (p := ⟨g199, 3, none⟩) (Vf (p := ⟨g199, 2, none⟩) (Vf (p := ⟨g199, 1, none⟩) (Vf (p := ⟨g199, 0, none⟩) (Vm HO205.out (fun k_ hk => (⟨hk, hk⟩ : _ ∧ k_ ≠ g199))) (fun _ hk => hk.2) (.slice Ao16 t200.length co16)) (fun _ hk => hk.2) (.slice Ao18 t203.length co18)) (fun _ hk => hk.2) (.int .i64 t206)) (fun _ hk => hk.2) (.bool t207)) (fun _ hk => hk.1)))⟩; have n4_ : Aside0 (w19.heap[g199]? = some (.cells #[.slice Ao16 t200.length co16, .slice Ao18 t203.length co18, .int .i64 t206, .bool t207] 37 (0, 0))) := ⟨(by rw [hw]; exact (by (with_reducible repeat first | refine qN ?_ _ | refine qD ?_ | refine qA ?_ _); apply puts4; (with_reducible repeat first | refine qN ?_ _ | refine qD ?_ | refine qA ?_ _); exact B199.out))⟩; have n5_ : Aside0 (Below w.heap.size w w19) := ⟨(by rw [hw]; exact (by repeat (first | (with_reducible first | exact HB.out | apply eA | apply eN | apply eD | refine eS ?_ GE199.out) | exact HB.out)))⟩; clear hw; clear HO192; clear HO195; clear HO202; clear HO205; clear B199; clear HB; have HO192 := n0_; have HO195 := n1_; have HO202 := n2_; have HO205 := n3_; have B199 := n4_; have HB := n5_; clear n0_ n1_ n2_ n3_ n4_ n5_; obtain ⟨z20_0, z20_1, z20_2, z20_3, f20_0, f20_1, f20_2, f20_3⟩ := cells4 B199.out) | ((with_reducible refine gate_callee (f := 20) rfl ?_); refine goesL_ (some 19) rfl rfl Try.func20 (by kernel_rfl) rfl #[.agg #[.slice Ao16 t200.length co16, .slice Ao18 t203.length co18, .int .i64 t206, .bool t207]] rfl (by (try simp only [List.map_toArray, List.map_cons, List.map_nil]); first | done | rfl | (simp only [List.length_drop, List.length_take]; rfl)) ?_; (with_reducible refine (hogsheadref08_Flush.calls k (fun k_ => k_ ≠ g199) _ _ t200 (fun k_ => k_ ≠ g199) _ _ t203 t206 t207 t209 t212 t215 t216 t217 _ ?side1 ?side2 A3.out).mono ?_); (case side1 => exact HO202.out); (case side2 => exact HO205.out); rintro e w21 ⟨v210, v213, rfl, ho0, ho1, hb⟩; refine ⟨_, rfl, ?_⟩; have n0_ := qM (Kd.R_below (by (with_reducible repeat first | apply RA | apply RN | apply RD); exact HO192.out) hb); have n1_ := qM (Kd.R_below (by (with_reducible repeat first | apply RA | apply RN | apply RD); exact HO195.out) hb); have n2_ := qM (Vb (by (with_reducible repeat first | apply VA | apply VN | apply VD); exact HO202.out) hb); have n3_ := qM (Vb (by (with_reducible repeat first | apply VA | apply VN | apply VD); exact HO205.out) hb); have n4_ := qM (Vl (Vm (ok' := fun k_ => k_ ≠ g199) ho0 (fun k_ hk_ => Or.elim hk_ (fun hs_ => Or.elim hs_ (fun hs_ => hs_) (fun hs_ => hs_)) (fun hn_ => (Fb (g := g199) (by (with_reducible repeat first | refine qN ?_ _ | refine qD ?_ | refine qA ?_ _); exact B199.out) k_ hn_)))) (eZ (by repeat (first | (with_reducible first | exact HB.out | apply eA | apply eN | apply eD | refine eS ?_ GE199.out) | exact HB.out)))); have n5_ := qM (Vl (Vm (ok' := fun k_ => k_ ≠ g199) ho1 (fun k_ hk_ => Or.elim hk_ (fun hs_ => Or.elim hs_ (fun hs_ => hs_) (fun hs_ => hs_)) (fun hn_ => (Fb (g := g199) (by (with_reducible repeat first | refine qN ?_ _ | refine qD ?_ | refine qA ?_ _); exact B199.out) k_ hn_)))) (eZ (by repeat (first | (with_reducible first | exact HB.out | apply eA | apply eN | apply eD | refine eS ?_ GE199.out) | exact HB.out)))); have n6_ := qM (qB (g := g199) (by (with_reducible repeat first | refine qN ?_ _ | refine qD ?_ | refine qA ?_ _); exact B199.out) hb); have n7_ := qM (eT (by repeat (first | (with_reducible first | exact HB.out | apply eA | apply eN | apply eD | refine eS ?_ GE199.out) | exact HB.out)) hb); clear HO192; clear HO195; clear HO202; clear HO205; clear B199; clear HB; have HO192 := n0_; have HO195 := n1_; have HO202 := n2_; have HO205 := n3_; have HO211 := n4_; have HO214 := n5_; have B199 := n6_; have HB := n7_; clear n0_ n1_ n2_ n3_ n4_ n5_ n6_ n7_; (try clear hb); (try clear hb2); (try clear hk); (try clear hi); (try clear ho0); (try clear ho1); obtain ⟨Ao22, co22, eo22⟩ := Kd.V_slice HO211.out; subst eo22; obtain ⟨z23_0, z23_1, z23_2, z23_3, f23_0, f23_1, f23_2, f23_3⟩ := cells4 B199.out; obtain ⟨Ao24, co24, eo24⟩ := Kd.V_slice HO214.out; subst eo24) | ((with_reducible refine gate_store (t := 37) (p := 1) rfl ?_); refine store_event (t := 37) (p := 1) (v := ?vo_w25) (w1 := ((((w21.setCell ⟨g199, 0, none⟩ (.slice Ao22 t209.length co22)).setCell ⟨g199, 1, none⟩ (.slice Ao24 t212.length co24)).setCell ⟨g199, 2, none⟩ (.int .i64 t215)).setCell ⟨g199, 3, none⟩ (.bool t216))) ?hg ?ho ?hn ?hr ?_; (case ho => rfl); (case hg => rfl); (case hn => rfl); (case hr => first | (go_simp; done) | (go_simp; rfl)); intro w25 hw; have n0_ : Aside0 (Kd.R Kd.string 9 w25 w.heap.size (fun _ => True) (.slice Ao10 t190.length co10) t190) := ⟨(by rw [hw]; exact (by (with_reducible repeat first | apply RA | apply RN | apply RD); exact Kd.R_mono (Kd.R_far (p := ⟨g199, 3, none⟩) (Kd.R_far (p := ⟨g199, 2, none⟩) (Kd.R_far (p := ⟨g199, 1, none⟩) (Kd.R_far (p := ⟨g199, 0, none⟩) (Kd.R_types HO192.out B199.out (by decide)) (fun _ hk => hk.2) (.slice Ao22 t209.length co22)) (fun _ hk => hk.2) (.slice Ao24 t212.length co24)) (fun _ hk => hk.2) (.int .i64 t215)) (fun _ hk => hk.2) (.bool t216)) (fun _ hk => trivial)))⟩; have n1_ : Aside0 (Kd.R k77 77 w25 w.heap.size (fun _ => True) (.slice Ao12 t193.length co12) t193) := ⟨(by rw [hw]; exact (by (with_reducible repeat first | apply RA | apply RN | apply RD); exact Kd.R_mono (Kd.R_far (p := ⟨g199, 3, none⟩) (Kd.R_far (p := ⟨g199, 2, none⟩) (Kd.R_far (p := ⟨g199, 1, none⟩) (Kd.R_far (p := ⟨g199, 0, none⟩) (Kd.R_types HO195.out B199.out (by decide)) (fun _ hk => hk.2) (.slice Ao22 t209.length co22)) (fun _ hk => hk.2) (.slice Ao24 t212.length co24)) (fun _ hk => hk.2) (.int .i64 t215)) (fun _ hk => hk.2) (.bool t216)) (fun _ hk => trivial)))⟩; have n2_ : Aside0 (Kd.V Kd.string 9 w25 w.heap.size (fun k_ => k_ ≠ g199) (.slice Ao16 t200.length co16) t200) := ⟨(by rw [hw]; exact (by (with_reducible repeat first | apply VA | apply VN | apply VD); exact Vm (Vf (p := ⟨g199, 3, none⟩) (Vf (p := ⟨g199, 2, none⟩) (Vf (p := ⟨g199, 1, none⟩) (Vf (p := ⟨g199, 0, none⟩) (Vm HO202.out (fun k_ hk => (⟨hk, hk⟩ : _ ∧ k_ ≠ g199))) (fun _ hk => hk.2) (.slice Ao22 t209.length co22)) (fun _ hk => hk.2) (.slice Ao24 t212.length co24)) (fun _ hk => hk.2) (.int .i64 t215)) (fun _ hk => hk.2) (.bool t216)) (fun _ hk => hk.1)))⟩; have n3_ : Aside0 (Kd.V k77 77 w25 w.heap.size (fun k_ => k_ ≠ g199) (.slice Ao18 t203.length co18) t203) := ⟨(by rw [hw]; exact (by (with_reducible repeat first | apply VA | apply VN | apply VD); exact Vm (Vf (p := ⟨g199, 3, none⟩) (Vf (p := ⟨g199, 2, none⟩) (Vf (p := ⟨g199, 1, none⟩) (Vf (p := ⟨g199, 0, none⟩) (Vm HO205.out (fun k_ hk => (⟨hk, hk⟩ : _ ∧ k_ ≠ g199))) (fun _ hk => hk.2) (.slice Ao22 t209.length co22)) (fun _ hk => hk.2) (.slice Ao24 t212.length co24)) (fun _ hk => hk.2) (.int .i64 t215)) (fun _ hk => hk.2) (.bool t216)) (fun _ hk => hk.1)))⟩; have n4_ : Aside0 (Kd.V Kd.string 9 w25 w.heap.size (fun k_ => k_ ≠ g199) (.slice Ao22 t209.length co22) t209) := ⟨(by rw [hw]; exact (by (with_reducible repeat first | apply VA | apply VN | apply VD); exact Vm (Vf (p := ⟨g199, 3, none⟩) (Vf (p := ⟨g199, 2, none⟩) (Vf (p := ⟨g199, 1, none⟩) (Vf (p := ⟨g199, 0, none⟩) (Vm HO211.out (fun k_ hk => (⟨hk, hk⟩ : _ ∧ k_ ≠ g199))) (fun _ hk => hk.2) (.slice Ao22 t209.length co22)) (fun _ hk => hk.2) (.slice Ao24 t212.length co24)) (fun _ hk => hk.2) (.int .i64 t215)) (fun _ hk => hk.2) (.bool t216)) (fun _ hk => hk.1)))⟩; have n5_ : Aside0 (Kd.V k77 77 w25 w.heap.size (fun k_ => k_ ≠ g199) (.slice Ao24 t212.length co24) t212) := ⟨(by rw [hw]; exact (by (with_reducible repeat first | apply VA | apply VN | apply VD); exact Vm (Vf (p := ⟨g199, 3, none⟩) (Vf (p := ⟨g199, 2, none⟩) (Vf (p := ⟨g199, 1, none⟩) (Vf (p := ⟨g199, 0, none⟩) (Vm HO214.out (fun k_ hk => (⟨hk, hk⟩ : _ ∧ k_ ≠ g199))) (fun _ hk => hk.2) (.slice Ao22 t209.length co22)) (fun _ hk => hk.2) (.slice Ao24 t212.length co24)) (fun _ hk => hk.2) (.int .i64 t215)) (fun _ hk => hk.2) (.bool t216)) (fun _ hk => hk.1)))⟩; have n6_ : Aside0 (w25.heap[g199]? = some (.cells #[.slice Ao22 t209.length co22, .slice Ao24 t212.length co24, .int .i64 t215, .bool t216] 37 (0, 0))) := ⟨(by rw [hw]; exact (by (with_reducible repeat first | refine qN ?_ _ | refine qD ?_ | refine qA ?_ _); apply puts4; (with_reducible repeat first | refine qN ?_ _ | refine qD ?_ | refine qA ?_ _); exact B199.out))⟩; have n7_ : Aside0 (Below w.heap.size w w25) := ⟨(by rw [hw]; exact (by repeat (first | (with_reducible first | exact HB.out | apply eA | apply eN | apply eD | refine eS ?_ GE199.out) | exact HB.out)))⟩; clear hw; clear HO192; clear HO195; clear HO202; clear HO205; clear HO211; clear HO214; clear B199; clear HB; have HO192 := n0_; have HO195 := n1_; have HO202 := n2_; have HO205 := n3_; have HO211 := n4_; have HO214 := n5_; have B199 := n6_; have HB := n7_; clear n0_ n1_ n2_ n3_ n4_ n5_ n6_ n7_; obtain ⟨z26_0, z26_1, z26_2, z26_3, f26_0, f26_1, f26_2, f26_3⟩ := cells4 B199.out) | ((with_reducible refine gate_callee (f := 17) rfl ?_); refine goesL_ (some 24) rfl rfl Try.func17 (by kernel_rfl) rfl #[.agg #[.slice Ao22 t209.length co22, .slice Ao24 t212.length co24, .int .i64 t215, .bool t216], .int .i64 0, .string (⟨#[121]⟩ : ByteArray)] rfl (by (try simp only [List.map_toArray, List.map_cons, List.map_nil]); first | done | rfl | (simp only [List.length_drop, List.length_take]; rfl)) ?_; (with_reducible refine (cell_Write.calls k (fun k_ => k_ ≠ g199) _ _ t209 (fun k_ => k_ ≠ g199) _ _ t212 t215 t216 0 (⟨#[121]⟩ : ByteArray) t218 t221 t224 t225 t226 _ ?side1 ?side2 A4.out).mono ?_); (case side1 => exact HO211.out); (case side2 => exact HO214.out); rintro e w27 ⟨v219, v222, rfl, ho0, ho1, hb⟩; refine ⟨_, rfl, ?_⟩; have n0_ := qM (Kd.R_below (by (with_reducible repeat first | apply RA | apply RN | apply RD); exact HO192.out) hb); have n1_ := qM (Kd.R_below (by (with_reducible repeat first | apply RA | apply RN | apply RD); exact HO195.out) hb); have n2_ := qM (Vb (by (with_reducible repeat first | apply VA | apply VN | apply VD); exact HO202.out) hb); have n3_ := qM (Vb (by (with_reducible repeat first | apply VA | apply VN | apply VD); exact HO205.out) hb); have n4_ := qM (Vb (by (with_reducible repeat first | apply VA | apply VN | apply VD); exact HO211.out) hb); have n5_ := qM (Vb (by (with_reducible repeat first | apply VA | apply VN | apply VD); exact HO214.out) hb); have n6_ := qM (Vl (Vm (ok' := fun k_ => k_ ≠ g199) ho0 (fun k_ hk_ => Or.elim hk_ (fun hs_ => Or.elim hs_ (fun hs_ => hs_) (fun hs_ => hs_)) (fun hn_ => (Fb (g := g199) (by (with_reducible repeat first | refine qN ?_ _ | refine qD ?_ | refine qA ?_ _); exact B199.out) k_ hn_)))) (eZ (by repeat (first | (with_reducible first | exact HB.out | apply eA | apply eN | apply eD | refine eS ?_ GE199.out) | exact HB.out)))); have n7_ := qM (Vl (Vm (ok' := fun k_ => k_ ≠ g199) ho1 (fun k_ hk_ => Or.elim hk_ (fun hs_ => Or.elim hs_ (fun hs_ => hs_) (fun hs_ => hs_)) (fun hn_ => (Fb (g := g199) (by (with_reducible repeat first | refine qN ?_ _ | refine qD ?_ | refine qA ?_ _); exact B199.out) k_ hn_)))) (eZ (by repeat (first | (with_reducible first | exact HB.out | apply eA | apply eN | apply eD | refine eS ?_ GE199.out) | exact HB.out)))); have n8_ := qM (qB (g := g199) (by (with_reducible repeat first | refine qN ?_ _ | refine qD ?_ | refine qA ?_ _); exact B199.out) hb); have n9_ := qM (eT (by repeat (first | (with_reducible first | exact HB.out | apply eA | apply eN | apply eD | refine eS ?_ GE199.out) | exact HB.out)) hb); clear HO192; clear HO195; clear HO202; clear HO205; clear HO211; clear HO214; clear B199; clear HB; have HO192 := n0_; have HO195 := n1_; have HO202 := n2_; have HO205 := n3_; have HO211 := n4_; have HO214 := n5_; have HO220 := n6_; have HO223 := n7_; have B199 := n8_; have HB := n9_; clear n0_ n1_ n2_ n3_ n4_ n5_ n6_ n7_ n8_ n9_; (try clear hb); (try clear hb2); (try clear hk); (try clear hi); (try clear ho0); (try clear ho1); obtain ⟨Ao28, co28, eo28⟩ := Kd.V_slice HO220.out; subst eo28; obtain ⟨z29_0, z29_1, z29_2, z29_3, f29_0, f29_1, f29_2, f29_3⟩ := cells4 B199.out; obtain ⟨Ao30, co30, eo30⟩ := Kd.V_slice HO223.out; subst eo30) | ((with_reducible refine gate_callee (f := 21) rfl ?_); refine goesL_ (some 29) rfl rfl Try.func21 (by kernel_rfl) rfl #[.agg #[.slice Ao28 t218.length co28, .slice Ao30 t221.length co30, .int .i64 t224, .bool t225], .int .i64 0, .int .i64 3] rfl (by (try simp only [List.map_toArray, List.map_cons, List.map_nil]); first | done | rfl | (simp only [List.length_drop, List.length_take]; rfl)) ?_; (with_reducible refine (hogsheadref08_Crash.calls k _ _ t218 _ _ t221 t224 t225 0 3 t227 t230 t233 t234 _ ?side1 ?side2 ?side3 ?side4 A5.out).mono ?_); (case side1 => refine (Kd.V_reads' (e := 9) (base := w.heap.size) (ok := fun k_ => k_ ≠ g199) (n := t218.length) (c := co28) ?_).2.2; exact (by (with_reducible repeat first | apply VA | apply VN | apply VD); exact (Vm (Vf (p := ⟨g199, 3, none⟩) (Vf (p := ⟨g199, 2, none⟩) (Vf (p := ⟨g199, 1, none⟩) (Vf (p := ⟨g199, 0, none⟩) (Vm HO220.out (fun k_ hk => (⟨hk, hk⟩ : _ ∧ k_ ≠ g199))) (fun _ hk => hk.2) (.slice Ao28 t218.length co28)) (fun _ hk => hk.2) (.slice Ao30 t221.length co30)) (fun _ hk => hk.2) (.int .i64 t224)) (fun _ hk => hk.2) (.bool t225)) (fun _ h_ => h_.1)))); (case side2 => exact (Kd.V_reads' HO220.out).2.1); (case side3 => refine (Kd.V_reads' (e := 77) (base := w.heap.size) (ok := fun k_ => k_ ≠ g199) (n := t221.length) (c := co30) ?_).2.2; exact (by (with_reducible repeat first | apply VA | apply VN | apply VD); exact (Vm (Vf (p := ⟨g199, 3, none⟩) (Vf (p := ⟨g199, 2, none⟩) (Vf (p := ⟨g199, 1, none⟩) (Vf (p := ⟨g199, 0, none⟩) (Vm HO223.out (fun k_ hk => (⟨hk, hk⟩ : _ ∧ k_ ≠ g199))) (fun _ hk => hk.2) (.slice Ao28 t218.length co28)) (fun _ hk => hk.2) (.slice Ao30 t221.length co30)) (fun _ hk => hk.2) (.int .i64 t224)) (fun _ hk => hk.2) (.bool t225)) (fun _ h_ => h_.1)))); (case side4 => exact (Kd.V_reads' HO223.out).2.1); rintro e w31 ⟨v228, v231, rfl, ho0, ho1, hb⟩; refine ⟨_, rfl, ?_⟩; have n0_ := qM (Kd.R_elder' (by (with_reducible repeat first | apply RA | apply RN | apply RD); exact (Kd.R_mono (Kd.R_far (p := ⟨g199, 3, none⟩) (Kd.R_far (p := ⟨g199, 2, none⟩) (Kd.R_far (p := ⟨g199, 1, none⟩) (Kd.R_far (p := ⟨g199, 0, none⟩) (Kd.R_types HO192.out B199.out (by decide)) (fun _ hk => hk.2) (.slice Ao28 t218.length co28)) (fun _ hk => hk.2) (.slice Ao30 t221.length co30)) (fun _ hk => hk.2) (.int .i64 t224)) (fun _ hk => hk.2) (.bool t225)) (fun _ h_ => h_.1))) (Kd.R_base ho0) hb); have n1_ := qM (Kd.R_elder' (by (with_reducible repeat first | apply RA | apply RN | apply RD); exact (Kd.R_mono (Kd.R_far (p := ⟨g199, 3, none⟩) (Kd.R_far (p := ⟨g199, 2, none⟩) (Kd.R_far (p := ⟨g199, 1, none⟩) (Kd.R_far (p := ⟨g199, 0, none⟩) (Kd.R_types HO195.out B199.out (by decide)) (fun _ hk => hk.2) (.slice Ao28 t218.length co28)) (fun _ hk => hk.2) (.slice Ao30 t221.length co30)) (fun _ hk => hk.2) (.int .i64 t224)) (fun _ hk => hk.2) (.bool t225)) (fun _ h_ => h_.1))) (Kd.R_base ho1) hb); have n2_ := qM (Vm (Kd.V_told (Kd.V_told (Kd.V_old (by (with_reducible repeat first | apply VA | apply VN | apply VD); exact (Vm (Vf (p := ⟨g199, 3, none⟩) (Vf (p := ⟨g199, 2, none⟩) (Vf (p := ⟨g199, 1, none⟩) (Vf (p := ⟨g199, 0, none⟩) (Vm HO202.out (fun k_ hk => (⟨hk, hk⟩ : _ ∧ k_ ≠ g199))) (fun _ hk => hk.2) (.slice Ao28 t218.length co28)) (fun _ hk => hk.2) (.slice Ao30 t221.length co30)) (fun _ hk => hk.2) (.int .i64 t224)) (fun _ hk => hk.2) (.bool t225)) (fun _ h_ => h_.1))) hb) (Kd.R_base ho0)) (Kd.R_base ho1)) (fun _ h_ => h_.1)); have n3_ := qM (Vm (Kd.V_told (Kd.V_told (Kd.V_old (by (with_reducible repeat first | apply VA | apply VN | apply VD); exact (Vm (Vf (p := ⟨g199, 3, none⟩) (Vf (p := ⟨g199, 2, none⟩) (Vf (p := ⟨g199, 1, none⟩) (Vf (p := ⟨g199, 0, none⟩) (Vm HO205.out (fun k_ hk => (⟨hk, hk⟩ : _ ∧ k_ ≠ g199))) (fun _ hk => hk.2) (.slice Ao28 t218.length co28)) (fun _ hk => hk.2) (.slice Ao30 t221.length co30)) (fun _ hk => hk.2) (.int .i64 t224)) (fun _ hk => hk.2) (.bool t225)) (fun _ h_ => h_.1))) hb) (Kd.R_base ho0)) (Kd.R_base ho1)) (fun _ h_ => h_.1)); have n4_ := qM (Vm (Kd.V_told (Kd.V_told (Kd.V_old (by (with_reducible repeat first | apply VA | apply VN | apply VD); exact (Vm (Vf (p := ⟨g199, 3, none⟩) (Vf (p := ⟨g199, 2, none⟩) (Vf (p := ⟨g199, 1, none⟩) (Vf (p := ⟨g199, 0, none⟩) (Vm HO211.out (fun k_ hk => (⟨hk, hk⟩ : _ ∧ k_ ≠ g199))) (fun _ hk => hk.2) (.slice Ao28 t218.length co28)) (fun _ hk => hk.2) (.slice Ao30 t221.length co30)) (fun _ hk => hk.2) (.int .i64 t224)) (fun _ hk => hk.2) (.bool t225)) (fun _ h_ => h_.1))) hb) (Kd.R_base ho0)) (Kd.R_base ho1)) (fun _ h_ => h_.1)); have n5_ := qM (Vm (Kd.V_told (Kd.V_told (Kd.V_old (by (with_reducible repeat first | apply VA | apply VN | apply VD); exact (Vm (Vf (p := ⟨g199, 3, none⟩) (Vf (p := ⟨g199, 2, none⟩) (Vf (p := ⟨g199, 1, none⟩) (Vf (p := ⟨g199, 0, none⟩) (Vm HO214.out (fun k_ hk => (⟨hk, hk⟩ : _ ∧ k_ ≠ g199))) (fun _ hk => hk.2) (.slice Ao28 t218.length co28)) (fun _ hk => hk.2) (.slice Ao30 t221.length co30)) (fun _ hk => hk.2) (.int .i64 t224)) (fun _ hk => hk.2) (.bool t225)) (fun _ h_ => h_.1))) hb) (Kd.R_base ho0)) (Kd.R_base ho1)) (fun _ h_ => h_.1)); have n6_ := qM (Vm (Kd.V_told (Kd.V_told (Kd.V_old (by (with_reducible repeat first | apply VA | apply VN | apply VD); exact (Vm (Vf (p := ⟨g199, 3, none⟩) (Vf (p := ⟨g199, 2, none⟩) (Vf (p := ⟨g199, 1, none⟩) (Vf (p := ⟨g199, 0, none⟩) (Vm HO220.out (fun k_ hk => (⟨hk, hk⟩ : _ ∧ k_ ≠ g199))) (fun _ hk => hk.2) (.slice Ao28 t218.length co28)) (fun _ hk => hk.2) (.slice Ao30 t221.length co30)) (fun _ hk => hk.2) (.int .i64 t224)) (fun _ hk => hk.2) (.bool t225)) (fun _ h_ => h_.1))) hb) (Kd.R_base ho0)) (Kd.R_base ho1)) (fun _ h_ => h_.1)); have n7_ := qM (Vm (Kd.V_told (Kd.V_told (Kd.V_old (by (with_reducible repeat first | apply VA | apply VN | apply VD); exact (Vm (Vf (p := ⟨g199, 3, none⟩) (Vf (p := ⟨g199, 2, none⟩) (Vf (p := ⟨g199, 1, none⟩) (Vf (p := ⟨g199, 0, none⟩) (Vm HO223.out (fun k_ hk => (⟨hk, hk⟩ : _ ∧ k_ ≠ g199))) (fun _ hk => hk.2) (.slice Ao28 t218.length co28)) (fun _ hk => hk.2) (.slice Ao30 t221.length co30)) (fun _ hk => hk.2) (.int .i64 t224)) (fun _ hk => hk.2) (.bool t225)) (fun _ h_ => h_.1))) hb) (Kd.R_base ho0)) (Kd.R_base ho1)) (fun _ h_ => h_.1)); have n8_ := qM (Kd.R_lower (Kd.R_new' ho0 (Kd.R_lt (by (with_reducible repeat first | apply RA | apply RN | apply RD); exact (Kd.R_mono (Kd.R_far (p := ⟨g199, 3, none⟩) (Kd.R_far (p := ⟨g199, 2, none⟩) (Kd.R_far (p := ⟨g199, 1, none⟩) (Kd.R_far (p := ⟨g199, 0, none⟩) (Kd.R_types HO192.out B199.out (by decide)) (fun _ hk => hk.2) (.slice Ao28 t218.length co28)) (fun _ hk => hk.2) (.slice Ao30 t221.length co30)) (fun _ hk => hk.2) (.int .i64 t224)) (fun _ hk => hk.2) (.bool t225)) (fun _ h_ => h_.1))))) (eZ (by repeat (first | (with_reducible first | exact HB.out | apply eA | apply eN | apply eD | refine eS ?_ GE199.out) | exact HB.out)))); have n9_ := qM (Kd.R_lower (Kd.R_new' ho1 (Kd.R_lt (by (with_reducible repeat first | apply RA | apply RN | apply RD); exact (Kd.R_mono (Kd.R_far (p := ⟨g199, 3, none⟩) (Kd.R_far (p := ⟨g199, 2, none⟩) (Kd.R_far (p := ⟨g199, 1, none⟩) (Kd.R_far (p := ⟨g199, 0, none⟩) (Kd.R_types HO195.out B199.out (by decide)) (fun _ hk => hk.2) (.slice Ao28 t218.length co28)) (fun _ hk => hk.2) (.slice Ao30 t221.length co30)) (fun _ hk => hk.2) (.int .i64 t224)) (fun _ hk => hk.2) (.bool t225)) (fun _ h_ => h_.1))))) (eZ (by repeat (first | (with_reducible first | exact HB.out | apply eA | apply eN | apply eD | refine eS ?_ GE199.out) | exact HB.out)))); have n10_ := qM (qB (g := g199) (by (with_reducible repeat first | refine qN ?_ _ | refine qD ?_ | refine qA ?_ _); apply puts4; (with_reducible repeat first | refine qN ?_ _ | refine qD ?_ | refine qA ?_ _); exact B199.out) hb); have n11_ := qM (eT (by repeat (first | (with_reducible first | exact HB.out | apply eA | apply eN | apply eD | refine eS ?_ GE199.out) | exact HB.out)) hb); clear HO192; clear HO195; clear HO202; clear HO205; clear HO211; clear HO214; clear HO220; clear HO223; clear B199; clear HB; have HO192 := n0_; have HO195 := n1_; have HO202 := n2_; have HO205 := n3_; have HO211 := n4_; have HO214 := n5_; have HO220 := n6_; have HO223 := n7_; have HO229 := n8_; have HO232 := n9_; have B199 := n10_; have HB := n11_; clear n0_ n1_ n2_ n3_ n4_ n5_ n6_ n7_ n8_ n9_ n10_ n11_; (try clear hb); (try clear hb2); (try clear hk); (try clear hi); (try clear ho0); (try clear ho1); obtain ⟨Ao32, co32, eo32⟩ := Kd.R_slice HO229.out; subst eo32; obtain ⟨Ao33, co33, eo33⟩ := Kd.R_slice HO232.out; subst eo33) | ((with_reducible refine gate_callee (f := 15) rfl ?_); refine goesL_ (some 30) rfl rfl Try.func15 (by kernel_rfl) rfl #[.agg #[.slice Ao32 t227.length co32, .slice Ao33 t230.length co33, .int .i64 t233, .bool t234], .int .i64 0] rfl (by (try simp only [List.map_toArray, List.map_cons, List.map_nil]); first | done | rfl | (simp only [List.length_drop, List.length_take]; rfl)) ?_; (with_reducible refine (cell_Read.calls k _ _ t227 _ _ t230 t233 t234 0 t235 t236 t237 _ ?side1 ?side2 ?side3 ?side4 A6.out).mono ?_); (case side1 => repeat (first | exact (Kd.R_reads' HO229.out).2.2 | (with_reducible refine Kd.C_alloc ?_ _) | (with_reducible refine Kd.C_drewN ?_ _) | (with_reducible refine Kd.C_drew ?_))); (case side2 => exact (Kd.R_reads' HO229.out).2.1); (case side3 => repeat (first | exact (Kd.R_reads' HO232.out).2.2 | (with_reducible refine Kd.C_alloc ?_ _) | (with_reducible refine Kd.C_drewN ?_ _) | (with_reducible refine Kd.C_drew ?_))); (case side4 => exact (Kd.R_reads' HO232.out).2.1); rintro e w34 ⟨rfl, hb⟩; refine ⟨_, rfl, ?_⟩; have n0_ := qM (Kd.R_below (by (with_reducible repeat first | apply RA | apply RN | apply RD); exact HO192.out) hb); have n1_ := qM (Kd.R_below (by (with_reducible repeat first | apply RA | apply RN | apply RD); exact HO195.out) hb); have n2_ := qM (Vb (by (with_reducible repeat first | apply VA | apply VN | apply VD); exact HO202.out) hb); have n3_ := qM (Vb (by (with_reducible repeat first | apply VA | apply VN | apply VD); exact HO205.out) hb); have n4_ := qM (Vb (by (with_reducible repeat first | apply VA | apply VN | apply VD); exact HO211.out) hb); have n5_ := qM (Vb (by (with_reducible repeat first | apply VA | apply VN | apply VD); exact HO214.out) hb); have n6_ := qM (Vb (by (with_reducible repeat first | apply VA | apply VN | apply VD); exact HO220.out) hb); have n7_ := qM (Vb (by (with_reducible repeat first | apply VA | apply VN | apply VD); exact HO223.out) hb); have n8_ := qM (Kd.R_below (by (with_reducible repeat first | apply RA | apply RN | apply RD); exact HO229.out) hb); have n9_ := qM (Kd.R_below (by (with_reducible repeat first | apply RA | apply RN | apply RD); exact HO232.out) hb); have n10_ := qM (qB (g := g199) (by (with_reducible repeat first | refine qN ?_ _ | refine qD ?_ | refine qA ?_ _); exact B199.out) hb); have n11_ := qM (eT (by repeat (first | (with_reducible first | exact HB.out | apply eA | apply eN | apply eD | refine eS ?_ GE199.out) | exact HB.out)) hb); clear HO192; clear HO195; clear HO202; clear HO205; clear HO211; clear HO214; clear HO220; clear HO223; clear HO229; clear HO232; clear B199; clear HB; have HO192 := n0_; have HO195 := n1_; have HO202 := n2_; have HO205 := n3_; have HO211 := n4_; have HO214 := n5_; have HO220 := n6_; have HO223 := n7_; have HO229 := n8_; have HO232 := n9_; have B199 := n10_; have HB := n11_; clear n0_ n1_ n2_ n3_ n4_ n5_ n6_ n7_ n8_ n9_ n10_ n11_; (try clear hb); (try clear hb2); (try clear hk); (try clear hi)))
 (try simp only [Act.put, List.setIfInBounds_toArray, List.set_cons_zero, List.set_cons_succ])
 go_cut [0] (fun v0 wc => ∃ (kq : Nat) (x0_6 : Bool), v0 = .bool x0_6 ∧ Aside0 (hogsheadlaw09_shown.j0 kq x0_6 = some r) ∧ Aside0 (kq ≤ k) ∧ Aside0 (Kd.V Kd.string 9 wc w.heap.size (fun k_ => k_ ≠ g199) (.slice Ao28 t218.length co28) t218) ∧ Aside0 (Kd.V k77 77 wc w.heap.size (fun k_ => k_ ≠ g199) (.slice Ao30 t221.length co30) t221) ∧ Aside0 (wc.heap[g199]? = some (.cells #[(.slice Ao28 t218.length co28), (.slice Ao30 t221.length co30), .int .i64 t224, .bool t225] 37 (0, 0))) ∧ Aside0 (Below w.heap.size w wc))
 case first =>
  have H := HC7.out
  clear HC7
  by_cases c35 : t208 = 0
  ·rw [if_pos c35] at H
   have c35b0 : (t208 == 0) = true := beq_iff_eq.mpr c35
   have c35b1 : (t208 != 0) = false := bne_eq_false_iff_eq.mpr c35
   clear c35
   (first | rw [c35b0] | (simp only [i64_w, i32_w]; rw [c35b0]) | skip)
   by_cases c36 : t226 = 0
   ·rw [if_pos c36] at H
    have c36b0 : (t226 == 0) = true := beq_iff_eq.mpr c36
    have c36b1 : (t226 != 0) = false := bne_eq_false_iff_eq.mpr c36
    clear c36
    by_cases c37 : t237 = 0
    ·rw [if_pos c37] at H
     have c37b0 : (t237 == 0) = true := beq_iff_eq.mpr c37
     have c37b1 : (t237 != 0) = false := bne_eq_false_iff_eq.mpr c37
     clear c37
     by_cases c38 : t235.toList = ([120] : List UInt8)
     ·rw [if_pos c38] at H
      have c38b0 : (t235.toList == ([120] : List UInt8)) = true := beq_iff_eq.mpr c38
      have c38b1 : (t235.toList != ([120] : List UInt8)) = false := bne_eq_false_iff_eq.mpr c38
      clear c38
      have H' := qM H
      clear H
      go_wp2
      go_meet
      case rel => exact ⟨_, ((t236 == 1)), (by first | rfl | (simp; done) | (simp [*]; done)), H', ⟨by first | omega | exact Nat.le_refl _⟩, ⟨by (with_reducible repeat first | apply VA | apply VN | apply VD); exact Vm HO220.out (fun _ hk => hk.1.1)⟩, ⟨by (with_reducible repeat first | apply VA | apply VN | apply VD); exact Vm HO223.out (fun _ hk => hk.1.1)⟩, ⟨by (with_reducible repeat first | refine qN ?_ _ | refine qD ?_ | refine qA ?_ _); exact B199.out⟩, ⟨by repeat (first | (with_reducible first | exact HB.out | apply eA | apply eN | apply eD | refine eS ?_ GE199.out) | exact HB.out)⟩⟩
     ·rw [if_neg c38] at H
      have c38b0 : (t235.toList == ([120] : List UInt8)) = false := beq_eq_false_iff_ne.mpr c38
      have c38b1 : (t235.toList != ([120] : List UInt8)) = true := bne_iff_ne.mpr c38
      have H' := qM H
      clear H
      go_wp2
      go_meet
      case rel => exact ⟨_, (false), (by first | rfl | (simp; done) | (simp [*]; done)), H', ⟨by first | omega | exact Nat.le_refl _⟩, ⟨by (with_reducible repeat first | apply VA | apply VN | apply VD); exact Vm HO220.out (fun _ hk => hk.1.1)⟩, ⟨by (with_reducible repeat first | apply VA | apply VN | apply VD); exact Vm HO223.out (fun _ hk => hk.1.1)⟩, ⟨by (with_reducible repeat first | refine qN ?_ _ | refine qD ?_ | refine qA ?_ _); exact B199.out⟩, ⟨by repeat (first | (with_reducible first | exact HB.out | apply eA | apply eN | apply eD | refine eS ?_ GE199.out) | exact HB.out)⟩⟩
    ·rw [if_neg c37] at H
     have c37b0 : (t237 == 0) = false := beq_eq_false_iff_ne.mpr c37
     have c37b1 : (t237 != 0) = true := bne_iff_ne.mpr c37
     have H' := qM H
     clear H
     go_wp2
     go_meet
     case rel => exact ⟨_, (false), (by first | rfl | (simp; done) | (simp [*]; done)), H', ⟨by first | omega | exact Nat.le_refl _⟩, ⟨by (with_reducible repeat first | apply VA | apply VN | apply VD); exact Vm HO220.out (fun _ hk => hk.1.1)⟩, ⟨by (with_reducible repeat first | apply VA | apply VN | apply VD); exact Vm HO223.out (fun _ hk => hk.1.1)⟩, ⟨by (with_reducible repeat first | refine qN ?_ _ | refine qD ?_ | refine qA ?_ _); exact B199.out⟩, ⟨by repeat (first | (with_reducible first | exact HB.out | apply eA | apply eN | apply eD | refine eS ?_ GE199.out) | exact HB.out)⟩⟩
   ·rw [if_neg c36] at H
    have c36b0 : (t226 == 0) = false := beq_eq_false_iff_ne.mpr c36
    have c36b1 : (t226 != 0) = true := bne_iff_ne.mpr c36
    have H' := qM H
    clear H
    go_wp2
    go_meet
    case rel => exact ⟨_, (false), (by first | rfl | (simp; done) | (simp [*]; done)), H', ⟨by first | omega | exact Nat.le_refl _⟩, ⟨by (with_reducible repeat first | apply VA | apply VN | apply VD); exact Vm HO220.out (fun _ hk => hk.1.1)⟩, ⟨by (with_reducible repeat first | apply VA | apply VN | apply VD); exact Vm HO223.out (fun _ hk => hk.1.1)⟩, ⟨by (with_reducible repeat first | refine qN ?_ _ | refine qD ?_ | refine qA ?_ _); exact B199.out⟩, ⟨by repeat (first | (with_reducible first | exact HB.out | apply eA | apply eN | apply eD | refine eS ?_ GE199.out) | exact HB.out)⟩⟩
  ·rw [if_neg c35] at H
   have c35b0 : (t208 == 0) = false := beq_eq_false_iff_ne.mpr c35
   have c35b1 : (t208 != 0) = true := bne_iff_ne.mpr c35
   (first | rw [c35b0] | (simp only [i64_w, i32_w]; rw [c35b0]) | skip)
   have H' := qM H
   clear H
   go_wp2
   go_meet
   case rel => exact ⟨_, (false), (by first | rfl | (simp; done) | (simp [*]; done)), H', ⟨by first | omega | exact Nat.le_refl _⟩, ⟨by (with_reducible repeat first | apply VA | apply VN | apply VD); exact Vm HO220.out (fun _ hk => hk.1.1)⟩, ⟨by (with_reducible repeat first | apply VA | apply VN | apply VD); exact Vm HO223.out (fun _ hk => hk.1.1)⟩, ⟨by (with_reducible repeat first | refine qN ?_ _ | refine qD ?_ | refine qA ?_ _); exact B199.out⟩, ⟨by repeat (first | (with_reducible first | exact HB.out | apply eA | apply eN | apply eD | refine eS ?_ GE199.out) | exact HB.out)⟩⟩
 case rest =>
  clear HC7
  try clear c1
  try clear c2
  try clear p2
  try clear c3
  try clear c10
  try clear c15
  try clear c17
  try clear c20
  try clear c21
  try clear c23
  try clear c35
  try clear c35b0
  try clear c35b1
  try clear c36
  try clear c36b0
  try clear c36b1
  try clear c37
  try clear c37b0
  try clear c37b1
  try clear c38
  try clear c38b0
  try clear c38b1
  try clear z11_0
  try clear z11_1
  try clear z11_2
  try clear z11_3
  try clear z14_0
  try clear z14_1
  try clear z14_2
  try clear z14_3
  try clear z17_0
  try clear z17_1
  try clear z17_2
  try clear z17_3
  try clear z20_0
  try clear z20_1
  try clear z20_2
  try clear z20_3
  try clear z23_0
  try clear z23_1
  try clear z23_2
  try clear z23_3
  try clear z26_0
  try clear z26_1
  try clear z26_2
  try clear z26_3
  try clear z29_0
  try clear z29_1
  try clear z29_2
  try clear z29_3
  try clear f11_0
  try clear f11_1
  try clear f11_2
  try clear f11_3
  try clear f14_0
  try clear f14_1
  try clear f14_2
  try clear f14_3
  try clear f17_0
  try clear f17_1
  try clear f17_2
  try clear f17_3
  try clear f20_0
  try clear f20_1
  try clear f20_2
  try clear f20_3
  try clear f23_0
  try clear f23_1
  try clear f23_2
  try clear f23_3
  try clear f26_0
  try clear f26_1
  try clear f26_2
  try clear f26_3
  try clear f29_0
  try clear f29_1
  try clear f29_2
  try clear f29_3
  obtain ⟨kq, x0_6, rfl, HA, HJ6, HO_200000, HO_200001, B199, HB⟩ := hcut
  cases kq with
  | zero => exact absurd HA.out (by simp [hogsheadlaw09_shown.j0])
  | succ kj6 =>
   have H := HA.out
   clear HA
   simp only [hogsheadlaw09_shown.j0] at H
   obtain rfl := Option.some.inj H
   go_wp2
   go_ret
   exact ⟨by first | rfl | (simp [errW_none, errW_some] <;> rfl) | (simp [*, errW_none, errW_some] <;> rfl), by repeat (first | (with_reducible first | exact HB.out | apply eA | apply eN | apply eD | refine eS ?_ GE199.out) | exact HB.out)⟩

end Go.Proofs.Ythnhfmmiaknhgaa.PAll
