/- Functions of the program as plain Lean functions, and that each call comes to what they say. Laid by a program of this session (hprint.py); Lean checks it. -/
import Derived.Test.YtmaojfeikbdkhaaPAllx0
import Derived.Test.YtmaojfeikbdkhaaPAllx3
import Derived.Test.YtmaojfeikbdkhaaPAllx4
namespace Go.Proofs.Ytmaojfeikbdkhaa.PAll
open Go.RowKit Go.Proofs.YtmaojfeikbdkhaaW.PrintWords Go.Proofs.YtmaojfeikbdkhaaW.PrintLast Go.Proofs.YtmaojfeikbdkhaaW.PrintMore
attribute [local go_sem] max2_int min2_int max_two min_two max_three min_three max_four min_four   -- for this text's walks alone
set_option linter.unusedVariables false
set_option linter.unusedSimpArgs false

/-! ### hogsheadlaw08_DiskTwice: function 8 -/
def hogsheadlaw08_DiskTwice.j0 : Nat → Bool → Option (Bool)
 | 0, _ => none
 | k + 1, x2 => some x2
def hogsheadlaw08_DiskTwice.f (k : Nat) (l0_0 : List ByteArray) (l0_1 : List (S47)) (a0_2 : Int) (a0_3 : Bool) (a0_4 : Int) (a0_5 : Int) (a0_6 : Int) : Option (Bool) := (hogsheadlaw08_shown.f k).bind fun t193 => ((disk_Burst.f l0_0 l0_1 a0_2 a0_3 a0_4 a0_5 a0_6).bind fun bt194 => ((disk_Burst.f bt194.1 bt194.2.1 bt194.2.2.1 bt194.2.2.2.1 a0_4 a0_5 a0_6).bind fun bt204 => ((hogsheadref08_Same.f k bt204.1 bt204.2.1 bt204.2.2.1 bt204.2.2.2.1 l0_0 l0_1 a0_2 a0_3).bind fun t214 => ((hogsheadref08_Same.f k bt194.1 bt194.2.1 bt194.2.2.1 bt194.2.2.2.1 l0_0 l0_1 a0_2 a0_3).bind fun t215 => (if t193 = true then (if t214 = true then (if bt194.2.2.2.2 = bt204.2.2.2.2 then (if bt194.2.2.2.2 = 0 then (hogsheadlaw08_DiskTwice.j0 k (t215 == (a0_6 == 0))) else (hogsheadlaw08_DiskTwice.j0 k true)) else (hogsheadlaw08_DiskTwice.j0 k false)) else (hogsheadlaw08_DiskTwice.j0 k false)) else (hogsheadlaw08_DiskTwice.j0 k false))))))
theorem hogsheadlaw08_DiskTwice.mono_l : ∀ k, (∀ y0, LeO (hogsheadlaw08_DiskTwice.j0 k y0) (hogsheadlaw08_DiskTwice.j0 (k + 1) y0))
 | 0 => fun _ r h => by simp [hogsheadlaw08_DiskTwice.j0] at h
 | k + 1 => by
  have ih0 := hogsheadlaw08_DiskTwice.mono_l k
  ·intro y0
   unfold hogsheadlaw08_DiskTwice.j0
   repeat' first
   | (with_reducible exact ih0 _)
   | (with_reducible exact hogsheadlaw08_shown.mono _)
   | (with_reducible exact hogsheadref08_Same.mono _ _ _ _ _ _ _ _ _)
   | (with_reducible exact LeO.refl _)
   | (with_reducible exact LeO.none _)
   | (with_reducible refine LeO.ite ?_ ?_)
   | (with_reducible refine LeO.bind ?_ (fun _ => ?_))
   | exact ih0 _
   | exact hogsheadlaw08_shown.mono _
   | exact hogsheadref08_Same.mono _ _ _ _ _ _ _ _ _
   | exact LeO.none _
   | refine LeO.ite ?_ ?_
   | refine LeO.bind ?_ (fun _ => ?_)
theorem hogsheadlaw08_DiskTwice.mono : ∀ a0 a1 a2 a3 a4 a5 a6 k, LeO (hogsheadlaw08_DiskTwice.f k a0 a1 a2 a3 a4 a5 a6) (hogsheadlaw08_DiskTwice.f (k + 1) a0 a1 a2 a3 a4 a5 a6) := by
 intro a0 a1 a2 a3 a4 a5 a6 k
 have ih0 := hogsheadlaw08_DiskTwice.mono_l k
 unfold hogsheadlaw08_DiskTwice.f
 repeat' first
   | (with_reducible exact ih0 _)
   | (with_reducible exact hogsheadlaw08_shown.mono _)
   | (with_reducible exact hogsheadref08_Same.mono _ _ _ _ _ _ _ _ _)
   | (with_reducible exact LeO.refl _)
   | (with_reducible exact LeO.none _)
   | (with_reducible refine LeO.ite ?_ ?_)
   | (with_reducible refine LeO.bind ?_ (fun _ => ?_))
   | exact ih0 _
   | exact hogsheadlaw08_shown.mono _
   | exact hogsheadref08_Same.mono _ _ _ _ _ _ _ _ _
   | exact LeO.none _
   | refine LeO.ite ?_ ?_
   | refine LeO.bind ?_ (fun _ => ?_)
set_option maxHeartbeats 40000000 in
set_option maxRecDepth 100000 in
theorem hogsheadlaw08_DiskTwice.calls (k : Nat) (A0_0 : Option Addr) (c0_0 : Nat) (l0_0 : List ByteArray) (A0_1 : Option Addr) (c0_1 : Nat) (l0_1 : List (S47)) (a0_2 : Int) (a0_3 : Bool) (a0_4 : Int) (a0_5 : Int) (a0_6 : Int) (r : Bool) (w : World) (hr0_0 : Kd.C Kd.string w A0_0 l0_0.length l0_0) (hc0_0 : l0_0.length ≤ c0_0) (hr0_1 : Kd.C k47 w A0_1 l0_1.length l0_1) (hc0_1 : l0_1.length ≤ c0_1) (h : hogsheadlaw08_DiskTwice.f k l0_0 l0_1 a0_2 a0_3 a0_4 a0_5 a0_6 = some r) :
  Calls Try.prog 8 #[.agg #[.slice A0_0 l0_0.length c0_0, .slice A0_1 l0_1.length c0_1, .int .i64 a0_2, .bool a0_3, .int .i64 a0_4, .int .i64 a0_5, .int .u32 a0_6]] w fun e w' => e = .returned (.bool r) ∧ Below w.heap.size w w' := by
 have hu60 := Try.underlying60
 have hu25 := Try.underlying25
 have HR0_0 := qM hr0_0
 have HC0_0 := qM hc0_0
 clear hr0_0 hc0_0
 have HR0_1 := qM hr0_1
 have HC0_1 := qM hc0_1
 clear hr0_1 hc0_1
 have HB := qM (Below.refl w.heap.size w)
 have H : ((hogsheadlaw08_shown.f k).bind fun t193 => ((disk_Burst.f l0_0 l0_1 a0_2 a0_3 a0_4 a0_5 a0_6).bind fun bt194 => ((disk_Burst.f bt194.1 bt194.2.1 bt194.2.2.1 bt194.2.2.2.1 a0_4 a0_5 a0_6).bind fun bt204 => ((hogsheadref08_Same.f k bt204.1 bt204.2.1 bt204.2.2.1 bt204.2.2.2.1 l0_0 l0_1 a0_2 a0_3).bind fun t214 => ((hogsheadref08_Same.f k bt194.1 bt194.2.1 bt194.2.2.1 bt194.2.2.2.1 l0_0 l0_1 a0_2 a0_3).bind fun t215 => (if t193 = true then (if t214 = true then (if bt194.2.2.2.2 = bt204.2.2.2.2 then (if bt194.2.2.2.2 = 0 then (hogsheadlaw08_DiskTwice.j0 k (t215 == (a0_6 == 0))) else (hogsheadlaw08_DiskTwice.j0 k true)) else (hogsheadlaw08_DiskTwice.j0 k false)) else (hogsheadlaw08_DiskTwice.j0 k false)) else (hogsheadlaw08_DiskTwice.j0 k false))))))) = some r := h
 clear h
 replace H := Option.bind_eq_some_iff.mp H
 obtain ⟨t193, A20, H⟩ := H
 replace H : ((disk_Burst.f l0_0 l0_1 a0_2 a0_3 a0_4 a0_5 a0_6).bind fun bt194 => ((disk_Burst.f bt194.1 bt194.2.1 bt194.2.2.1 bt194.2.2.2.1 a0_4 a0_5 a0_6).bind fun bt204 => ((hogsheadref08_Same.f k bt204.1 bt204.2.1 bt204.2.2.1 bt204.2.2.2.1 l0_0 l0_1 a0_2 a0_3).bind fun t214 => ((hogsheadref08_Same.f k bt194.1 bt194.2.1 bt194.2.2.1 bt194.2.2.2.1 l0_0 l0_1 a0_2 a0_3).bind fun t215 => (if t193 = true then (if t214 = true then (if bt194.2.2.2.2 = bt204.2.2.2.2 then (if bt194.2.2.2.2 = 0 then (hogsheadlaw08_DiskTwice.j0 k (t215 == (a0_6 == 0))) else (hogsheadlaw08_DiskTwice.j0 k true)) else (hogsheadlaw08_DiskTwice.j0 k false)) else (hogsheadlaw08_DiskTwice.j0 k false)) else (hogsheadlaw08_DiskTwice.j0 k false)))))) = some r := H
 have A2 := qM A20
 clear A20
 replace H := Option.bind_eq_some_iff.mp H
 obtain ⟨⟨t194, t197, t200, t201, t202⟩, A30, H⟩ := H
 replace H : ((disk_Burst.f t194 t197 t200 t201 a0_4 a0_5 a0_6).bind fun bt204 => ((hogsheadref08_Same.f k bt204.1 bt204.2.1 bt204.2.2.1 bt204.2.2.2.1 l0_0 l0_1 a0_2 a0_3).bind fun t214 => ((hogsheadref08_Same.f k t194 t197 t200 t201 l0_0 l0_1 a0_2 a0_3).bind fun t215 => (if t193 = true then (if t214 = true then (if t202 = bt204.2.2.2.2 then (if t202 = 0 then (hogsheadlaw08_DiskTwice.j0 k (t215 == (a0_6 == 0))) else (hogsheadlaw08_DiskTwice.j0 k true)) else (hogsheadlaw08_DiskTwice.j0 k false)) else (hogsheadlaw08_DiskTwice.j0 k false)) else (hogsheadlaw08_DiskTwice.j0 k false))))) = some r := H
 have A3 := qM A30
 clear A30
 replace H := Option.bind_eq_some_iff.mp H
 obtain ⟨⟨t204, t207, t210, t211, t212⟩, A40, H⟩ := H
 replace H : ((hogsheadref08_Same.f k t204 t207 t210 t211 l0_0 l0_1 a0_2 a0_3).bind fun t214 => ((hogsheadref08_Same.f k t194 t197 t200 t201 l0_0 l0_1 a0_2 a0_3).bind fun t215 => (if t193 = true then (if t214 = true then (if t202 = t212 then (if t202 = 0 then (hogsheadlaw08_DiskTwice.j0 k (t215 == (a0_6 == 0))) else (hogsheadlaw08_DiskTwice.j0 k true)) else (hogsheadlaw08_DiskTwice.j0 k false)) else (hogsheadlaw08_DiskTwice.j0 k false)) else (hogsheadlaw08_DiskTwice.j0 k false)))) = some r := H
 have A4 := qM A40
 clear A40
 replace H := Option.bind_eq_some_iff.mp H
 obtain ⟨t214, A50, H⟩ := H
 replace H : ((hogsheadref08_Same.f k t194 t197 t200 t201 l0_0 l0_1 a0_2 a0_3).bind fun t215 => (if t193 = true then (if t214 = true then (if t202 = t212 then (if t202 = 0 then (hogsheadlaw08_DiskTwice.j0 k (t215 == (a0_6 == 0))) else (hogsheadlaw08_DiskTwice.j0 k true)) else (hogsheadlaw08_DiskTwice.j0 k false)) else (hogsheadlaw08_DiskTwice.j0 k false)) else (hogsheadlaw08_DiskTwice.j0 k false))) = some r := H
 have A5 := qM A50
 clear A50
 replace H := Option.bind_eq_some_iff.mp H
 obtain ⟨t215, A60, H⟩ := H
 replace H : (if t193 = true then (if t214 = true then (if t202 = t212 then (if t202 = 0 then (hogsheadlaw08_DiskTwice.j0 k (t215 == (a0_6 == 0))) else (hogsheadlaw08_DiskTwice.j0 k true)) else (hogsheadlaw08_DiskTwice.j0 k false)) else (hogsheadlaw08_DiskTwice.j0 k false)) else (hogsheadlaw08_DiskTwice.j0 k false)) = some r := H
 have A6 := qM A60
 clear A60
 have HC7 := qM H
 clear H
 go_enter Try.func8, Try.ntmps8
 go_upto_region 10 with (first | ((with_reducible refine gate_dst (N := 1) rfl ?_); refine box_event ?hg (N := 1) ?hd (cs := #[.slice A0_0 l0_0.length c0_0, .slice A0_1 l0_1.length c0_1, .int .i64 a0_2, .bool a0_3, .int .i64 a0_4, .int .i64 a0_5, .int .u32 a0_6]) (t := 60) ?hr ?_; (case hd => rfl); (case hg => rfl); (case hr => first | (go_simp; done) | (go_simp; rfl)); intro g191 hg w8 hbox hb; have n0_ := qM (eT (by repeat (first | (with_reducible first | exact HB.out | apply eA | apply eN | apply eD) | exact HB.out)) hb); have n1_ := qM (hbox); have n2_ := qM ((by rw [hg]; exact (eZ (by repeat (first | (with_reducible first | exact HB.out | apply eA | apply eN | apply eD) | exact HB.out))) : w.heap.size ≤ g191)); have n3_ := n2_; clear HB; have HB := n0_; have B191 := n1_; have GW191 := n2_; have GE191 := n3_; clear n0_ n1_ n2_ n3_; clear hb hbox hg; obtain ⟨z9_0, z9_1, z9_2, z9_3, z9_4, z9_5, z9_6, f9_0, f9_1, f9_2, f9_3, f9_4, f9_5, f9_6⟩ := cells7 B191.out) | ((with_reducible refine gate_dst (N := 3) rfl ?_); refine box_event ?hg (N := 3) ?hd (cs := #[.slice none 0 0, .slice none 0 0, .int .i64 0, .bool false]) (t := 25) ?hr ?_; (case hd => rfl); (case hg => rfl); (case hr => first | (go_simp; done) | (go_simp; rfl)); intro g192 hg w10 hbox hb; have n0_ := qM (qB (g := g191) (by (with_reducible repeat first | refine qN ?_ _ | refine qD ?_ | refine qA ?_ _); exact B191.out) hb); have n1_ := qM (eT (by repeat (first | (with_reducible first | exact HB.out | apply eA | apply eN | apply eD | refine eU ?_ (by assumption)) | exact HB.out)) hb); have n2_ := qM (hbox); have n3_ := qM ((by rw [hg]; exact (eZ (by repeat (first | (with_reducible first | exact HB.out | apply eA | apply eN | apply eD | refine eU ?_ (by assumption)) | exact HB.out))) : w.heap.size ≤ g192)); have n4_ := n3_; have n5_ := qM ((by rw [hg]; exact Nat.ne_of_lt (qL (g := g191) (by (with_reducible repeat first | refine qN ?_ _ | refine qD ?_ | refine qA ?_ _); exact B191.out)) : g191 ≠ g192)); have n6_ := qM (Ne.symm n5_.out); clear B191 HB; have B191 := n0_; have HB := n1_; have B192 := n2_; have GW192 := n3_; have GE192 := n4_; have NB191_192 := n5_; have NB192_191 := n6_; clear n0_ n1_ n2_ n3_ n4_ n5_ n6_; clear hb hbox hg; have hnb11 := NB192_191.out; have hnc11 := NB191_192.out; obtain ⟨z12_0, z12_1, z12_2, z12_3, f12_0, f12_1, f12_2, f12_3⟩ := cells4 B192.out; obtain ⟨z13_0, z13_1, z13_2, z13_3, z13_4, z13_5, z13_6, f13_0, f13_1, f13_2, f13_3, f13_4, f13_5, f13_6⟩ := cells7 B191.out) | ((with_reducible refine gate_callee (f := 10) rfl ?_); refine goesL_ (some 22) rfl rfl Try.func10 (by kernel_rfl) rfl #[] rfl (by (try simp only [List.map_toArray, List.map_cons, List.map_nil]); first | done | rfl | (simp only [List.length_drop, List.length_take]; rfl)) ?_; (with_reducible refine (hogsheadlaw08_shown.calls k  t193 _ A2.out).mono ?_); rintro e w14 ⟨rfl, hb⟩; refine ⟨_, rfl, ?_⟩; have n0_ := qM (qB (g := g191) (o := .cells #[.slice A0_0 l0_0.length c0_0, .slice A0_1 l0_1.length c0_1, .int .i64 a0_2, .bool a0_3, .int .i64 a0_4, .int .i64 a0_5, .int .u32 a0_6] 60 (0, 0)) (by (with_reducible repeat first | refine qN ?_ _ | refine qD ?_ | refine qA ?_ _); (iterate 4 (refine qR ?_ NB191_192.out _; (with_reducible repeat first | refine qN ?_ _ | refine qD ?_ | refine qA ?_ _))); exact B191.out) hb); have n1_ := qM (qB (g := g192) (by (with_reducible repeat first | refine qN ?_ _ | refine qD ?_ | refine qA ?_ _); apply puts4; (with_reducible repeat first | refine qN ?_ _ | refine qD ?_ | refine qA ?_ _); exact B192.out) hb); have n2_ := qM (eT (by repeat (first | (with_reducible first | exact HB.out | apply eA | apply eN | apply eD | refine eU ?_ (by assumption)) | exact HB.out)) hb); clear B191 B192 HB; have B191 := n0_; have B192 := n1_; have HB := n2_; clear n0_ n1_ n2_; (try clear hb); (try clear hb2); (try clear hk); (try clear hi); obtain ⟨z15_0, z15_1, z15_2, z15_3, f15_0, f15_1, f15_2, f15_3⟩ := cells4 B192.out) | ((with_reducible refine gate_callee (f := 22) rfl ?_); refine goesL_ (some 28) rfl rfl Try.func22 (by kernel_rfl) rfl #[.agg #[.slice A0_0 l0_0.length c0_0, .slice A0_1 l0_1.length c0_1, .int .i64 a0_2, .bool a0_3], .int .i64 a0_4, .int .i64 a0_5, .int .u32 a0_6] rfl (by (try simp only [List.map_toArray, List.map_cons, List.map_nil]); first | done | rfl | (simp only [List.length_drop, List.length_take]; rfl)) ?_; (with_reducible refine (disk_Burst.calls (fun k_ => k_ < w.heap.size) _ _ l0_0 (fun k_ => k_ < w.heap.size) _ _ l0_1 a0_2 a0_3 a0_4 a0_5 a0_6 t194 t197 t200 t201 t202 _ ?side1 ?side2 A3.out).mono ?_); (case side1 => exact Kd.V_mk HC0_0.out (Kd.F_below (Kd.C_F Kd.heap_string HR0_0.out) (by repeat (first | (with_reducible first | exact HB.out | apply eA | apply eN | apply eD | refine eU ?_ (by assumption)) | exact HB.out)))); (case side2 => exact Kd.V_mk HC0_1.out (Kd.F_below (Kd.C_F k47_heap HR0_1.out) (by repeat (first | (with_reducible first | exact HB.out | apply eA | apply eN | apply eD | refine eU ?_ (by assumption)) | exact HB.out)))); rintro e w16 ⟨v195, v198, rfl, ho0, ho1, hb⟩; refine ⟨_, rfl, ?_⟩; have n0_ := qM (Vl (Vm (ok' := fun k_ => k_ ≠ g191 ∧ k_ ≠ g192) ho0 (fun k_ hk_ => ⟨Or.elim hk_ (fun hs_ => Or.elim hs_ (nL GW191) (nL GW191)) (fun hn_ => (Fb (g := g191) (by (with_reducible repeat first | refine qN ?_ _ | refine qD ?_ | refine qA ?_ _); exact B191.out) k_ hn_)), Or.elim hk_ (fun hs_ => Or.elim hs_ (nL GW192) (nL GW192)) (fun hn_ => (Fb (g := g192) (by (with_reducible repeat first | refine qN ?_ _ | refine qD ?_ | refine qA ?_ _); exact B192.out) k_ hn_))⟩)) (eZ (by repeat (first | (with_reducible first | exact HB.out | apply eA | apply eN | apply eD | refine eU ?_ (by assumption)) | exact HB.out)))); have n1_ := qM (Vl (Vm (ok' := fun k_ => k_ ≠ g191 ∧ k_ ≠ g192) ho1 (fun k_ hk_ => ⟨Or.elim hk_ (fun hs_ => Or.elim hs_ (nL GW191) (nL GW191)) (fun hn_ => (Fb (g := g191) (by (with_reducible repeat first | refine qN ?_ _ | refine qD ?_ | refine qA ?_ _); exact B191.out) k_ hn_)), Or.elim hk_ (fun hs_ => Or.elim hs_ (nL GW192) (nL GW192)) (fun hn_ => (Fb (g := g192) (by (with_reducible repeat first | refine qN ?_ _ | refine qD ?_ | refine qA ?_ _); exact B192.out) k_ hn_))⟩)) (eZ (by repeat (first | (with_reducible first | exact HB.out | apply eA | apply eN | apply eD | refine eU ?_ (by assumption)) | exact HB.out)))); have n2_ := qM (qB (g := g191) (by (with_reducible repeat first | refine qN ?_ _ | refine qD ?_ | refine qA ?_ _); exact B191.out) hb); have n3_ := qM (qB (g := g192) (by (with_reducible repeat first | refine qN ?_ _ | refine qD ?_ | refine qA ?_ _); exact B192.out) hb); have n4_ := qM (eT (by repeat (first | (with_reducible first | exact HB.out | apply eA | apply eN | apply eD | refine eU ?_ (by assumption)) | exact HB.out)) hb); clear B191 B192 HB; have HO196 := n0_; have HO199 := n1_; have B191 := n2_; have B192 := n3_; have HB := n4_; clear n0_ n1_ n2_ n3_ n4_; (try clear hb); (try clear hb2); (try clear hk); (try clear hi); (try clear ho0); (try clear ho1)) | ((with_reducible refine gate_dst (N := 8) rfl ?_); refine box_event ?hg (N := 8) ?hd (cs := #[.slice none 0 0, .slice none 0 0, .int .i64 0, .bool false]) (t := 25) ?hr ?_; (case hd => rfl); (case hg => rfl); (case hr => first | (go_simp; done) | (go_simp; rfl)); intro g203 hg w17 hbox hb; have n0_ := qM (Vb (Kd.V_elderB (by (with_reducible repeat first | apply VA | apply VN | apply VD); exact HO196.out) g203 (Nat.le_of_eq hg.symm)) hb); have n1_ := qM (Vb (Kd.V_elderB (by (with_reducible repeat first | apply VA | apply VN | apply VD); exact HO199.out) g203 (Nat.le_of_eq hg.symm)) hb); have n2_ := qM (qB (g := g191) (by (with_reducible repeat first | refine qN ?_ _ | refine qD ?_ | refine qA ?_ _); exact B191.out) hb); have n3_ := qM (qB (g := g192) (by (with_reducible repeat first | refine qN ?_ _ | refine qD ?_ | refine qA ?_ _); exact B192.out) hb); have n4_ := qM (eT (by repeat (first | (with_reducible first | exact HB.out | apply eA | apply eN | apply eD | refine eU ?_ (by assumption)) | exact HB.out)) hb); have n5_ := qM (hbox); have n6_ := qM ((by rw [hg]; exact (eZ (by repeat (first | (with_reducible first | exact HB.out | apply eA | apply eN | apply eD | refine eU ?_ (by assumption)) | exact HB.out))) : w.heap.size ≤ g203)); have n7_ := n6_; have n8_ := qM ((by rw [hg]; exact Nat.ne_of_lt (qL (g := g191) (by (with_reducible repeat first | refine qN ?_ _ | refine qD ?_ | refine qA ?_ _); exact B191.out)) : g191 ≠ g203)); have n9_ := qM (Ne.symm n8_.out); have n10_ := qM ((by rw [hg]; exact Nat.ne_of_lt (qL (g := g192) (by (with_reducible repeat first | refine qN ?_ _ | refine qD ?_ | refine qA ?_ _); exact B192.out)) : g192 ≠ g203)); have n11_ := qM (Ne.symm n10_.out); clear HO196 HO199 B191 B192 HB; have HO196 := n0_; have HO199 := n1_; have B191 := n2_; have B192 := n3_; have HB := n4_; have B203 := n5_; have GW203 := n6_; have GE203 := n7_; have NB191_203 := n8_; have NB203_191 := n9_; have NB192_203 := n10_; have NB203_192 := n11_; clear n0_ n1_ n2_ n3_ n4_ n5_ n6_ n7_ n8_ n9_ n10_ n11_; clear hb hbox hg; obtain ⟨Ao18, co18, eo18⟩ := Kd.V_slice HO196.out; subst eo18; have hnb19 := NB203_191.out; have hnc19 := NB191_203.out; have hnb20 := NB203_192.out; have hnc20 := NB192_203.out; obtain ⟨z21_0, z21_1, z21_2, z21_3, f21_0, f21_1, f21_2, f21_3⟩ := cells4 B203.out; obtain ⟨Ao22, co22, eo22⟩ := Kd.V_slice HO199.out; subst eo22) | ((with_reducible refine gate_store (t := 25) (p := 8) rfl ?_); refine store_event (t := 25) (p := 8) (v := ?vo_w23) (w1 := ((((w17.setCell ⟨g203, 0, none⟩ (.slice Ao18 t194.length co18)).setCell ⟨g203, 1, none⟩ (.slice Ao22 t197.length co22)).setCell ⟨g203, 2, none⟩ (.int .i64 t200)).setCell ⟨g203, 3, none⟩ (.bool t201))) ?hg ?ho ?hn ?hr ?_; (case ho => rfl); (case hg => rfl); (case hn => rfl); (case hr => first | (go_simp; done) | (go_simp; rfl)); intro w23 hw; have n0_ : Aside0 (Kd.V Kd.string 9 w23 w.heap.size (fun k_ => k_ ≠ g191 ∧ k_ ≠ g192 ∧ k_ ≠ g203) (.slice Ao18 t194.length co18) t194) := ⟨(by rw [hw]; exact (by (with_reducible repeat first | apply VA | apply VN | apply VD); exact Vm (Vf (p := ⟨g203, 3, none⟩) (Vf (p := ⟨g203, 2, none⟩) (Vf (p := ⟨g203, 1, none⟩) (Vf (p := ⟨g203, 0, none⟩) (Vm HO196.out (fun k_ hk => (⟨hk, hk.2⟩ : _ ∧ k_ ≠ g203))) (fun _ hk => hk.2) (.slice Ao18 t194.length co18)) (fun _ hk => hk.2) (.slice Ao22 t197.length co22)) (fun _ hk => hk.2) (.int .i64 t200)) (fun _ hk => hk.2) (.bool t201)) (fun _ hk => ⟨hk.1.1.1, ⟨hk.1.1.2, hk.1.2⟩⟩)))⟩; have n1_ : Aside0 (Kd.V k47 47 w23 w.heap.size (fun k_ => k_ ≠ g191 ∧ k_ ≠ g192 ∧ k_ ≠ g203) (.slice Ao22 t197.length co22) t197) := ⟨(by rw [hw]; exact (by (with_reducible repeat first | apply VA | apply VN | apply VD); exact Vm (Vf (p := ⟨g203, 3, none⟩) (Vf (p := ⟨g203, 2, none⟩) (Vf (p := ⟨g203, 1, none⟩) (Vf (p := ⟨g203, 0, none⟩) (Vm HO199.out (fun k_ hk => (⟨hk, hk.2⟩ : _ ∧ k_ ≠ g203))) (fun _ hk => hk.2) (.slice Ao18 t194.length co18)) (fun _ hk => hk.2) (.slice Ao22 t197.length co22)) (fun _ hk => hk.2) (.int .i64 t200)) (fun _ hk => hk.2) (.bool t201)) (fun _ hk => ⟨hk.1.1.1, ⟨hk.1.1.2, hk.1.2⟩⟩)))⟩; have n2_ : Aside0 (w23.heap[g191]? = some (.cells #[.slice A0_0 l0_0.length c0_0, .slice A0_1 l0_1.length c0_1, .int .i64 a0_2, .bool a0_3, .int .i64 a0_4, .int .i64 a0_5, .int .u32 a0_6] 60 (0, 0))) := ⟨(by rw [hw]; exact (by (with_reducible repeat first | refine qN ?_ _ | refine qD ?_ | refine qA ?_ _); (iterate 4 (refine qR ?_ NB191_203.out _; (with_reducible repeat first | refine qN ?_ _ | refine qD ?_ | refine qA ?_ _))); exact B191.out))⟩; have n3_ : Aside0 (w23.heap[g192]? = some (.cells #[.slice A0_0 l0_0.length c0_0, .slice A0_1 l0_1.length c0_1, .int .i64 a0_2, .bool a0_3] 25 (0, 0))) := ⟨(by rw [hw]; exact (by (with_reducible repeat first | refine qN ?_ _ | refine qD ?_ | refine qA ?_ _); (iterate 4 (refine qR ?_ NB192_203.out _; (with_reducible repeat first | refine qN ?_ _ | refine qD ?_ | refine qA ?_ _))); exact B192.out))⟩; have n4_ : Aside0 (w23.heap[g203]? = some (.cells #[.slice Ao18 t194.length co18, .slice Ao22 t197.length co22, .int .i64 t200, .bool t201] 25 (0, 0))) := ⟨(by rw [hw]; exact (by (with_reducible repeat first | refine qN ?_ _ | refine qD ?_ | refine qA ?_ _); apply puts4; (with_reducible repeat first | refine qN ?_ _ | refine qD ?_ | refine qA ?_ _); exact B203.out))⟩; have n5_ : Aside0 (Below w.heap.size w w23) := ⟨(by rw [hw]; exact (by repeat (first | (with_reducible first | exact HB.out | apply eA | apply eN | apply eD | refine eU ?_ (by assumption)) | exact HB.out)))⟩; clear hw HO196 HO199 B191 B192 B203 HB; have HO196 := n0_; have HO199 := n1_; have B191 := n2_; have B192 := n3_; have B203 := n4_; have HB := n5_; clear n0_ n1_ n2_ n3_ n4_ n5_; obtain ⟨z24_0, z24_1, z24_2, z24_3, f24_0, f24_1, f24_2, f24_3⟩ := cells4 B203.out) | ((with_reducible refine gate_callee (f := 22) rfl ?_); refine goesL_ (some 36) rfl rfl Try.func22 (by kernel_rfl) rfl #[.agg #[.slice Ao18 t194.length co18, .slice Ao22 t197.length co22, .int .i64 t200, .bool t201], .int .i64 a0_4, .int .i64 a0_5, .int .u32 a0_6] rfl (by (try simp only [List.map_toArray, List.map_cons, List.map_nil]); first | done | rfl | (simp only [List.length_drop, List.length_take]; rfl)) ?_; (with_reducible refine (disk_Burst.calls (fun k_ => (k_ ≠ g191 ∧ (k_ ≠ g192 ∧ k_ ≠ g203))) _ _ t194 (fun k_ => (k_ ≠ g191 ∧ (k_ ≠ g192 ∧ k_ ≠ g203))) _ _ t197 t200 t201 a0_4 a0_5 a0_6 t204 t207 t210 t211 t212 _ ?side1 ?side2 A4.out).mono ?_); (case side1 => exact HO196.out); (case side2 => exact HO199.out); rintro e w25 ⟨v205, v208, rfl, ho0, ho1, hb⟩; refine ⟨_, rfl, ?_⟩; have n0_ := qM (Vb (by (with_reducible repeat first | apply VA | apply VN | apply VD); exact HO196.out) hb); have n1_ := qM (Vb (by (with_reducible repeat first | apply VA | apply VN | apply VD); exact HO199.out) hb); have n2_ := qM (Vl (Vm (ok' := fun k_ => k_ ≠ g191 ∧ k_ ≠ g192 ∧ k_ ≠ g203) ho0 (fun k_ hk_ => ⟨Or.elim hk_ (fun hs_ => Or.elim hs_ (fun hs_ => hs_.1) (fun hs_ => hs_.1)) (fun hn_ => (Fb (g := g191) (by (with_reducible repeat first | refine qN ?_ _ | refine qD ?_ | refine qA ?_ _); exact B191.out) k_ hn_)), Or.elim hk_ (fun hs_ => Or.elim hs_ (fun hs_ => hs_.2.1) (fun hs_ => hs_.2.1)) (fun hn_ => (Fb (g := g192) (by (with_reducible repeat first | refine qN ?_ _ | refine qD ?_ | refine qA ?_ _); exact B192.out) k_ hn_)), Or.elim hk_ (fun hs_ => Or.elim hs_ (fun hs_ => hs_.2.2) (fun hs_ => hs_.2.2)) (fun hn_ => (Fb (g := g203) (by (with_reducible repeat first | refine qN ?_ _ | refine qD ?_ | refine qA ?_ _); exact B203.out) k_ hn_))⟩)) (eZ (by repeat (first | (with_reducible first | exact HB.out | apply eA | apply eN | apply eD | refine eU ?_ (by assumption)) | exact HB.out)))); have n3_ := qM (Vl (Vm (ok' := fun k_ => k_ ≠ g191 ∧ k_ ≠ g192 ∧ k_ ≠ g203) ho1 (fun k_ hk_ => ⟨Or.elim hk_ (fun hs_ => Or.elim hs_ (fun hs_ => hs_.1) (fun hs_ => hs_.1)) (fun hn_ => (Fb (g := g191) (by (with_reducible repeat first | refine qN ?_ _ | refine qD ?_ | refine qA ?_ _); exact B191.out) k_ hn_)), Or.elim hk_ (fun hs_ => Or.elim hs_ (fun hs_ => hs_.2.1) (fun hs_ => hs_.2.1)) (fun hn_ => (Fb (g := g192) (by (with_reducible repeat first | refine qN ?_ _ | refine qD ?_ | refine qA ?_ _); exact B192.out) k_ hn_)), Or.elim hk_ (fun hs_ => Or.elim hs_ (fun hs_ => hs_.2.2) (fun hs_ => hs_.2.2)) (fun hn_ => (Fb (g := g203) (by (with_reducible repeat first | refine qN ?_ _ | refine qD ?_ | refine qA ?_ _); exact B203.out) k_ hn_))⟩)) (eZ (by repeat (first | (with_reducible first | exact HB.out | apply eA | apply eN | apply eD | refine eU ?_ (by assumption)) | exact HB.out)))); have n4_ := qM (qB (g := g191) (by (with_reducible repeat first | refine qN ?_ _ | refine qD ?_ | refine qA ?_ _); exact B191.out) hb); have n5_ := qM (qB (g := g192) (by (with_reducible repeat first | refine qN ?_ _ | refine qD ?_ | refine qA ?_ _); exact B192.out) hb); have n6_ := qM (qB (g := g203) (by (with_reducible repeat first | refine qN ?_ _ | refine qD ?_ | refine qA ?_ _); exact B203.out) hb); have n7_ := qM (eT (by repeat (first | (with_reducible first | exact HB.out | apply eA | apply eN | apply eD | refine eU ?_ (by assumption)) | exact HB.out)) hb); clear HO196 HO199 B191 B192 B203 HB; have HO196 := n0_; have HO199 := n1_; have HO206 := n2_; have HO209 := n3_; have B191 := n4_; have B192 := n5_; have B203 := n6_; have HB := n7_; clear n0_ n1_ n2_ n3_ n4_ n5_ n6_ n7_; (try clear hb); (try clear hb2); (try clear hk); (try clear hi); (try clear ho0); (try clear ho1)) | ((with_reducible refine gate_dst (N := 10) rfl ?_); refine box_event ?hg (N := 10) ?hd (cs := #[.slice none 0 0, .slice none 0 0, .int .i64 0, .bool false]) (t := 25) ?hr ?_; (case hd => rfl); (case hg => rfl); (case hr => first | (go_simp; done) | (go_simp; rfl)); intro g213 hg w26 hbox hb; have n0_ := qM (Vb (Kd.V_elderB (by (with_reducible repeat first | apply VA | apply VN | apply VD); exact HO196.out) g213 (Nat.le_of_eq hg.symm)) hb); have n1_ := qM (Vb (Kd.V_elderB (by (with_reducible repeat first | apply VA | apply VN | apply VD); exact HO199.out) g213 (Nat.le_of_eq hg.symm)) hb); have n2_ := qM (Vb (Kd.V_elderB (by (with_reducible repeat first | apply VA | apply VN | apply VD); exact HO206.out) g213 (Nat.le_of_eq hg.symm)) hb); have n3_ := qM (Vb (Kd.V_elderB (by (with_reducible repeat first | apply VA | apply VN | apply VD); exact HO209.out) g213 (Nat.le_of_eq hg.symm)) hb); have n4_ := qM (qB (g := g191) (by (with_reducible repeat first | refine qN ?_ _ | refine qD ?_ | refine qA ?_ _); exact B191.out) hb); have n5_ := qM (qB (g := g192) (by (with_reducible repeat first | refine qN ?_ _ | refine qD ?_ | refine qA ?_ _); exact B192.out) hb); have n6_ := qM (qB (g := g203) (by (with_reducible repeat first | refine qN ?_ _ | refine qD ?_ | refine qA ?_ _); exact B203.out) hb); have n7_ := qM (eT (by repeat (first | (with_reducible first | exact HB.out | apply eA | apply eN | apply eD | refine eU ?_ (by assumption)) | exact HB.out)) hb); have n8_ := qM (hbox); have n9_ := qM ((by rw [hg]; exact (eZ (by repeat (first | (with_reducible first | exact HB.out | apply eA | apply eN | apply eD | refine eU ?_ (by assumption)) | exact HB.out))) : w.heap.size ≤ g213)); have n10_ := n9_; have n11_ := qM ((by rw [hg]; exact Nat.ne_of_lt (qL (g := g191) (by (with_reducible repeat first | refine qN ?_ _ | refine qD ?_ | refine qA ?_ _); exact B191.out)) : g191 ≠ g213)); have n12_ := qM (Ne.symm n11_.out); have n13_ := qM ((by rw [hg]; exact Nat.ne_of_lt (qL (g := g192) (by (with_reducible repeat first | refine qN ?_ _ | refine qD ?_ | refine qA ?_ _); exact B192.out)) : g192 ≠ g213)); have n14_ := qM (Ne.symm n13_.out); have n15_ := qM ((by rw [hg]; exact Nat.ne_of_lt (qL (g := g203) (by (with_reducible repeat first | refine qN ?_ _ | refine qD ?_ | refine qA ?_ _); exact B203.out)) : g203 ≠ g213)); have n16_ := qM (Ne.symm n15_.out); clear HO196 HO199 HO206 HO209 B191 B192 B203 HB; have HO196 := n0_; have HO199 := n1_; have HO206 := n2_; have HO209 := n3_; have B191 := n4_; have B192 := n5_; have B203 := n6_; have HB := n7_; have B213 := n8_; have GW213 := n9_; have GE213 := n10_; have NB191_213 := n11_; have NB213_191 := n12_; have NB192_213 := n13_; have NB213_192 := n14_; have NB203_213 := n15_; have NB213_203 := n16_; clear n0_ n1_ n2_ n3_ n4_ n5_ n6_ n7_ n8_ n9_ n10_ n11_ n12_ n13_ n14_ n15_ n16_; clear hb hbox hg; obtain ⟨Ao27, co27, eo27⟩ := Kd.V_slice HO206.out; subst eo27; have hnb28 := NB213_191.out; have hnc28 := NB191_213.out; have hnb29 := NB213_192.out; have hnc29 := NB192_213.out; have hnb30 := NB213_203.out; have hnc30 := NB203_213.out; obtain ⟨z31_0, z31_1, z31_2, z31_3, f31_0, f31_1, f31_2, f31_3⟩ := cells4 B213.out; obtain ⟨Ao32, co32, eo32⟩ := Kd.V_slice HO209.out; subst eo32; obtain ⟨z33_0, z33_1, z33_2, z33_3, f33_0, f33_1, f33_2, f33_3⟩ := cells4 B192.out) | ((with_reducible refine gate_callee (f := 19) rfl ?_); refine goesL_ (some 41) rfl rfl Try.func19 (by kernel_rfl) rfl #[.agg #[.slice Ao27 t204.length co27, .slice Ao32 t207.length co32, .int .i64 t210, .bool t211], .agg #[.slice A0_0 l0_0.length c0_0, .slice A0_1 l0_1.length c0_1, .int .i64 a0_2, .bool a0_3]] rfl (by (try simp only [List.map_toArray, List.map_cons, List.map_nil]); first | done | rfl | (simp only [List.length_drop, List.length_take]; rfl)) ?_; (with_reducible refine (hogsheadref08_Same.calls k _ _ t204 _ _ t207 t210 t211 _ _ l0_0 _ _ l0_1 a0_2 a0_3 t214 _ ?side1 ?side2 ?side3 ?side4 ?side5 ?side6 ?side7 ?side8 A5.out).mono ?_); (case side1 => refine (Kd.V_reads' (e := 9) (base := w.heap.size) (ok := fun k_ => ((k_ ≠ g191 ∧ (k_ ≠ g192 ∧ k_ ≠ g203)) ∧ k_ ≠ g213)) (n := t204.length) (c := co27) ?_).2.2; exact (by (with_reducible repeat first | apply VA | apply VN | apply VD); exact (Vm (Vf (p := ⟨g213, 3, none⟩) (Vf (p := ⟨g213, 2, none⟩) (Vf (p := ⟨g213, 1, none⟩) (Vf (p := ⟨g213, 0, none⟩) (Vm HO206.out (fun k_ hk => (⟨hk, hk.2⟩ : _ ∧ k_ ≠ g213))) (fun _ hk => hk.2) (.slice Ao27 t204.length co27)) (fun _ hk => hk.2) (.slice Ao32 t207.length co32)) (fun _ hk => hk.2) (.int .i64 t210)) (fun _ hk => hk.2) (.bool t211)) (fun _ h_ => h_.1)))); (case side2 => exact (Kd.V_reads' HO206.out).2.1); (case side3 => refine (Kd.V_reads' (e := 47) (base := w.heap.size) (ok := fun k_ => ((k_ ≠ g191 ∧ (k_ ≠ g192 ∧ k_ ≠ g203)) ∧ k_ ≠ g213)) (n := t207.length) (c := co32) ?_).2.2; exact (by (with_reducible repeat first | apply VA | apply VN | apply VD); exact (Vm (Vf (p := ⟨g213, 3, none⟩) (Vf (p := ⟨g213, 2, none⟩) (Vf (p := ⟨g213, 1, none⟩) (Vf (p := ⟨g213, 0, none⟩) (Vm HO209.out (fun k_ hk => (⟨hk, hk.2⟩ : _ ∧ k_ ≠ g213))) (fun _ hk => hk.2) (.slice Ao27 t204.length co27)) (fun _ hk => hk.2) (.slice Ao32 t207.length co32)) (fun _ hk => hk.2) (.int .i64 t210)) (fun _ hk => hk.2) (.bool t211)) (fun _ h_ => h_.1)))); (case side4 => exact (Kd.V_reads' HO209.out).2.1); (case side5 => exact Kd.C_below HR0_0.out (by repeat (first | (with_reducible first | exact HB.out | apply eA | apply eN | apply eD | refine eU ?_ (by assumption)) | exact HB.out))); (case side6 => exact HC0_0.out); (case side7 => exact Kd.C_below HR0_1.out (by repeat (first | (with_reducible first | exact HB.out | apply eA | apply eN | apply eD | refine eU ?_ (by assumption)) | exact HB.out))); (case side8 => exact HC0_1.out); rintro e w34 ⟨rfl, hb⟩; refine ⟨_, rfl, ?_⟩; have n0_ := qM (Vb (by (with_reducible repeat first | apply VA | apply VN | apply VD); exact (Vm (Vf (p := ⟨g213, 3, none⟩) (Vf (p := ⟨g213, 2, none⟩) (Vf (p := ⟨g213, 1, none⟩) (Vf (p := ⟨g213, 0, none⟩) (Vm HO196.out (fun k_ hk => (⟨hk, hk.2⟩ : _ ∧ k_ ≠ g213))) (fun _ hk => hk.2) (.slice Ao27 t204.length co27)) (fun _ hk => hk.2) (.slice Ao32 t207.length co32)) (fun _ hk => hk.2) (.int .i64 t210)) (fun _ hk => hk.2) (.bool t211)) (fun _ h_ => h_.1))) hb); have n1_ := qM (Vb (by (with_reducible repeat first | apply VA | apply VN | apply VD); exact (Vm (Vf (p := ⟨g213, 3, none⟩) (Vf (p := ⟨g213, 2, none⟩) (Vf (p := ⟨g213, 1, none⟩) (Vf (p := ⟨g213, 0, none⟩) (Vm HO199.out (fun k_ hk => (⟨hk, hk.2⟩ : _ ∧ k_ ≠ g213))) (fun _ hk => hk.2) (.slice Ao27 t204.length co27)) (fun _ hk => hk.2) (.slice Ao32 t207.length co32)) (fun _ hk => hk.2) (.int .i64 t210)) (fun _ hk => hk.2) (.bool t211)) (fun _ h_ => h_.1))) hb); have n2_ := qM (Vb (by (with_reducible repeat first | apply VA | apply VN | apply VD); exact (Vm (Vf (p := ⟨g213, 3, none⟩) (Vf (p := ⟨g213, 2, none⟩) (Vf (p := ⟨g213, 1, none⟩) (Vf (p := ⟨g213, 0, none⟩) (Vm HO206.out (fun k_ hk => (⟨hk, hk.2⟩ : _ ∧ k_ ≠ g213))) (fun _ hk => hk.2) (.slice Ao27 t204.length co27)) (fun _ hk => hk.2) (.slice Ao32 t207.length co32)) (fun _ hk => hk.2) (.int .i64 t210)) (fun _ hk => hk.2) (.bool t211)) (fun _ h_ => h_.1))) hb); have n3_ := qM (Vb (by (with_reducible repeat first | apply VA | apply VN | apply VD); exact (Vm (Vf (p := ⟨g213, 3, none⟩) (Vf (p := ⟨g213, 2, none⟩) (Vf (p := ⟨g213, 1, none⟩) (Vf (p := ⟨g213, 0, none⟩) (Vm HO209.out (fun k_ hk => (⟨hk, hk.2⟩ : _ ∧ k_ ≠ g213))) (fun _ hk => hk.2) (.slice Ao27 t204.length co27)) (fun _ hk => hk.2) (.slice Ao32 t207.length co32)) (fun _ hk => hk.2) (.int .i64 t210)) (fun _ hk => hk.2) (.bool t211)) (fun _ h_ => h_.1))) hb); have n4_ := qM (qB (g := g191) (o := .cells #[.slice A0_0 l0_0.length c0_0, .slice A0_1 l0_1.length c0_1, .int .i64 a0_2, .bool a0_3, .int .i64 a0_4, .int .i64 a0_5, .int .u32 a0_6] 60 (0, 0)) (by (with_reducible repeat first | refine qN ?_ _ | refine qD ?_ | refine qA ?_ _); (iterate 4 (refine qR ?_ NB191_213.out _; (with_reducible repeat first | refine qN ?_ _ | refine qD ?_ | refine qA ?_ _))); exact B191.out) hb); have n5_ := qM (qB (g := g192) (o := .cells #[.slice A0_0 l0_0.length c0_0, .slice A0_1 l0_1.length c0_1, .int .i64 a0_2, .bool a0_3] 25 (0, 0)) (by (with_reducible repeat first | refine qN ?_ _ | refine qD ?_ | refine qA ?_ _); (iterate 4 (refine qR ?_ NB192_213.out _; (with_reducible repeat first | refine qN ?_ _ | refine qD ?_ | refine qA ?_ _))); exact B192.out) hb); have n6_ := qM (qB (g := g203) (o := .cells #[.slice Ao18 t194.length co18, .slice Ao22 t197.length co22, .int .i64 t200, .bool t201] 25 (0, 0)) (by (with_reducible repeat first | refine qN ?_ _ | refine qD ?_ | refine qA ?_ _); (iterate 4 (refine qR ?_ NB203_213.out _; (with_reducible repeat first | refine qN ?_ _ | refine qD ?_ | refine qA ?_ _))); exact B203.out) hb); have n7_ := qM (qB (g := g213) (by (with_reducible repeat first | refine qN ?_ _ | refine qD ?_ | refine qA ?_ _); apply puts4; (with_reducible repeat first | refine qN ?_ _ | refine qD ?_ | refine qA ?_ _); exact B213.out) hb); have n8_ := qM (eT (by repeat (first | (with_reducible first | exact HB.out | apply eA | apply eN | apply eD | refine eU ?_ (by assumption)) | exact HB.out)) hb); clear HO196 HO199 HO206 HO209 B191 B192 B203 B213 HB; have HO196 := n0_; have HO199 := n1_; have HO206 := n2_; have HO209 := n3_; have B191 := n4_; have B192 := n5_; have B203 := n6_; have B213 := n7_; have HB := n8_; clear n0_ n1_ n2_ n3_ n4_ n5_ n6_ n7_ n8_; (try clear hb); (try clear hb2); (try clear hk); (try clear hi); obtain ⟨z35_0, z35_1, z35_2, z35_3, f35_0, f35_1, f35_2, f35_3⟩ := cells4 B203.out; obtain ⟨z36_0, z36_1, z36_2, z36_3, f36_0, f36_1, f36_2, f36_3⟩ := cells4 B192.out) | ((with_reducible refine gate_callee (f := 19) rfl ?_); refine goesL_ (some 44) rfl rfl Try.func19 (by kernel_rfl) rfl #[.agg #[.slice Ao18 t194.length co18, .slice Ao22 t197.length co22, .int .i64 t200, .bool t201], .agg #[.slice A0_0 l0_0.length c0_0, .slice A0_1 l0_1.length c0_1, .int .i64 a0_2, .bool a0_3]] rfl (by (try simp only [List.map_toArray, List.map_cons, List.map_nil]); first | done | rfl | (simp only [List.length_drop, List.length_take]; rfl)) ?_; (with_reducible refine (hogsheadref08_Same.calls k _ _ t194 _ _ t197 t200 t201 _ _ l0_0 _ _ l0_1 a0_2 a0_3 t215 _ ?side1 ?side2 ?side3 ?side4 ?side5 ?side6 ?side7 ?side8 A6.out).mono ?_); (case side1 => repeat (first | exact (Kd.V_reads' HO196.out).2.2 | (with_reducible refine Kd.C_alloc ?_ _) | (with_reducible refine Kd.C_drewN ?_ _) | (with_reducible refine Kd.C_drew ?_))); (case side2 => exact (Kd.V_reads' HO196.out).2.1); (case side3 => repeat (first | exact (Kd.V_reads' HO199.out).2.2 | (with_reducible refine Kd.C_alloc ?_ _) | (with_reducible refine Kd.C_drewN ?_ _) | (with_reducible refine Kd.C_drew ?_))); (case side4 => exact (Kd.V_reads' HO199.out).2.1); (case side5 => repeat (first | exact (Kd.C_below HR0_0.out HB.out) | (with_reducible refine Kd.C_alloc ?_ _) | (with_reducible refine Kd.C_drewN ?_ _) | (with_reducible refine Kd.C_drew ?_))); (case side6 => exact HC0_0.out); (case side7 => repeat (first | exact (Kd.C_below HR0_1.out HB.out) | (with_reducible refine Kd.C_alloc ?_ _) | (with_reducible refine Kd.C_drewN ?_ _) | (with_reducible refine Kd.C_drew ?_))); (case side8 => exact HC0_1.out); rintro e w37 ⟨rfl, hb⟩; refine ⟨_, rfl, ?_⟩; have n0_ := qM (Vb (by (with_reducible repeat first | apply VA | apply VN | apply VD); exact HO196.out) hb); have n1_ := qM (Vb (by (with_reducible repeat first | apply VA | apply VN | apply VD); exact HO199.out) hb); have n2_ := qM (Vb (by (with_reducible repeat first | apply VA | apply VN | apply VD); exact HO206.out) hb); have n3_ := qM (Vb (by (with_reducible repeat first | apply VA | apply VN | apply VD); exact HO209.out) hb); have n4_ := qM (qB (g := g191) (by (with_reducible repeat first | refine qN ?_ _ | refine qD ?_ | refine qA ?_ _); exact B191.out) hb); have n5_ := qM (qB (g := g192) (by (with_reducible repeat first | refine qN ?_ _ | refine qD ?_ | refine qA ?_ _); exact B192.out) hb); have n6_ := qM (qB (g := g203) (by (with_reducible repeat first | refine qN ?_ _ | refine qD ?_ | refine qA ?_ _); exact B203.out) hb); have n7_ := qM (qB (g := g213) (by (with_reducible repeat first | refine qN ?_ _ | refine qD ?_ | refine qA ?_ _); exact B213.out) hb); have n8_ := qM (eT (by repeat (first | (with_reducible first | exact HB.out | apply eA | apply eN | apply eD | refine eU ?_ (by assumption)) | exact HB.out)) hb); clear HO196 HO199 HO206 HO209 B191 B192 B203 B213 HB; have HO196 := n0_; have HO199 := n1_; have HO206 := n2_; have HO209 := n3_; have B191 := n4_; have B192 := n5_; have B203 := n6_; have B213 := n7_; have HB := n8_; clear n0_ n1_ n2_ n3_ n4_ n5_ n6_ n7_ n8_; (try clear hb); (try clear hb2); (try clear hk); (try clear hi)))
 (try simp only [Act.put, List.setIfInBounds_toArray, List.set_cons_zero, List.set_cons_succ])
 go_cut [2] (fun v2 wc => ∃ (kq : Nat) (x2_6 : Bool), v2 = .bool x2_6 ∧ Aside0 (hogsheadlaw08_DiskTwice.j0 kq x2_6 = some r) ∧ Aside0 (kq ≤ k) ∧ Aside0 (Kd.V Kd.string 9 wc w.heap.size (fun k_ => k_ ≠ g191 ∧ k_ ≠ g192 ∧ k_ ≠ g203 ∧ k_ ≠ g213) (.slice Ao18 t194.length co18) t194) ∧ Aside0 (Kd.V k47 47 wc w.heap.size (fun k_ => k_ ≠ g191 ∧ k_ ≠ g192 ∧ k_ ≠ g203 ∧ k_ ≠ g213) (.slice Ao22 t197.length co22) t197) ∧ Aside0 (Kd.V Kd.string 9 wc w.heap.size (fun k_ => k_ ≠ g191 ∧ k_ ≠ g192 ∧ k_ ≠ g203 ∧ k_ ≠ g213) (.slice Ao27 t204.length co27) t204) ∧ Aside0 (Kd.V k47 47 wc w.heap.size (fun k_ => k_ ≠ g191 ∧ k_ ≠ g192 ∧ k_ ≠ g203 ∧ k_ ≠ g213) (.slice Ao32 t207.length co32) t207) ∧ Aside0 (wc.heap[g191]? = some (.cells #[(.slice A0_0 l0_0.length c0_0), (.slice A0_1 l0_1.length c0_1), .int .i64 a0_2, .bool a0_3, .int .i64 a0_4, .int .i64 a0_5, .int .u32 a0_6] 60 (0, 0))) ∧ Aside0 (wc.heap[g192]? = some (.cells #[(.slice A0_0 l0_0.length c0_0), (.slice A0_1 l0_1.length c0_1), .int .i64 a0_2, .bool a0_3] 25 (0, 0))) ∧ Aside0 (wc.heap[g203]? = some (.cells #[(.slice Ao18 t194.length co18), (.slice Ao22 t197.length co22), .int .i64 t200, .bool t201] 25 (0, 0))) ∧ Aside0 (wc.heap[g213]? = some (.cells #[(.slice Ao27 t204.length co27), (.slice Ao32 t207.length co32), .int .i64 t210, .bool t211] 25 (0, 0))) ∧ Aside0 (Below w.heap.size w wc))
 case first =>
  have H := HC7.out
  clear HC7
  by_cases c38 : t193 = true
  ·subst c38
   have H1 : (if t214 = true then (if t202 = t212 then (if t202 = 0 then (hogsheadlaw08_DiskTwice.j0 k (t215 == (a0_6 == 0))) else (hogsheadlaw08_DiskTwice.j0 k true)) else (hogsheadlaw08_DiskTwice.j0 k false)) else (hogsheadlaw08_DiskTwice.j0 k false)) = some r := by rw [if_pos rfl] at H; exact H
   clear H
   have H := H1
   clear H1
   by_cases c39 : t214 = true
   ·subst c39
    have H1 : (if t202 = t212 then (if t202 = 0 then (hogsheadlaw08_DiskTwice.j0 k (t215 == (a0_6 == 0))) else (hogsheadlaw08_DiskTwice.j0 k true)) else (hogsheadlaw08_DiskTwice.j0 k false)) = some r := by rw [if_pos rfl] at H; exact H
    clear H
    have H := H1
    clear H1
    by_cases c40 : t202 = t212
    ·rw [if_pos c40] at H
     have c40b0 : (t202 == t212) = true := beq_iff_eq.mpr c40
     have c40b1 : (t202 != t212) = false := bne_eq_false_iff_eq.mpr c40
     clear c40
     (first | rw [c40b0] | (simp only [i64_w, i32_w]; rw [c40b0]) | skip)
     by_cases c41 : t202 = 0
     ·rw [if_pos c41] at H
      have c41b0 : (t202 == 0) = true := beq_iff_eq.mpr c41
      have c41b1 : (t202 != 0) = false := bne_eq_false_iff_eq.mpr c41
      clear c41
      have H' := qM H
      clear H
      go_wp2
      go_meet
      case rel => exact ⟨_, ((t215 == (a0_6 == 0))), (by first | rfl | (simp; done) | (simp [*]; done)), H', ⟨by first | omega | exact Nat.le_refl _⟩, ⟨by (with_reducible repeat first | apply VA | apply VN | apply VD); exact Vm HO196.out (fun _ hk => ⟨hk.1.1, ⟨hk.1.2.1, ⟨hk.1.2.2, hk.2⟩⟩⟩)⟩, ⟨by (with_reducible repeat first | apply VA | apply VN | apply VD); exact Vm HO199.out (fun _ hk => ⟨hk.1.1, ⟨hk.1.2.1, ⟨hk.1.2.2, hk.2⟩⟩⟩)⟩, ⟨by (with_reducible repeat first | apply VA | apply VN | apply VD); exact Vm HO206.out (fun _ hk => ⟨hk.1.1, ⟨hk.1.2.1, ⟨hk.1.2.2, hk.2⟩⟩⟩)⟩, ⟨by (with_reducible repeat first | apply VA | apply VN | apply VD); exact Vm HO209.out (fun _ hk => ⟨hk.1.1, ⟨hk.1.2.1, ⟨hk.1.2.2, hk.2⟩⟩⟩)⟩, ⟨by (with_reducible repeat first | refine qN ?_ _ | refine qD ?_ | refine qA ?_ _); exact B191.out⟩, ⟨by (with_reducible repeat first | refine qN ?_ _ | refine qD ?_ | refine qA ?_ _); exact B192.out⟩, ⟨by (with_reducible repeat first | refine qN ?_ _ | refine qD ?_ | refine qA ?_ _); exact B203.out⟩, ⟨by (with_reducible repeat first | refine qN ?_ _ | refine qD ?_ | refine qA ?_ _); exact B213.out⟩, ⟨by repeat (first | (with_reducible first | exact HB.out | apply eA | apply eN | apply eD | refine eS ?_ GE191.out | refine eS ?_ GE192.out | refine eS ?_ GE203.out | refine eS ?_ GE213.out) | exact HB.out)⟩⟩
     ·rw [if_neg c41] at H
      have c41b0 : (t202 == 0) = false := beq_eq_false_iff_ne.mpr c41
      have c41b1 : (t202 != 0) = true := bne_iff_ne.mpr c41
      have H' := qM H
      clear H
      go_wp2
      go_meet
      case rel => exact ⟨_, (true), (by first | rfl | (simp; done) | (simp [*]; done)), H', ⟨by first | omega | exact Nat.le_refl _⟩, ⟨by (with_reducible repeat first | apply VA | apply VN | apply VD); exact Vm HO196.out (fun _ hk => ⟨hk.1.1, ⟨hk.1.2.1, ⟨hk.1.2.2, hk.2⟩⟩⟩)⟩, ⟨by (with_reducible repeat first | apply VA | apply VN | apply VD); exact Vm HO199.out (fun _ hk => ⟨hk.1.1, ⟨hk.1.2.1, ⟨hk.1.2.2, hk.2⟩⟩⟩)⟩, ⟨by (with_reducible repeat first | apply VA | apply VN | apply VD); exact Vm HO206.out (fun _ hk => ⟨hk.1.1, ⟨hk.1.2.1, ⟨hk.1.2.2, hk.2⟩⟩⟩)⟩, ⟨by (with_reducible repeat first | apply VA | apply VN | apply VD); exact Vm HO209.out (fun _ hk => ⟨hk.1.1, ⟨hk.1.2.1, ⟨hk.1.2.2, hk.2⟩⟩⟩)⟩, ⟨by (with_reducible repeat first | refine qN ?_ _ | refine qD ?_ | refine qA ?_ _); exact B191.out⟩, ⟨by (with_reducible repeat first | refine qN ?_ _ | refine qD ?_ | refine qA ?_ _); exact B192.out⟩, ⟨by (with_reducible repeat first | refine qN ?_ _ | refine qD ?_ | refine qA ?_ _); exact B203.out⟩, ⟨by (with_reducible repeat first | refine qN ?_ _ | refine qD ?_ | refine qA ?_ _); exact B213.out⟩, ⟨by repeat (first | (with_reducible first | exact HB.out | apply eA | apply eN | apply eD | refine eS ?_ GE191.out | refine eS ?_ GE192.out | refine eS ?_ GE203.out | refine eS ?_ GE213.out) | exact HB.out)⟩⟩
    ·rw [if_neg c40] at H
     have c40b0 : (t202 == t212) = false := beq_eq_false_iff_ne.mpr c40
     have c40b1 : (t202 != t212) = true := bne_iff_ne.mpr c40
     (first | rw [c40b0] | (simp only [i64_w, i32_w]; rw [c40b0]) | skip)
     have H' := qM H
     clear H
     go_wp2
     go_meet
     case rel => exact ⟨_, (false), (by first | rfl | (simp; done) | (simp [*]; done)), H', ⟨by first | omega | exact Nat.le_refl _⟩, ⟨by (with_reducible repeat first | apply VA | apply VN | apply VD); exact Vm HO196.out (fun _ hk => ⟨hk.1.1, ⟨hk.1.2.1, ⟨hk.1.2.2, hk.2⟩⟩⟩)⟩, ⟨by (with_reducible repeat first | apply VA | apply VN | apply VD); exact Vm HO199.out (fun _ hk => ⟨hk.1.1, ⟨hk.1.2.1, ⟨hk.1.2.2, hk.2⟩⟩⟩)⟩, ⟨by (with_reducible repeat first | apply VA | apply VN | apply VD); exact Vm HO206.out (fun _ hk => ⟨hk.1.1, ⟨hk.1.2.1, ⟨hk.1.2.2, hk.2⟩⟩⟩)⟩, ⟨by (with_reducible repeat first | apply VA | apply VN | apply VD); exact Vm HO209.out (fun _ hk => ⟨hk.1.1, ⟨hk.1.2.1, ⟨hk.1.2.2, hk.2⟩⟩⟩)⟩, ⟨by (with_reducible repeat first | refine qN ?_ _ | refine qD ?_ | refine qA ?_ _); exact B191.out⟩, ⟨by (with_reducible repeat first | refine qN ?_ _ | refine qD ?_ | refine qA ?_ _); exact B192.out⟩, ⟨by (with_reducible repeat first | refine qN ?_ _ | refine qD ?_ | refine qA ?_ _); exact B203.out⟩, ⟨by (with_reducible repeat first | refine qN ?_ _ | refine qD ?_ | refine qA ?_ _); exact B213.out⟩, ⟨by repeat (first | (with_reducible first | exact HB.out | apply eA | apply eN | apply eD | refine eS ?_ GE191.out | refine eS ?_ GE192.out | refine eS ?_ GE203.out | refine eS ?_ GE213.out) | exact HB.out)⟩⟩
   ·replace c39 := Bool.eq_false_iff.mpr c39
    subst c39
    have H1 : (hogsheadlaw08_DiskTwice.j0 k false) = some r := by rw [if_neg (show ¬ (false = true) by decide)] at H; exact H
    clear H
    have H := H1
    clear H1
    have H' := qM H
    clear H
    go_wp2
    go_meet
    case rel => exact ⟨_, (false), (by first | rfl | (simp; done) | (simp [*]; done)), H', ⟨by first | omega | exact Nat.le_refl _⟩, ⟨by (with_reducible repeat first | apply VA | apply VN | apply VD); exact Vm HO196.out (fun _ hk => ⟨hk.1.1, ⟨hk.1.2.1, ⟨hk.1.2.2, hk.2⟩⟩⟩)⟩, ⟨by (with_reducible repeat first | apply VA | apply VN | apply VD); exact Vm HO199.out (fun _ hk => ⟨hk.1.1, ⟨hk.1.2.1, ⟨hk.1.2.2, hk.2⟩⟩⟩)⟩, ⟨by (with_reducible repeat first | apply VA | apply VN | apply VD); exact Vm HO206.out (fun _ hk => ⟨hk.1.1, ⟨hk.1.2.1, ⟨hk.1.2.2, hk.2⟩⟩⟩)⟩, ⟨by (with_reducible repeat first | apply VA | apply VN | apply VD); exact Vm HO209.out (fun _ hk => ⟨hk.1.1, ⟨hk.1.2.1, ⟨hk.1.2.2, hk.2⟩⟩⟩)⟩, ⟨by (with_reducible repeat first | refine qN ?_ _ | refine qD ?_ | refine qA ?_ _); exact B191.out⟩, ⟨by (with_reducible repeat first | refine qN ?_ _ | refine qD ?_ | refine qA ?_ _); exact B192.out⟩, ⟨by (with_reducible repeat first | refine qN ?_ _ | refine qD ?_ | refine qA ?_ _); exact B203.out⟩, ⟨by (with_reducible repeat first | refine qN ?_ _ | refine qD ?_ | refine qA ?_ _); exact B213.out⟩, ⟨by repeat (first | (with_reducible first | exact HB.out | apply eA | apply eN | apply eD | refine eS ?_ GE191.out | refine eS ?_ GE192.out | refine eS ?_ GE203.out | refine eS ?_ GE213.out) | exact HB.out)⟩⟩
  ·replace c38 := Bool.eq_false_iff.mpr c38
   subst c38
   have H1 : (hogsheadlaw08_DiskTwice.j0 k false) = some r := by rw [if_neg (show ¬ (false = true) by decide)] at H; exact H
   clear H
   have H := H1
   clear H1
   have H' := qM H
   clear H
   go_wp2
   go_meet
   case rel => exact ⟨_, (false), (by first | rfl | (simp; done) | (simp [*]; done)), H', ⟨by first | omega | exact Nat.le_refl _⟩, ⟨by (with_reducible repeat first | apply VA | apply VN | apply VD); exact Vm HO196.out (fun _ hk => ⟨hk.1.1, ⟨hk.1.2.1, ⟨hk.1.2.2, hk.2⟩⟩⟩)⟩, ⟨by (with_reducible repeat first | apply VA | apply VN | apply VD); exact Vm HO199.out (fun _ hk => ⟨hk.1.1, ⟨hk.1.2.1, ⟨hk.1.2.2, hk.2⟩⟩⟩)⟩, ⟨by (with_reducible repeat first | apply VA | apply VN | apply VD); exact Vm HO206.out (fun _ hk => ⟨hk.1.1, ⟨hk.1.2.1, ⟨hk.1.2.2, hk.2⟩⟩⟩)⟩, ⟨by (with_reducible repeat first | apply VA | apply VN | apply VD); exact Vm HO209.out (fun _ hk => ⟨hk.1.1, ⟨hk.1.2.1, ⟨hk.1.2.2, hk.2⟩⟩⟩)⟩, ⟨by (with_reducible repeat first | refine qN ?_ _ | refine qD ?_ | refine qA ?_ _); exact B191.out⟩, ⟨by (with_reducible repeat first | refine qN ?_ _ | refine qD ?_ | refine qA ?_ _); exact B192.out⟩, ⟨by (with_reducible repeat first | refine qN ?_ _ | refine qD ?_ | refine qA ?_ _); exact B203.out⟩, ⟨by (with_reducible repeat first | refine qN ?_ _ | refine qD ?_ | refine qA ?_ _); exact B213.out⟩, ⟨by repeat (first | (with_reducible first | exact HB.out | apply eA | apply eN | apply eD | refine eS ?_ GE191.out | refine eS ?_ GE192.out | refine eS ?_ GE203.out | refine eS ?_ GE213.out) | exact HB.out)⟩⟩
 case rest =>
  clear HC7
  try clear c1
  try clear c2
  try clear p2
  try clear c3
  try clear c4
  try clear c8
  try clear c10
  try clear c11
  try clear c19
  try clear c20
  try clear c22
  try clear c28
  try clear c29
  try clear c30
  try clear c38
  try clear c39
  try clear c40
  try clear c40b0
  try clear c40b1
  try clear c41
  try clear c41b0
  try clear c41b1
  try clear z12_0
  try clear z12_1
  try clear z12_2
  try clear z12_3
  try clear z13_0
  try clear z13_1
  try clear z13_2
  try clear z13_3
  try clear z13_4
  try clear z13_5
  try clear z13_6
  try clear z15_0
  try clear z15_1
  try clear z15_2
  try clear z15_3
  try clear z21_0
  try clear z21_1
  try clear z21_2
  try clear z21_3
  try clear z24_0
  try clear z24_1
  try clear z24_2
  try clear z24_3
  try clear z31_0
  try clear z31_1
  try clear z31_2
  try clear z31_3
  try clear z33_0
  try clear z33_1
  try clear z33_2
  try clear z33_3
  try clear z35_0
  try clear z35_1
  try clear z35_2
  try clear z35_3
  try clear z36_0
  try clear z36_1
  try clear z36_2
  try clear z36_3
  try clear z9_0
  try clear z9_1
  try clear z9_2
  try clear z9_3
  try clear z9_4
  try clear z9_5
  try clear z9_6
  try clear f12_0
  try clear f12_1
  try clear f12_2
  try clear f12_3
  try clear f13_0
  try clear f13_1
  try clear f13_2
  try clear f13_3
  try clear f13_4
  try clear f13_5
  try clear f13_6
  try clear f15_0
  try clear f15_1
  try clear f15_2
  try clear f15_3
  try clear f21_0
  try clear f21_1
  try clear f21_2
  try clear f21_3
  try clear f24_0
  try clear f24_1
  try clear f24_2
  try clear f24_3
  try clear f31_0
  try clear f31_1
  try clear f31_2
  try clear f31_3
  try clear f33_0
  try clear f33_1
  try clear f33_2
  try clear f33_3
  try clear f35_0
  try clear f35_1
  try clear f35_2
  try clear f35_3
  try clear f36_0
  try clear f36_1
  try clear f36_2
  try clear f36_3
  try clear f9_0
  try clear f9_1
  try clear f9_2
  try clear f9_3
  try clear f9_4
  try clear f9_5
  try clear f9_6
  obtain ⟨kq, x2_6, rfl, HA, HJ6, HO_204000, HO_204001, HO_214000, HO_214001, B191, B192, B203, B213, HB⟩ := hcut
  cases kq with
  | zero => exact absurd HA.out (by simp [hogsheadlaw08_DiskTwice.j0])
  | succ kj6 =>
   have H := HA.out
   clear HA
   simp only [hogsheadlaw08_DiskTwice.j0] at H
   obtain rfl := Option.some.inj H
   go_wp2
   go_ret
   exact ⟨by first | rfl | (simp [errW_none, errW_some] <;> rfl) | (simp [*, errW_none, errW_some] <;> rfl), by repeat (first | (with_reducible first | exact HB.out | apply eA | apply eN | apply eD | refine eS ?_ GE191.out | refine eS ?_ GE192.out | refine eS ?_ GE203.out | refine eS ?_ GE213.out) | exact HB.out)⟩

end Go.Proofs.Ytmaojfeikbdkhaa.PAll
