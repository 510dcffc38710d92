/- Functions of the program as plain Lean functions, and that each call comes to what they say. Laid by a program of this session (hprint.py); Lean checks it. -/
import Derived.Test.YtmjmmgefkebggaaPAllx0
import Derived.Test.YtmjmmgefkebggaaPAllx3
import Derived.Test.YtmjmmgefkebggaaPAllx11
import Derived.Test.YtmjmmgefkebggaaPAllx15
import Derived.Test.YtmjmmgefkebggaaPAllx31
namespace Go.Proofs.Ytmjmmgefkebggaa.PAll
open Go.RowKit Go.Proofs.YtmjmmgefkebggaaW.PrintWords Go.Proofs.YtmjmmgefkebggaaW.PrintLast Go.Proofs.YtmjmmgefkebggaaW.PrintMore
attribute [local go_sem] max2_int min2_int max_two min_two max_three min_three max_four min_four   -- for this text's walks alone
set_option linter.unusedVariables false
set_option linter.unusedSimpArgs false
attribute [local irreducible] World.setCell

/-! ### hogsheadlaw17_DeedReads: function 8 -/
mutual
def hogsheadlaw17_DeedReads.l0 : Nat → List (S54) → Bool → Int → Int → Int → ByteArray → ByteArray → Int → Int → Int → Int → Int → Int → Int → Int → ByteArray → Bool → Option (Bool)
 | 0, _, _, _, _, _, _, _, _, _, _, _, _, _, _, _, _, _ => none
 | k + 1, x1, x5, x8, x816000, x816001, x816002, x816003, x816004, x816005, x816006, x816007, x816008, x816009, x816010, x816011, x816012, x816013 => if x8 < (x1.length : Int) then (if 0 ≤ x8 then ((hogsheadlaw17_comes.f k x816000 x816001 x816002 x816003 x816004 x816005 x816006 x816007 x816008 x816009 x816010 x816011 x816012 x816013 ((rd_T54 x1 x8).f0) ((rd_T54 x1 x8).f1) ((rd_T54 x1 x8).f2.f0) ((rd_T54 x1 x8).f2.f1) ((rd_T54 x1 x8).f2.f2) ((rd_T54 x1 x8).f2.f3) ((rd_T54 x1 x8).f2.f4) ((rd_T54 x1 x8).f2.f5) ((rd_T54 x1 x8).f3) ((rd_T54 x1 x8).f4)).bind fun bt817 => (hogsheadlaw17_DeedReads.l0 k x1 x5 (wrap64 (x8 + 1)) bt817.1 bt817.2.1 bt817.2.2.1 bt817.2.2.2.1 bt817.2.2.2.2.1 bt817.2.2.2.2.2.1 bt817.2.2.2.2.2.2.1 bt817.2.2.2.2.2.2.2.1 bt817.2.2.2.2.2.2.2.2.1 bt817.2.2.2.2.2.2.2.2.2.1 bt817.2.2.2.2.2.2.2.2.2.2.1 bt817.2.2.2.2.2.2.2.2.2.2.2.1 bt817.2.2.2.2.2.2.2.2.2.2.2.2.1 bt817.2.2.2.2.2.2.2.2.2.2.2.2.2)) else (none)) else (if x816005 = 8 then (hogsheadlaw17_DeedReads.j1 k x5 (x816011 == 0) x816000 x816001 x816002 x816003 x816004 x816005 x816006 x816007 x816008 x816009 x816010 x816011 x816012 x816013) else (hogsheadlaw17_DeedReads.j1 k x5 false x816000 x816001 x816002 x816003 x816004 x816005 x816006 x816007 x816008 x816009 x816010 x816011 x816012 x816013))
def hogsheadlaw17_DeedReads.j1 : Nat → Bool → Bool → Int → Int → ByteArray → ByteArray → Int → Int → Int → Int → Int → Int → Int → Int → ByteArray → Bool → Option (Bool)
 | 0, _, _, _, _, _, _, _, _, _, _, _, _, _, _, _, _ => none
 | k + 1, x5, x37, x816000, x816001, x816002, x816003, x816004, x816005, x816006, x816007, x816008, x816009, x816010, x816011, x816012, x816013 => if x37 = true then (if x5 = true then (if x816013 = true then (if (x816012.size : Int) = x816008 then ((hogsheadref02_Sum.f k x816012).bind fun t831 => (hogsheadlaw17_DeedReads.j2 k (t831 == x816009))) else (hogsheadlaw17_DeedReads.j2 k false)) else (hogsheadlaw17_DeedReads.j2 k false)) else (hogsheadlaw17_DeedReads.j2 k false)) else (if x5 = true then (hogsheadlaw17_DeedReads.j3 k (x816012.toList == ([] : List UInt8))) else (hogsheadlaw17_DeedReads.j3 k false))
def hogsheadlaw17_DeedReads.j2 : Nat → Bool → Option (Bool)
 | 0, _ => none
 | k + 1, x4 => some x4
def hogsheadlaw17_DeedReads.j3 : Nat → Bool → Option (Bool)
 | 0, _ => none
 | k + 1, x4 => some x4
end
def hogsheadlaw17_DeedReads.f (k : Nat) (a0 : ByteArray) (l1 : List (S54)) : Option (Bool) := (hogsheadlaw17_shown.f k).bind fun t799 => ((deed_New.f k 2 2 a0 (⟨#[]⟩ : ByteArray) 9).bind fun bt800 => (if bt800.2.2.2.2.2.2.2.2.2.2.2.2.2.2 = 0 then (hogsheadlaw17_DeedReads.l0 k l1 t799 0 bt800.1 bt800.2.1 bt800.2.2.1 bt800.2.2.2.1 bt800.2.2.2.2.1 bt800.2.2.2.2.2.1 bt800.2.2.2.2.2.2.1 bt800.2.2.2.2.2.2.2.1 bt800.2.2.2.2.2.2.2.2.1 bt800.2.2.2.2.2.2.2.2.2.1 bt800.2.2.2.2.2.2.2.2.2.2.1 bt800.2.2.2.2.2.2.2.2.2.2.2.1 bt800.2.2.2.2.2.2.2.2.2.2.2.2.1 bt800.2.2.2.2.2.2.2.2.2.2.2.2.2.1) else (some t799)))
theorem hogsheadlaw17_DeedReads.mono_l : ∀ k, (∀ y0 y1 y2 y3 y4 y5 y6 y7 y8 y9 y10 y11 y12 y13 y14 y15 y16, LeO (hogsheadlaw17_DeedReads.l0 k y0 y1 y2 y3 y4 y5 y6 y7 y8 y9 y10 y11 y12 y13 y14 y15 y16) (hogsheadlaw17_DeedReads.l0 (k + 1) y0 y1 y2 y3 y4 y5 y6 y7 y8 y9 y10 y11 y12 y13 y14 y15 y16)) ∧ (∀ y0 y1 y2 y3 y4 y5 y6 y7 y8 y9 y10 y11 y12 y13 y14 y15, LeO (hogsheadlaw17_DeedReads.j1 k y0 y1 y2 y3 y4 y5 y6 y7 y8 y9 y10 y11 y12 y13 y14 y15) (hogsheadlaw17_DeedReads.j1 (k + 1) y0 y1 y2 y3 y4 y5 y6 y7 y8 y9 y10 y11 y12 y13 y14 y15)) ∧ (∀ y0, LeO (hogsheadlaw17_DeedReads.j2 k y0) (hogsheadlaw17_DeedReads.j2 (k + 1) y0)) ∧ (∀ y0, LeO (hogsheadlaw17_DeedReads.j3 k y0) (hogsheadlaw17_DeedReads.j3 (k + 1) y0))
 | 0 => ⟨fun _ _ _ _ _ _ _ _ _ _ _ _ _ _ _ _ _ r h => by simp [hogsheadlaw17_DeedReads.l0] at h, fun _ _ _ _ _ _ _ _ _ _ _ _ _ _ _ _ r h => by simp [hogsheadlaw17_DeedReads.j1] at h, fun _ r h => by simp [hogsheadlaw17_DeedReads.j2] at h, fun _ r h => by simp [hogsheadlaw17_DeedReads.j3] at h⟩
 | k + 1 => by
  obtain ⟨ih0, ih1, ih2, ih3⟩ := hogsheadlaw17_DeedReads.mono_l k
  refine ⟨?_, ?_, ?_, ?_⟩
  ·intro y0 y1 y2 y3 y4 y5 y6 y7 y8 y9 y10 y11 y12 y13 y14 y15 y16
   unfold hogsheadlaw17_DeedReads.l0
   repeat' first
   | (with_reducible exact ih0 _ _ _ _ _ _ _ _ _ _ _ _ _ _ _ _ _)
   | (with_reducible exact ih1 _ _ _ _ _ _ _ _ _ _ _ _ _ _ _ _)
   | (with_reducible exact ih2 _)
   | (with_reducible exact ih3 _)
   | (with_reducible exact deed_New.mono _ _ _ _ _ _)
   | (with_reducible exact hogsheadlaw17_comes.mono _ _ _ _ _ _ _ _ _ _ _ _ _ _ _ _ _ _ _ _ _ _ _ _ _)
   | (with_reducible exact hogsheadlaw17_shown.mono _)
   | (with_reducible exact hogsheadref02_Sum.mono _ _)
   | (with_reducible exact LeO.refl _)
   | (with_reducible exact LeO.none _)
   | (with_reducible refine LeO.ite ?_ ?_)
   | (with_reducible refine LeO.bind ?_ (fun _ => ?_))
   | exact ih0 _ _ _ _ _ _ _ _ _ _ _ _ _ _ _ _ _
   | exact ih1 _ _ _ _ _ _ _ _ _ _ _ _ _ _ _ _
   | exact ih2 _
   | exact ih3 _
   | exact deed_New.mono _ _ _ _ _ _
   | exact hogsheadlaw17_comes.mono _ _ _ _ _ _ _ _ _ _ _ _ _ _ _ _ _ _ _ _ _ _ _ _ _
   | exact hogsheadlaw17_shown.mono _
   | exact hogsheadref02_Sum.mono _ _
   | exact LeO.none _
   | refine LeO.ite ?_ ?_
   | refine LeO.bind ?_ (fun _ => ?_)
  ·intro y0 y1 y2 y3 y4 y5 y6 y7 y8 y9 y10 y11 y12 y13 y14 y15
   unfold hogsheadlaw17_DeedReads.j1
   repeat' first
   | (with_reducible exact ih0 _ _ _ _ _ _ _ _ _ _ _ _ _ _ _ _ _)
   | (with_reducible exact ih1 _ _ _ _ _ _ _ _ _ _ _ _ _ _ _ _)
   | (with_reducible exact ih2 _)
   | (with_reducible exact ih3 _)
   | (with_reducible exact deed_New.mono _ _ _ _ _ _)
   | (with_reducible exact hogsheadlaw17_comes.mono _ _ _ _ _ _ _ _ _ _ _ _ _ _ _ _ _ _ _ _ _ _ _ _ _)
   | (with_reducible exact hogsheadlaw17_shown.mono _)
   | (with_reducible exact hogsheadref02_Sum.mono _ _)
   | (with_reducible exact LeO.refl _)
   | (with_reducible exact LeO.none _)
   | (with_reducible refine LeO.ite ?_ ?_)
   | (with_reducible refine LeO.bind ?_ (fun _ => ?_))
   | exact ih0 _ _ _ _ _ _ _ _ _ _ _ _ _ _ _ _ _
   | exact ih1 _ _ _ _ _ _ _ _ _ _ _ _ _ _ _ _
   | exact ih2 _
   | exact ih3 _
   | exact deed_New.mono _ _ _ _ _ _
   | exact hogsheadlaw17_comes.mono _ _ _ _ _ _ _ _ _ _ _ _ _ _ _ _ _ _ _ _ _ _ _ _ _
   | exact hogsheadlaw17_shown.mono _
   | exact hogsheadref02_Sum.mono _ _
   | exact LeO.none _
   | refine LeO.ite ?_ ?_
   | refine LeO.bind ?_ (fun _ => ?_)
  ·intro y0
   unfold hogsheadlaw17_DeedReads.j2
   repeat' first
   | (with_reducible exact ih0 _ _ _ _ _ _ _ _ _ _ _ _ _ _ _ _ _)
   | (with_reducible exact ih1 _ _ _ _ _ _ _ _ _ _ _ _ _ _ _ _)
   | (with_reducible exact ih2 _)
   | (with_reducible exact ih3 _)
   | (with_reducible exact deed_New.mono _ _ _ _ _ _)
   | (with_reducible exact hogsheadlaw17_comes.mono _ _ _ _ _ _ _ _ _ _ _ _ _ _ _ _ _ _ _ _ _ _ _ _ _)
   | (with_reducible exact hogsheadlaw17_shown.mono _)
   | (with_reducible exact hogsheadref02_Sum.mono _ _)
   | (with_reducible exact LeO.refl _)
   | (with_reducible exact LeO.none _)
   | (with_reducible refine LeO.ite ?_ ?_)
   | (with_reducible refine LeO.bind ?_ (fun _ => ?_))
   | exact ih0 _ _ _ _ _ _ _ _ _ _ _ _ _ _ _ _ _
   | exact ih1 _ _ _ _ _ _ _ _ _ _ _ _ _ _ _ _
   | exact ih2 _
   | exact ih3 _
   | exact deed_New.mono _ _ _ _ _ _
   | exact hogsheadlaw17_comes.mono _ _ _ _ _ _ _ _ _ _ _ _ _ _ _ _ _ _ _ _ _ _ _ _ _
   | exact hogsheadlaw17_shown.mono _
   | exact hogsheadref02_Sum.mono _ _
   | exact LeO.none _
   | refine LeO.ite ?_ ?_
   | refine LeO.bind ?_ (fun _ => ?_)
  ·intro y0
   unfold hogsheadlaw17_DeedReads.j3
   repeat' first
   | (with_reducible exact ih0 _ _ _ _ _ _ _ _ _ _ _ _ _ _ _ _ _)
   | (with_reducible exact ih1 _ _ _ _ _ _ _ _ _ _ _ _ _ _ _ _)
   | (with_reducible exact ih2 _)
   | (with_reducible exact ih3 _)
   | (with_reducible exact deed_New.mono _ _ _ _ _ _)
   | (with_reducible exact hogsheadlaw17_comes.mono _ _ _ _ _ _ _ _ _ _ _ _ _ _ _ _ _ _ _ _ _ _ _ _ _)
   | (with_reducible exact hogsheadlaw17_shown.mono _)
   | (with_reducible exact hogsheadref02_Sum.mono _ _)
   | (with_reducible exact LeO.refl _)
   | (with_reducible exact LeO.none _)
   | (with_reducible refine LeO.ite ?_ ?_)
   | (with_reducible refine LeO.bind ?_ (fun _ => ?_))
   | exact ih0 _ _ _ _ _ _ _ _ _ _ _ _ _ _ _ _ _
   | exact ih1 _ _ _ _ _ _ _ _ _ _ _ _ _ _ _ _
   | exact ih2 _
   | exact ih3 _
   | exact deed_New.mono _ _ _ _ _ _
   | exact hogsheadlaw17_comes.mono _ _ _ _ _ _ _ _ _ _ _ _ _ _ _ _ _ _ _ _ _ _ _ _ _
   | exact hogsheadlaw17_shown.mono _
   | exact hogsheadref02_Sum.mono _ _
   | exact LeO.none _
   | refine LeO.ite ?_ ?_
   | refine LeO.bind ?_ (fun _ => ?_)
theorem hogsheadlaw17_DeedReads.mono : ∀ a0 a1 k, LeO (hogsheadlaw17_DeedReads.f k a0 a1) (hogsheadlaw17_DeedReads.f (k + 1) a0 a1) := by
 intro a0 a1 k
 obtain ⟨ih0, ih1, ih2, ih3⟩ := hogsheadlaw17_DeedReads.mono_l k
 unfold hogsheadlaw17_DeedReads.f
 repeat' first
   | (with_reducible exact ih0 _ _ _ _ _ _ _ _ _ _ _ _ _ _ _ _ _)
   | (with_reducible exact ih1 _ _ _ _ _ _ _ _ _ _ _ _ _ _ _ _)
   | (with_reducible exact ih2 _)
   | (with_reducible exact ih3 _)
   | (with_reducible exact deed_New.mono _ _ _ _ _ _)
   | (with_reducible exact hogsheadlaw17_comes.mono _ _ _ _ _ _ _ _ _ _ _ _ _ _ _ _ _ _ _ _ _ _ _ _ _)
   | (with_reducible exact hogsheadlaw17_shown.mono _)
   | (with_reducible exact hogsheadref02_Sum.mono _ _)
   | (with_reducible exact LeO.refl _)
   | (with_reducible exact LeO.none _)
   | (with_reducible refine LeO.ite ?_ ?_)
   | (with_reducible refine LeO.bind ?_ (fun _ => ?_))
   | exact ih0 _ _ _ _ _ _ _ _ _ _ _ _ _ _ _ _ _
   | exact ih1 _ _ _ _ _ _ _ _ _ _ _ _ _ _ _ _
   | exact ih2 _
   | exact ih3 _
   | exact deed_New.mono _ _ _ _ _ _
   | exact hogsheadlaw17_comes.mono _ _ _ _ _ _ _ _ _ _ _ _ _ _ _ _ _ _ _ _ _ _ _ _ _
   | exact hogsheadlaw17_shown.mono _
   | exact hogsheadref02_Sum.mono _ _
   | exact LeO.none _
   | refine LeO.ite ?_ ?_
   | refine LeO.bind ?_ (fun _ => ?_)
def hogsheadlaw17_DeedReads.T10 : Bool × List (List Nat × List Nat) := (true, [([], []), ([0], [0]), ([1], [1]), ([2, 1], [1, 2]), ([1, 3], [1, 3]), ([4, 1], [4]), ([5], [5]), ([6, 5], [5, 6]), ([7, 5], [5, 7]), ([5], [5]), ([9, 5], [5, 9]), ([8, 10, 5], [5, 8, 10]), ([5, 11], [5, 11]), ([12, 5], [12]), ([13], [13]), ([14, 13], [13, 14]), ([15, 13, 13], [13, 15]), ([13], [13]), ([17, 13], [13, 17]), ([16, 18, 13], [13, 16, 18]), ([13, 19], [13, 19]), ([20, 16, 0, 1, 2, 3, 4, 5, 6, 7, 8, 9, 10, 11, 12, 13, 14, 15, 16, 17, 18, 19, 20], [20])])
def hogsheadlaw17_DeedReads.B10 : List Nat := [0, 1, 3, 7, 15, 31, 63, 127, 255, 63, 575, 2047, 4095, 8191, 16383, 32767, 65535, 16383, 147455, 524287, 1048575, 2097151]
theorem hogsheadlaw17_DeedReads.tab10 : rtab .any (opsOf Try.f8 10) = hogsheadlaw17_DeedReads.T10 := by kernel_rfl
theorem hogsheadlaw17_DeedReads.bits10 : waitsOk hogsheadlaw17_DeedReads.T10.2 hogsheadlaw17_DeedReads.B10 = true := by kernel_rfl
set_option maxHeartbeats 40000000 in
set_option maxRecDepth 100000 in
theorem hogsheadlaw17_DeedReads.calls (k : Nat) (a0 : ByteArray) (A1 : Option Addr) (c1 : Nat) (l1 : List (S54)) (r : Bool) (w : World) (hr1 : Kd.C k54 w A1 l1.length l1) (hc1 : l1.length ≤ c1) (h : hogsheadlaw17_DeedReads.f k a0 l1 = some r) :
  Calls Try.prog 8 #[.string a0, .slice A1 l1.length c1] w fun e w' => e = .returned (.bool r) ∧ Below w.heap.size w w' := by
 have hu28 := Try.underlying28
 have hu54 := Try.underlying54
 have HR1 := qM hr1
 have HC1 := qM hc1
 clear hr1 hc1
 have HB := qM (Below.refl w.heap.size w)
 have H : ((hogsheadlaw17_shown.f k).bind fun t799 => ((deed_New.f k 2 2 a0 (⟨#[]⟩ : ByteArray) 9).bind fun bt800 => (if bt800.2.2.2.2.2.2.2.2.2.2.2.2.2.2 = 0 then (hogsheadlaw17_DeedReads.l0 k l1 t799 0 bt800.1 bt800.2.1 bt800.2.2.1 bt800.2.2.2.1 bt800.2.2.2.2.1 bt800.2.2.2.2.2.1 bt800.2.2.2.2.2.2.1 bt800.2.2.2.2.2.2.2.1 bt800.2.2.2.2.2.2.2.2.1 bt800.2.2.2.2.2.2.2.2.2.1 bt800.2.2.2.2.2.2.2.2.2.2.1 bt800.2.2.2.2.2.2.2.2.2.2.2.1 bt800.2.2.2.2.2.2.2.2.2.2.2.2.1 bt800.2.2.2.2.2.2.2.2.2.2.2.2.2.1) else (some t799)))) = some r := h
 clear h
 replace H := Option.bind_eq_some_iff.mp H
 obtain ⟨t799, A30, H⟩ := H
 replace H : ((deed_New.f k 2 2 a0 (⟨#[]⟩ : ByteArray) 9).bind fun bt800 => (if bt800.2.2.2.2.2.2.2.2.2.2.2.2.2.2 = 0 then (hogsheadlaw17_DeedReads.l0 k l1 t799 0 bt800.1 bt800.2.1 bt800.2.2.1 bt800.2.2.2.1 bt800.2.2.2.2.1 bt800.2.2.2.2.2.1 bt800.2.2.2.2.2.2.1 bt800.2.2.2.2.2.2.2.1 bt800.2.2.2.2.2.2.2.2.1 bt800.2.2.2.2.2.2.2.2.2.1 bt800.2.2.2.2.2.2.2.2.2.2.1 bt800.2.2.2.2.2.2.2.2.2.2.2.1 bt800.2.2.2.2.2.2.2.2.2.2.2.2.1 bt800.2.2.2.2.2.2.2.2.2.2.2.2.2.1) else (some t799))) = some r := H
 have A3 := qM A30
 clear A30
 replace H := Option.bind_eq_some_iff.mp H
 obtain ⟨⟨t800, t801, t802, t803, t804, t805, t806, t807, t808, t809, t810, t811, t812, t813, t814⟩, A40, H⟩ := H
 replace H : (if t814 = 0 then (hogsheadlaw17_DeedReads.l0 k l1 t799 0 t800 t801 t802 t803 t804 t805 t806 t807 t808 t809 t810 t811 t812 t813) else (some t799)) = some r := H
 have A4 := qM A40
 clear A40
 by_cases c5 : t814 = 0
 ·rw [if_pos c5] at H
  have c5b0 : (t814 == 0) = true := beq_iff_eq.mpr c5
  have c5b1 : (t814 != 0) = false := bne_eq_false_iff_eq.mpr c5
  clear c5
  have H' := qM H
  clear H
  go_enter Try.func8, Try.ntmps8
  go_wp2_with (first | ((with_reducible refine gate_callee (f := 9) rfl ?_); refine goesL_ (some 9) rfl rfl Try.func9 (by kernel_rfl) rfl #[] rfl (by (try simp only [List.map_toArray, List.map_cons, List.map_nil]); first | done | rfl | (simp only [List.length_drop, List.length_take]; rfl)) ?_; (with_reducible refine (hogsheadlaw17_shown.calls k  t799 _ A3.out).mono ?_); rintro e w6 ⟨rfl, hb⟩; refine ⟨_, rfl, ?_⟩; have n0_ := qM (eT (by repeat (first | (with_reducible first | exact HB.out | apply eA | apply eN | apply eD) | exact HB.out)) hb); clear HB; have HB := n0_; clear n0_; (try clear hb); (try clear hb2); (try clear hk); (try clear hi)) | ((with_reducible refine gate_callee (f := 10) rfl ?_); refine goesL_ (some 12) rfl rfl Try.func10 (by kernel_rfl) rfl #[.int .i64 2, .int .i64 2, .string a0, .string (⟨#[]⟩ : ByteArray), .int .i64 9] rfl (by (try simp only [List.map_toArray, List.map_cons, List.map_nil]); first | done | rfl | (simp only [List.length_drop, List.length_take]; rfl)) ?_; (with_reducible refine (deed_New.calls k 2 2 a0 (⟨#[]⟩ : ByteArray) 9 t800 t801 t802 t803 t804 t805 t806 t807 t808 t809 t810 t811 t812 t813 t814 _ A4.out).mono ?_); rintro e w7 ⟨rfl, hb⟩; refine ⟨_, rfl, ?_⟩; have n0_ := qM (eT (by repeat (first | (with_reducible first | exact HB.out | apply eA | apply eN | apply eD) | exact HB.out)) hb); clear HB; have HB := n0_; clear n0_; (try clear hb); (try clear hb2); (try clear hk); (try clear hi)) | ((with_reducible refine gate_dst (N := 6) rfl ?_); (try (refine gate_guard (by rfl) ?_; dsimp only)); refine box_event ?hg (N := 6) ?hd (cs := #[.int .i64 0, .int .i64 0, .string (⟨#[]⟩ : ByteArray), .string (⟨#[]⟩ : ByteArray), .int .i64 0, .int .i64 0, .int .i64 0, .int .i64 0, .int .i64 0, .int .u32 0, .int .i64 0, .int .i64 0, .string (⟨#[]⟩ : ByteArray), .bool false]) (t := 28) ?hr ?_; (case hd => rfl); (case hg => rfl); (case hr => first | (go_simp; done) | (go_simp; rfl)); intro g815 hg w8 hbox hb; have n0_ := qM (eT (by repeat (first | (with_reducible first | exact HB.out | apply eA | apply eN | apply eD) | exact HB.out)) hb); have n1_ := qM (hbox); have n2_ := qM ((by rw [hg]; exact (eZ (by repeat (first | (with_reducible first | exact HB.out | apply eA | apply eN | apply eD) | exact HB.out))) : w.heap.size ≤ g815)); have n3_ := n2_; clear HB; have HB := n0_; have B815 := n1_; have GW815 := n2_; have GE815 := n3_; clear n0_ n1_ n2_ n3_; clear hb hbox hg; obtain ⟨z9_0, z9_1, z9_2, z9_3, z9_4, z9_5, z9_6, z9_7, z9_8, z9_9, z9_10, z9_11, z9_12, z9_13, f9_0, f9_1, f9_2, f9_3, f9_4, f9_5, f9_6, f9_7, f9_8, f9_9, f9_10, f9_11, f9_12, f9_13⟩ := cells14 B815.out))
  go_loopg [8] k (fun kq v8 w' => ∃ (x8_1 : Int) (x816000_1 : Int) (x816001_1 : Int) (x816002_1 : ByteArray) (x816003_1 : ByteArray) (x816004_1 : Int) (x816005_1 : Int) (x816006_1 : Int) (x816007_1 : Int) (x816008_1 : Int) (x816009_1 : Int) (x816010_1 : Int) (x816011_1 : Int) (x816012_1 : ByteArray) (x816013_1 : Bool), v8 = .int .i64 x8_1 ∧ Aside0 (hogsheadlaw17_DeedReads.l0 kq l1 t799 x8_1 x816000_1 x816001_1 x816002_1 x816003_1 x816004_1 x816005_1 x816006_1 x816007_1 x816008_1 x816009_1 x816010_1 x816011_1 x816012_1 x816013_1 = some r) ∧ Aside0 (kq ≤ k) ∧ Aside0 (w'.heap[g815]? = some (.cells #[.int .i64 x816000_1, .int .i64 x816001_1, .string x816002_1, .string x816003_1, .int .i64 x816004_1, .int .i64 x816005_1, .int .i64 x816006_1, .int .i64 x816007_1, .int .i64 x816008_1, .int .u32 x816009_1, .int .i64 x816010_1, .int .i64 x816011_1, .string x816012_1, .bool x816013_1] 28 (0, 0))) ∧ Aside0 (Below w.heap.size w w'))
  case atStart => exact ⟨(0), (t800), (t801), (t802), (t803), (t804), (t805), (t806), (t807), (t808), (t809), (t810), (t811), (t812), (t813), (by first | rfl | (simp; done) | (simp [*]; done)), H', ⟨Nat.le_refl _⟩, ⟨by (with_reducible repeat first | refine qN ?_ _ | refine qD ?_ | refine qA ?_ _); apply puts14; (with_reducible repeat first | refine qN ?_ _ | refine qD ?_ | refine qA ?_ _); exact B815.out⟩, ⟨by repeat (first | (with_reducible first | exact HB.out | apply eA | apply eN | apply eD | refine eS ?_ GE815.out) | exact HB.out)⟩⟩
  case round =>
   clear H'
   try clear c1
   try clear p2
   try clear c5
   try clear c5b0
   try clear c5b1
   try clear c8
   try clear c9
   try clear z9_0
   try clear z9_1
   try clear z9_10
   try clear z9_11
   try clear z9_12
   try clear z9_13
   try clear z9_2
   try clear z9_3
   try clear z9_4
   try clear z9_5
   try clear z9_6
   try clear z9_7
   try clear z9_8
   try clear z9_9
   try clear f9_0
   try clear f9_1
   try clear f9_10
   try clear f9_11
   try clear f9_12
   try clear f9_13
   try clear f9_2
   try clear f9_3
   try clear f9_4
   try clear f9_5
   try clear f9_6
   try clear f9_7
   try clear f9_8
   try clear f9_9
   obtain ⟨x8_1, x816000_1, x816001_1, x816002_1, x816003_1, x816004_1, x816005_1, x816006_1, x816007_1, x816008_1, x816009_1, x816010_1, x816011_1, x816012_1, x816013_1, rfl, HA, HK1, B815, HB⟩ := hrel
   cases gk with
   | zero => exact absurd HA.out (by simp [hogsheadlaw17_DeedReads.l0])
   | succ k1 =>
    have H := HA.out
    clear HA
    simp only [hogsheadlaw17_DeedReads.l0] at H
    by_cases c10 : x8_1 < (l1.length : Int)
    ·rw [if_pos c10] at H
     have c10b0 : decide (x8_1 < (l1.length : Int)) = true := decide_eq_true c10
     clear c10
     by_cases c11 : 0 ≤ x8_1
     ·rw [if_pos c11] at H
      have c11b0 : decide (0 ≤ x8_1) = true := decide_eq_true c11
      clear c11
      replace H := Option.bind_eq_some_iff.mp H
      obtain ⟨⟨t817, t818, t819, t820, t821, t822, t823, t824, t825, t826, t827, t828, t829, t830⟩, A120, H⟩ := H
      replace H : (hogsheadlaw17_DeedReads.l0 k1 l1 t799 (wrap64 (x8_1 + 1)) t817 t818 t819 t820 t821 t822 t823 t824 t825 t826 t827 t828 t829 t830) = some r := H
      have A12 := qM A120
      clear A120
      have H' := qM H
      clear H
      try go_wp2
      have n0_ := qM (blk_drew B815.out)
      have n1_ := qM (below_drew1 HB.out)
      clear B815
      clear HB
      have B815 := n0_
      have HB := n1_
      clear n0_ n1_
      have p816 : 0 ≤ (x8_1 : Int) := of_decide_eq_true (by first | (with_reducible assumption) | assumption)
      have q816 : x8_1 < (l1.length : Int) := of_decide_eq_true (by first | (with_reducible assumption) | assumption)
      obtain ⟨ad816, e816, hx816_0, hx816_1, hx816_2, hx816_3, hx816_4, hx816_5, hx816_6, hx816_7, hx816_8, hx816_9⟩ := at_T54 HR1.out x8_1 p816 q816
      have hw816_9 := hx816_9
      have hw816_8 := hx816_8
      have hw816_7 := hx816_7
      have hw816_6 := hx816_6
      have hw816_5 := hx816_5
      have hw816_4 := hx816_4
      have hw816_3 := hx816_3
      have hw816_2 := hx816_2
      have hw816_1 := hx816_1
      have hw816_0 := hx816_0
      cases e816
      replace hx816_0 := (HB.out.cell (World.block_lt_of_cell? w _ hx816_0)).trans hx816_0
      replace hx816_1 := (HB.out.cell (World.block_lt_of_cell? w _ hx816_1)).trans hx816_1
      replace hx816_2 := (HB.out.cell (World.block_lt_of_cell? w _ hx816_2)).trans hx816_2
      replace hx816_3 := (HB.out.cell (World.block_lt_of_cell? w _ hx816_3)).trans hx816_3
      replace hx816_4 := (HB.out.cell (World.block_lt_of_cell? w _ hx816_4)).trans hx816_4
      replace hx816_5 := (HB.out.cell (World.block_lt_of_cell? w _ hx816_5)).trans hx816_5
      replace hx816_6 := (HB.out.cell (World.block_lt_of_cell? w _ hx816_6)).trans hx816_6
      replace hx816_7 := (HB.out.cell (World.block_lt_of_cell? w _ hx816_7)).trans hx816_7
      replace hx816_8 := (HB.out.cell (World.block_lt_of_cell? w _ hx816_8)).trans hx816_8
      replace hx816_9 := (HB.out.cell (World.block_lt_of_cell? w _ hx816_9)).trans hx816_9
      replace p816 := eq_true p816
      replace q816 := eq_true q816
      refine start_ (n := 7) (S := fun w' => w'.cell? ⟨g815, 0, none⟩ = some (.int .i64 x816000_1) ∧ w'.cell? ⟨g815, 1, none⟩ = some (.int .i64 x816001_1) ∧ w'.cell? ⟨g815, 2, none⟩ = some (.string x816002_1) ∧ w'.cell? ⟨g815, 3, none⟩ = some (.string x816003_1) ∧ w'.cell? ⟨g815, 4, none⟩ = some (.int .i64 x816004_1) ∧ w'.cell? ⟨g815, 5, none⟩ = some (.int .i64 x816005_1) ∧ w'.cell? ⟨g815, 6, none⟩ = some (.int .i64 x816006_1) ∧ w'.cell? ⟨g815, 7, none⟩ = some (.int .i64 x816007_1) ∧ w'.cell? ⟨g815, 8, none⟩ = some (.int .i64 x816008_1) ∧ w'.cell? ⟨g815, 9, none⟩ = some (.int .u32 x816009_1) ∧ w'.cell? ⟨g815, 10, none⟩ = some (.int .i64 x816010_1) ∧ w'.cell? ⟨g815, 11, none⟩ = some (.int .i64 x816011_1) ∧ w'.cell? ⟨g815, 12, none⟩ = some (.string x816012_1) ∧ w'.cell? ⟨g815, 13, none⟩ = some (.bool x816013_1) ∧ w'.cell? (ad816.add ((x8_1).toNat * 10)) = some (.int .i64 ((rd_T54 l1 x8_1).f0)) ∧ w'.cell? ⟨(ad816.add ((x8_1).toNat * 10)).block, (ad816.add ((x8_1).toNat * 10)).off + 1, none⟩ = some (.int .i64 ((rd_T54 l1 x8_1).f1)) ∧ w'.cell? ⟨(ad816.add ((x8_1).toNat * 10)).block, (ad816.add ((x8_1).toNat * 10)).off + 2, none⟩ = some (.int .i64 ((rd_T54 l1 x8_1).f2.f0)) ∧ w'.cell? ⟨(ad816.add ((x8_1).toNat * 10)).block, (ad816.add ((x8_1).toNat * 10)).off + 3, none⟩ = some (.int .i64 ((rd_T54 l1 x8_1).f2.f1)) ∧ w'.cell? ⟨(ad816.add ((x8_1).toNat * 10)).block, (ad816.add ((x8_1).toNat * 10)).off + 4, none⟩ = some (.int .i64 ((rd_T54 l1 x8_1).f2.f2)) ∧ w'.cell? ⟨(ad816.add ((x8_1).toNat * 10)).block, (ad816.add ((x8_1).toNat * 10)).off + 5, none⟩ = some (.int .i64 ((rd_T54 l1 x8_1).f2.f3)) ∧ w'.cell? ⟨(ad816.add ((x8_1).toNat * 10)).block, (ad816.add ((x8_1).toNat * 10)).off + 6, none⟩ = some (.int .u32 ((rd_T54 l1 x8_1).f2.f4)) ∧ w'.cell? ⟨(ad816.add ((x8_1).toNat * 10)).block, (ad816.add ((x8_1).toNat * 10)).off + 7, none⟩ = some (.bool ((rd_T54 l1 x8_1).f2.f5)) ∧ w'.cell? ⟨(ad816.add ((x8_1).toNat * 10)).block, (ad816.add ((x8_1).toNat * 10)).off + 8, none⟩ = some (.string ((rd_T54 l1 x8_1).f3)) ∧ w'.cell? ⟨(ad816.add ((x8_1).toNat * 10)).block, (ad816.add ((x8_1).toNat * 10)).off + 9, none⟩ = some (.int .i64 ((rd_T54 l1 x8_1).f4))) (ds := [6]) #[false, false, false, false, false, false, false] (by kernel_rfl) rfl rfl ⟨(qC B815.out 0).trans rfl, (qC B815.out 1).trans rfl, (qC B815.out 2).trans rfl, (qC B815.out 3).trans rfl, (qC B815.out 4).trans rfl, (qC B815.out 5).trans rfl, (qC B815.out 6).trans rfl, (qC B815.out 7).trans rfl, (qC B815.out 8).trans rfl, (qC B815.out 9).trans rfl, (qC B815.out 10).trans rfl, (qC B815.out 11).trans rfl, (qC B815.out 12).trans rfl, (qC B815.out 13).trans rfl, ((HB.out.cell (World.block_lt_of_cell? w _ hw816_0)).trans hw816_0), ((HB.out.cell (World.block_lt_of_cell? w _ hw816_1)).trans hw816_1), ((HB.out.cell (World.block_lt_of_cell? w _ hw816_2)).trans hw816_2), ((HB.out.cell (World.block_lt_of_cell? w _ hw816_3)).trans hw816_3), ((HB.out.cell (World.block_lt_of_cell? w _ hw816_4)).trans hw816_4), ((HB.out.cell (World.block_lt_of_cell? w _ hw816_5)).trans hw816_5), ((HB.out.cell (World.block_lt_of_cell? w _ hw816_6)).trans hw816_6), ((HB.out.cell (World.block_lt_of_cell? w _ hw816_7)).trans hw816_7), ((HB.out.cell (World.block_lt_of_cell? w _ hw816_8)).trans hw816_8), ((HB.out.cell (World.block_lt_of_cell? w _ hw816_9)).trans hw816_9)⟩ (fun hHeld => ?_)
      generalize wr.drew = w13 at B815 HB hx816_0 hx816_1 hx816_2 hx816_3 hx816_4 hx816_5 hx816_6 hx816_7 hx816_8 hx816_9 hHeld ⊢
      refine pure_ (i := 1) (N := some 25) (v := ?_) (a' := ?_) #[false, true, false, false, false, false, false] rfl rfl (by kernel_rfl) (fun _ _ _ h => h) (Or.inl ⟨by rfl, ?_⟩) ?_ ?_
      rotate_left
      ·intro w'; go_simp; with_reducible rfl
      rotate_left
      ·simp only [Act.put, xA, xZ, xS, i64_w, i32_w]; rfl
      refine pure_ (i := 2) (N := some 26) (v := ?_) (a' := ?_) #[false, true, true, false, false, false, false] rfl rfl (by kernel_rfl) (fun _ _ _ h => h) (Or.inl ⟨by rfl, ?_⟩) ?_ ?_
      rotate_left
      ·intro w'; go_simp; with_reducible rfl
      rotate_left
      ·simp only [Act.put, xA, xZ, xS, i64_w, i32_w]; rfl
      refine pure_ (i := 3) (N := some 27) (v := ?_) (a' := ?_) #[false, true, true, true, false, false, false] rfl rfl (by kernel_rfl) (fun _ _ _ h => h) (Or.inl ⟨by rfl, ?_⟩) ?_ ?_
      rotate_left
      ·intro w'; go_simp; with_reducible rfl
      rotate_left
      ·simp only [Act.put, xA, xZ, xS, i64_w, i32_w]; rfl
      refine take_ (i := 0) (N := some 24) (v := ?_) (a' := ?_) #[true, true, true, true, false, false, false] rfl rfl (by kernel_rfl) (fun _ _ _ h => h) (Or.inl ⟨by rfl, ?_⟩) hHeld ?_ ?_
      rotate_left
      ·rintro w' ⟨s0, s1, s2, s3, s4, s5, s6, s7, s8, s9, s10, s11, s12, s13, s14, s15, s16, s17, s18, s19, s20, s21, s22, s23⟩; go_simp; with_reducible rfl
      rotate_left
      ·simp only [Act.put, xA, xZ, xS, i64_w, i32_w]; rfl
      refine take_ (i := 4) (N := some 28) (v := ?_) (a' := ?_) #[true, true, true, true, true, false, false] rfl rfl (by kernel_rfl) (fun _ _ _ h => h) (Or.inl ⟨by rfl, ?_⟩) hHeld ?_ ?_
      rotate_left
      ·rintro w' ⟨s0, s1, s2, s3, s4, s5, s6, s7, s8, s9, s10, s11, s12, s13, s14, s15, s16, s17, s18, s19, s20, s21, s22, s23⟩; go_simp; with_reducible rfl
      rotate_left
      ·simp only [Act.put, xA, xZ, xS, i64_w, i32_w]; rfl
      refine one_ (i := 5) (N := some 29) #[true, true, true, true, true, true, false] rfl rfl (by kernel_rfl) (by decide) (fun K hK => ?_)
      refine goes_ Try.func25 (by kernel_rfl) rfl #[.agg #[.int .i64 x816000_1, .int .i64 x816001_1, .string x816002_1, .string x816003_1, .int .i64 x816004_1, .int .i64 x816005_1, .int .i64 x816006_1, .int .i64 x816007_1, .int .i64 x816008_1, .int .u32 x816009_1, .int .i64 x816010_1, .int .i64 x816011_1, .string x816012_1, .bool x816013_1], .agg #[.int .i64 ((rd_T54 l1 x8_1).f0), .int .i64 ((rd_T54 l1 x8_1).f1), .int .i64 ((rd_T54 l1 x8_1).f2.f0), .int .i64 ((rd_T54 l1 x8_1).f2.f1), .int .i64 ((rd_T54 l1 x8_1).f2.f2), .int .i64 ((rd_T54 l1 x8_1).f2.f3), .int .u32 ((rd_T54 l1 x8_1).f2.f4), .bool ((rd_T54 l1 x8_1).f2.f5), .string ((rd_T54 l1 x8_1).f3), .int .i64 ((rd_T54 l1 x8_1).f4)]] (by rfl) rfl rfl (by (try simp only [List.map_toArray, List.map_cons, List.map_nil]); first | done | rfl | (simp only [List.length_drop, List.length_take]; rfl)) ?_
      with_reducible refine (hogsheadlaw17_comes.calls k1 x816000_1 x816001_1 x816002_1 x816003_1 x816004_1 x816005_1 x816006_1 x816007_1 x816008_1 x816009_1 x816010_1 x816011_1 x816012_1 x816013_1 ((rd_T54 l1 x8_1).f0) ((rd_T54 l1 x8_1).f1) ((rd_T54 l1 x8_1).f2.f0) ((rd_T54 l1 x8_1).f2.f1) ((rd_T54 l1 x8_1).f2.f2) ((rd_T54 l1 x8_1).f2.f3) ((rd_T54 l1 x8_1).f2.f4) ((rd_T54 l1 x8_1).f2.f5) ((rd_T54 l1 x8_1).f3) ((rd_T54 l1 x8_1).f4) t817 t818 t819 t820 t821 t822 t823 t824 t825 t826 t827 t828 t829 t830 _ A12.out).mono ?_
      rintro e w14 ⟨rfl, hb⟩
      refine ⟨_, rfl, ?_⟩
      have n0_ := qM (qB (g := g815) (by (with_reducible repeat first | refine qN ?_ _ | refine qD ?_ | refine qA ?_ _); exact B815.out) hb)
      have n1_ := qM (eT (by repeat (first | (with_reducible first | exact HB.out | apply eA | apply eN | apply eD | refine eS ?_ GE815.out) | exact HB.out)) hb)
      clear B815
      clear HB
      have B815 := n0_
      have HB := n1_
      clear n0_ n1_
      (try clear hb)
      (try clear hb2)
      (try clear hk)
      (try clear hi)
      refine hK.out _ _ ⟨(qC B815.out 0).trans rfl, (qC B815.out 1).trans rfl, (qC B815.out 2).trans rfl, (qC B815.out 3).trans rfl, (qC B815.out 4).trans rfl, (qC B815.out 5).trans rfl, (qC B815.out 6).trans rfl, (qC B815.out 7).trans rfl, (qC B815.out 8).trans rfl, (qC B815.out 9).trans rfl, (qC B815.out 10).trans rfl, (qC B815.out 11).trans rfl, (qC B815.out 12).trans rfl, (qC B815.out 13).trans rfl, ((HB.out.cell (World.block_lt_of_cell? w _ hw816_0)).trans hw816_0), ((HB.out.cell (World.block_lt_of_cell? w _ hw816_1)).trans hw816_1), ((HB.out.cell (World.block_lt_of_cell? w _ hw816_2)).trans hw816_2), ((HB.out.cell (World.block_lt_of_cell? w _ hw816_3)).trans hw816_3), ((HB.out.cell (World.block_lt_of_cell? w _ hw816_4)).trans hw816_4), ((HB.out.cell (World.block_lt_of_cell? w _ hw816_5)).trans hw816_5), ((HB.out.cell (World.block_lt_of_cell? w _ hw816_6)).trans hw816_6), ((HB.out.cell (World.block_lt_of_cell? w _ hw816_7)).trans hw816_7), ((HB.out.cell (World.block_lt_of_cell? w _ hw816_8)).trans hw816_8), ((HB.out.cell (World.block_lt_of_cell? w _ hw816_9)).trans hw816_9)⟩ (fun hHeld => ?_)
      clear hK K
      refine norm_ (a' := ?_) ?_ ?_
      rotate_left
      ·show Act.put _ (some 29) _ = _
       simp only [Act.put, xA, xZ, xS, i64_w, i32_w]
       rfl
      refine last_ (i := 6) (N := none) #[true, true, true, true, true, true, true] rfl rfl (by kernel_rfl) (by decide) (fun K hK => ?_)
      have hs15 : w14.cell? ⟨g815, 0, none⟩ = some (.int .i64 x816000_1) := (qC B815.out 0).trans rfl
      have hfs15 := qF B815.out 0
      have hs16 : w14.cell? ⟨g815, 1, none⟩ = some (.int .i64 x816001_1) := (qC B815.out 1).trans rfl
      have hfs16 := qF B815.out 1
      have hs17 : w14.cell? ⟨g815, 2, none⟩ = some (.string x816002_1) := (qC B815.out 2).trans rfl
      have hfs17 := qF B815.out 2
      have hs18 : w14.cell? ⟨g815, 3, none⟩ = some (.string x816003_1) := (qC B815.out 3).trans rfl
      have hfs18 := qF B815.out 3
      have hs19 : w14.cell? ⟨g815, 4, none⟩ = some (.int .i64 x816004_1) := (qC B815.out 4).trans rfl
      have hfs19 := qF B815.out 4
      have hs20 : w14.cell? ⟨g815, 5, none⟩ = some (.int .i64 x816005_1) := (qC B815.out 5).trans rfl
      have hfs20 := qF B815.out 5
      have hs21 : w14.cell? ⟨g815, 6, none⟩ = some (.int .i64 x816006_1) := (qC B815.out 6).trans rfl
      have hfs21 := qF B815.out 6
      have hs22 : w14.cell? ⟨g815, 7, none⟩ = some (.int .i64 x816007_1) := (qC B815.out 7).trans rfl
      have hfs22 := qF B815.out 7
      have hs23 : w14.cell? ⟨g815, 8, none⟩ = some (.int .i64 x816008_1) := (qC B815.out 8).trans rfl
      have hfs23 := qF B815.out 8
      have hs24 : w14.cell? ⟨g815, 9, none⟩ = some (.int .u32 x816009_1) := (qC B815.out 9).trans rfl
      have hfs24 := qF B815.out 9
      have hs25 : w14.cell? ⟨g815, 10, none⟩ = some (.int .i64 x816010_1) := (qC B815.out 10).trans rfl
      have hfs25 := qF B815.out 10
      have hs26 : w14.cell? ⟨g815, 11, none⟩ = some (.int .i64 x816011_1) := (qC B815.out 11).trans rfl
      have hfs26 := qF B815.out 11
      have hs27 : w14.cell? ⟨g815, 12, none⟩ = some (.string x816012_1) := (qC B815.out 12).trans rfl
      have hfs27 := qF B815.out 12
      have hs28 : w14.cell? ⟨g815, 13, none⟩ = some (.bool x816013_1) := (qC B815.out 13).trans rfl
      have hfs28 := qF B815.out 13
      refine skip_ (w1 := ?_) (by rfl) rfl ?_ ?_
      rotate_left
      ·go_simp; rfl
      refine hK.out _ _ ?_
      clear hK K
      refine done_ (by kernel_rfl) ?_
      try go_wp2
      go_roundg k1
      case measure => have := HK1.out; omega
      case rel => exact ⟨(wrap64 (x8_1 + 1)), (t817), (t818), (t819), (t820), (t821), (t822), (t823), (t824), (t825), (t826), (t827), (t828), (t829), (t830), (by first | rfl | (simp; done) | (simp [*]; done)), H', ⟨by have := HK1.out; omega⟩, ⟨by (with_reducible repeat first | refine qN ?_ _ | refine qD ?_ | refine qA ?_ _); apply puts14; (with_reducible repeat first | refine qN ?_ _ | refine qD ?_ | refine qA ?_ _); exact B815.out⟩, ⟨by repeat (first | (with_reducible first | exact HB.out | apply eA | apply eN | apply eD | refine eS ?_ GE815.out) | exact HB.out)⟩⟩
     ·rw [if_neg c11] at H
      exact absurd H (by simp)
    ·rw [if_neg c10] at H
     have c10b0 : decide (x8_1 < (l1.length : Int)) = false := decide_eq_false c10
     clear c10
     have HC29 := qM H
     clear H
     go_upto_region 9 with (fail)
     go_cut [37] (fun v37 wc => ∃ (kq : Nat) (x37_28 : Bool), v37 = .bool x37_28 ∧ Aside0 (hogsheadlaw17_DeedReads.j1 kq t799 x37_28 x816000_1 x816001_1 x816002_1 x816003_1 x816004_1 x816005_1 x816006_1 x816007_1 x816008_1 x816009_1 x816010_1 x816011_1 x816012_1 x816013_1 = some r) ∧ Aside0 (kq ≤ k1) ∧ Aside0 (wc.heap[g815]? = some (.cells #[.int .i64 x816000_1, .int .i64 x816001_1, .string x816002_1, .string x816003_1, .int .i64 x816004_1, .int .i64 x816005_1, .int .i64 x816006_1, .int .i64 x816007_1, .int .i64 x816008_1, .int .u32 x816009_1, .int .i64 x816010_1, .int .i64 x816011_1, .string x816012_1, .bool x816013_1] 28 (0, 0))) ∧ Aside0 (Below w.heap.size w wc))
     case first =>
      have H := HC29.out
      clear HC29
      by_cases c30 : x816005_1 = 8
      ·rw [if_pos c30] at H
       have c30b0 : (x816005_1 == 8) = true := beq_iff_eq.mpr c30
       have c30b1 : (x816005_1 != 8) = false := bne_eq_false_iff_eq.mpr c30
       clear c30
       (first | rw [c30b0] | (simp only [i64_w, i32_w]; rw [c30b0]) | skip)
       have H' := qM H
       clear H
       obtain ⟨z31_0, z31_1, z31_2, z31_3, z31_4, z31_5, z31_6, z31_7, z31_8, z31_9, z31_10, z31_11, z31_12, z31_13, f31_0, f31_1, f31_2, f31_3, f31_4, f31_5, f31_6, f31_7, f31_8, f31_9, f31_10, f31_11, f31_12, f31_13⟩ := cells14 B815.out
       go_wp2
       go_meet
       case rel => exact ⟨_, ((x816011_1 == 0)), (by first | rfl | (simp; done) | (simp [*]; done)), H', ⟨by have := HK1.out; first | omega | exact Nat.le_refl _⟩, ⟨by (with_reducible repeat first | refine qN ?_ _ | refine qD ?_ | refine qA ?_ _); exact B815.out⟩, ⟨by repeat (first | (with_reducible first | exact HB.out | apply eA | apply eN | apply eD | refine eS ?_ GE815.out) | exact HB.out)⟩⟩
      ·rw [if_neg c30] at H
       have c30b0 : (x816005_1 == 8) = false := beq_eq_false_iff_ne.mpr c30
       have c30b1 : (x816005_1 != 8) = true := bne_iff_ne.mpr c30
       (first | rw [c30b0] | (simp only [i64_w, i32_w]; rw [c30b0]) | skip)
       have H' := qM H
       clear H
       obtain ⟨z32_0, z32_1, z32_2, z32_3, z32_4, z32_5, z32_6, z32_7, z32_8, z32_9, z32_10, z32_11, z32_12, z32_13, f32_0, f32_1, f32_2, f32_3, f32_4, f32_5, f32_6, f32_7, f32_8, f32_9, f32_10, f32_11, f32_12, f32_13⟩ := cells14 B815.out
       go_wp2
       go_meet
       case rel => exact ⟨_, (false), (by first | rfl | (simp; done) | (simp [*]; done)), H', ⟨by have := HK1.out; first | omega | exact Nat.le_refl _⟩, ⟨by (with_reducible repeat first | refine qN ?_ _ | refine qD ?_ | refine qA ?_ _); exact B815.out⟩, ⟨by repeat (first | (with_reducible first | exact HB.out | apply eA | apply eN | apply eD | refine eS ?_ GE815.out) | exact HB.out)⟩⟩
     case rest =>
      clear HC29
      try clear c1
      try clear c2
      try clear p2
      try clear c3
      try clear c5
      try clear c5b0
      try clear c5b1
      try clear p6
      try clear c8
      try clear p8
      try clear q8
      try clear hx8
      try clear c9
      try clear c10
      try clear c10b0
      try clear c11
      try clear c11b0
      try clear c25
      try clear c30
      try clear c30b0
      try clear c30b1
      try clear z31_0
      try clear z31_1
      try clear z31_10
      try clear z31_11
      try clear z31_12
      try clear z31_13
      try clear z31_2
      try clear z31_3
      try clear z31_4
      try clear z31_5
      try clear z31_6
      try clear z31_7
      try clear z31_8
      try clear z31_9
      try clear z32_0
      try clear z32_1
      try clear z32_10
      try clear z32_11
      try clear z32_12
      try clear z32_13
      try clear z32_2
      try clear z32_3
      try clear z32_4
      try clear z32_5
      try clear z32_6
      try clear z32_7
      try clear z32_8
      try clear z32_9
      try clear z9_0
      try clear z9_1
      try clear z9_10
      try clear z9_11
      try clear z9_12
      try clear z9_13
      try clear z9_2
      try clear z9_3
      try clear z9_4
      try clear z9_5
      try clear z9_6
      try clear z9_7
      try clear z9_8
      try clear z9_9
      try clear f31_0
      try clear f31_1
      try clear f31_10
      try clear f31_11
      try clear f31_12
      try clear f31_13
      try clear f31_2
      try clear f31_3
      try clear f31_4
      try clear f31_5
      try clear f31_6
      try clear f31_7
      try clear f31_8
      try clear f31_9
      try clear f32_0
      try clear f32_1
      try clear f32_10
      try clear f32_11
      try clear f32_12
      try clear f32_13
      try clear f32_2
      try clear f32_3
      try clear f32_4
      try clear f32_5
      try clear f32_6
      try clear f32_7
      try clear f32_8
      try clear f32_9
      try clear f9_0
      try clear f9_1
      try clear f9_10
      try clear f9_11
      try clear f9_12
      try clear f9_13
      try clear f9_2
      try clear f9_3
      try clear f9_4
      try clear f9_5
      try clear f9_6
      try clear f9_7
      try clear f9_8
      try clear f9_9
      try clear hx816_0
      try clear hx816_1
      try clear hx816_2
      try clear hx816_3
      try clear hx816_4
      try clear hx816_5
      try clear hx816_6
      try clear hx816_7
      try clear hx816_8
      try clear hx816_9
      try clear p2
      try clear p816
      try clear q816
      obtain ⟨kq, x37_28, rfl, HA, HJ28, B815, HB⟩ := hcut
      cases kq with
      | zero => exact absurd HA.out (by simp [hogsheadlaw17_DeedReads.j1])
      | succ kj28 =>
       have H := HA.out
       clear HA
       simp only [hogsheadlaw17_DeedReads.j1] at H
       by_cases c33 : x37_28 = true
       ·subst c33
        have H1 : (if t799 = true then (if x816013_1 = true then (if (x816012_1.size : Int) = x816008_1 then ((hogsheadref02_Sum.f kj28 x816012_1).bind fun t831 => (hogsheadlaw17_DeedReads.j2 kj28 (t831 == x816009_1))) else (hogsheadlaw17_DeedReads.j2 kj28 false)) else (hogsheadlaw17_DeedReads.j2 kj28 false)) else (hogsheadlaw17_DeedReads.j2 kj28 false)) = some r := by rw [if_pos rfl] at H; exact H
        clear H
        have H := H1
        clear H1
        have HC34 := qM H
        clear H
        go_upto_region 10 with (fail)
        go_cut [4] (fun v4 wc => ∃ (kq : Nat) (x4_33 : Bool), v4 = .bool x4_33 ∧ Aside0 (hogsheadlaw17_DeedReads.j2 kq x4_33 = some r) ∧ Aside0 (kq ≤ kj28) ∧ Aside0 (wc.heap[g815]? = some (.cells #[.int .i64 x816000_1, .int .i64 x816001_1, .string x816002_1, .string x816003_1, .int .i64 x816004_1, .int .i64 x816005_1, .int .i64 x816006_1, .int .i64 x816007_1, .int .i64 x816008_1, .int .u32 x816009_1, .int .i64 x816010_1, .int .i64 x816011_1, .string x816012_1, .bool x816013_1] 28 (0, 0))) ∧ Aside0 (Below w.heap.size w wc))
        case first =>
         have H := HC34.out
         clear HC34
         by_cases c35 : t799 = true
         ·subst c35
          have H1 : (if x816013_1 = true then (if (x816012_1.size : Int) = x816008_1 then ((hogsheadref02_Sum.f kj28 x816012_1).bind fun t831 => (hogsheadlaw17_DeedReads.j2 kj28 (t831 == x816009_1))) else (hogsheadlaw17_DeedReads.j2 kj28 false)) else (hogsheadlaw17_DeedReads.j2 kj28 false)) = some r := by rw [if_pos rfl] at H; exact H
          clear H
          have H := H1
          clear H1
          by_cases c36 : x816013_1 = true
          ·subst c36
           have H1 : (if (x816012_1.size : Int) = x816008_1 then ((hogsheadref02_Sum.f kj28 x816012_1).bind fun t831 => (hogsheadlaw17_DeedReads.j2 kj28 (t831 == x816009_1))) else (hogsheadlaw17_DeedReads.j2 kj28 false)) = some r := by rw [if_pos rfl] at H; exact H
           clear H
           have H := H1
           clear H1
           by_cases c37 : (x816012_1.size : Int) = x816008_1
           ·rw [if_pos c37] at H
            have c37b0 : ((x816012_1.size : Int) == x816008_1) = true := beq_iff_eq.mpr c37
            have c37b1 : ((x816012_1.size : Int) != x816008_1) = false := bne_eq_false_iff_eq.mpr c37
            clear c37
            (first | rw [c37b0] | (simp only [i64_w, i32_w]; rw [c37b0]) | skip)
            replace H := Option.bind_eq_some_iff.mp H
            obtain ⟨t831, A380, H⟩ := H
            replace H : (hogsheadlaw17_DeedReads.j2 kj28 (t831 == x816009_1)) = some r := H
            have A38 := qM A380
            clear A380
            have H' := qM H
            clear H
            try go_wp2
            have n0_ := qM (blk_drew B815.out)
            have n1_ := qM (below_drew1 HB.out)
            clear B815
            clear HB
            have B815 := n0_
            have HB := n1_
            clear n0_ n1_
            refine start_ (n := 22) (S := fun w' => w'.cell? ⟨g815, 0, none⟩ = some (.int .i64 x816000_1) ∧ w'.cell? ⟨g815, 1, none⟩ = some (.int .i64 x816001_1) ∧ w'.cell? ⟨g815, 2, none⟩ = some (.string x816002_1) ∧ w'.cell? ⟨g815, 3, none⟩ = some (.string x816003_1) ∧ w'.cell? ⟨g815, 4, none⟩ = some (.int .i64 x816004_1) ∧ w'.cell? ⟨g815, 5, none⟩ = some (.int .i64 x816005_1) ∧ w'.cell? ⟨g815, 6, none⟩ = some (.int .i64 x816006_1) ∧ w'.cell? ⟨g815, 7, none⟩ = some (.int .i64 x816007_1) ∧ w'.cell? ⟨g815, 8, none⟩ = some (.int .i64 x816008_1) ∧ w'.cell? ⟨g815, 9, none⟩ = some (.int .u32 x816009_1) ∧ w'.cell? ⟨g815, 10, none⟩ = some (.int .i64 x816010_1) ∧ w'.cell? ⟨g815, 11, none⟩ = some (.int .i64 x816011_1) ∧ w'.cell? ⟨g815, 12, none⟩ = some (.string x816012_1) ∧ w'.cell? ⟨g815, 13, none⟩ = some (.bool true)) (ds := []) #[false, false, false, false, false, false, false, false, false, false, false, false, false, false, false, false, false, false, false, false, false, false] (by kernel_rfl) rfl rfl ⟨(qC B815.out 0).trans rfl, (qC B815.out 1).trans rfl, (qC B815.out 2).trans rfl, (qC B815.out 3).trans rfl, (qC B815.out 4).trans rfl, (qC B815.out 5).trans rfl, (qC B815.out 6).trans rfl, (qC B815.out 7).trans rfl, (qC B815.out 8).trans rfl, (qC B815.out 9).trans rfl, (qC B815.out 10).trans rfl, (qC B815.out 11).trans rfl, (qC B815.out 12).trans rfl, (qC B815.out 13).trans rfl⟩ (fun hHeld => ?_); refine with_tabW hogsheadlaw17_DeedReads.tab10 hogsheadlaw17_DeedReads.bits10 (fun HT_ HW_ => ?_)
            generalize wc.drew = w39 at B815 HB hHeld ⊢
            refine pure_ (i := 0) (N := some 38) (v := ?_) (a' := ?_) #[true, false, false, false, false, false, false, false, false, false, false, false, false, false, false, false, false, false, false, false, false, false] rfl rfl (any_of HT_.out (by kernel_rfl)) (fun _ _ _ h => h) (Or.inl ⟨by rfl, ?_⟩) ?_ ?_
            rotate_left
            ·intro w'; go_simp; with_reducible rfl
            rotate_left
            ·simp only [Act.put, xA, xZ, xS, i64_w, i32_w]; rfl
            refine pure_ (i := 1) (N := some 39) (v := ?_) (a' := ?_) #[true, true, false, false, false, false, false, false, false, false, false, false, false, false, false, false, false, false, false, false, false, false] rfl rfl (any_of HT_.out (by kernel_rfl)) (fun _ _ _ h => h) (Or.inl ⟨by rfl, ?_⟩) ?_ ?_
            rotate_left
            ·intro w'; go_simp; with_reducible rfl
            rotate_left
            ·simp only [Act.put, xA, xZ, xS, i64_w, i32_w]; rfl
            refine pure_ (i := 2) (N := some 40) (v := ?_) (a' := ?_) #[true, true, true, false, false, false, false, false, false, false, false, false, false, false, false, false, false, false, false, false, false, false] rfl rfl (any_of HT_.out (by kernel_rfl)) (fun _ _ _ h => h) (Or.inl ⟨by rfl, ?_⟩) ?_ ?_
            rotate_left
            ·intro w'; go_simp; with_reducible rfl
            rotate_left
            ·simp only [Act.put, xA, xZ, xS, i64_w, i32_w]; rfl
            refine take_ (i := 3) (N := some 41) (v := ?_) (a' := ?_) #[true, true, true, true, false, false, false, false, false, false, false, false, false, false, false, false, false, false, false, false, false, false] rfl rfl (take_ofW HT_.out HW_.out (by kernel_rfl)) (fun _ _ _ h => h) (Or.inl ⟨by rfl, ?_⟩) hHeld ?_ ?_
            rotate_left
            ·rintro w' ⟨s0, s1, s2, s3, s4, s5, s6, s7, s8, s9, s10, s11, s12, s13⟩; go_simp; with_reducible rfl
            rotate_left
            ·simp only [Act.put, xA, xZ, xS, i64_w, i32_w]; rfl
            refine pure_ (i := 4) (N := some 42) (v := ?_) (a' := ?_) #[true, true, true, true, true, false, false, false, false, false, false, false, false, false, false, false, false, false, false, false, false, false] rfl rfl (any_of HT_.out (by kernel_rfl)) (fun _ _ _ h => h) (Or.inl ⟨by rfl, ?_⟩) ?_ ?_
            rotate_left
            ·intro w'; go_simp; with_reducible rfl
            rotate_left
            ·simp only [Act.put, xA, xZ, xS, i64_w, i32_w]; rfl
            refine pure_ (i := 5) (N := some 43) (v := ?_) (a' := ?_) #[true, true, true, true, true, true, false, false, false, false, false, false, false, false, false, false, false, false, false, false, false, false] rfl rfl (any_of HT_.out (by kernel_rfl)) (fun _ _ _ h => h) (Or.inl ⟨by rfl, ?_⟩) ?_ ?_
            rotate_left
            ·intro w'; go_simp; with_reducible rfl
            rotate_left
            ·simp only [Act.put, xA, xZ, xS, i64_w, i32_w]; rfl
            refine pure_ (i := 6) (N := some 44) (v := ?_) (a' := ?_) #[true, true, true, true, true, true, true, false, false, false, false, false, false, false, false, false, false, false, false, false, false, false] rfl rfl (any_of HT_.out (by kernel_rfl)) (fun _ _ _ h => h) (Or.inl ⟨by rfl, ?_⟩) ?_ ?_
            rotate_left
            ·intro w'; go_simp; with_reducible rfl
            rotate_left
            ·simp only [Act.put, xA, xZ, xS, i64_w, i32_w]; rfl
            refine pure_ (i := 9) (N := some 47) (v := ?_) (a' := ?_) #[true, true, true, true, true, true, true, false, false, true, false, false, false, false, false, false, false, false, false, false, false, false] rfl rfl (any_of HT_.out (by kernel_rfl)) (fun _ _ _ h => h) (Or.inl ⟨by rfl, ?_⟩) ?_ ?_
            rotate_left
            ·intro w'; go_simp; with_reducible rfl
            rotate_left
            ·simp only [Act.put, xA, xZ, xS, i64_w, i32_w]; rfl
            refine take_ (i := 7) (N := some 45) (v := ?_) (a' := ?_) #[true, true, true, true, true, true, true, true, false, true, false, false, false, false, false, false, false, false, false, false, false, false] rfl rfl (take_ofW HT_.out HW_.out (by kernel_rfl)) (fun _ _ _ h => h) (Or.inl ⟨by rfl, ?_⟩) hHeld ?_ ?_
            rotate_left
            ·rintro w' ⟨s0, s1, s2, s3, s4, s5, s6, s7, s8, s9, s10, s11, s12, s13⟩; go_simp; with_reducible rfl
            rotate_left
            ·simp only [Act.put, xA, xZ, xS, i64_w, i32_w]; rfl
            refine pure_ (i := 8) (N := some 46) (v := ?_) (a' := ?_) #[true, true, true, true, true, true, true, true, true, true, false, false, false, false, false, false, false, false, false, false, false, false] rfl rfl (any_of HT_.out (by kernel_rfl)) (fun _ _ _ h => h) (Or.inl ⟨by rfl, ?_⟩) ?_ ?_
            rotate_left
            ·intro w'; go_simp; with_reducible rfl
            rotate_left
            ·simp only [Act.put, xA, xZ, xS, i64_w, i32_w]; rfl
            refine take_ (i := 10) (N := some 48) (v := ?_) (a' := ?_) #[true, true, true, true, true, true, true, true, true, true, true, false, false, false, false, false, false, false, false, false, false, false] rfl rfl (take_ofW HT_.out HW_.out (by kernel_rfl)) (fun _ _ _ h => h) (Or.inl ⟨by rfl, ?_⟩) hHeld ?_ ?_
            rotate_left
            ·rintro w' ⟨s0, s1, s2, s3, s4, s5, s6, s7, s8, s9, s10, s11, s12, s13⟩; go_simp; with_reducible rfl
            rotate_left
            ·simp only [Act.put, xA, xZ, xS, i64_w, i32_w]; rfl
            refine pure_ (i := 11) (N := some 49) (v := ?_) (a' := ?_) #[true, true, true, true, true, true, true, true, true, true, true, true, false, false, false, false, false, false, false, false, false, false] rfl rfl (any_of HT_.out (by kernel_rfl)) (fun _ _ _ h => h) (Or.inl ⟨by rfl, ?_⟩) ?_ ?_
            rotate_left
            ·intro w'; go_simp; with_reducible rfl
            rotate_left
            ·simp only [Act.put, xA, xZ, xS, i64_w, i32_w]; rfl
            refine pure_ (i := 12) (N := some 50) (v := ?_) (a' := ?_) #[true, true, true, true, true, true, true, true, true, true, true, true, true, false, false, false, false, false, false, false, false, false] rfl rfl (any_of HT_.out (by kernel_rfl)) (fun _ _ _ h => h) (Or.inl ⟨by rfl, ?_⟩) ?_ ?_
            rotate_left
            ·intro w'; go_simp; with_reducible rfl
            rotate_left
            ·simp only [Act.put, xA, xZ, xS, i64_w, i32_w]; rfl
            refine pure_ (i := 13) (N := some 51) (v := ?_) (a' := ?_) #[true, true, true, true, true, true, true, true, true, true, true, true, true, true, false, false, false, false, false, false, false, false] rfl rfl (any_of HT_.out (by kernel_rfl)) (fun _ _ _ h => h) (Or.inl ⟨by rfl, ?_⟩) ?_ ?_
            rotate_left
            ·intro w'; go_simp; with_reducible rfl
            rotate_left
            ·simp only [Act.put, xA, xZ, xS, i64_w, i32_w]; rfl
            refine pure_ (i := 14) (N := some 52) (v := ?_) (a' := ?_) #[true, true, true, true, true, true, true, true, true, true, true, true, true, true, true, false, false, false, false, false, false, false] rfl rfl (any_of HT_.out (by kernel_rfl)) (fun _ _ _ h => h) (Or.inl ⟨by rfl, ?_⟩) ?_ ?_
            rotate_left
            ·intro w'; go_simp; with_reducible rfl
            rotate_left
            ·simp only [Act.put, xA, xZ, xS, i64_w, i32_w]; rfl
            refine pure_ (i := 17) (N := some 55) (v := ?_) (a' := ?_) #[true, true, true, true, true, true, true, true, true, true, true, true, true, true, true, false, false, true, false, false, false, false] rfl rfl (any_of HT_.out (by kernel_rfl)) (fun _ _ _ h => h) (Or.inl ⟨by rfl, ?_⟩) ?_ ?_
            rotate_left
            ·intro w'; go_simp; with_reducible rfl
            rotate_left
            ·simp only [Act.put, xA, xZ, xS, i64_w, i32_w]; rfl
            refine take_ (i := 15) (N := some 53) (v := ?_) (a' := ?_) #[true, true, true, true, true, true, true, true, true, true, true, true, true, true, true, true, false, true, false, false, false, false] rfl rfl (take_ofW HT_.out HW_.out (by kernel_rfl)) (fun _ _ _ h => h) (Or.inl ⟨by rfl, ?_⟩) hHeld ?_ ?_
            rotate_left
            ·rintro w' ⟨s0, s1, s2, s3, s4, s5, s6, s7, s8, s9, s10, s11, s12, s13⟩; go_simp; with_reducible rfl
            rotate_left
            ·simp only [Act.put, xA, xZ, xS, i64_w, i32_w]; rfl
            refine take_ (i := 18) (N := some 56) (v := ?_) (a' := ?_) #[true, true, true, true, true, true, true, true, true, true, true, true, true, true, true, true, false, true, true, false, false, false] rfl rfl (take_ofW HT_.out HW_.out (by kernel_rfl)) (fun _ _ _ h => h) (Or.inl ⟨by rfl, ?_⟩) hHeld ?_ ?_
            rotate_left
            ·rintro w' ⟨s0, s1, s2, s3, s4, s5, s6, s7, s8, s9, s10, s11, s12, s13⟩; go_simp; with_reducible rfl
            rotate_left
            ·simp only [Act.put, xA, xZ, xS, i64_w, i32_w]; rfl
            refine one_ (i := 16) (N := some 54) #[true, true, true, true, true, true, true, true, true, true, true, true, true, true, true, true, true, true, true, false, false, false] rfl rfl (one_of HT_.out (by kernel_rfl)) (by decide) (fun K hK => ?_)
            refine goes_ Try.func26 (by kernel_rfl) rfl #[.string x816012_1] (by rfl) rfl rfl (by (try simp only [List.map_toArray, List.map_cons, List.map_nil]); first | done | rfl | (simp only [List.length_drop, List.length_take]; rfl)) ?_
            with_reducible refine (hogsheadref02_Sum.calls kj28 x816012_1 t831 _ A38.out).mono ?_
            rintro e w' ⟨rfl, ⟨nd, rfl⟩⟩
            refine ⟨_, rfl, ?_⟩
            refine hK.out _ _ ⟨(qC B815.out 0).trans rfl, (qC B815.out 1).trans rfl, (qC B815.out 2).trans rfl, (qC B815.out 3).trans rfl, (qC B815.out 4).trans rfl, (qC B815.out 5).trans rfl, (qC B815.out 6).trans rfl, (qC B815.out 7).trans rfl, (qC B815.out 8).trans rfl, (qC B815.out 9).trans rfl, (qC B815.out 10).trans rfl, (qC B815.out 11).trans rfl, (qC B815.out 12).trans rfl, (qC B815.out 13).trans rfl⟩ (fun hHeld => ?_)
            clear hK K
            refine norm_ (a' := ?_) ?_ ?_
            rotate_left
            ·show Act.put _ (some 54) _ = _
             simp only [Act.put, xA, xZ, xS, i64_w, i32_w]
             rfl
            refine pure_ (i := 19) (N := some 57) (v := ?_) (a' := ?_) #[true, true, true, true, true, true, true, true, true, true, true, true, true, true, true, true, true, true, true, true, false, false] rfl rfl (any_of HT_.out (by kernel_rfl)) (fun _ _ _ h => h) (Or.inl ⟨by rfl, ?_⟩) ?_ ?_
            rotate_left
            ·intro w'; go_simp; with_reducible rfl
            rotate_left
            ·simp only [Act.put, xA, xZ, xS, i64_w, i32_w]; rfl
            refine pure_ (i := 20) (N := some 58) (v := ?_) (a' := ?_) #[true, true, true, true, true, true, true, true, true, true, true, true, true, true, true, true, true, true, true, true, true, false] rfl rfl (any_of HT_.out (by kernel_rfl)) (fun _ _ _ h => h) (Or.inl ⟨by rfl, ?_⟩) ?_ ?_
            rotate_left
            ·intro w'; go_simp; with_reducible rfl
            rotate_left
            ·simp only [Act.put, xA, xZ, xS, i64_w, i32_w]; rfl
            refine pure_ (i := 21) (N := some 4) (v := ?_) (a' := ?_) #[true, true, true, true, true, true, true, true, true, true, true, true, true, true, true, true, true, true, true, true, true, true] rfl rfl (any_of HT_.out (by kernel_rfl)) (fun _ _ _ h => h) (Or.inl ⟨by rfl, ?_⟩) ?_ ?_
            rotate_left
            ·intro w'; go_simp; with_reducible rfl
            rotate_left
            ·simp only [Act.put, xA, xZ, xS, i64_w, i32_w]; rfl
            refine done_ (done_of HT_.out (by kernel_rfl)) ?_
            try go_wp2
            go_meet
            case rel => exact ⟨_, ((t831 == x816009_1)), (by first | rfl | (simp; done) | (simp [*]; done)), H', ⟨by have := HK1.out; have := HJ28.out; first | omega | exact Nat.le_refl _⟩, ⟨by (with_reducible repeat first | refine qN ?_ _ | refine qD ?_ | refine qA ?_ _); exact B815.out⟩, ⟨by repeat (first | (with_reducible first | exact HB.out | apply eA | apply eN | apply eD | refine eS ?_ GE815.out) | exact HB.out)⟩⟩
           ·rw [if_neg c37] at H
            have c37b0 : ((x816012_1.size : Int) == x816008_1) = false := beq_eq_false_iff_ne.mpr c37
            have c37b1 : ((x816012_1.size : Int) != x816008_1) = true := bne_iff_ne.mpr c37
            (first | rw [c37b0] | (simp only [i64_w, i32_w]; rw [c37b0]) | skip)
            have H' := qM H
            clear H
            try go_wp2
            have n0_ := qM (blk_drew B815.out)
            have n1_ := qM (below_drew1 HB.out)
            clear B815
            clear HB
            have B815 := n0_
            have HB := n1_
            clear n0_ n1_
            refine start_ (n := 22) (S := fun w' => w'.cell? ⟨g815, 0, none⟩ = some (.int .i64 x816000_1) ∧ w'.cell? ⟨g815, 1, none⟩ = some (.int .i64 x816001_1) ∧ w'.cell? ⟨g815, 2, none⟩ = some (.string x816002_1) ∧ w'.cell? ⟨g815, 3, none⟩ = some (.string x816003_1) ∧ w'.cell? ⟨g815, 4, none⟩ = some (.int .i64 x816004_1) ∧ w'.cell? ⟨g815, 5, none⟩ = some (.int .i64 x816005_1) ∧ w'.cell? ⟨g815, 6, none⟩ = some (.int .i64 x816006_1) ∧ w'.cell? ⟨g815, 7, none⟩ = some (.int .i64 x816007_1) ∧ w'.cell? ⟨g815, 8, none⟩ = some (.int .i64 x816008_1) ∧ w'.cell? ⟨g815, 9, none⟩ = some (.int .u32 x816009_1) ∧ w'.cell? ⟨g815, 10, none⟩ = some (.int .i64 x816010_1) ∧ w'.cell? ⟨g815, 11, none⟩ = some (.int .i64 x816011_1) ∧ w'.cell? ⟨g815, 12, none⟩ = some (.string x816012_1) ∧ w'.cell? ⟨g815, 13, none⟩ = some (.bool true)) (ds := []) #[false, false, false, false, false, false, false, false, false, false, false, false, false, false, false, false, false, false, false, false, false, false] (by kernel_rfl) rfl rfl ⟨(qC B815.out 0).trans rfl, (qC B815.out 1).trans rfl, (qC B815.out 2).trans rfl, (qC B815.out 3).trans rfl, (qC B815.out 4).trans rfl, (qC B815.out 5).trans rfl, (qC B815.out 6).trans rfl, (qC B815.out 7).trans rfl, (qC B815.out 8).trans rfl, (qC B815.out 9).trans rfl, (qC B815.out 10).trans rfl, (qC B815.out 11).trans rfl, (qC B815.out 12).trans rfl, (qC B815.out 13).trans rfl⟩ (fun hHeld => ?_); refine with_tabW hogsheadlaw17_DeedReads.tab10 hogsheadlaw17_DeedReads.bits10 (fun HT_ HW_ => ?_)
            generalize wc.drew = w40 at B815 HB hHeld ⊢
            refine pure_ (i := 0) (N := some 38) (v := ?_) (a' := ?_) #[true, false, false, false, false, false, false, false, false, false, false, false, false, false, false, false, false, false, false, false, false, false] rfl rfl (any_of HT_.out (by kernel_rfl)) (fun _ _ _ h => h) (Or.inl ⟨by rfl, ?_⟩) ?_ ?_
            rotate_left
            ·intro w'; go_simp; with_reducible rfl
            rotate_left
            ·simp only [Act.put, xA, xZ, xS, i64_w, i32_w]; rfl
            refine pure_ (i := 1) (N := some 39) (v := ?_) (a' := ?_) #[true, true, false, false, false, false, false, false, false, false, false, false, false, false, false, false, false, false, false, false, false, false] rfl rfl (any_of HT_.out (by kernel_rfl)) (fun _ _ _ h => h) (Or.inl ⟨by rfl, ?_⟩) ?_ ?_
            rotate_left
            ·intro w'; go_simp; with_reducible rfl
            rotate_left
            ·simp only [Act.put, xA, xZ, xS, i64_w, i32_w]; rfl
            refine pure_ (i := 2) (N := some 40) (v := ?_) (a' := ?_) #[true, true, true, false, false, false, false, false, false, false, false, false, false, false, false, false, false, false, false, false, false, false] rfl rfl (any_of HT_.out (by kernel_rfl)) (fun _ _ _ h => h) (Or.inl ⟨by rfl, ?_⟩) ?_ ?_
            rotate_left
            ·intro w'; go_simp; with_reducible rfl
            rotate_left
            ·simp only [Act.put, xA, xZ, xS, i64_w, i32_w]; rfl
            refine take_ (i := 3) (N := some 41) (v := ?_) (a' := ?_) #[true, true, true, true, false, false, false, false, false, false, false, false, false, false, false, false, false, false, false, false, false, false] rfl rfl (take_ofW HT_.out HW_.out (by kernel_rfl)) (fun _ _ _ h => h) (Or.inl ⟨by rfl, ?_⟩) hHeld ?_ ?_
            rotate_left
            ·rintro w' ⟨s0, s1, s2, s3, s4, s5, s6, s7, s8, s9, s10, s11, s12, s13⟩; go_simp; with_reducible rfl
            rotate_left
            ·simp only [Act.put, xA, xZ, xS, i64_w, i32_w]; rfl
            refine pure_ (i := 4) (N := some 42) (v := ?_) (a' := ?_) #[true, true, true, true, true, false, false, false, false, false, false, false, false, false, false, false, false, false, false, false, false, false] rfl rfl (any_of HT_.out (by kernel_rfl)) (fun _ _ _ h => h) (Or.inl ⟨by rfl, ?_⟩) ?_ ?_
            rotate_left
            ·intro w'; go_simp; with_reducible rfl
            rotate_left
            ·simp only [Act.put, xA, xZ, xS, i64_w, i32_w]; rfl
            refine pure_ (i := 5) (N := some 43) (v := ?_) (a' := ?_) #[true, true, true, true, true, true, false, false, false, false, false, false, false, false, false, false, false, false, false, false, false, false] rfl rfl (any_of HT_.out (by kernel_rfl)) (fun _ _ _ h => h) (Or.inl ⟨by rfl, ?_⟩) ?_ ?_
            rotate_left
            ·intro w'; go_simp; with_reducible rfl
            rotate_left
            ·simp only [Act.put, xA, xZ, xS, i64_w, i32_w]; rfl
            refine pure_ (i := 6) (N := some 44) (v := ?_) (a' := ?_) #[true, true, true, true, true, true, true, false, false, false, false, false, false, false, false, false, false, false, false, false, false, false] rfl rfl (any_of HT_.out (by kernel_rfl)) (fun _ _ _ h => h) (Or.inl ⟨by rfl, ?_⟩) ?_ ?_
            rotate_left
            ·intro w'; go_simp; with_reducible rfl
            rotate_left
            ·simp only [Act.put, xA, xZ, xS, i64_w, i32_w]; rfl
            refine pure_ (i := 9) (N := some 47) (v := ?_) (a' := ?_) #[true, true, true, true, true, true, true, false, false, true, false, false, false, false, false, false, false, false, false, false, false, false] rfl rfl (any_of HT_.out (by kernel_rfl)) (fun _ _ _ h => h) (Or.inl ⟨by rfl, ?_⟩) ?_ ?_
            rotate_left
            ·intro w'; go_simp; with_reducible rfl
            rotate_left
            ·simp only [Act.put, xA, xZ, xS, i64_w, i32_w]; rfl
            refine take_ (i := 7) (N := some 45) (v := ?_) (a' := ?_) #[true, true, true, true, true, true, true, true, false, true, false, false, false, false, false, false, false, false, false, false, false, false] rfl rfl (take_ofW HT_.out HW_.out (by kernel_rfl)) (fun _ _ _ h => h) (Or.inl ⟨by rfl, ?_⟩) hHeld ?_ ?_
            rotate_left
            ·rintro w' ⟨s0, s1, s2, s3, s4, s5, s6, s7, s8, s9, s10, s11, s12, s13⟩; go_simp; with_reducible rfl
            rotate_left
            ·simp only [Act.put, xA, xZ, xS, i64_w, i32_w]; rfl
            refine pure_ (i := 8) (N := some 46) (v := ?_) (a' := ?_) #[true, true, true, true, true, true, true, true, true, true, false, false, false, false, false, false, false, false, false, false, false, false] rfl rfl (any_of HT_.out (by kernel_rfl)) (fun _ _ _ h => h) (Or.inl ⟨by rfl, ?_⟩) ?_ ?_
            rotate_left
            ·intro w'; go_simp; with_reducible rfl
            rotate_left
            ·simp only [Act.put, xA, xZ, xS, i64_w, i32_w]; rfl
            refine take_ (i := 10) (N := some 48) (v := ?_) (a' := ?_) #[true, true, true, true, true, true, true, true, true, true, true, false, false, false, false, false, false, false, false, false, false, false] rfl rfl (take_ofW HT_.out HW_.out (by kernel_rfl)) (fun _ _ _ h => h) (Or.inl ⟨by rfl, ?_⟩) hHeld ?_ ?_
            rotate_left
            ·rintro w' ⟨s0, s1, s2, s3, s4, s5, s6, s7, s8, s9, s10, s11, s12, s13⟩; go_simp; with_reducible rfl
            rotate_left
            ·simp only [Act.put, xA, xZ, xS, i64_w, i32_w]; rfl
            refine pure_ (i := 11) (N := some 49) (v := ?_) (a' := ?_) #[true, true, true, true, true, true, true, true, true, true, true, true, false, false, false, false, false, false, false, false, false, false] rfl rfl (any_of HT_.out (by kernel_rfl)) (fun _ _ _ h => h) (Or.inl ⟨by rfl, ?_⟩) ?_ ?_
            rotate_left
            ·intro w'; go_simp; with_reducible rfl
            rotate_left
            ·simp only [Act.put, xA, xZ, xS, i64_w, i32_w]; rfl
            refine pure_ (i := 12) (N := some 50) (v := ?_) (a' := ?_) #[true, true, true, true, true, true, true, true, true, true, true, true, true, false, false, false, false, false, false, false, false, false] rfl rfl (any_of HT_.out (by kernel_rfl)) (fun _ _ _ h => h) (Or.inl ⟨by rfl, ?_⟩) ?_ ?_
            rotate_left
            ·intro w'; go_simp; with_reducible rfl
            rotate_left
            ·simp only [Act.put, xA, xZ, xS, i64_w, i32_w]; rfl
            refine pure_ (i := 13) (N := some 51) (v := ?_) (a' := ?_) #[true, true, true, true, true, true, true, true, true, true, true, true, true, true, false, false, false, false, false, false, false, false] rfl rfl (any_of HT_.out (by kernel_rfl)) (fun _ _ _ h => h) (Or.inl ⟨by rfl, ?_⟩) ?_ ?_
            rotate_left
            ·intro w'; go_simp; with_reducible rfl
            rotate_left
            ·simp only [Act.put, xA, xZ, xS, i64_w, i32_w]; rfl
            refine pure_ (i := 14) (N := some 52) (v := undef) (a' := ?_) #[true, true, true, true, true, true, true, true, true, true, true, true, true, true, true, false, false, false, false, false, false, false] rfl rfl (any_of HT_.out (by kernel_rfl)) (fun _ _ _ h => h) (Or.inr ⟨by rfl, rfl⟩) ?_ ?_
            rotate_left
            ·simp only [Act.put, xA, xZ, xS, i64_w, i32_w]; rfl
            refine pure_ (i := 15) (N := some 53) (v := undef) (a' := ?_) #[true, true, true, true, true, true, true, true, true, true, true, true, true, true, true, true, false, false, false, false, false, false] rfl rfl (any_of HT_.out (by kernel_rfl)) (fun _ _ _ h => h) (Or.inr ⟨by rfl, rfl⟩) ?_ ?_
            rotate_left
            ·simp only [Act.put, xA, xZ, xS, i64_w, i32_w]; rfl
            refine pure_ (i := 16) (N := some 54) (v := undef) (a' := ?_) #[true, true, true, true, true, true, true, true, true, true, true, true, true, true, true, true, true, false, false, false, false, false] rfl rfl (any_of HT_.out (by kernel_rfl)) (fun _ _ _ h => h) (Or.inr ⟨by rfl, rfl⟩) ?_ ?_
            rotate_left
            ·simp only [Act.put, xA, xZ, xS, i64_w, i32_w]; rfl
            refine pure_ (i := 17) (N := some 55) (v := undef) (a' := ?_) #[true, true, true, true, true, true, true, true, true, true, true, true, true, true, true, true, true, true, false, false, false, false] rfl rfl (any_of HT_.out (by kernel_rfl)) (fun _ _ _ h => h) (Or.inr ⟨by rfl, rfl⟩) ?_ ?_
            rotate_left
            ·simp only [Act.put, xA, xZ, xS, i64_w, i32_w]; rfl
            refine pure_ (i := 18) (N := some 56) (v := undef) (a' := ?_) #[true, true, true, true, true, true, true, true, true, true, true, true, true, true, true, true, true, true, true, false, false, false] rfl rfl (any_of HT_.out (by kernel_rfl)) (fun _ _ _ h => h) (Or.inr ⟨by rfl, rfl⟩) ?_ ?_
            rotate_left
            ·simp only [Act.put, xA, xZ, xS, i64_w, i32_w]; rfl
            refine pure_ (i := 19) (N := some 57) (v := undef) (a' := ?_) #[true, true, true, true, true, true, true, true, true, true, true, true, true, true, true, true, true, true, true, true, false, false] rfl rfl (any_of HT_.out (by kernel_rfl)) (fun _ _ _ h => h) (Or.inr ⟨by rfl, rfl⟩) ?_ ?_
            rotate_left
            ·simp only [Act.put, xA, xZ, xS, i64_w, i32_w]; rfl
            refine pure_ (i := 20) (N := some 58) (v := ?_) (a' := ?_) #[true, true, true, true, true, true, true, true, true, true, true, true, true, true, true, true, true, true, true, true, true, false] rfl rfl (any_of HT_.out (by kernel_rfl)) (fun _ _ _ h => h) (Or.inl ⟨by rfl, ?_⟩) ?_ ?_
            rotate_left
            ·intro w'; go_simp; with_reducible rfl
            rotate_left
            ·simp only [Act.put, xA, xZ, xS, i64_w, i32_w]; rfl
            refine pure_ (i := 21) (N := some 4) (v := ?_) (a' := ?_) #[true, true, true, true, true, true, true, true, true, true, true, true, true, true, true, true, true, true, true, true, true, true] rfl rfl (any_of HT_.out (by kernel_rfl)) (fun _ _ _ h => h) (Or.inl ⟨by rfl, ?_⟩) ?_ ?_
            rotate_left
            ·intro w'; go_simp; with_reducible rfl
            rotate_left
            ·simp only [Act.put, xA, xZ, xS, i64_w, i32_w]; rfl
            refine done_ (done_of HT_.out (by kernel_rfl)) ?_
            try go_wp2
            go_meet
            case rel => exact ⟨_, (false), (by first | rfl | (simp; done) | (simp [*]; done)), H', ⟨by have := HK1.out; have := HJ28.out; first | omega | exact Nat.le_refl _⟩, ⟨by (with_reducible repeat first | refine qN ?_ _ | refine qD ?_ | refine qA ?_ _); exact B815.out⟩, ⟨by repeat (first | (with_reducible first | exact HB.out | apply eA | apply eN | apply eD | refine eS ?_ GE815.out) | exact HB.out)⟩⟩
          ·replace c36 := Bool.eq_false_iff.mpr c36
           subst c36
           have H1 : (hogsheadlaw17_DeedReads.j2 kj28 false) = some r := by rw [if_neg (show ¬ (false = true) by decide)] at H; exact H
           clear H
           have H := H1
           clear H1
           have H' := qM H
           clear H
           try go_wp2
           have n0_ := qM (blk_drew B815.out)
           have n1_ := qM (below_drew1 HB.out)
           clear B815
           clear HB
           have B815 := n0_
           have HB := n1_
           clear n0_ n1_
           refine start_ (n := 22) (S := fun w' => w'.cell? ⟨g815, 0, none⟩ = some (.int .i64 x816000_1) ∧ w'.cell? ⟨g815, 1, none⟩ = some (.int .i64 x816001_1) ∧ w'.cell? ⟨g815, 2, none⟩ = some (.string x816002_1) ∧ w'.cell? ⟨g815, 3, none⟩ = some (.string x816003_1) ∧ w'.cell? ⟨g815, 4, none⟩ = some (.int .i64 x816004_1) ∧ w'.cell? ⟨g815, 5, none⟩ = some (.int .i64 x816005_1) ∧ w'.cell? ⟨g815, 6, none⟩ = some (.int .i64 x816006_1) ∧ w'.cell? ⟨g815, 7, none⟩ = some (.int .i64 x816007_1) ∧ w'.cell? ⟨g815, 8, none⟩ = some (.int .i64 x816008_1) ∧ w'.cell? ⟨g815, 9, none⟩ = some (.int .u32 x816009_1) ∧ w'.cell? ⟨g815, 10, none⟩ = some (.int .i64 x816010_1) ∧ w'.cell? ⟨g815, 11, none⟩ = some (.int .i64 x816011_1) ∧ w'.cell? ⟨g815, 12, none⟩ = some (.string x816012_1) ∧ w'.cell? ⟨g815, 13, none⟩ = some (.bool false)) (ds := []) #[false, false, false, false, false, false, false, false, false, false, false, false, false, false, false, false, false, false, false, false, false, false] (by kernel_rfl) rfl rfl ⟨(qC B815.out 0).trans rfl, (qC B815.out 1).trans rfl, (qC B815.out 2).trans rfl, (qC B815.out 3).trans rfl, (qC B815.out 4).trans rfl, (qC B815.out 5).trans rfl, (qC B815.out 6).trans rfl, (qC B815.out 7).trans rfl, (qC B815.out 8).trans rfl, (qC B815.out 9).trans rfl, (qC B815.out 10).trans rfl, (qC B815.out 11).trans rfl, (qC B815.out 12).trans rfl, (qC B815.out 13).trans rfl⟩ (fun hHeld => ?_); refine with_tabW hogsheadlaw17_DeedReads.tab10 hogsheadlaw17_DeedReads.bits10 (fun HT_ HW_ => ?_)
           generalize wc.drew = w41 at B815 HB hHeld ⊢
           refine pure_ (i := 0) (N := some 38) (v := ?_) (a' := ?_) #[true, false, false, false, false, false, false, false, false, false, false, false, false, false, false, false, false, false, false, false, false, false] rfl rfl (any_of HT_.out (by kernel_rfl)) (fun _ _ _ h => h) (Or.inl ⟨by rfl, ?_⟩) ?_ ?_
           rotate_left
           ·intro w'; go_simp; with_reducible rfl
           rotate_left
           ·simp only [Act.put, xA, xZ, xS, i64_w, i32_w]; rfl
           refine pure_ (i := 1) (N := some 39) (v := ?_) (a' := ?_) #[true, true, false, false, false, false, false, false, false, false, false, false, false, false, false, false, false, false, false, false, false, false] rfl rfl (any_of HT_.out (by kernel_rfl)) (fun _ _ _ h => h) (Or.inl ⟨by rfl, ?_⟩) ?_ ?_
           rotate_left
           ·intro w'; go_simp; with_reducible rfl
           rotate_left
           ·simp only [Act.put, xA, xZ, xS, i64_w, i32_w]; rfl
           refine pure_ (i := 2) (N := some 40) (v := ?_) (a' := ?_) #[true, true, true, false, false, false, false, false, false, false, false, false, false, false, false, false, false, false, false, false, false, false] rfl rfl (any_of HT_.out (by kernel_rfl)) (fun _ _ _ h => h) (Or.inl ⟨by rfl, ?_⟩) ?_ ?_
           rotate_left
           ·intro w'; go_simp; with_reducible rfl
           rotate_left
           ·simp only [Act.put, xA, xZ, xS, i64_w, i32_w]; rfl
           refine take_ (i := 3) (N := some 41) (v := ?_) (a' := ?_) #[true, true, true, true, false, false, false, false, false, false, false, false, false, false, false, false, false, false, false, false, false, false] rfl rfl (take_ofW HT_.out HW_.out (by kernel_rfl)) (fun _ _ _ h => h) (Or.inl ⟨by rfl, ?_⟩) hHeld ?_ ?_
           rotate_left
           ·rintro w' ⟨s0, s1, s2, s3, s4, s5, s6, s7, s8, s9, s10, s11, s12, s13⟩; go_simp; with_reducible rfl
           rotate_left
           ·simp only [Act.put, xA, xZ, xS, i64_w, i32_w]; rfl
           refine pure_ (i := 4) (N := some 42) (v := ?_) (a' := ?_) #[true, true, true, true, true, false, false, false, false, false, false, false, false, false, false, false, false, false, false, false, false, false] rfl rfl (any_of HT_.out (by kernel_rfl)) (fun _ _ _ h => h) (Or.inl ⟨by rfl, ?_⟩) ?_ ?_
           rotate_left
           ·intro w'; go_simp; with_reducible rfl
           rotate_left
           ·simp only [Act.put, xA, xZ, xS, i64_w, i32_w]; rfl
           refine pure_ (i := 5) (N := some 43) (v := ?_) (a' := ?_) #[true, true, true, true, true, true, false, false, false, false, false, false, false, false, false, false, false, false, false, false, false, false] rfl rfl (any_of HT_.out (by kernel_rfl)) (fun _ _ _ h => h) (Or.inl ⟨by rfl, ?_⟩) ?_ ?_
           rotate_left
           ·intro w'; go_simp; with_reducible rfl
           rotate_left
           ·simp only [Act.put, xA, xZ, xS, i64_w, i32_w]; rfl
           refine pure_ (i := 6) (N := some 44) (v := undef) (a' := ?_) #[true, true, true, true, true, true, true, false, false, false, false, false, false, false, false, false, false, false, false, false, false, false] rfl rfl (any_of HT_.out (by kernel_rfl)) (fun _ _ _ h => h) (Or.inr ⟨by rfl, rfl⟩) ?_ ?_
           rotate_left
           ·simp only [Act.put, xA, xZ, xS, i64_w, i32_w]; rfl
           refine pure_ (i := 7) (N := some 45) (v := undef) (a' := ?_) #[true, true, true, true, true, true, true, true, false, false, false, false, false, false, false, false, false, false, false, false, false, false] rfl rfl (any_of HT_.out (by kernel_rfl)) (fun _ _ _ h => h) (Or.inr ⟨by rfl, rfl⟩) ?_ ?_
           rotate_left
           ·simp only [Act.put, xA, xZ, xS, i64_w, i32_w]; rfl
           refine pure_ (i := 8) (N := some 46) (v := undef) (a' := ?_) #[true, true, true, true, true, true, true, true, true, false, false, false, false, false, false, false, false, false, false, false, false, false] rfl rfl (any_of HT_.out (by kernel_rfl)) (fun _ _ _ h => h) (Or.inr ⟨by rfl, rfl⟩) ?_ ?_
           rotate_left
           ·simp only [Act.put, xA, xZ, xS, i64_w, i32_w]; rfl
           refine pure_ (i := 9) (N := some 47) (v := undef) (a' := ?_) #[true, true, true, true, true, true, true, true, true, true, false, false, false, false, false, false, false, false, false, false, false, false] rfl rfl (any_of HT_.out (by kernel_rfl)) (fun _ _ _ h => h) (Or.inr ⟨by rfl, rfl⟩) ?_ ?_
           rotate_left
           ·simp only [Act.put, xA, xZ, xS, i64_w, i32_w]; rfl
           refine pure_ (i := 10) (N := some 48) (v := undef) (a' := ?_) #[true, true, true, true, true, true, true, true, true, true, true, false, false, false, false, false, false, false, false, false, false, false] rfl rfl (any_of HT_.out (by kernel_rfl)) (fun _ _ _ h => h) (Or.inr ⟨by rfl, rfl⟩) ?_ ?_
           rotate_left
           ·simp only [Act.put, xA, xZ, xS, i64_w, i32_w]; rfl
           refine pure_ (i := 11) (N := some 49) (v := undef) (a' := ?_) #[true, true, true, true, true, true, true, true, true, true, true, true, false, false, false, false, false, false, false, false, false, false] rfl rfl (any_of HT_.out (by kernel_rfl)) (fun _ _ _ h => h) (Or.inr ⟨by rfl, rfl⟩) ?_ ?_
           rotate_left
           ·simp only [Act.put, xA, xZ, xS, i64_w, i32_w]; rfl
           refine pure_ (i := 12) (N := some 50) (v := ?_) (a' := ?_) #[true, true, true, true, true, true, true, true, true, true, true, true, true, false, false, false, false, false, false, false, false, false] rfl rfl (any_of HT_.out (by kernel_rfl)) (fun _ _ _ h => h) (Or.inl ⟨by rfl, ?_⟩) ?_ ?_
           rotate_left
           ·intro w'; go_simp; with_reducible rfl
           rotate_left
           ·simp only [Act.put, xA, xZ, xS, i64_w, i32_w]; rfl
           refine pure_ (i := 13) (N := some 51) (v := ?_) (a' := ?_) #[true, true, true, true, true, true, true, true, true, true, true, true, true, true, false, false, false, false, false, false, false, false] rfl rfl (any_of HT_.out (by kernel_rfl)) (fun _ _ _ h => h) (Or.inl ⟨by rfl, ?_⟩) ?_ ?_
           rotate_left
           ·intro w'; go_simp; with_reducible rfl
           rotate_left
           ·simp only [Act.put, xA, xZ, xS, i64_w, i32_w]; rfl
           refine pure_ (i := 14) (N := some 52) (v := undef) (a' := ?_) #[true, true, true, true, true, true, true, true, true, true, true, true, true, true, true, false, false, false, false, false, false, false] rfl rfl (any_of HT_.out (by kernel_rfl)) (fun _ _ _ h => h) (Or.inr ⟨by rfl, rfl⟩) ?_ ?_
           rotate_left
           ·simp only [Act.put, xA, xZ, xS, i64_w, i32_w]; rfl
           refine pure_ (i := 15) (N := some 53) (v := undef) (a' := ?_) #[true, true, true, true, true, true, true, true, true, true, true, true, true, true, true, true, false, false, false, false, false, false] rfl rfl (any_of HT_.out (by kernel_rfl)) (fun _ _ _ h => h) (Or.inr ⟨by rfl, rfl⟩) ?_ ?_
           rotate_left
           ·simp only [Act.put, xA, xZ, xS, i64_w, i32_w]; rfl
           refine pure_ (i := 16) (N := some 54) (v := undef) (a' := ?_) #[true, true, true, true, true, true, true, true, true, true, true, true, true, true, true, true, true, false, false, false, false, false] rfl rfl (any_of HT_.out (by kernel_rfl)) (fun _ _ _ h => h) (Or.inr ⟨by rfl, rfl⟩) ?_ ?_
           rotate_left
           ·simp only [Act.put, xA, xZ, xS, i64_w, i32_w]; rfl
           refine pure_ (i := 17) (N := some 55) (v := undef) (a' := ?_) #[true, true, true, true, true, true, true, true, true, true, true, true, true, true, true, true, true, true, false, false, false, false] rfl rfl (any_of HT_.out (by kernel_rfl)) (fun _ _ _ h => h) (Or.inr ⟨by rfl, rfl⟩) ?_ ?_
           rotate_left
           ·simp only [Act.put, xA, xZ, xS, i64_w, i32_w]; rfl
           refine pure_ (i := 18) (N := some 56) (v := undef) (a' := ?_) #[true, true, true, true, true, true, true, true, true, true, true, true, true, true, true, true, true, true, true, false, false, false] rfl rfl (any_of HT_.out (by kernel_rfl)) (fun _ _ _ h => h) (Or.inr ⟨by rfl, rfl⟩) ?_ ?_
           rotate_left
           ·simp only [Act.put, xA, xZ, xS, i64_w, i32_w]; rfl
           refine pure_ (i := 19) (N := some 57) (v := undef) (a' := ?_) #[true, true, true, true, true, true, true, true, true, true, true, true, true, true, true, true, true, true, true, true, false, false] rfl rfl (any_of HT_.out (by kernel_rfl)) (fun _ _ _ h => h) (Or.inr ⟨by rfl, rfl⟩) ?_ ?_
           rotate_left
           ·simp only [Act.put, xA, xZ, xS, i64_w, i32_w]; rfl
           refine pure_ (i := 20) (N := some 58) (v := ?_) (a' := ?_) #[true, true, true, true, true, true, true, true, true, true, true, true, true, true, true, true, true, true, true, true, true, false] rfl rfl (any_of HT_.out (by kernel_rfl)) (fun _ _ _ h => h) (Or.inl ⟨by rfl, ?_⟩) ?_ ?_
           rotate_left
           ·intro w'; go_simp; with_reducible rfl
           rotate_left
           ·simp only [Act.put, xA, xZ, xS, i64_w, i32_w]; rfl
           refine pure_ (i := 21) (N := some 4) (v := ?_) (a' := ?_) #[true, true, true, true, true, true, true, true, true, true, true, true, true, true, true, true, true, true, true, true, true, true] rfl rfl (any_of HT_.out (by kernel_rfl)) (fun _ _ _ h => h) (Or.inl ⟨by rfl, ?_⟩) ?_ ?_
           rotate_left
           ·intro w'; go_simp; with_reducible rfl
           rotate_left
           ·simp only [Act.put, xA, xZ, xS, i64_w, i32_w]; rfl
           refine done_ (done_of HT_.out (by kernel_rfl)) ?_
           try go_wp2
           go_meet
           case rel => exact ⟨_, (false), (by first | rfl | (simp; done) | (simp [*]; done)), H', ⟨by have := HK1.out; have := HJ28.out; first | omega | exact Nat.le_refl _⟩, ⟨by (with_reducible repeat first | refine qN ?_ _ | refine qD ?_ | refine qA ?_ _); exact B815.out⟩, ⟨by repeat (first | (with_reducible first | exact HB.out | apply eA | apply eN | apply eD | refine eS ?_ GE815.out) | exact HB.out)⟩⟩
         ·replace c35 := Bool.eq_false_iff.mpr c35
          subst c35
          have H1 : (hogsheadlaw17_DeedReads.j2 kj28 false) = some r := by rw [if_neg (show ¬ (false = true) by decide)] at H; exact H
          clear H
          have H := H1
          clear H1
          have H' := qM H
          clear H
          try go_wp2
          have n0_ := qM (blk_drew B815.out)
          have n1_ := qM (below_drew1 HB.out)
          clear B815
          clear HB
          have B815 := n0_
          have HB := n1_
          clear n0_ n1_
          refine start_ (n := 22) (S := fun w' => True) (ds := []) #[false, false, false, false, false, false, false, false, false, false, false, false, false, false, false, false, false, false, false, false, false, false] (by kernel_rfl) rfl rfl trivial (fun hHeld => ?_); refine with_tabW hogsheadlaw17_DeedReads.tab10 hogsheadlaw17_DeedReads.bits10 (fun HT_ HW_ => ?_)
          generalize wc.drew = w42 at B815 HB hHeld ⊢
          refine pure_ (i := 0) (N := some 38) (v := ?_) (a' := ?_) #[true, false, false, false, false, false, false, false, false, false, false, false, false, false, false, false, false, false, false, false, false, false] rfl rfl (any_of HT_.out (by kernel_rfl)) (fun _ _ _ h => h) (Or.inl ⟨by rfl, ?_⟩) ?_ ?_
          rotate_left
          ·intro w'; go_simp; with_reducible rfl
          rotate_left
          ·simp only [Act.put, xA, xZ, xS, i64_w, i32_w]; rfl
          refine pure_ (i := 1) (N := some 39) (v := ?_) (a' := ?_) #[true, true, false, false, false, false, false, false, false, false, false, false, false, false, false, false, false, false, false, false, false, false] rfl rfl (any_of HT_.out (by kernel_rfl)) (fun _ _ _ h => h) (Or.inl ⟨by rfl, ?_⟩) ?_ ?_
          rotate_left
          ·intro w'; go_simp; with_reducible rfl
          rotate_left
          ·simp only [Act.put, xA, xZ, xS, i64_w, i32_w]; rfl
          refine pure_ (i := 2) (N := some 40) (v := undef) (a' := ?_) #[true, true, true, false, false, false, false, false, false, false, false, false, false, false, false, false, false, false, false, false, false, false] rfl rfl (any_of HT_.out (by kernel_rfl)) (fun _ _ _ h => h) (Or.inr ⟨by rfl, rfl⟩) ?_ ?_
          rotate_left
          ·simp only [Act.put, xA, xZ, xS, i64_w, i32_w]; rfl
          refine pure_ (i := 3) (N := some 41) (v := undef) (a' := ?_) #[true, true, true, true, false, false, false, false, false, false, false, false, false, false, false, false, false, false, false, false, false, false] rfl rfl (any_of HT_.out (by kernel_rfl)) (fun _ _ _ h => h) (Or.inr ⟨by rfl, rfl⟩) ?_ ?_
          rotate_left
          ·simp only [Act.put, xA, xZ, xS, i64_w, i32_w]; rfl
          refine pure_ (i := 4) (N := some 42) (v := ?_) (a' := ?_) #[true, true, true, true, true, false, false, false, false, false, false, false, false, false, false, false, false, false, false, false, false, false] rfl rfl (any_of HT_.out (by kernel_rfl)) (fun _ _ _ h => h) (Or.inl ⟨by rfl, ?_⟩) ?_ ?_
          rotate_left
          ·intro w'; go_simp; with_reducible rfl
          rotate_left
          ·simp only [Act.put, xA, xZ, xS, i64_w, i32_w]; rfl
          refine pure_ (i := 5) (N := some 43) (v := ?_) (a' := ?_) #[true, true, true, true, true, true, false, false, false, false, false, false, false, false, false, false, false, false, false, false, false, false] rfl rfl (any_of HT_.out (by kernel_rfl)) (fun _ _ _ h => h) (Or.inl ⟨by rfl, ?_⟩) ?_ ?_
          rotate_left
          ·intro w'; go_simp; with_reducible rfl
          rotate_left
          ·simp only [Act.put, xA, xZ, xS, i64_w, i32_w]; rfl
          refine pure_ (i := 6) (N := some 44) (v := undef) (a' := ?_) #[true, true, true, true, true, true, true, false, false, false, false, false, false, false, false, false, false, false, false, false, false, false] rfl rfl (any_of HT_.out (by kernel_rfl)) (fun _ _ _ h => h) (Or.inr ⟨by rfl, rfl⟩) ?_ ?_
          rotate_left
          ·simp only [Act.put, xA, xZ, xS, i64_w, i32_w]; rfl
          refine pure_ (i := 7) (N := some 45) (v := undef) (a' := ?_) #[true, true, true, true, true, true, true, true, false, false, false, false, false, false, false, false, false, false, false, false, false, false] rfl rfl (any_of HT_.out (by kernel_rfl)) (fun _ _ _ h => h) (Or.inr ⟨by rfl, rfl⟩) ?_ ?_
          rotate_left
          ·simp only [Act.put, xA, xZ, xS, i64_w, i32_w]; rfl
          refine pure_ (i := 8) (N := some 46) (v := undef) (a' := ?_) #[true, true, true, true, true, true, true, true, true, false, false, false, false, false, false, false, false, false, false, false, false, false] rfl rfl (any_of HT_.out (by kernel_rfl)) (fun _ _ _ h => h) (Or.inr ⟨by rfl, rfl⟩) ?_ ?_
          rotate_left
          ·simp only [Act.put, xA, xZ, xS, i64_w, i32_w]; rfl
          refine pure_ (i := 9) (N := some 47) (v := undef) (a' := ?_) #[true, true, true, true, true, true, true, true, true, true, false, false, false, false, false, false, false, false, false, false, false, false] rfl rfl (any_of HT_.out (by kernel_rfl)) (fun _ _ _ h => h) (Or.inr ⟨by rfl, rfl⟩) ?_ ?_
          rotate_left
          ·simp only [Act.put, xA, xZ, xS, i64_w, i32_w]; rfl
          refine pure_ (i := 10) (N := some 48) (v := undef) (a' := ?_) #[true, true, true, true, true, true, true, true, true, true, true, false, false, false, false, false, false, false, false, false, false, false] rfl rfl (any_of HT_.out (by kernel_rfl)) (fun _ _ _ h => h) (Or.inr ⟨by rfl, rfl⟩) ?_ ?_
          rotate_left
          ·simp only [Act.put, xA, xZ, xS, i64_w, i32_w]; rfl
          refine pure_ (i := 11) (N := some 49) (v := undef) (a' := ?_) #[true, true, true, true, true, true, true, true, true, true, true, true, false, false, false, false, false, false, false, false, false, false] rfl rfl (any_of HT_.out (by kernel_rfl)) (fun _ _ _ h => h) (Or.inr ⟨by rfl, rfl⟩) ?_ ?_
          rotate_left
          ·simp only [Act.put, xA, xZ, xS, i64_w, i32_w]; rfl
          refine pure_ (i := 12) (N := some 50) (v := ?_) (a' := ?_) #[true, true, true, true, true, true, true, true, true, true, true, true, true, false, false, false, false, false, false, false, false, false] rfl rfl (any_of HT_.out (by kernel_rfl)) (fun _ _ _ h => h) (Or.inl ⟨by rfl, ?_⟩) ?_ ?_
          rotate_left
          ·intro w'; go_simp; with_reducible rfl
          rotate_left
          ·simp only [Act.put, xA, xZ, xS, i64_w, i32_w]; rfl
          refine pure_ (i := 13) (N := some 51) (v := ?_) (a' := ?_) #[true, true, true, true, true, true, true, true, true, true, true, true, true, true, false, false, false, false, false, false, false, false] rfl rfl (any_of HT_.out (by kernel_rfl)) (fun _ _ _ h => h) (Or.inl ⟨by rfl, ?_⟩) ?_ ?_
          rotate_left
          ·intro w'; go_simp; with_reducible rfl
          rotate_left
          ·simp only [Act.put, xA, xZ, xS, i64_w, i32_w]; rfl
          refine pure_ (i := 14) (N := some 52) (v := undef) (a' := ?_) #[true, true, true, true, true, true, true, true, true, true, true, true, true, true, true, false, false, false, false, false, false, false] rfl rfl (any_of HT_.out (by kernel_rfl)) (fun _ _ _ h => h) (Or.inr ⟨by rfl, rfl⟩) ?_ ?_
          rotate_left
          ·simp only [Act.put, xA, xZ, xS, i64_w, i32_w]; rfl
          refine pure_ (i := 15) (N := some 53) (v := undef) (a' := ?_) #[true, true, true, true, true, true, true, true, true, true, true, true, true, true, true, true, false, false, false, false, false, false] rfl rfl (any_of HT_.out (by kernel_rfl)) (fun _ _ _ h => h) (Or.inr ⟨by rfl, rfl⟩) ?_ ?_
          rotate_left
          ·simp only [Act.put, xA, xZ, xS, i64_w, i32_w]; rfl
          refine pure_ (i := 16) (N := some 54) (v := undef) (a' := ?_) #[true, true, true, true, true, true, true, true, true, true, true, true, true, true, true, true, true, false, false, false, false, false] rfl rfl (any_of HT_.out (by kernel_rfl)) (fun _ _ _ h => h) (Or.inr ⟨by rfl, rfl⟩) ?_ ?_
          rotate_left
          ·simp only [Act.put, xA, xZ, xS, i64_w, i32_w]; rfl
          refine pure_ (i := 17) (N := some 55) (v := undef) (a' := ?_) #[true, true, true, true, true, true, true, true, true, true, true, true, true, true, true, true, true, true, false, false, false, false] rfl rfl (any_of HT_.out (by kernel_rfl)) (fun _ _ _ h => h) (Or.inr ⟨by rfl, rfl⟩) ?_ ?_
          rotate_left
          ·simp only [Act.put, xA, xZ, xS, i64_w, i32_w]; rfl
          refine pure_ (i := 18) (N := some 56) (v := undef) (a' := ?_) #[true, true, true, true, true, true, true, true, true, true, true, true, true, true, true, true, true, true, true, false, false, false] rfl rfl (any_of HT_.out (by kernel_rfl)) (fun _ _ _ h => h) (Or.inr ⟨by rfl, rfl⟩) ?_ ?_
          rotate_left
          ·simp only [Act.put, xA, xZ, xS, i64_w, i32_w]; rfl
          refine pure_ (i := 19) (N := some 57) (v := undef) (a' := ?_) #[true, true, true, true, true, true, true, true, true, true, true, true, true, true, true, true, true, true, true, true, false, false] rfl rfl (any_of HT_.out (by kernel_rfl)) (fun _ _ _ h => h) (Or.inr ⟨by rfl, rfl⟩) ?_ ?_
          rotate_left
          ·simp only [Act.put, xA, xZ, xS, i64_w, i32_w]; rfl
          refine pure_ (i := 20) (N := some 58) (v := ?_) (a' := ?_) #[true, true, true, true, true, true, true, true, true, true, true, true, true, true, true, true, true, true, true, true, true, false] rfl rfl (any_of HT_.out (by kernel_rfl)) (fun _ _ _ h => h) (Or.inl ⟨by rfl, ?_⟩) ?_ ?_
          rotate_left
          ·intro w'; go_simp; with_reducible rfl
          rotate_left
          ·simp only [Act.put, xA, xZ, xS, i64_w, i32_w]; rfl
          refine pure_ (i := 21) (N := some 4) (v := ?_) (a' := ?_) #[true, true, true, true, true, true, true, true, true, true, true, true, true, true, true, true, true, true, true, true, true, true] rfl rfl (any_of HT_.out (by kernel_rfl)) (fun _ _ _ h => h) (Or.inl ⟨by rfl, ?_⟩) ?_ ?_
          rotate_left
          ·intro w'; go_simp; with_reducible rfl
          rotate_left
          ·simp only [Act.put, xA, xZ, xS, i64_w, i32_w]; rfl
          refine done_ (done_of HT_.out (by kernel_rfl)) ?_
          try go_wp2
          go_meet
          case rel => exact ⟨_, (false), (by first | rfl | (simp; done) | (simp [*]; done)), H', ⟨by have := HK1.out; have := HJ28.out; first | omega | exact Nat.le_refl _⟩, ⟨by (with_reducible repeat first | refine qN ?_ _ | refine qD ?_ | refine qA ?_ _); exact B815.out⟩, ⟨by repeat (first | (with_reducible first | exact HB.out | apply eA | apply eN | apply eD | refine eS ?_ GE815.out) | exact HB.out)⟩⟩
        case rest =>
         clear HC34
         try clear c2
         try clear p2
         try clear c3
         try clear c26
         try clear c35
         try clear c36
         try clear c37
         try clear c37b0
         try clear c37b1
         obtain ⟨kq, x4_33, rfl, HA, HJ33, B815, HB⟩ := hcut
         cases kq with
         | zero => exact absurd HA.out (by simp [hogsheadlaw17_DeedReads.j2])
         | succ kj33 =>
          have H := HA.out
          clear HA
          simp only [hogsheadlaw17_DeedReads.j2] at H
          obtain rfl := Option.some.inj H
          go_wp2
          go_ret
          exact ⟨by first | rfl | (simp [errW_none, errW_some] <;> rfl) | (simp [*, errW_none, errW_some] <;> rfl), by repeat (first | (with_reducible first | exact HB.out | apply eA | apply eN | apply eD | refine eS ?_ GE815.out) | exact HB.out)⟩
       ·replace c33 := Bool.eq_false_iff.mpr c33
        subst c33
        have H1 : (if t799 = true then (hogsheadlaw17_DeedReads.j3 kj28 (x816012_1.toList == ([] : List UInt8))) else (hogsheadlaw17_DeedReads.j3 kj28 false)) = some r := by rw [if_neg (show ¬ (false = true) by decide)] at H; exact H
        clear H
        have H := H1
        clear H1
        have HC43 := qM H
        clear H
        go_upto_region 11 with (fail)
        go_cut [4] (fun v4 wc => ∃ (kq : Nat) (x4_42 : Bool), v4 = .bool x4_42 ∧ Aside0 (hogsheadlaw17_DeedReads.j3 kq x4_42 = some r) ∧ Aside0 (kq ≤ kj28) ∧ Aside0 (wc.heap[g815]? = some (.cells #[.int .i64 x816000_1, .int .i64 x816001_1, .string x816002_1, .string x816003_1, .int .i64 x816004_1, .int .i64 x816005_1, .int .i64 x816006_1, .int .i64 x816007_1, .int .i64 x816008_1, .int .u32 x816009_1, .int .i64 x816010_1, .int .i64 x816011_1, .string x816012_1, .bool x816013_1] 28 (0, 0))) ∧ Aside0 (Below w.heap.size w wc))
        case first =>
         have H := HC43.out
         clear HC43
         by_cases c44 : t799 = true
         ·subst c44
          have H1 : (hogsheadlaw17_DeedReads.j3 kj28 (x816012_1.toList == ([] : List UInt8))) = some r := by rw [if_pos rfl] at H; exact H
          clear H
          have H := H1
          clear H1
          have H' := qM H
          clear H
          obtain ⟨z45_0, z45_1, z45_2, z45_3, z45_4, z45_5, z45_6, z45_7, z45_8, z45_9, z45_10, z45_11, z45_12, z45_13, f45_0, f45_1, f45_2, f45_3, f45_4, f45_5, f45_6, f45_7, f45_8, f45_9, f45_10, f45_11, f45_12, f45_13⟩ := cells14 B815.out
          go_wp2
          go_meet
          case rel => exact ⟨_, ((x816012_1.toList == ([] : List UInt8))), (by first | rfl | (simp; done) | (simp [*]; done)), H', ⟨by have := HK1.out; have := HJ28.out; first | omega | exact Nat.le_refl _⟩, ⟨by (with_reducible repeat first | refine qN ?_ _ | refine qD ?_ | refine qA ?_ _); exact B815.out⟩, ⟨by repeat (first | (with_reducible first | exact HB.out | apply eA | apply eN | apply eD | refine eS ?_ GE815.out) | exact HB.out)⟩⟩
         ·replace c44 := Bool.eq_false_iff.mpr c44
          subst c44
          have H1 : (hogsheadlaw17_DeedReads.j3 kj28 false) = some r := by rw [if_neg (show ¬ (false = true) by decide)] at H; exact H
          clear H
          have H := H1
          clear H1
          have H' := qM H
          clear H
          go_wp2
          go_meet
          case rel => exact ⟨_, (false), (by first | rfl | (simp; done) | (simp [*]; done)), H', ⟨by have := HK1.out; have := HJ28.out; first | omega | exact Nat.le_refl _⟩, ⟨by (with_reducible repeat first | refine qN ?_ _ | refine qD ?_ | refine qA ?_ _); exact B815.out⟩, ⟨by repeat (first | (with_reducible first | exact HB.out | apply eA | apply eN | apply eD | refine eS ?_ GE815.out) | exact HB.out)⟩⟩
        case rest =>
         clear HC43
         try clear c2
         try clear p2
         try clear c3
         try clear c4
         try clear c26
         try clear c33
         try clear c35
         try clear c36
         try clear c37
         try clear c37b0
         try clear c37b1
         try clear c44
         try clear z45_0
         try clear z45_1
         try clear z45_10
         try clear z45_11
         try clear z45_12
         try clear z45_13
         try clear z45_2
         try clear z45_3
         try clear z45_4
         try clear z45_5
         try clear z45_6
         try clear z45_7
         try clear z45_8
         try clear z45_9
         try clear f45_0
         try clear f45_1
         try clear f45_10
         try clear f45_11
         try clear f45_12
         try clear f45_13
         try clear f45_2
         try clear f45_3
         try clear f45_4
         try clear f45_5
         try clear f45_6
         try clear f45_7
         try clear f45_8
         try clear f45_9
         try clear p2
         obtain ⟨kq, x4_42, rfl, HA, HJ42, B815, HB⟩ := hcut
         cases kq with
         | zero => exact absurd HA.out (by simp [hogsheadlaw17_DeedReads.j3])
         | succ kj42 =>
          have H := HA.out
          clear HA
          simp only [hogsheadlaw17_DeedReads.j3] at H
          obtain rfl := Option.some.inj H
          go_wp2
          go_ret
          exact ⟨by first | rfl | (simp [errW_none, errW_some] <;> rfl) | (simp [*, errW_none, errW_some] <;> rfl), by repeat (first | (with_reducible first | exact HB.out | apply eA | apply eN | apply eD | refine eS ?_ GE815.out) | exact HB.out)⟩
 ·rw [if_neg c5] at H
  have c5b0 : (t814 == 0) = false := beq_eq_false_iff_ne.mpr c5
  have c5b1 : (t814 != 0) = true := bne_iff_ne.mpr c5
  obtain rfl := Option.some.inj H
  go_enter Try.func8, Try.ntmps8
  go_wp2_with (first | ((with_reducible refine gate_callee (f := 9) rfl ?_); refine goesL_ (some 9) rfl rfl Try.func9 (by kernel_rfl) rfl #[] rfl (by (try simp only [List.map_toArray, List.map_cons, List.map_nil]); first | done | rfl | (simp only [List.length_drop, List.length_take]; rfl)) ?_; (with_reducible refine (hogsheadlaw17_shown.calls k  t799 _ A3.out).mono ?_); rintro e w46 ⟨rfl, hb⟩; refine ⟨_, rfl, ?_⟩; have n0_ := qM (eT (by repeat (first | (with_reducible first | exact HB.out | apply eA | apply eN | apply eD) | exact HB.out)) hb); clear HB; have HB := n0_; clear n0_; (try clear hb); (try clear hb2); (try clear hk); (try clear hi)) | ((with_reducible refine gate_callee (f := 10) rfl ?_); refine goesL_ (some 12) rfl rfl Try.func10 (by kernel_rfl) rfl #[.int .i64 2, .int .i64 2, .string a0, .string (⟨#[]⟩ : ByteArray), .int .i64 9] rfl (by (try simp only [List.map_toArray, List.map_cons, List.map_nil]); first | done | rfl | (simp only [List.length_drop, List.length_take]; rfl)) ?_; (with_reducible refine (deed_New.calls k 2 2 a0 (⟨#[]⟩ : ByteArray) 9 t800 t801 t802 t803 t804 t805 t806 t807 t808 t809 t810 t811 t812 t813 t814 _ A4.out).mono ?_); rintro e w47 ⟨rfl, hb⟩; refine ⟨_, rfl, ?_⟩; have n0_ := qM (eT (by repeat (first | (with_reducible first | exact HB.out | apply eA | apply eN | apply eD) | exact HB.out)) hb); clear HB; have HB := n0_; clear n0_; (try clear hb); (try clear hb2); (try clear hk); (try clear hi)) | ((with_reducible refine gate_dst (N := 6) rfl ?_); (try (refine gate_guard (by rfl) ?_; dsimp only)); refine box_event ?hg (N := 6) ?hd (cs := #[.int .i64 0, .int .i64 0, .string (⟨#[]⟩ : ByteArray), .string (⟨#[]⟩ : ByteArray), .int .i64 0, .int .i64 0, .int .i64 0, .int .i64 0, .int .i64 0, .int .u32 0, .int .i64 0, .int .i64 0, .string (⟨#[]⟩ : ByteArray), .bool false]) (t := 28) ?hr ?_; (case hd => rfl); (case hg => rfl); (case hr => first | (go_simp; done) | (go_simp; rfl)); intro g815 hg w48 hbox hb; have n0_ := qM (eT (by repeat (first | (with_reducible first | exact HB.out | apply eA | apply eN | apply eD) | exact HB.out)) hb); have n1_ := qM (hbox); have n2_ := qM ((by rw [hg]; exact (eZ (by repeat (first | (with_reducible first | exact HB.out | apply eA | apply eN | apply eD) | exact HB.out))) : w.heap.size ≤ g815)); have n3_ := n2_; clear HB; have HB := n0_; have B815 := n1_; have GW815 := n2_; have GE815 := n3_; clear n0_ n1_ n2_ n3_; clear hb hbox hg; obtain ⟨z49_0, z49_1, z49_2, z49_3, z49_4, z49_5, z49_6, z49_7, z49_8, z49_9, z49_10, z49_11, z49_12, z49_13, f49_0, f49_1, f49_2, f49_3, f49_4, f49_5, f49_6, f49_7, f49_8, f49_9, f49_10, f49_11, f49_12, f49_13⟩ := cells14 B815.out))
  go_ret
  exact ⟨by first | rfl | (simp [errW_none, errW_some] <;> rfl) | (simp [*, errW_none, errW_some] <;> rfl), by repeat (first | (with_reducible first | exact HB.out | apply eA | apply eN | apply eD | refine eS ?_ GE815.out) | exact HB.out)⟩

end Go.Proofs.Ytmjmmgefkebggaa.PAll
