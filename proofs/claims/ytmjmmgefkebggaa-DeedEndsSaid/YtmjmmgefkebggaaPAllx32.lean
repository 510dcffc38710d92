/- Functions of the program as plain Lean functions, and that each call comes to what they say. Laid by a program of this session (hprint.py); Lean checks it. -/
import Derived.Test.YtmjmmgefkebggaaPAllx0
import Derived.Test.YtmjmmgefkebggaaPAllx1
import Derived.Test.YtmjmmgefkebggaaPAllx11
import Derived.Test.YtmjmmgefkebggaaPAllx31
namespace Go.Proofs.Ytmjmmgefkebggaa.PAll
open Go.RowKit Go.Proofs.YtmjmmgefkebggaaW.PrintWords Go.Proofs.YtmjmmgefkebggaaW.PrintLast Go.Proofs.YtmjmmgefkebggaaW.PrintMore
attribute [local go_sem] max2_int min2_int max_two min_two max_three min_three max_four min_four   -- for this text's walks alone
set_option linter.unusedVariables false
set_option linter.unusedSimpArgs false
attribute [local irreducible] World.setCell

attribute [local go_sem high] eqA28
/-! ### hogsheadlaw17_DeedEnds: function 6 -/
mutual
def hogsheadlaw17_DeedEnds.l0 : Nat → List (S54) → Bool → Int → Int → Int → ByteArray → ByteArray → Int → Int → Int → Int → Int → Int → Int → Int → ByteArray → Bool → Int → Int → ByteArray → ByteArray → Int → Int → Int → Int → Int → Int → Int → Int → ByteArray → Bool → Option (Bool)
 | 0, _, _, _, _, _, _, _, _, _, _, _, _, _, _, _, _, _, _, _, _, _, _, _, _, _, _, _, _, _, _, _ => none
 | k + 1, x1, x5, x7, x730000, x730001, x730002, x730003, x730004, x730005, x730006, x730007, x730008, x730009, x730010, x730011, x730012, x730013, x732000, x732001, x732002, x732003, x732004, x732005, x732006, x732007, x732008, x732009, x732010, x732011, x732012, x732013 => if x7 < (x1.length : Int) then (if 0 ≤ x7 then ((hogsheadlaw17_comes.f k x730000 x730001 x730002 x730003 x730004 x730005 x730006 x730007 x730008 x730009 x730010 x730011 x730012 x730013 ((rd_T54 x1 x7).f0) ((rd_T54 x1 x7).f1) ((rd_T54 x1 x7).f2.f0) ((rd_T54 x1 x7).f2.f1) ((rd_T54 x1 x7).f2.f2) ((rd_T54 x1 x7).f2.f3) ((rd_T54 x1 x7).f2.f4) ((rd_T54 x1 x7).f2.f5) ((rd_T54 x1 x7).f3) ((rd_T54 x1 x7).f4)).bind fun bt733 => (if x730005 = 8 then (hogsheadlaw17_DeedEnds.j1 k x1 x5 x7 (!(bt733.1 == x730000) || (!(bt733.2.1 == x730001) || (!(bt733.2.2.1.toList == x730002.toList) || (!(bt733.2.2.2.1.toList == x730003.toList) || (!(bt733.2.2.2.2.1 == x730004) || (!(bt733.2.2.2.2.2.1 == x730005) || (!(bt733.2.2.2.2.2.2.1 == x730006) || (!(bt733.2.2.2.2.2.2.2.1 == x730007) || (!(bt733.2.2.2.2.2.2.2.2.1 == x730008) || (!(bt733.2.2.2.2.2.2.2.2.2.1 == x730009) || (!(bt733.2.2.2.2.2.2.2.2.2.2.1 == x730010) || (!(bt733.2.2.2.2.2.2.2.2.2.2.2.1 == x730011) || (!(bt733.2.2.2.2.2.2.2.2.2.2.2.2.1.toList == x730012.toList) || (!(bt733.2.2.2.2.2.2.2.2.2.2.2.2.2 == x730013))))))))))))))) x732000 x732001 x732002 x732003 x732004 x732005 x732006 x732007 x732008 x732009 x732010 x732011 x732012 x732013 bt733.1 bt733.2.1 bt733.2.2.1 bt733.2.2.2.1 bt733.2.2.2.2.1 bt733.2.2.2.2.2.1 bt733.2.2.2.2.2.2.1 bt733.2.2.2.2.2.2.2.1 bt733.2.2.2.2.2.2.2.2.1 bt733.2.2.2.2.2.2.2.2.2.1 bt733.2.2.2.2.2.2.2.2.2.2.1 bt733.2.2.2.2.2.2.2.2.2.2.2.1 bt733.2.2.2.2.2.2.2.2.2.2.2.2.1 bt733.2.2.2.2.2.2.2.2.2.2.2.2.2) else (hogsheadlaw17_DeedEnds.j1 k x1 x5 x7 false x732000 x732001 x732002 x732003 x732004 x732005 x732006 x732007 x732008 x732009 x732010 x732011 x732012 x732013 bt733.1 bt733.2.1 bt733.2.2.1 bt733.2.2.2.1 bt733.2.2.2.2.1 bt733.2.2.2.2.2.1 bt733.2.2.2.2.2.2.1 bt733.2.2.2.2.2.2.2.1 bt733.2.2.2.2.2.2.2.2.1 bt733.2.2.2.2.2.2.2.2.2.1 bt733.2.2.2.2.2.2.2.2.2.2.1 bt733.2.2.2.2.2.2.2.2.2.2.2.1 bt733.2.2.2.2.2.2.2.2.2.2.2.2.1 bt733.2.2.2.2.2.2.2.2.2.2.2.2.2))) else (none)) else (if x5 = true then (if x730000 = x732000 then (if x730001 = x732001 then (if x730002.toList = x732002.toList then (hogsheadlaw17_DeedEnds.j2 k (x730003.toList == x732003.toList)) else (hogsheadlaw17_DeedEnds.j2 k false)) else (hogsheadlaw17_DeedEnds.j2 k false)) else (hogsheadlaw17_DeedEnds.j2 k false)) else (hogsheadlaw17_DeedEnds.j2 k false))
def hogsheadlaw17_DeedEnds.j1 : Nat → List (S54) → Bool → Int → Bool → Int → Int → ByteArray → ByteArray → Int → Int → Int → Int → Int → Int → Int → Int → ByteArray → Bool → Int → Int → ByteArray → ByteArray → Int → Int → Int → Int → Int → Int → Int → Int → ByteArray → Bool → Option (Bool)
 | 0, _, _, _, _, _, _, _, _, _, _, _, _, _, _, _, _, _, _, _, _, _, _, _, _, _, _, _, _, _, _, _, _ => none
 | k + 1, x1, x5, x7, x30, x732000, x732001, x732002, x732003, x732004, x732005, x732006, x732007, x732008, x732009, x732010, x732011, x732012, x732013, x748000, x748001, x748002, x748003, x748004, x748005, x748006, x748007, x748008, x748009, x748010, x748011, x748012, x748013 => if x30 = true then (some false) else (hogsheadlaw17_DeedEnds.l0 k x1 x5 (wrap64 (x7 + 1)) x748000 x748001 x748002 x748003 x748004 x748005 x748006 x748007 x748008 x748009 x748010 x748011 x748012 x748013 x732000 x732001 x732002 x732003 x732004 x732005 x732006 x732007 x732008 x732009 x732010 x732011 x732012 x732013)
def hogsheadlaw17_DeedEnds.j2 : Nat → Bool → Option (Bool)
 | 0, _ => none
 | k + 1, x4 => some x4
end
def hogsheadlaw17_DeedEnds.f (k : Nat) (a0_0 : Int) (a0_1 : Int) (a0_2 : ByteArray) (a0_3 : ByteArray) (a0_4 : Int) (a0_5 : Int) (a0_6 : Int) (a0_7 : Int) (a0_8 : Int) (a0_9 : Int) (a0_10 : Int) (a0_11 : Int) (a0_12 : ByteArray) (a0_13 : Bool) (l1 : List (S54)) : Option (Bool) := (hogsheadlaw17_shown.f k).bind fun t730 => (hogsheadlaw17_DeedEnds.l0 k l1 t730 0 a0_0 a0_1 a0_2 a0_3 a0_4 a0_5 a0_6 a0_7 a0_8 a0_9 a0_10 a0_11 a0_12 a0_13 a0_0 a0_1 a0_2 a0_3 a0_4 a0_5 a0_6 a0_7 a0_8 a0_9 a0_10 a0_11 a0_12 a0_13)
theorem hogsheadlaw17_DeedEnds.mono_l : ∀ k, (∀ y0 y1 y2 y3 y4 y5 y6 y7 y8 y9 y10 y11 y12 y13 y14 y15 y16 y17 y18 y19 y20 y21 y22 y23 y24 y25 y26 y27 y28 y29 y30, LeO (hogsheadlaw17_DeedEnds.l0 k y0 y1 y2 y3 y4 y5 y6 y7 y8 y9 y10 y11 y12 y13 y14 y15 y16 y17 y18 y19 y20 y21 y22 y23 y24 y25 y26 y27 y28 y29 y30) (hogsheadlaw17_DeedEnds.l0 (k + 1) y0 y1 y2 y3 y4 y5 y6 y7 y8 y9 y10 y11 y12 y13 y14 y15 y16 y17 y18 y19 y20 y21 y22 y23 y24 y25 y26 y27 y28 y29 y30)) ∧ (∀ y0 y1 y2 y3 y4 y5 y6 y7 y8 y9 y10 y11 y12 y13 y14 y15 y16 y17 y18 y19 y20 y21 y22 y23 y24 y25 y26 y27 y28 y29 y30 y31, LeO (hogsheadlaw17_DeedEnds.j1 k y0 y1 y2 y3 y4 y5 y6 y7 y8 y9 y10 y11 y12 y13 y14 y15 y16 y17 y18 y19 y20 y21 y22 y23 y24 y25 y26 y27 y28 y29 y30 y31) (hogsheadlaw17_DeedEnds.j1 (k + 1) y0 y1 y2 y3 y4 y5 y6 y7 y8 y9 y10 y11 y12 y13 y14 y15 y16 y17 y18 y19 y20 y21 y22 y23 y24 y25 y26 y27 y28 y29 y30 y31)) ∧ (∀ y0, LeO (hogsheadlaw17_DeedEnds.j2 k y0) (hogsheadlaw17_DeedEnds.j2 (k + 1) y0))
 | 0 => ⟨fun _ _ _ _ _ _ _ _ _ _ _ _ _ _ _ _ _ _ _ _ _ _ _ _ _ _ _ _ _ _ _ r h => by simp [hogsheadlaw17_DeedEnds.l0] at h, fun _ _ _ _ _ _ _ _ _ _ _ _ _ _ _ _ _ _ _ _ _ _ _ _ _ _ _ _ _ _ _ _ r h => by simp [hogsheadlaw17_DeedEnds.j1] at h, fun _ r h => by simp [hogsheadlaw17_DeedEnds.j2] at h⟩
 | k + 1 => by
  obtain ⟨ih0, ih1, ih2⟩ := hogsheadlaw17_DeedEnds.mono_l k
  refine ⟨?_, ?_, ?_⟩
  ·intro y0 y1 y2 y3 y4 y5 y6 y7 y8 y9 y10 y11 y12 y13 y14 y15 y16 y17 y18 y19 y20 y21 y22 y23 y24 y25 y26 y27 y28 y29 y30
   unfold hogsheadlaw17_DeedEnds.l0
   repeat' first
   | (with_reducible exact ih0 _ _ _ _ _ _ _ _ _ _ _ _ _ _ _ _ _ _ _ _ _ _ _ _ _ _ _ _ _ _ _)
   | (with_reducible exact ih1 _ _ _ _ _ _ _ _ _ _ _ _ _ _ _ _ _ _ _ _ _ _ _ _ _ _ _ _ _ _ _ _)
   | (with_reducible exact ih2 _)
   | (with_reducible exact hogsheadlaw17_comes.mono _ _ _ _ _ _ _ _ _ _ _ _ _ _ _ _ _ _ _ _ _ _ _ _ _)
   | (with_reducible exact hogsheadlaw17_shown.mono _)
   | (with_reducible exact LeO.refl _)
   | (with_reducible exact LeO.none _)
   | (with_reducible refine LeO.ite ?_ ?_)
   | (with_reducible refine LeO.bind ?_ (fun _ => ?_))
   | exact ih0 _ _ _ _ _ _ _ _ _ _ _ _ _ _ _ _ _ _ _ _ _ _ _ _ _ _ _ _ _ _ _
   | exact ih1 _ _ _ _ _ _ _ _ _ _ _ _ _ _ _ _ _ _ _ _ _ _ _ _ _ _ _ _ _ _ _ _
   | exact ih2 _
   | exact hogsheadlaw17_comes.mono _ _ _ _ _ _ _ _ _ _ _ _ _ _ _ _ _ _ _ _ _ _ _ _ _
   | exact hogsheadlaw17_shown.mono _
   | exact LeO.none _
   | refine LeO.ite ?_ ?_
   | refine LeO.bind ?_ (fun _ => ?_)
  ·intro y0 y1 y2 y3 y4 y5 y6 y7 y8 y9 y10 y11 y12 y13 y14 y15 y16 y17 y18 y19 y20 y21 y22 y23 y24 y25 y26 y27 y28 y29 y30 y31
   unfold hogsheadlaw17_DeedEnds.j1
   repeat' first
   | (with_reducible exact ih0 _ _ _ _ _ _ _ _ _ _ _ _ _ _ _ _ _ _ _ _ _ _ _ _ _ _ _ _ _ _ _)
   | (with_reducible exact ih1 _ _ _ _ _ _ _ _ _ _ _ _ _ _ _ _ _ _ _ _ _ _ _ _ _ _ _ _ _ _ _ _)
   | (with_reducible exact ih2 _)
   | (with_reducible exact hogsheadlaw17_comes.mono _ _ _ _ _ _ _ _ _ _ _ _ _ _ _ _ _ _ _ _ _ _ _ _ _)
   | (with_reducible exact hogsheadlaw17_shown.mono _)
   | (with_reducible exact LeO.refl _)
   | (with_reducible exact LeO.none _)
   | (with_reducible refine LeO.ite ?_ ?_)
   | (with_reducible refine LeO.bind ?_ (fun _ => ?_))
   | exact ih0 _ _ _ _ _ _ _ _ _ _ _ _ _ _ _ _ _ _ _ _ _ _ _ _ _ _ _ _ _ _ _
   | exact ih1 _ _ _ _ _ _ _ _ _ _ _ _ _ _ _ _ _ _ _ _ _ _ _ _ _ _ _ _ _ _ _ _
   | exact ih2 _
   | exact hogsheadlaw17_comes.mono _ _ _ _ _ _ _ _ _ _ _ _ _ _ _ _ _ _ _ _ _ _ _ _ _
   | exact hogsheadlaw17_shown.mono _
   | exact LeO.none _
   | refine LeO.ite ?_ ?_
   | refine LeO.bind ?_ (fun _ => ?_)
  ·intro y0
   unfold hogsheadlaw17_DeedEnds.j2
   repeat' first
   | (with_reducible exact ih0 _ _ _ _ _ _ _ _ _ _ _ _ _ _ _ _ _ _ _ _ _ _ _ _ _ _ _ _ _ _ _)
   | (with_reducible exact ih1 _ _ _ _ _ _ _ _ _ _ _ _ _ _ _ _ _ _ _ _ _ _ _ _ _ _ _ _ _ _ _ _)
   | (with_reducible exact ih2 _)
   | (with_reducible exact hogsheadlaw17_comes.mono _ _ _ _ _ _ _ _ _ _ _ _ _ _ _ _ _ _ _ _ _ _ _ _ _)
   | (with_reducible exact hogsheadlaw17_shown.mono _)
   | (with_reducible exact LeO.refl _)
   | (with_reducible exact LeO.none _)
   | (with_reducible refine LeO.ite ?_ ?_)
   | (with_reducible refine LeO.bind ?_ (fun _ => ?_))
   | exact ih0 _ _ _ _ _ _ _ _ _ _ _ _ _ _ _ _ _ _ _ _ _ _ _ _ _ _ _ _ _ _ _
   | exact ih1 _ _ _ _ _ _ _ _ _ _ _ _ _ _ _ _ _ _ _ _ _ _ _ _ _ _ _ _ _ _ _ _
   | exact ih2 _
   | exact hogsheadlaw17_comes.mono _ _ _ _ _ _ _ _ _ _ _ _ _ _ _ _ _ _ _ _ _ _ _ _ _
   | exact hogsheadlaw17_shown.mono _
   | exact LeO.none _
   | refine LeO.ite ?_ ?_
   | refine LeO.bind ?_ (fun _ => ?_)
theorem hogsheadlaw17_DeedEnds.mono : ∀ a0 a1 a2 a3 a4 a5 a6 a7 a8 a9 a10 a11 a12 a13 a14 k, LeO (hogsheadlaw17_DeedEnds.f k a0 a1 a2 a3 a4 a5 a6 a7 a8 a9 a10 a11 a12 a13 a14) (hogsheadlaw17_DeedEnds.f (k + 1) a0 a1 a2 a3 a4 a5 a6 a7 a8 a9 a10 a11 a12 a13 a14) := by
 intro a0 a1 a2 a3 a4 a5 a6 a7 a8 a9 a10 a11 a12 a13 a14 k
 obtain ⟨ih0, ih1, ih2⟩ := hogsheadlaw17_DeedEnds.mono_l k
 unfold hogsheadlaw17_DeedEnds.f
 repeat' first
   | (with_reducible exact ih0 _ _ _ _ _ _ _ _ _ _ _ _ _ _ _ _ _ _ _ _ _ _ _ _ _ _ _ _ _ _ _)
   | (with_reducible exact ih1 _ _ _ _ _ _ _ _ _ _ _ _ _ _ _ _ _ _ _ _ _ _ _ _ _ _ _ _ _ _ _ _)
   | (with_reducible exact ih2 _)
   | (with_reducible exact hogsheadlaw17_comes.mono _ _ _ _ _ _ _ _ _ _ _ _ _ _ _ _ _ _ _ _ _ _ _ _ _)
   | (with_reducible exact hogsheadlaw17_shown.mono _)
   | (with_reducible exact LeO.refl _)
   | (with_reducible exact LeO.none _)
   | (with_reducible refine LeO.ite ?_ ?_)
   | (with_reducible refine LeO.bind ?_ (fun _ => ?_))
   | exact ih0 _ _ _ _ _ _ _ _ _ _ _ _ _ _ _ _ _ _ _ _ _ _ _ _ _ _ _ _ _ _ _
   | exact ih1 _ _ _ _ _ _ _ _ _ _ _ _ _ _ _ _ _ _ _ _ _ _ _ _ _ _ _ _ _ _ _ _
   | exact ih2 _
   | exact hogsheadlaw17_comes.mono _ _ _ _ _ _ _ _ _ _ _ _ _ _ _ _ _ _ _ _ _ _ _ _ _
   | exact hogsheadlaw17_shown.mono _
   | exact LeO.none _
   | refine LeO.ite ?_ ?_
   | refine LeO.bind ?_ (fun _ => ?_)
def hogsheadlaw17_DeedEnds.T6 : Bool × List (List Nat × List Nat) := (true, [([], []), ([], []), ([], []), ([1, 2], [1, 2]), ([3], [3]), ([0, 4], [0, 4]), ([], []), ([6, 5, 5, 0, 1, 2, 3, 4, 5, 6], [5, 6])])
def hogsheadlaw17_DeedEnds.B6 : List Nat := [0, 0, 0, 6, 14, 31, 0, 127]
theorem hogsheadlaw17_DeedEnds.tab6 : rtab .any (opsOf Try.f6 6) = hogsheadlaw17_DeedEnds.T6 := by kernel_rfl
theorem hogsheadlaw17_DeedEnds.bits6 : waitsOk hogsheadlaw17_DeedEnds.T6.2 hogsheadlaw17_DeedEnds.B6 = true := by kernel_rfl
set_option maxHeartbeats 40000000 in
set_option maxRecDepth 100000 in
theorem hogsheadlaw17_DeedEnds.calls (k : Nat) (a0_0 : Int) (a0_1 : Int) (a0_2 : ByteArray) (a0_3 : ByteArray) (a0_4 : Int) (a0_5 : Int) (a0_6 : Int) (a0_7 : Int) (a0_8 : Int) (a0_9 : Int) (a0_10 : Int) (a0_11 : Int) (a0_12 : ByteArray) (a0_13 : Bool) (A1 : Option Addr) (c1 : Nat) (l1 : List (S54)) (r : Bool) (w : World) (hr1 : Kd.C k54 w A1 l1.length l1) (hc1 : l1.length ≤ c1) (h : hogsheadlaw17_DeedEnds.f k a0_0 a0_1 a0_2 a0_3 a0_4 a0_5 a0_6 a0_7 a0_8 a0_9 a0_10 a0_11 a0_12 a0_13 l1 = some r) :
  Calls Try.prog 6 #[.agg #[.int .i64 a0_0, .int .i64 a0_1, .string a0_2, .string a0_3, .int .i64 a0_4, .int .i64 a0_5, .int .i64 a0_6, .int .i64 a0_7, .int .i64 a0_8, .int .u32 a0_9, .int .i64 a0_10, .int .i64 a0_11, .string a0_12, .bool a0_13], .slice A1 l1.length c1] w fun e w' => e = .returned (.bool r) ∧ Below w.heap.size w w' := by
 have hu28 := Try.underlying28
 have hu54 := Try.underlying54
 have HR1 := qM hr1
 have HC1 := qM hc1
 clear hr1 hc1
 have HB := qM (Below.refl w.heap.size w)
 have H : ((hogsheadlaw17_shown.f k).bind fun t730 => (hogsheadlaw17_DeedEnds.l0 k l1 t730 0 a0_0 a0_1 a0_2 a0_3 a0_4 a0_5 a0_6 a0_7 a0_8 a0_9 a0_10 a0_11 a0_12 a0_13 a0_0 a0_1 a0_2 a0_3 a0_4 a0_5 a0_6 a0_7 a0_8 a0_9 a0_10 a0_11 a0_12 a0_13)) = some r := h
 clear h
 replace H := Option.bind_eq_some_iff.mp H
 obtain ⟨t730, A30, H⟩ := H
 replace H : (hogsheadlaw17_DeedEnds.l0 k l1 t730 0 a0_0 a0_1 a0_2 a0_3 a0_4 a0_5 a0_6 a0_7 a0_8 a0_9 a0_10 a0_11 a0_12 a0_13 a0_0 a0_1 a0_2 a0_3 a0_4 a0_5 a0_6 a0_7 a0_8 a0_9 a0_10 a0_11 a0_12 a0_13) = some r := H
 have A3 := qM A30
 clear A30
 have H' := qM H
 clear H
 go_enter Try.func6, Try.ntmps6
 go_wp2_with (first | ((with_reducible refine gate_dst (N := 2) rfl ?_); refine box_event ?hg (N := 2) ?hd (cs := #[.int .i64 a0_0, .int .i64 a0_1, .string a0_2, .string a0_3, .int .i64 a0_4, .int .i64 a0_5, .int .i64 a0_6, .int .i64 a0_7, .int .i64 a0_8, .int .u32 a0_9, .int .i64 a0_10, .int .i64 a0_11, .string a0_12, .bool a0_13]) (t := 28) ?hr ?_; (case hd => rfl); (case hg => rfl); (case hr => first | (go_simp; done) | (go_simp; rfl)); intro g729 hg w4 hbox hb; have n0_ := qM (eT (by repeat (first | (with_reducible first | exact HB.out | apply eA | apply eN | apply eD) | exact HB.out)) hb); have n1_ := qM (hbox); have n2_ := qM ((by rw [hg]; exact (eZ (by repeat (first | (with_reducible first | exact HB.out | apply eA | apply eN | apply eD) | exact HB.out))) : w.heap.size ≤ g729)); have n3_ := n2_; clear HB; have HB := n0_; have B729 := n1_; have GW729 := n2_; have GE729 := n3_; clear n0_ n1_ n2_ n3_; clear hb hbox hg) | ((with_reducible refine gate_callee (f := 9) rfl ?_); refine goesL_ (some 9) rfl rfl Try.func9 (by kernel_rfl) rfl #[] rfl (by (try simp only [List.map_toArray, List.map_cons, List.map_nil]); first | done | rfl | (simp only [List.length_drop, List.length_take]; rfl)) ?_; (with_reducible refine (hogsheadlaw17_shown.calls k  t730 _ A3.out).mono ?_); rintro e w5 ⟨rfl, hb⟩; refine ⟨_, rfl, ?_⟩; have n0_ := qM (qB (g := g729) (by (with_reducible repeat first | refine qN ?_ _ | refine qD ?_ | refine qA ?_ _); exact B729.out) hb); have n1_ := qM (eT (by repeat (first | (with_reducible first | exact HB.out | apply eA | apply eN | apply eD | refine eS ?_ GE729.out) | exact HB.out)) hb); clear B729; clear HB; have B729 := n0_; have HB := n1_; clear n0_ n1_; (try clear hb); (try clear hb2); (try clear hk); (try clear hi); obtain ⟨z6_0, z6_1, z6_2, z6_3, z6_4, z6_5, z6_6, z6_7, z6_8, z6_9, z6_10, z6_11, z6_12, z6_13, f6_0, f6_1, f6_2, f6_3, f6_4, f6_5, f6_6, f6_7, f6_8, f6_9, f6_10, f6_11, f6_12, f6_13⟩ := cells14 B729.out) | ((with_reducible refine gate_dst (N := 6) rfl ?_); refine box_event ?hg (N := 6) ?hd (cs := #[.int .i64 0, .int .i64 0, .string (⟨#[]⟩ : ByteArray), .string (⟨#[]⟩ : ByteArray), .int .i64 0, .int .i64 0, .int .i64 0, .int .i64 0, .int .i64 0, .int .u32 0, .int .i64 0, .int .i64 0, .string (⟨#[]⟩ : ByteArray), .bool false]) (t := 28) ?hr ?_; (case hd => rfl); (case hg => rfl); (case hr => first | (go_simp; done) | (go_simp; rfl)); intro g731 hg w7 hbox hb; have n0_ := qM (qB (g := g729) (by (with_reducible repeat first | refine qN ?_ _ | refine qD ?_ | refine qA ?_ _); exact B729.out) hb); have n1_ := qM (eT (by repeat (first | (with_reducible first | exact HB.out | apply eA | apply eN | apply eD | refine eS ?_ GE729.out) | exact HB.out)) hb); have n2_ := qM (hbox); have n3_ := qM ((by rw [hg]; exact (eZ (by repeat (first | (with_reducible first | exact HB.out | apply eA | apply eN | apply eD | refine eS ?_ GE729.out) | exact HB.out))) : w.heap.size ≤ g731)); have n4_ := n3_; have n5_ := qM ((by rw [hg]; exact Nat.ne_of_lt (qL (g := g729) (by (with_reducible repeat first | refine qN ?_ _ | refine qD ?_ | refine qA ?_ _); exact B729.out)) : g729 ≠ g731)); have n6_ := qM (Ne.symm n5_.out); clear B729; clear HB; have B729 := n0_; have HB := n1_; have B731 := n2_; have GW731 := n3_; have GE731 := n4_; have NB729_731 := n5_; have NB731_729 := n6_; clear n0_ n1_ n2_ n3_ n4_ n5_ n6_; clear hb hbox hg; have hnb8 := NB731_729.out; have hnc8 := NB729_731.out; obtain ⟨z9_0, z9_1, z9_2, z9_3, z9_4, z9_5, z9_6, z9_7, z9_8, z9_9, z9_10, z9_11, z9_12, z9_13, f9_0, f9_1, f9_2, f9_3, f9_4, f9_5, f9_6, f9_7, f9_8, f9_9, f9_10, f9_11, f9_12, f9_13⟩ := cells14 B731.out))
 go_loopg [7] k (fun kq v7 w' => ∃ (x7_1 : Int) (x730000_1 : Int) (x730001_1 : Int) (x730002_1 : ByteArray) (x730003_1 : ByteArray) (x730004_1 : Int) (x730005_1 : Int) (x730006_1 : Int) (x730007_1 : Int) (x730008_1 : Int) (x730009_1 : Int) (x730010_1 : Int) (x730011_1 : Int) (x730012_1 : ByteArray) (x730013_1 : Bool), v7 = .int .i64 x7_1 ∧ Aside0 (hogsheadlaw17_DeedEnds.l0 kq l1 t730 x7_1 x730000_1 x730001_1 x730002_1 x730003_1 x730004_1 x730005_1 x730006_1 x730007_1 x730008_1 x730009_1 x730010_1 x730011_1 x730012_1 x730013_1 a0_0 a0_1 a0_2 a0_3 a0_4 a0_5 a0_6 a0_7 a0_8 a0_9 a0_10 a0_11 a0_12 a0_13 = some r) ∧ Aside0 (kq ≤ k) ∧ Aside0 (w'.heap[g729]? = some (.cells #[.int .i64 x730000_1, .int .i64 x730001_1, .string x730002_1, .string x730003_1, .int .i64 x730004_1, .int .i64 x730005_1, .int .i64 x730006_1, .int .i64 x730007_1, .int .i64 x730008_1, .int .u32 x730009_1, .int .i64 x730010_1, .int .i64 x730011_1, .string x730012_1, .bool x730013_1] 28 (0, 0))) ∧ Aside0 (w'.heap[g731]? = some (.cells #[.int .i64 a0_0, .int .i64 a0_1, .string a0_2, .string a0_3, .int .i64 a0_4, .int .i64 a0_5, .int .i64 a0_6, .int .i64 a0_7, .int .i64 a0_8, .int .u32 a0_9, .int .i64 a0_10, .int .i64 a0_11, .string a0_12, .bool a0_13] 28 (0, 0))) ∧ Aside0 (Below w.heap.size w w'))
 case atStart => exact ⟨(0), (a0_0), (a0_1), (a0_2), (a0_3), (a0_4), (a0_5), (a0_6), (a0_7), (a0_8), (a0_9), (a0_10), (a0_11), (a0_12), (a0_13), (by first | rfl | (simp; done) | (simp [*]; done)), H', ⟨Nat.le_refl _⟩, ⟨by (with_reducible repeat first | refine qN ?_ _ | refine qD ?_ | refine qA ?_ _); (iterate 14 (refine qR ?_ NB729_731.out _; (with_reducible repeat first | refine qN ?_ _ | refine qD ?_ | refine qA ?_ _))); exact B729.out⟩, ⟨by (with_reducible repeat first | refine qN ?_ _ | refine qD ?_ | refine qA ?_ _); apply puts14; (with_reducible repeat first | refine qN ?_ _ | refine qD ?_ | refine qA ?_ _); exact B731.out⟩, ⟨by repeat (first | (with_reducible first | exact HB.out | apply eA | apply eN | apply eD | refine eS ?_ GE729.out | refine eS ?_ GE731.out) | exact HB.out)⟩⟩
 case round =>
  clear H'
  try clear c1
  try clear p2
  try clear c6
  try clear c8
  try clear c9
  try clear z6_0
  try clear z6_1
  try clear z6_10
  try clear z6_11
  try clear z6_12
  try clear z6_13
  try clear z6_2
  try clear z6_3
  try clear z6_4
  try clear z6_5
  try clear z6_6
  try clear z6_7
  try clear z6_8
  try clear z6_9
  try clear z9_0
  try clear z9_1
  try clear z9_10
  try clear z9_11
  try clear z9_12
  try clear z9_13
  try clear z9_2
  try clear z9_3
  try clear z9_4
  try clear z9_5
  try clear z9_6
  try clear z9_7
  try clear z9_8
  try clear z9_9
  try clear f6_0
  try clear f6_1
  try clear f6_10
  try clear f6_11
  try clear f6_12
  try clear f6_13
  try clear f6_2
  try clear f6_3
  try clear f6_4
  try clear f6_5
  try clear f6_6
  try clear f6_7
  try clear f6_8
  try clear f6_9
  try clear f9_0
  try clear f9_1
  try clear f9_10
  try clear f9_11
  try clear f9_12
  try clear f9_13
  try clear f9_2
  try clear f9_3
  try clear f9_4
  try clear f9_5
  try clear f9_6
  try clear f9_7
  try clear f9_8
  try clear f9_9
  obtain ⟨x7_1, x730000_1, x730001_1, x730002_1, x730003_1, x730004_1, x730005_1, x730006_1, x730007_1, x730008_1, x730009_1, x730010_1, x730011_1, x730012_1, x730013_1, rfl, HA, HK1, B729, B731, HB⟩ := hrel
  cases gk with
  | zero => exact absurd HA.out (by simp [hogsheadlaw17_DeedEnds.l0])
  | succ k1 =>
   have H := HA.out
   clear HA
   simp only [hogsheadlaw17_DeedEnds.l0] at H
   by_cases c10 : x7_1 < (l1.length : Int)
   ·rw [if_pos c10] at H
    have c10b0 : decide (x7_1 < (l1.length : Int)) = true := decide_eq_true c10
    clear c10
    by_cases c11 : 0 ≤ x7_1
    ·rw [if_pos c11] at H
     have c11b0 : decide (0 ≤ x7_1) = true := decide_eq_true c11
     clear c11
     replace H := Option.bind_eq_some_iff.mp H
     obtain ⟨⟨t733, t734, t735, t736, t737, t738, t739, t740, t741, t742, t743, t744, t745, t746⟩, A120, H⟩ := H
     replace H : (if x730005_1 = 8 then (hogsheadlaw17_DeedEnds.j1 k1 l1 t730 x7_1 (!(t733 == x730000_1) || (!(t734 == x730001_1) || (!(t735.toList == x730002_1.toList) || (!(t736.toList == x730003_1.toList) || (!(t737 == x730004_1) || (!(t738 == x730005_1) || (!(t739 == x730006_1) || (!(t740 == x730007_1) || (!(t741 == x730008_1) || (!(t742 == x730009_1) || (!(t743 == x730010_1) || (!(t744 == x730011_1) || (!(t745.toList == x730012_1.toList) || (!(t746 == x730013_1))))))))))))))) a0_0 a0_1 a0_2 a0_3 a0_4 a0_5 a0_6 a0_7 a0_8 a0_9 a0_10 a0_11 a0_12 a0_13 t733 t734 t735 t736 t737 t738 t739 t740 t741 t742 t743 t744 t745 t746) else (hogsheadlaw17_DeedEnds.j1 k1 l1 t730 x7_1 false a0_0 a0_1 a0_2 a0_3 a0_4 a0_5 a0_6 a0_7 a0_8 a0_9 a0_10 a0_11 a0_12 a0_13 t733 t734 t735 t736 t737 t738 t739 t740 t741 t742 t743 t744 t745 t746)) = some r := H
     have A12 := qM A120
     clear A120
     have HC13 := qM H
     clear H
     try go_wp2
     have n0_ := qM (blk_drew B729.out)
     have n1_ := qM (blk_drew B731.out)
     have n2_ := qM (below_drew1 HB.out)
     clear B729
     clear B731
     clear HB
     have B729 := n0_
     have B731 := n1_
     have HB := n2_
     clear n0_ n1_ n2_
     have p732 : 0 ≤ (x7_1 : Int) := of_decide_eq_true (by first | (with_reducible assumption) | assumption)
     have q732 : x7_1 < (l1.length : Int) := of_decide_eq_true (by first | (with_reducible assumption) | assumption)
     obtain ⟨ad732, e732, hx732_0, hx732_1, hx732_2, hx732_3, hx732_4, hx732_5, hx732_6, hx732_7, hx732_8, hx732_9⟩ := at_T54 HR1.out x7_1 p732 q732
     have hw732_9 := hx732_9
     have hw732_8 := hx732_8
     have hw732_7 := hx732_7
     have hw732_6 := hx732_6
     have hw732_5 := hx732_5
     have hw732_4 := hx732_4
     have hw732_3 := hx732_3
     have hw732_2 := hx732_2
     have hw732_1 := hx732_1
     have hw732_0 := hx732_0
     cases e732
     replace hx732_0 := (HB.out.cell (World.block_lt_of_cell? w _ hx732_0)).trans hx732_0
     replace hx732_1 := (HB.out.cell (World.block_lt_of_cell? w _ hx732_1)).trans hx732_1
     replace hx732_2 := (HB.out.cell (World.block_lt_of_cell? w _ hx732_2)).trans hx732_2
     replace hx732_3 := (HB.out.cell (World.block_lt_of_cell? w _ hx732_3)).trans hx732_3
     replace hx732_4 := (HB.out.cell (World.block_lt_of_cell? w _ hx732_4)).trans hx732_4
     replace hx732_5 := (HB.out.cell (World.block_lt_of_cell? w _ hx732_5)).trans hx732_5
     replace hx732_6 := (HB.out.cell (World.block_lt_of_cell? w _ hx732_6)).trans hx732_6
     replace hx732_7 := (HB.out.cell (World.block_lt_of_cell? w _ hx732_7)).trans hx732_7
     replace hx732_8 := (HB.out.cell (World.block_lt_of_cell? w _ hx732_8)).trans hx732_8
     replace hx732_9 := (HB.out.cell (World.block_lt_of_cell? w _ hx732_9)).trans hx732_9
     replace p732 := eq_true p732
     replace q732 := eq_true q732
     refine start_ (n := 8) (S := fun w' => w'.cell? ⟨g729, 0, none⟩ = some (.int .i64 x730000_1) ∧ w'.cell? ⟨g729, 1, none⟩ = some (.int .i64 x730001_1) ∧ w'.cell? ⟨g729, 2, none⟩ = some (.string x730002_1) ∧ w'.cell? ⟨g729, 3, none⟩ = some (.string x730003_1) ∧ w'.cell? ⟨g729, 4, none⟩ = some (.int .i64 x730004_1) ∧ w'.cell? ⟨g729, 5, none⟩ = some (.int .i64 x730005_1) ∧ w'.cell? ⟨g729, 6, none⟩ = some (.int .i64 x730006_1) ∧ w'.cell? ⟨g729, 7, none⟩ = some (.int .i64 x730007_1) ∧ w'.cell? ⟨g729, 8, none⟩ = some (.int .i64 x730008_1) ∧ w'.cell? ⟨g729, 9, none⟩ = some (.int .u32 x730009_1) ∧ w'.cell? ⟨g729, 10, none⟩ = some (.int .i64 x730010_1) ∧ w'.cell? ⟨g729, 11, none⟩ = some (.int .i64 x730011_1) ∧ w'.cell? ⟨g729, 12, none⟩ = some (.string x730012_1) ∧ w'.cell? ⟨g729, 13, none⟩ = some (.bool x730013_1) ∧ w'.cell? (ad732.add ((x7_1).toNat * 10)) = some (.int .i64 ((rd_T54 l1 x7_1).f0)) ∧ w'.cell? ⟨(ad732.add ((x7_1).toNat * 10)).block, (ad732.add ((x7_1).toNat * 10)).off + 1, none⟩ = some (.int .i64 ((rd_T54 l1 x7_1).f1)) ∧ w'.cell? ⟨(ad732.add ((x7_1).toNat * 10)).block, (ad732.add ((x7_1).toNat * 10)).off + 2, none⟩ = some (.int .i64 ((rd_T54 l1 x7_1).f2.f0)) ∧ w'.cell? ⟨(ad732.add ((x7_1).toNat * 10)).block, (ad732.add ((x7_1).toNat * 10)).off + 3, none⟩ = some (.int .i64 ((rd_T54 l1 x7_1).f2.f1)) ∧ w'.cell? ⟨(ad732.add ((x7_1).toNat * 10)).block, (ad732.add ((x7_1).toNat * 10)).off + 4, none⟩ = some (.int .i64 ((rd_T54 l1 x7_1).f2.f2)) ∧ w'.cell? ⟨(ad732.add ((x7_1).toNat * 10)).block, (ad732.add ((x7_1).toNat * 10)).off + 5, none⟩ = some (.int .i64 ((rd_T54 l1 x7_1).f2.f3)) ∧ w'.cell? ⟨(ad732.add ((x7_1).toNat * 10)).block, (ad732.add ((x7_1).toNat * 10)).off + 6, none⟩ = some (.int .u32 ((rd_T54 l1 x7_1).f2.f4)) ∧ w'.cell? ⟨(ad732.add ((x7_1).toNat * 10)).block, (ad732.add ((x7_1).toNat * 10)).off + 7, none⟩ = some (.bool ((rd_T54 l1 x7_1).f2.f5)) ∧ w'.cell? ⟨(ad732.add ((x7_1).toNat * 10)).block, (ad732.add ((x7_1).toNat * 10)).off + 8, none⟩ = some (.string ((rd_T54 l1 x7_1).f3)) ∧ w'.cell? ⟨(ad732.add ((x7_1).toNat * 10)).block, (ad732.add ((x7_1).toNat * 10)).off + 9, none⟩ = some (.int .i64 ((rd_T54 l1 x7_1).f4))) (ds := []) #[false, false, false, false, false, false, false, false] (by kernel_rfl) rfl rfl ⟨(qC B729.out 0).trans rfl, (qC B729.out 1).trans rfl, (qC B729.out 2).trans rfl, (qC B729.out 3).trans rfl, (qC B729.out 4).trans rfl, (qC B729.out 5).trans rfl, (qC B729.out 6).trans rfl, (qC B729.out 7).trans rfl, (qC B729.out 8).trans rfl, (qC B729.out 9).trans rfl, (qC B729.out 10).trans rfl, (qC B729.out 11).trans rfl, (qC B729.out 12).trans rfl, (qC B729.out 13).trans rfl, ((HB.out.cell (World.block_lt_of_cell? w _ hw732_0)).trans hw732_0), ((HB.out.cell (World.block_lt_of_cell? w _ hw732_1)).trans hw732_1), ((HB.out.cell (World.block_lt_of_cell? w _ hw732_2)).trans hw732_2), ((HB.out.cell (World.block_lt_of_cell? w _ hw732_3)).trans hw732_3), ((HB.out.cell (World.block_lt_of_cell? w _ hw732_4)).trans hw732_4), ((HB.out.cell (World.block_lt_of_cell? w _ hw732_5)).trans hw732_5), ((HB.out.cell (World.block_lt_of_cell? w _ hw732_6)).trans hw732_6), ((HB.out.cell (World.block_lt_of_cell? w _ hw732_7)).trans hw732_7), ((HB.out.cell (World.block_lt_of_cell? w _ hw732_8)).trans hw732_8), ((HB.out.cell (World.block_lt_of_cell? w _ hw732_9)).trans hw732_9)⟩ (fun hHeld => ?_); refine with_tabW hogsheadlaw17_DeedEnds.tab6 hogsheadlaw17_DeedEnds.bits6 (fun HT_ HW_ => ?_)
     generalize wr.drew = w14 at B729 B731 HB hx732_0 hx732_1 hx732_2 hx732_3 hx732_4 hx732_5 hx732_6 hx732_7 hx732_8 hx732_9 hHeld ⊢
     refine pure_ (i := 1) (N := some 18) (v := ?_) (a' := ?_) #[false, true, false, false, false, false, false, false] rfl rfl (any_of HT_.out (by kernel_rfl)) (fun _ _ _ h => h) (Or.inl ⟨by rfl, ?_⟩) ?_ ?_
     rotate_left
     ·intro w'; go_simp; with_reducible rfl
     rotate_left
     ·simp only [Act.put, xA, xZ, xS, i64_w, i32_w]; rfl
     refine pure_ (i := 2) (N := some 19) (v := ?_) (a' := ?_) #[false, true, true, false, false, false, false, false] rfl rfl (any_of HT_.out (by kernel_rfl)) (fun _ _ _ h => h) (Or.inl ⟨by rfl, ?_⟩) ?_ ?_
     rotate_left
     ·intro w'; go_simp; with_reducible rfl
     rotate_left
     ·simp only [Act.put, xA, xZ, xS, i64_w, i32_w]; rfl
     refine pure_ (i := 3) (N := some 20) (v := ?_) (a' := ?_) #[false, true, true, true, false, false, false, false] rfl rfl (any_of HT_.out (by kernel_rfl)) (fun _ _ _ h => h) (Or.inl ⟨by rfl, ?_⟩) ?_ ?_
     rotate_left
     ·intro w'; go_simp; with_reducible rfl
     rotate_left
     ·simp only [Act.put, xA, xZ, xS, i64_w, i32_w]; rfl
     refine take_ (i := 0) (N := some 17) (v := ?_) (a' := ?_) #[true, true, true, true, false, false, false, false] rfl rfl (take_ofW HT_.out HW_.out (by kernel_rfl)) (fun _ _ _ h => h) (Or.inl ⟨by rfl, ?_⟩) hHeld ?_ ?_
     rotate_left
     ·rintro w' ⟨s0, s1, s2, s3, s4, s5, s6, s7, s8, s9, s10, s11, s12, s13, s14, s15, s16, s17, s18, s19, s20, s21, s22, s23⟩; go_simp; with_reducible rfl
     rotate_left
     ·simp only [Act.put, xA, xZ, xS, i64_w, i32_w]; rfl
     refine take_ (i := 4) (N := some 21) (v := ?_) (a' := ?_) #[true, true, true, true, true, false, false, false] rfl rfl (take_ofW HT_.out HW_.out (by kernel_rfl)) (fun _ _ _ h => h) (Or.inl ⟨by rfl, ?_⟩) hHeld ?_ ?_
     rotate_left
     ·rintro w' ⟨s0, s1, s2, s3, s4, s5, s6, s7, s8, s9, s10, s11, s12, s13, s14, s15, s16, s17, s18, s19, s20, s21, s22, s23⟩; go_simp; with_reducible rfl
     rotate_left
     ·simp only [Act.put, xA, xZ, xS, i64_w, i32_w]; rfl
     refine join_ (σ := Nat) 1 #[true, true, true, true, true, true, true, false] (fun s_ => [(22, .agg #[.int .i64 t733, .int .i64 t734, .string t735, .string t736, .int .i64 t737, .int .i64 t738, .int .i64 t739, .int .i64 t740, .int .i64 t741, .int .u32 t742, .int .i64 t743, .int .i64 t744, .string t745, .bool t746]), (8, .pointer (some ⟨s_, 0, none⟩))]) (fun s_ w' => (w'.cell? ⟨g729, 0, none⟩ = some (.int .i64 x730000_1) ∧ w'.cell? ⟨g729, 1, none⟩ = some (.int .i64 x730001_1) ∧ w'.cell? ⟨g729, 2, none⟩ = some (.string x730002_1) ∧ w'.cell? ⟨g729, 3, none⟩ = some (.string x730003_1) ∧ w'.cell? ⟨g729, 4, none⟩ = some (.int .i64 x730004_1) ∧ w'.cell? ⟨g729, 5, none⟩ = some (.int .i64 x730005_1) ∧ w'.cell? ⟨g729, 6, none⟩ = some (.int .i64 x730006_1) ∧ w'.cell? ⟨g729, 7, none⟩ = some (.int .i64 x730007_1) ∧ w'.cell? ⟨g729, 8, none⟩ = some (.int .i64 x730008_1) ∧ w'.cell? ⟨g729, 9, none⟩ = some (.int .u32 x730009_1) ∧ w'.cell? ⟨g729, 10, none⟩ = some (.int .i64 x730010_1) ∧ w'.cell? ⟨g729, 11, none⟩ = some (.int .i64 x730011_1) ∧ w'.cell? ⟨g729, 12, none⟩ = some (.string x730012_1) ∧ w'.cell? ⟨g729, 13, none⟩ = some (.bool x730013_1) ∧ w'.cell? (ad732.add ((x7_1).toNat * 10)) = some (.int .i64 ((rd_T54 l1 x7_1).f0)) ∧ w'.cell? ⟨(ad732.add ((x7_1).toNat * 10)).block, (ad732.add ((x7_1).toNat * 10)).off + 1, none⟩ = some (.int .i64 ((rd_T54 l1 x7_1).f1)) ∧ w'.cell? ⟨(ad732.add ((x7_1).toNat * 10)).block, (ad732.add ((x7_1).toNat * 10)).off + 2, none⟩ = some (.int .i64 ((rd_T54 l1 x7_1).f2.f0)) ∧ w'.cell? ⟨(ad732.add ((x7_1).toNat * 10)).block, (ad732.add ((x7_1).toNat * 10)).off + 3, none⟩ = some (.int .i64 ((rd_T54 l1 x7_1).f2.f1)) ∧ w'.cell? ⟨(ad732.add ((x7_1).toNat * 10)).block, (ad732.add ((x7_1).toNat * 10)).off + 4, none⟩ = some (.int .i64 ((rd_T54 l1 x7_1).f2.f2)) ∧ w'.cell? ⟨(ad732.add ((x7_1).toNat * 10)).block, (ad732.add ((x7_1).toNat * 10)).off + 5, none⟩ = some (.int .i64 ((rd_T54 l1 x7_1).f2.f3)) ∧ w'.cell? ⟨(ad732.add ((x7_1).toNat * 10)).block, (ad732.add ((x7_1).toNat * 10)).off + 6, none⟩ = some (.int .u32 ((rd_T54 l1 x7_1).f2.f4)) ∧ w'.cell? ⟨(ad732.add ((x7_1).toNat * 10)).block, (ad732.add ((x7_1).toNat * 10)).off + 7, none⟩ = some (.bool ((rd_T54 l1 x7_1).f2.f5)) ∧ w'.cell? ⟨(ad732.add ((x7_1).toNat * 10)).block, (ad732.add ((x7_1).toNat * 10)).off + 8, none⟩ = some (.string ((rd_T54 l1 x7_1).f3)) ∧ w'.cell? ⟨(ad732.add ((x7_1).toNat * 10)).block, (ad732.add ((x7_1).toNat * 10)).off + 9, none⟩ = some (.int .i64 ((rd_T54 l1 x7_1).f4))) ∧ (w'.heap[g729]? = some (.cells #[.int .i64 x730000_1, .int .i64 x730001_1, .string x730002_1, .string x730003_1, .int .i64 x730004_1, .int .i64 x730005_1, .int .i64 x730006_1, .int .i64 x730007_1, .int .i64 x730008_1, .int .u32 x730009_1, .int .i64 x730010_1, .int .i64 x730011_1, .string x730012_1, .bool x730013_1] 28 (0, 0))) ∧ (w'.heap[g731]? = some (.cells #[.int .i64 a0_0, .int .i64 a0_1, .string a0_2, .string a0_3, .int .i64 a0_4, .int .i64 a0_5, .int .i64 a0_6, .int .i64 a0_7, .int .i64 a0_8, .int .u32 a0_9, .int .i64 a0_10, .int .i64 a0_11, .string a0_12, .bool a0_13] 28 (0, 0))) ∧ (w'.heap[s_]? = some (.cells #[.int .i64 0, .int .i64 0, .string (⟨#[]⟩ : ByteArray), .string (⟨#[]⟩ : ByteArray), .int .i64 0, .int .i64 0, .int .i64 0, .int .i64 0, .int .i64 0, .int .u32 0, .int .i64 0, .int .i64 0, .string (⟨#[]⟩ : ByteArray), .bool false] 28 (0, 0))) ∧ (w.heap.size ≤ s_) ∧ (w.heap.size ≤ s_) ∧ (g729 ≠ s_) ∧ (s_ ≠ g729) ∧ (g731 ≠ s_) ∧ (s_ ≠ g731) ∧ (Below w.heap.size w w')) ?_ ?_
     rotate_left
     ·intro hCont
      refine two_ (i := 5) (j := 6) (Ni := some 22) (Nj := some 8) #[true, true, true, true, true, true, false, false] #[true, true, true, true, true, false, true, false] rfl rfl rfl rfl (two_of HT_.out (by kernel_rfl)) (by decide) (by decide) (fun K hK => ?_) (fun K hK => ?_)
      ·skip
       refine goes_ Try.func25 (by kernel_rfl) rfl #[.agg #[.int .i64 x730000_1, .int .i64 x730001_1, .string x730002_1, .string x730003_1, .int .i64 x730004_1, .int .i64 x730005_1, .int .i64 x730006_1, .int .i64 x730007_1, .int .i64 x730008_1, .int .u32 x730009_1, .int .i64 x730010_1, .int .i64 x730011_1, .string x730012_1, .bool x730013_1], .agg #[.int .i64 ((rd_T54 l1 x7_1).f0), .int .i64 ((rd_T54 l1 x7_1).f1), .int .i64 ((rd_T54 l1 x7_1).f2.f0), .int .i64 ((rd_T54 l1 x7_1).f2.f1), .int .i64 ((rd_T54 l1 x7_1).f2.f2), .int .i64 ((rd_T54 l1 x7_1).f2.f3), .int .u32 ((rd_T54 l1 x7_1).f2.f4), .bool ((rd_T54 l1 x7_1).f2.f5), .string ((rd_T54 l1 x7_1).f3), .int .i64 ((rd_T54 l1 x7_1).f4)]] (by rfl) rfl rfl (by (try simp only [List.map_toArray, List.map_cons, List.map_nil]); first | done | rfl | (simp only [List.length_drop, List.length_take]; rfl)) ?_
       with_reducible refine (hogsheadlaw17_comes.calls k1 x730000_1 x730001_1 x730002_1 x730003_1 x730004_1 x730005_1 x730006_1 x730007_1 x730008_1 x730009_1 x730010_1 x730011_1 x730012_1 x730013_1 ((rd_T54 l1 x7_1).f0) ((rd_T54 l1 x7_1).f1) ((rd_T54 l1 x7_1).f2.f0) ((rd_T54 l1 x7_1).f2.f1) ((rd_T54 l1 x7_1).f2.f2) ((rd_T54 l1 x7_1).f2.f3) ((rd_T54 l1 x7_1).f2.f4) ((rd_T54 l1 x7_1).f2.f5) ((rd_T54 l1 x7_1).f3) ((rd_T54 l1 x7_1).f4) t733 t734 t735 t736 t737 t738 t739 t740 t741 t742 t743 t744 t745 t746 _ A12.out).mono ?_
       rintro e w15 ⟨rfl, hb⟩
       refine ⟨_, rfl, ?_⟩
       have n0_ := qM (qB (g := g729) (by (with_reducible repeat first | refine qN ?_ _ | refine qD ?_ | refine qA ?_ _); exact B729.out) hb)
       have n1_ := qM (qB (g := g731) (by (with_reducible repeat first | refine qN ?_ _ | refine qD ?_ | refine qA ?_ _); exact B731.out) hb)
       have n2_ := qM (eT (by repeat (first | (with_reducible first | exact HB.out | apply eA | apply eN | apply eD | refine eS ?_ GE729.out | refine eS ?_ GE731.out) | exact HB.out)) hb)
       clear B729
       clear B731
       clear HB
       have B729 := n0_
       have B731 := n1_
       have HB := n2_
       clear n0_ n1_ n2_
       (try clear hb)
       (try clear hb2)
       (try clear hk)
       (try clear hi)
       refine hK.out _ _ ⟨(qC B729.out 0).trans rfl, (qC B729.out 1).trans rfl, (qC B729.out 2).trans rfl, (qC B729.out 3).trans rfl, (qC B729.out 4).trans rfl, (qC B729.out 5).trans rfl, (qC B729.out 6).trans rfl, (qC B729.out 7).trans rfl, (qC B729.out 8).trans rfl, (qC B729.out 9).trans rfl, (qC B729.out 10).trans rfl, (qC B729.out 11).trans rfl, (qC B729.out 12).trans rfl, (qC B729.out 13).trans rfl, ((HB.out.cell (World.block_lt_of_cell? w _ hw732_0)).trans hw732_0), ((HB.out.cell (World.block_lt_of_cell? w _ hw732_1)).trans hw732_1), ((HB.out.cell (World.block_lt_of_cell? w _ hw732_2)).trans hw732_2), ((HB.out.cell (World.block_lt_of_cell? w _ hw732_3)).trans hw732_3), ((HB.out.cell (World.block_lt_of_cell? w _ hw732_4)).trans hw732_4), ((HB.out.cell (World.block_lt_of_cell? w _ hw732_5)).trans hw732_5), ((HB.out.cell (World.block_lt_of_cell? w _ hw732_6)).trans hw732_6), ((HB.out.cell (World.block_lt_of_cell? w _ hw732_7)).trans hw732_7), ((HB.out.cell (World.block_lt_of_cell? w _ hw732_8)).trans hw732_8), ((HB.out.cell (World.block_lt_of_cell? w _ hw732_9)).trans hw732_9)⟩ (fun hHeld => ?_)
       clear hK K
       refine norm_ (a' := ?_) ?_ ?_
       rotate_left
       ·show Act.put _ (some 22) _ = _
        simp only [Act.put, xA, xZ, xS, i64_w, i32_w]
        rfl
       refine one_ (i := 6) (N := some 8) #[true, true, true, true, true, true, true, false] rfl rfl (one_of HT_.out (by kernel_rfl)) (by decide) (fun K hK => ?_)
       refine box_step ?hg (N := 8) ?hd (cs := #[.int .i64 0, .int .i64 0, .string (⟨#[]⟩ : ByteArray), .string (⟨#[]⟩ : ByteArray), .int .i64 0, .int .i64 0, .int .i64 0, .int .i64 0, .int .i64 0, .int .u32 0, .int .i64 0, .int .i64 0, .string (⟨#[]⟩ : ByteArray), .bool false]) (t := 28) ?hr ?_; (case hd => rfl); (case hg => rfl); (case hr => first | (go_simp; done) | (go_simp; rfl))
       intro g747 hg w16 hbox hb
       have n0_ := qM (qB (g := g729) (by (with_reducible repeat first | refine qN ?_ _ | refine qD ?_ | refine qA ?_ _); exact B729.out) hb)
       have n1_ := qM (qB (g := g731) (by (with_reducible repeat first | refine qN ?_ _ | refine qD ?_ | refine qA ?_ _); exact B731.out) hb)
       have n2_ := qM (eT (by repeat (first | (with_reducible first | exact HB.out | apply eA | apply eN | apply eD | refine eS ?_ GE729.out | refine eS ?_ GE731.out) | exact HB.out)) hb)
       have n3_ := qM (hbox)
       have n4_ := qM ((by rw [hg]; exact (eZ (by repeat (first | (with_reducible first | exact HB.out | apply eA | apply eN | apply eD | refine eS ?_ GE729.out | refine eS ?_ GE731.out) | exact HB.out))) : w.heap.size ≤ g747))
       have n5_ := qM ((by rw [hg]; exact (eZ (by repeat (first | (with_reducible first | exact HB.out | apply eA | apply eN | apply eD | refine eS ?_ GE729.out | refine eS ?_ GE731.out) | exact HB.out))) : w.heap.size ≤ g747))
       have n6_ := qM ((by rw [hg]; exact Nat.ne_of_lt (qL (g := g729) (by (with_reducible repeat first | refine qN ?_ _ | refine qD ?_ | refine qA ?_ _); exact B729.out)) : g729 ≠ g747))
       have n7_ := qM ((by rw [hg]; exact Nat.ne_of_gt (qL (g := g729) (by (with_reducible repeat first | refine qN ?_ _ | refine qD ?_ | refine qA ?_ _); exact B729.out)) : g747 ≠ g729))
       have n8_ := qM ((by rw [hg]; exact Nat.ne_of_lt (qL (g := g731) (by (with_reducible repeat first | refine qN ?_ _ | refine qD ?_ | refine qA ?_ _); exact B731.out)) : g731 ≠ g747))
       have n9_ := qM ((by rw [hg]; exact Nat.ne_of_gt (qL (g := g731) (by (with_reducible repeat first | refine qN ?_ _ | refine qD ?_ | refine qA ?_ _); exact B731.out)) : g747 ≠ g731))
       clear B729
       clear B731
       clear HB
       have B729 := n0_
       have B731 := n1_
       have HB := n2_
       have B747 := n3_
       have GW747 := n4_
       have GE747 := n5_
       have NB729_747 := n6_
       have NB747_729 := n7_
       have NB731_747 := n8_
       have NB747_731 := n9_
       clear n0_ n1_ n2_ n3_ n4_ n5_ n6_ n7_ n8_ n9_
       clear hb hbox hg
       refine hK.out _ _ ⟨(qC B729.out 0).trans rfl, (qC B729.out 1).trans rfl, (qC B729.out 2).trans rfl, (qC B729.out 3).trans rfl, (qC B729.out 4).trans rfl, (qC B729.out 5).trans rfl, (qC B729.out 6).trans rfl, (qC B729.out 7).trans rfl, (qC B729.out 8).trans rfl, (qC B729.out 9).trans rfl, (qC B729.out 10).trans rfl, (qC B729.out 11).trans rfl, (qC B729.out 12).trans rfl, (qC B729.out 13).trans rfl, ((HB.out.cell (World.block_lt_of_cell? w _ hw732_0)).trans hw732_0), ((HB.out.cell (World.block_lt_of_cell? w _ hw732_1)).trans hw732_1), ((HB.out.cell (World.block_lt_of_cell? w _ hw732_2)).trans hw732_2), ((HB.out.cell (World.block_lt_of_cell? w _ hw732_3)).trans hw732_3), ((HB.out.cell (World.block_lt_of_cell? w _ hw732_4)).trans hw732_4), ((HB.out.cell (World.block_lt_of_cell? w _ hw732_5)).trans hw732_5), ((HB.out.cell (World.block_lt_of_cell? w _ hw732_6)).trans hw732_6), ((HB.out.cell (World.block_lt_of_cell? w _ hw732_7)).trans hw732_7), ((HB.out.cell (World.block_lt_of_cell? w _ hw732_8)).trans hw732_8), ((HB.out.cell (World.block_lt_of_cell? w _ hw732_9)).trans hw732_9)⟩ (fun hHeld => ?_)
       clear hK K
       refine norm_ (a' := ?_) ?_ ?_
       rotate_left
       ·show Act.put _ (some 8) _ = _
        simp only [Act.put, xA, xZ, xS, i64_w, i32_w]
        rfl
       exact norm_ (by simp only [putAll, Act.put, List.setIfInBounds_toArray, List.set_cons_zero, List.set_cons_succ]) (hCont (g747) _ ⟨hHeld, (by (with_reducible repeat first | refine qN ?_ _ | refine qD ?_ | refine qA ?_ _); exact B729.out), (by (with_reducible repeat first | refine qN ?_ _ | refine qD ?_ | refine qA ?_ _); exact B731.out), (by (with_reducible repeat first | refine qN ?_ _ | refine qD ?_ | refine qA ?_ _); exact B747.out), GW747.out, GE747.out, NB729_747.out, NB747_729.out, NB731_747.out, NB747_731.out, (by repeat (first | (with_reducible first | exact HB.out | apply eA | apply eN | apply eD | refine eS ?_ GE729.out | refine eS ?_ GE731.out | refine eS ?_ GE747.out) | exact HB.out))⟩)
      ·skip
       refine box_step ?hg (N := 8) ?hd (cs := #[.int .i64 0, .int .i64 0, .string (⟨#[]⟩ : ByteArray), .string (⟨#[]⟩ : ByteArray), .int .i64 0, .int .i64 0, .int .i64 0, .int .i64 0, .int .i64 0, .int .u32 0, .int .i64 0, .int .i64 0, .string (⟨#[]⟩ : ByteArray), .bool false]) (t := 28) ?hr ?_; (case hd => rfl); (case hg => rfl); (case hr => first | (go_simp; done) | (go_simp; rfl))
       intro g747 hg w15 hbox hb
       have n0_ := qM (qB (g := g729) (by (with_reducible repeat first | refine qN ?_ _ | refine qD ?_ | refine qA ?_ _); exact B729.out) hb)
       have n1_ := qM (qB (g := g731) (by (with_reducible repeat first | refine qN ?_ _ | refine qD ?_ | refine qA ?_ _); exact B731.out) hb)
       have n2_ := qM (eT (by repeat (first | (with_reducible first | exact HB.out | apply eA | apply eN | apply eD | refine eS ?_ GE729.out | refine eS ?_ GE731.out) | exact HB.out)) hb)
       have n3_ := qM (hbox)
       have n4_ := qM ((by rw [hg]; exact (eZ (by repeat (first | (with_reducible first | exact HB.out | apply eA | apply eN | apply eD | refine eS ?_ GE729.out | refine eS ?_ GE731.out) | exact HB.out))) : w.heap.size ≤ g747))
       have n5_ := qM ((by rw [hg]; exact (eZ (by repeat (first | (with_reducible first | exact HB.out | apply eA | apply eN | apply eD | refine eS ?_ GE729.out | refine eS ?_ GE731.out) | exact HB.out))) : w.heap.size ≤ g747))
       have n6_ := qM ((by rw [hg]; exact Nat.ne_of_lt (qL (g := g729) (by (with_reducible repeat first | refine qN ?_ _ | refine qD ?_ | refine qA ?_ _); exact B729.out)) : g729 ≠ g747))
       have n7_ := qM ((by rw [hg]; exact Nat.ne_of_gt (qL (g := g729) (by (with_reducible repeat first | refine qN ?_ _ | refine qD ?_ | refine qA ?_ _); exact B729.out)) : g747 ≠ g729))
       have n8_ := qM ((by rw [hg]; exact Nat.ne_of_lt (qL (g := g731) (by (with_reducible repeat first | refine qN ?_ _ | refine qD ?_ | refine qA ?_ _); exact B731.out)) : g731 ≠ g747))
       have n9_ := qM ((by rw [hg]; exact Nat.ne_of_gt (qL (g := g731) (by (with_reducible repeat first | refine qN ?_ _ | refine qD ?_ | refine qA ?_ _); exact B731.out)) : g747 ≠ g731))
       clear B729
       clear B731
       clear HB
       have B729 := n0_
       have B731 := n1_
       have HB := n2_
       have B747 := n3_
       have GW747 := n4_
       have GE747 := n5_
       have NB729_747 := n6_
       have NB747_729 := n7_
       have NB731_747 := n8_
       have NB747_731 := n9_
       clear n0_ n1_ n2_ n3_ n4_ n5_ n6_ n7_ n8_ n9_
       clear hb hbox hg
       refine hK.out _ _ ⟨(qC B729.out 0).trans rfl, (qC B729.out 1).trans rfl, (qC B729.out 2).trans rfl, (qC B729.out 3).trans rfl, (qC B729.out 4).trans rfl, (qC B729.out 5).trans rfl, (qC B729.out 6).trans rfl, (qC B729.out 7).trans rfl, (qC B729.out 8).trans rfl, (qC B729.out 9).trans rfl, (qC B729.out 10).trans rfl, (qC B729.out 11).trans rfl, (qC B729.out 12).trans rfl, (qC B729.out 13).trans rfl, ((HB.out.cell (World.block_lt_of_cell? w _ hw732_0)).trans hw732_0), ((HB.out.cell (World.block_lt_of_cell? w _ hw732_1)).trans hw732_1), ((HB.out.cell (World.block_lt_of_cell? w _ hw732_2)).trans hw732_2), ((HB.out.cell (World.block_lt_of_cell? w _ hw732_3)).trans hw732_3), ((HB.out.cell (World.block_lt_of_cell? w _ hw732_4)).trans hw732_4), ((HB.out.cell (World.block_lt_of_cell? w _ hw732_5)).trans hw732_5), ((HB.out.cell (World.block_lt_of_cell? w _ hw732_6)).trans hw732_6), ((HB.out.cell (World.block_lt_of_cell? w _ hw732_7)).trans hw732_7), ((HB.out.cell (World.block_lt_of_cell? w _ hw732_8)).trans hw732_8), ((HB.out.cell (World.block_lt_of_cell? w _ hw732_9)).trans hw732_9)⟩ (fun hHeld => ?_)
       clear hK K
       refine norm_ (a' := ?_) ?_ ?_
       rotate_left
       ·show Act.put _ (some 8) _ = _
        simp only [Act.put, xA, xZ, xS, i64_w, i32_w]
        rfl
       refine one_ (i := 5) (N := some 22) #[true, true, true, true, true, true, true, false] rfl rfl (one_of HT_.out (by kernel_rfl)) (by decide) (fun K hK => ?_)
       refine goes_ Try.func25 (by kernel_rfl) rfl #[.agg #[.int .i64 x730000_1, .int .i64 x730001_1, .string x730002_1, .string x730003_1, .int .i64 x730004_1, .int .i64 x730005_1, .int .i64 x730006_1, .int .i64 x730007_1, .int .i64 x730008_1, .int .u32 x730009_1, .int .i64 x730010_1, .int .i64 x730011_1, .string x730012_1, .bool x730013_1], .agg #[.int .i64 ((rd_T54 l1 x7_1).f0), .int .i64 ((rd_T54 l1 x7_1).f1), .int .i64 ((rd_T54 l1 x7_1).f2.f0), .int .i64 ((rd_T54 l1 x7_1).f2.f1), .int .i64 ((rd_T54 l1 x7_1).f2.f2), .int .i64 ((rd_T54 l1 x7_1).f2.f3), .int .u32 ((rd_T54 l1 x7_1).f2.f4), .bool ((rd_T54 l1 x7_1).f2.f5), .string ((rd_T54 l1 x7_1).f3), .int .i64 ((rd_T54 l1 x7_1).f4)]] (by rfl) rfl rfl (by (try simp only [List.map_toArray, List.map_cons, List.map_nil]); first | done | rfl | (simp only [List.length_drop, List.length_take]; rfl)) ?_
       with_reducible refine (hogsheadlaw17_comes.calls k1 x730000_1 x730001_1 x730002_1 x730003_1 x730004_1 x730005_1 x730006_1 x730007_1 x730008_1 x730009_1 x730010_1 x730011_1 x730012_1 x730013_1 ((rd_T54 l1 x7_1).f0) ((rd_T54 l1 x7_1).f1) ((rd_T54 l1 x7_1).f2.f0) ((rd_T54 l1 x7_1).f2.f1) ((rd_T54 l1 x7_1).f2.f2) ((rd_T54 l1 x7_1).f2.f3) ((rd_T54 l1 x7_1).f2.f4) ((rd_T54 l1 x7_1).f2.f5) ((rd_T54 l1 x7_1).f3) ((rd_T54 l1 x7_1).f4) t733 t734 t735 t736 t737 t738 t739 t740 t741 t742 t743 t744 t745 t746 _ A12.out).mono ?_
       rintro e w16 ⟨rfl, hb⟩
       refine ⟨_, rfl, ?_⟩
       have n0_ := qM (qB (g := g729) (by (with_reducible repeat first | refine qN ?_ _ | refine qD ?_ | refine qA ?_ _); exact B729.out) hb)
       have n1_ := qM (qB (g := g731) (by (with_reducible repeat first | refine qN ?_ _ | refine qD ?_ | refine qA ?_ _); exact B731.out) hb)
       have n2_ := qM (qB (g := g747) (by (with_reducible repeat first | refine qN ?_ _ | refine qD ?_ | refine qA ?_ _); exact B747.out) hb)
       have n3_ := qM (eT (by repeat (first | (with_reducible first | exact HB.out | apply eA | apply eN | apply eD | refine eS ?_ GE729.out | refine eS ?_ GE731.out | refine eS ?_ GE747.out) | exact HB.out)) hb)
       clear B729
       clear B731
       clear B747
       clear HB
       have B729 := n0_
       have B731 := n1_
       have B747 := n2_
       have HB := n3_
       clear n0_ n1_ n2_ n3_
       (try clear hb)
       (try clear hb2)
       (try clear hk)
       (try clear hi)
       refine hK.out _ _ ⟨(qC B729.out 0).trans rfl, (qC B729.out 1).trans rfl, (qC B729.out 2).trans rfl, (qC B729.out 3).trans rfl, (qC B729.out 4).trans rfl, (qC B729.out 5).trans rfl, (qC B729.out 6).trans rfl, (qC B729.out 7).trans rfl, (qC B729.out 8).trans rfl, (qC B729.out 9).trans rfl, (qC B729.out 10).trans rfl, (qC B729.out 11).trans rfl, (qC B729.out 12).trans rfl, (qC B729.out 13).trans rfl, ((HB.out.cell (World.block_lt_of_cell? w _ hw732_0)).trans hw732_0), ((HB.out.cell (World.block_lt_of_cell? w _ hw732_1)).trans hw732_1), ((HB.out.cell (World.block_lt_of_cell? w _ hw732_2)).trans hw732_2), ((HB.out.cell (World.block_lt_of_cell? w _ hw732_3)).trans hw732_3), ((HB.out.cell (World.block_lt_of_cell? w _ hw732_4)).trans hw732_4), ((HB.out.cell (World.block_lt_of_cell? w _ hw732_5)).trans hw732_5), ((HB.out.cell (World.block_lt_of_cell? w _ hw732_6)).trans hw732_6), ((HB.out.cell (World.block_lt_of_cell? w _ hw732_7)).trans hw732_7), ((HB.out.cell (World.block_lt_of_cell? w _ hw732_8)).trans hw732_8), ((HB.out.cell (World.block_lt_of_cell? w _ hw732_9)).trans hw732_9)⟩ (fun hHeld => ?_)
       clear hK K
       refine norm_ (a' := ?_) ?_ ?_
       rotate_left
       ·show Act.put _ (some 22) _ = _
        simp only [Act.put, xA, xZ, xS, i64_w, i32_w]
        rfl
       exact norm_ (by simp only [putAll, Act.put, List.setIfInBounds_toArray, List.set_cons_zero, List.set_cons_succ]) (hCont (g747) _ ⟨hHeld, (by (with_reducible repeat first | refine qN ?_ _ | refine qD ?_ | refine qA ?_ _); exact B729.out), (by (with_reducible repeat first | refine qN ?_ _ | refine qD ?_ | refine qA ?_ _); exact B731.out), (by (with_reducible repeat first | refine qN ?_ _ | refine qD ?_ | refine qA ?_ _); exact B747.out), GW747.out, GE747.out, NB729_747.out, NB747_729.out, NB731_747.out, NB747_731.out, (by repeat (first | (with_reducible first | exact HB.out | apply eA | apply eN | apply eD | refine eS ?_ GE729.out | refine eS ?_ GE731.out | refine eS ?_ GE747.out) | exact HB.out))⟩)
     rintro g747 w17 ⟨hS_, h0_, h1_, h2_, h3_, h4_, h5_, h6_, h7_, h8_, h9_⟩
     have n0_ : Aside0 (w17.heap[g729]? = some (.cells #[.int .i64 x730000_1, .int .i64 x730001_1, .string x730002_1, .string x730003_1, .int .i64 x730004_1, .int .i64 x730005_1, .int .i64 x730006_1, .int .i64 x730007_1, .int .i64 x730008_1, .int .u32 x730009_1, .int .i64 x730010_1, .int .i64 x730011_1, .string x730012_1, .bool x730013_1] 28 (0, 0))) := ⟨h0_⟩
     have n1_ : Aside0 (w17.heap[g731]? = some (.cells #[.int .i64 a0_0, .int .i64 a0_1, .string a0_2, .string a0_3, .int .i64 a0_4, .int .i64 a0_5, .int .i64 a0_6, .int .i64 a0_7, .int .i64 a0_8, .int .u32 a0_9, .int .i64 a0_10, .int .i64 a0_11, .string a0_12, .bool a0_13] 28 (0, 0))) := ⟨h1_⟩
     have n2_ : Aside0 (w17.heap[g747]? = some (.cells #[.int .i64 0, .int .i64 0, .string (⟨#[]⟩ : ByteArray), .string (⟨#[]⟩ : ByteArray), .int .i64 0, .int .i64 0, .int .i64 0, .int .i64 0, .int .i64 0, .int .u32 0, .int .i64 0, .int .i64 0, .string (⟨#[]⟩ : ByteArray), .bool false] 28 (0, 0))) := ⟨h2_⟩
     have n3_ : Aside0 (w.heap.size ≤ g747) := ⟨h3_⟩
     have n4_ : Aside0 (w.heap.size ≤ g747) := ⟨h4_⟩
     have n5_ : Aside0 (g729 ≠ g747) := ⟨h5_⟩
     have n6_ : Aside0 (g747 ≠ g729) := ⟨h6_⟩
     have n7_ : Aside0 (g731 ≠ g747) := ⟨h7_⟩
     have n8_ : Aside0 (g747 ≠ g731) := ⟨h8_⟩
     have n9_ : Aside0 (Below w.heap.size w w17) := ⟨h9_⟩
     clear B729
     clear B731
     clear HB
     clear h0_ h1_ h2_ h3_ h4_ h5_ h6_ h7_ h8_ h9_
     have B729 := n0_
     have B731 := n1_
     have B747 := n2_
     have GW747 := n3_
     have GE747 := n4_
     have NB729_747 := n5_
     have NB747_729 := n6_
     have NB731_747 := n7_
     have NB747_731 := n8_
     have HB := n9_
     clear n0_ n1_ n2_ n3_ n4_ n5_ n6_ n7_ n8_ n9_
     have hHeld : w17.cell? ⟨g729, 0, none⟩ = some (.int .i64 x730000_1) ∧ w17.cell? ⟨g729, 1, none⟩ = some (.int .i64 x730001_1) ∧ w17.cell? ⟨g729, 2, none⟩ = some (.string x730002_1) ∧ w17.cell? ⟨g729, 3, none⟩ = some (.string x730003_1) ∧ w17.cell? ⟨g729, 4, none⟩ = some (.int .i64 x730004_1) ∧ w17.cell? ⟨g729, 5, none⟩ = some (.int .i64 x730005_1) ∧ w17.cell? ⟨g729, 6, none⟩ = some (.int .i64 x730006_1) ∧ w17.cell? ⟨g729, 7, none⟩ = some (.int .i64 x730007_1) ∧ w17.cell? ⟨g729, 8, none⟩ = some (.int .i64 x730008_1) ∧ w17.cell? ⟨g729, 9, none⟩ = some (.int .u32 x730009_1) ∧ w17.cell? ⟨g729, 10, none⟩ = some (.int .i64 x730010_1) ∧ w17.cell? ⟨g729, 11, none⟩ = some (.int .i64 x730011_1) ∧ w17.cell? ⟨g729, 12, none⟩ = some (.string x730012_1) ∧ w17.cell? ⟨g729, 13, none⟩ = some (.bool x730013_1) ∧ w17.cell? (ad732.add ((x7_1).toNat * 10)) = some (.int .i64 ((rd_T54 l1 x7_1).f0)) ∧ w17.cell? ⟨(ad732.add ((x7_1).toNat * 10)).block, (ad732.add ((x7_1).toNat * 10)).off + 1, none⟩ = some (.int .i64 ((rd_T54 l1 x7_1).f1)) ∧ w17.cell? ⟨(ad732.add ((x7_1).toNat * 10)).block, (ad732.add ((x7_1).toNat * 10)).off + 2, none⟩ = some (.int .i64 ((rd_T54 l1 x7_1).f2.f0)) ∧ w17.cell? ⟨(ad732.add ((x7_1).toNat * 10)).block, (ad732.add ((x7_1).toNat * 10)).off + 3, none⟩ = some (.int .i64 ((rd_T54 l1 x7_1).f2.f1)) ∧ w17.cell? ⟨(ad732.add ((x7_1).toNat * 10)).block, (ad732.add ((x7_1).toNat * 10)).off + 4, none⟩ = some (.int .i64 ((rd_T54 l1 x7_1).f2.f2)) ∧ w17.cell? ⟨(ad732.add ((x7_1).toNat * 10)).block, (ad732.add ((x7_1).toNat * 10)).off + 5, none⟩ = some (.int .i64 ((rd_T54 l1 x7_1).f2.f3)) ∧ w17.cell? ⟨(ad732.add ((x7_1).toNat * 10)).block, (ad732.add ((x7_1).toNat * 10)).off + 6, none⟩ = some (.int .u32 ((rd_T54 l1 x7_1).f2.f4)) ∧ w17.cell? ⟨(ad732.add ((x7_1).toNat * 10)).block, (ad732.add ((x7_1).toNat * 10)).off + 7, none⟩ = some (.bool ((rd_T54 l1 x7_1).f2.f5)) ∧ w17.cell? ⟨(ad732.add ((x7_1).toNat * 10)).block, (ad732.add ((x7_1).toNat * 10)).off + 8, none⟩ = some (.string ((rd_T54 l1 x7_1).f3)) ∧ w17.cell? ⟨(ad732.add ((x7_1).toNat * 10)).block, (ad732.add ((x7_1).toNat * 10)).off + 9, none⟩ = some (.int .i64 ((rd_T54 l1 x7_1).f4)) := hS_
     refine norm_ (a' := ?_) ?_ ?_
     rotate_left
     ·simp only [putAll, Act.put, List.setIfInBounds_toArray, List.set_cons_zero, List.set_cons_succ]; rfl
     refine one_ (i := 7) (N := none) #[true, true, true, true, true, true, true, true] rfl rfl (one_of HT_.out (by kernel_rfl)) (by decide) (fun K hK => ?_)
     have hs18 : w17.cell? ⟨g747, 0, none⟩ = some (.int .i64 0) := (qC B747.out 0).trans rfl
     have hfs18 := qF B747.out 0
     have hns18_0 := NB729_747.out
     have hns18_1 := NB731_747.out
     have hms18_0 := NB747_729.out
     have hms18_1 := NB747_731.out
     have hs19 : w17.cell? ⟨g747, 1, none⟩ = some (.int .i64 0) := (qC B747.out 1).trans rfl
     have hfs19 := qF B747.out 1
     have hns19_0 := NB729_747.out
     have hns19_1 := NB731_747.out
     have hms19_0 := NB747_729.out
     have hms19_1 := NB747_731.out
     have hs20 : w17.cell? ⟨g747, 2, none⟩ = some (.string (⟨#[]⟩ : ByteArray)) := (qC B747.out 2).trans rfl
     have hfs20 := qF B747.out 2
     have hns20_0 := NB729_747.out
     have hns20_1 := NB731_747.out
     have hms20_0 := NB747_729.out
     have hms20_1 := NB747_731.out
     have hs21 : w17.cell? ⟨g747, 3, none⟩ = some (.string (⟨#[]⟩ : ByteArray)) := (qC B747.out 3).trans rfl
     have hfs21 := qF B747.out 3
     have hns21_0 := NB729_747.out
     have hns21_1 := NB731_747.out
     have hms21_0 := NB747_729.out
     have hms21_1 := NB747_731.out
     have hs22 : w17.cell? ⟨g747, 4, none⟩ = some (.int .i64 0) := (qC B747.out 4).trans rfl
     have hfs22 := qF B747.out 4
     have hns22_0 := NB729_747.out
     have hns22_1 := NB731_747.out
     have hms22_0 := NB747_729.out
     have hms22_1 := NB747_731.out
     have hs23 : w17.cell? ⟨g747, 5, none⟩ = some (.int .i64 0) := (qC B747.out 5).trans rfl
     have hfs23 := qF B747.out 5
     have hns23_0 := NB729_747.out
     have hns23_1 := NB731_747.out
     have hms23_0 := NB747_729.out
     have hms23_1 := NB747_731.out
     have hs24 : w17.cell? ⟨g747, 6, none⟩ = some (.int .i64 0) := (qC B747.out 6).trans rfl
     have hfs24 := qF B747.out 6
     have hns24_0 := NB729_747.out
     have hns24_1 := NB731_747.out
     have hms24_0 := NB747_729.out
     have hms24_1 := NB747_731.out
     have hs25 : w17.cell? ⟨g747, 7, none⟩ = some (.int .i64 0) := (qC B747.out 7).trans rfl
     have hfs25 := qF B747.out 7
     have hns25_0 := NB729_747.out
     have hns25_1 := NB731_747.out
     have hms25_0 := NB747_729.out
     have hms25_1 := NB747_731.out
     have hs26 : w17.cell? ⟨g747, 8, none⟩ = some (.int .i64 0) := (qC B747.out 8).trans rfl
     have hfs26 := qF B747.out 8
     have hns26_0 := NB729_747.out
     have hns26_1 := NB731_747.out
     have hms26_0 := NB747_729.out
     have hms26_1 := NB747_731.out
     have hs27 : w17.cell? ⟨g747, 9, none⟩ = some (.int .u32 0) := (qC B747.out 9).trans rfl
     have hfs27 := qF B747.out 9
     have hns27_0 := NB729_747.out
     have hns27_1 := NB731_747.out
     have hms27_0 := NB747_729.out
     have hms27_1 := NB747_731.out
     have hs28 : w17.cell? ⟨g747, 10, none⟩ = some (.int .i64 0) := (qC B747.out 10).trans rfl
     have hfs28 := qF B747.out 10
     have hns28_0 := NB729_747.out
     have hns28_1 := NB731_747.out
     have hms28_0 := NB747_729.out
     have hms28_1 := NB747_731.out
     have hs29 : w17.cell? ⟨g747, 11, none⟩ = some (.int .i64 0) := (qC B747.out 11).trans rfl
     have hfs29 := qF B747.out 11
     have hns29_0 := NB729_747.out
     have hns29_1 := NB731_747.out
     have hms29_0 := NB747_729.out
     have hms29_1 := NB747_731.out
     have hs30 : w17.cell? ⟨g747, 12, none⟩ = some (.string (⟨#[]⟩ : ByteArray)) := (qC B747.out 12).trans rfl
     have hfs30 := qF B747.out 12
     have hns30_0 := NB729_747.out
     have hns30_1 := NB731_747.out
     have hms30_0 := NB747_729.out
     have hms30_1 := NB747_731.out
     have hs31 : w17.cell? ⟨g747, 13, none⟩ = some (.bool false) := (qC B747.out 13).trans rfl
     have hfs31 := qF B747.out 13
     have hns31_0 := NB729_747.out
     have hns31_1 := NB731_747.out
     have hms31_0 := NB747_729.out
     have hms31_1 := NB747_731.out
     refine skip_ (w1 := ?_) (by rfl) rfl ?_ ?_
     rotate_left
     ·go_simp; rfl
     refine hK.out _ _ ⟨((far14 (g := g747) NB729_747.out).trans (hHeld.1)), ((far14 (g := g747) NB729_747.out).trans (hHeld.2.1)), ((far14 (g := g747) NB729_747.out).trans (hHeld.2.2.1)), ((far14 (g := g747) NB729_747.out).trans (hHeld.2.2.2.1)), ((far14 (g := g747) NB729_747.out).trans (hHeld.2.2.2.2.1)), ((far14 (g := g747) NB729_747.out).trans (hHeld.2.2.2.2.2.1)), ((far14 (g := g747) NB729_747.out).trans (hHeld.2.2.2.2.2.2.1)), ((far14 (g := g747) NB729_747.out).trans (hHeld.2.2.2.2.2.2.2.1)), ((far14 (g := g747) NB729_747.out).trans (hHeld.2.2.2.2.2.2.2.2.1)), ((far14 (g := g747) NB729_747.out).trans (hHeld.2.2.2.2.2.2.2.2.2.1)), ((far14 (g := g747) NB729_747.out).trans (hHeld.2.2.2.2.2.2.2.2.2.2.1)), ((far14 (g := g747) NB729_747.out).trans (hHeld.2.2.2.2.2.2.2.2.2.2.2.1)), ((far14 (g := g747) NB729_747.out).trans (hHeld.2.2.2.2.2.2.2.2.2.2.2.2.1)), ((far14 (g := g747) NB729_747.out).trans (hHeld.2.2.2.2.2.2.2.2.2.2.2.2.2.1)), ((far14 (g := g747) (by first | exact Nat.ne_of_lt (Nat.lt_of_lt_of_le (by have := World.block_lt_of_cell? _ _ hw732_0; first | rwa [add_block] at this | exact this) GW747.out) | (rw [add_block]; exact Nat.ne_of_lt (Nat.lt_of_lt_of_le (by have := World.block_lt_of_cell? _ _ hw732_0; first | rwa [add_block] at this | exact this) GW747.out)) | (show (Addr.add _ _).block ≠ _; rw [add_block]; exact Nat.ne_of_lt (Nat.lt_of_lt_of_le (by have := World.block_lt_of_cell? _ _ hw732_0; first | rwa [add_block] at this | exact this) GW747.out)) | (dsimp only; exact Nat.ne_of_lt (Nat.lt_of_lt_of_le (by have := World.block_lt_of_cell? _ _ hw732_0; first | rwa [add_block] at this | exact this) GW747.out)))).trans (hHeld.2.2.2.2.2.2.2.2.2.2.2.2.2.2.1)), ((far14 (g := g747) (by first | exact Nat.ne_of_lt (Nat.lt_of_lt_of_le (by have := World.block_lt_of_cell? _ _ hw732_1; first | rwa [add_block] at this | exact this) GW747.out) | (rw [add_block]; exact Nat.ne_of_lt (Nat.lt_of_lt_of_le (by have := World.block_lt_of_cell? _ _ hw732_1; first | rwa [add_block] at this | exact this) GW747.out)) | (show (Addr.add _ _).block ≠ _; rw [add_block]; exact Nat.ne_of_lt (Nat.lt_of_lt_of_le (by have := World.block_lt_of_cell? _ _ hw732_1; first | rwa [add_block] at this | exact this) GW747.out)) | (dsimp only; exact Nat.ne_of_lt (Nat.lt_of_lt_of_le (by have := World.block_lt_of_cell? _ _ hw732_1; first | rwa [add_block] at this | exact this) GW747.out)))).trans (hHeld.2.2.2.2.2.2.2.2.2.2.2.2.2.2.2.1)), ((far14 (g := g747) (by first | exact Nat.ne_of_lt (Nat.lt_of_lt_of_le (by have := World.block_lt_of_cell? _ _ hw732_2; first | rwa [add_block] at this | exact this) GW747.out) | (rw [add_block]; exact Nat.ne_of_lt (Nat.lt_of_lt_of_le (by have := World.block_lt_of_cell? _ _ hw732_2; first | rwa [add_block] at this | exact this) GW747.out)) | (show (Addr.add _ _).block ≠ _; rw [add_block]; exact Nat.ne_of_lt (Nat.lt_of_lt_of_le (by have := World.block_lt_of_cell? _ _ hw732_2; first | rwa [add_block] at this | exact this) GW747.out)) | (dsimp only; exact Nat.ne_of_lt (Nat.lt_of_lt_of_le (by have := World.block_lt_of_cell? _ _ hw732_2; first | rwa [add_block] at this | exact this) GW747.out)))).trans (hHeld.2.2.2.2.2.2.2.2.2.2.2.2.2.2.2.2.1)), ((far14 (g := g747) (by first | exact Nat.ne_of_lt (Nat.lt_of_lt_of_le (by have := World.block_lt_of_cell? _ _ hw732_3; first | rwa [add_block] at this | exact this) GW747.out) | (rw [add_block]; exact Nat.ne_of_lt (Nat.lt_of_lt_of_le (by have := World.block_lt_of_cell? _ _ hw732_3; first | rwa [add_block] at this | exact this) GW747.out)) | (show (Addr.add _ _).block ≠ _; rw [add_block]; exact Nat.ne_of_lt (Nat.lt_of_lt_of_le (by have := World.block_lt_of_cell? _ _ hw732_3; first | rwa [add_block] at this | exact this) GW747.out)) | (dsimp only; exact Nat.ne_of_lt (Nat.lt_of_lt_of_le (by have := World.block_lt_of_cell? _ _ hw732_3; first | rwa [add_block] at this | exact this) GW747.out)))).trans (hHeld.2.2.2.2.2.2.2.2.2.2.2.2.2.2.2.2.2.1)), ((far14 (g := g747) (by first | exact Nat.ne_of_lt (Nat.lt_of_lt_of_le (by have := World.block_lt_of_cell? _ _ hw732_4; first | rwa [add_block] at this | exact this) GW747.out) | (rw [add_block]; exact Nat.ne_of_lt (Nat.lt_of_lt_of_le (by have := World.block_lt_of_cell? _ _ hw732_4; first | rwa [add_block] at this | exact this) GW747.out)) | (show (Addr.add _ _).block ≠ _; rw [add_block]; exact Nat.ne_of_lt (Nat.lt_of_lt_of_le (by have := World.block_lt_of_cell? _ _ hw732_4; first | rwa [add_block] at this | exact this) GW747.out)) | (dsimp only; exact Nat.ne_of_lt (Nat.lt_of_lt_of_le (by have := World.block_lt_of_cell? _ _ hw732_4; first | rwa [add_block] at this | exact this) GW747.out)))).trans (hHeld.2.2.2.2.2.2.2.2.2.2.2.2.2.2.2.2.2.2.1)), ((far14 (g := g747) (by first | exact Nat.ne_of_lt (Nat.lt_of_lt_of_le (by have := World.block_lt_of_cell? _ _ hw732_5; first | rwa [add_block] at this | exact this) GW747.out) | (rw [add_block]; exact Nat.ne_of_lt (Nat.lt_of_lt_of_le (by have := World.block_lt_of_cell? _ _ hw732_5; first | rwa [add_block] at this | exact this) GW747.out)) | (show (Addr.add _ _).block ≠ _; rw [add_block]; exact Nat.ne_of_lt (Nat.lt_of_lt_of_le (by have := World.block_lt_of_cell? _ _ hw732_5; first | rwa [add_block] at this | exact this) GW747.out)) | (dsimp only; exact Nat.ne_of_lt (Nat.lt_of_lt_of_le (by have := World.block_lt_of_cell? _ _ hw732_5; first | rwa [add_block] at this | exact this) GW747.out)))).trans (hHeld.2.2.2.2.2.2.2.2.2.2.2.2.2.2.2.2.2.2.2.1)), ((far14 (g := g747) (by first | exact Nat.ne_of_lt (Nat.lt_of_lt_of_le (by have := World.block_lt_of_cell? _ _ hw732_6; first | rwa [add_block] at this | exact this) GW747.out) | (rw [add_block]; exact Nat.ne_of_lt (Nat.lt_of_lt_of_le (by have := World.block_lt_of_cell? _ _ hw732_6; first | rwa [add_block] at this | exact this) GW747.out)) | (show (Addr.add _ _).block ≠ _; rw [add_block]; exact Nat.ne_of_lt (Nat.lt_of_lt_of_le (by have := World.block_lt_of_cell? _ _ hw732_6; first | rwa [add_block] at this | exact this) GW747.out)) | (dsimp only; exact Nat.ne_of_lt (Nat.lt_of_lt_of_le (by have := World.block_lt_of_cell? _ _ hw732_6; first | rwa [add_block] at this | exact this) GW747.out)))).trans (hHeld.2.2.2.2.2.2.2.2.2.2.2.2.2.2.2.2.2.2.2.2.1)), ((far14 (g := g747) (by first | exact Nat.ne_of_lt (Nat.lt_of_lt_of_le (by have := World.block_lt_of_cell? _ _ hw732_7; first | rwa [add_block] at this | exact this) GW747.out) | (rw [add_block]; exact Nat.ne_of_lt (Nat.lt_of_lt_of_le (by have := World.block_lt_of_cell? _ _ hw732_7; first | rwa [add_block] at this | exact this) GW747.out)) | (show (Addr.add _ _).block ≠ _; rw [add_block]; exact Nat.ne_of_lt (Nat.lt_of_lt_of_le (by have := World.block_lt_of_cell? _ _ hw732_7; first | rwa [add_block] at this | exact this) GW747.out)) | (dsimp only; exact Nat.ne_of_lt (Nat.lt_of_lt_of_le (by have := World.block_lt_of_cell? _ _ hw732_7; first | rwa [add_block] at this | exact this) GW747.out)))).trans (hHeld.2.2.2.2.2.2.2.2.2.2.2.2.2.2.2.2.2.2.2.2.2.1)), ((far14 (g := g747) (by first | exact Nat.ne_of_lt (Nat.lt_of_lt_of_le (by have := World.block_lt_of_cell? _ _ hw732_8; first | rwa [add_block] at this | exact this) GW747.out) | (rw [add_block]; exact Nat.ne_of_lt (Nat.lt_of_lt_of_le (by have := World.block_lt_of_cell? _ _ hw732_8; first | rwa [add_block] at this | exact this) GW747.out)) | (show (Addr.add _ _).block ≠ _; rw [add_block]; exact Nat.ne_of_lt (Nat.lt_of_lt_of_le (by have := World.block_lt_of_cell? _ _ hw732_8; first | rwa [add_block] at this | exact this) GW747.out)) | (dsimp only; exact Nat.ne_of_lt (Nat.lt_of_lt_of_le (by have := World.block_lt_of_cell? _ _ hw732_8; first | rwa [add_block] at this | exact this) GW747.out)))).trans (hHeld.2.2.2.2.2.2.2.2.2.2.2.2.2.2.2.2.2.2.2.2.2.2.1)), ((far14 (g := g747) (by first | exact Nat.ne_of_lt (Nat.lt_of_lt_of_le (by have := World.block_lt_of_cell? _ _ hw732_9; first | rwa [add_block] at this | exact this) GW747.out) | (rw [add_block]; exact Nat.ne_of_lt (Nat.lt_of_lt_of_le (by have := World.block_lt_of_cell? _ _ hw732_9; first | rwa [add_block] at this | exact this) GW747.out)) | (show (Addr.add _ _).block ≠ _; rw [add_block]; exact Nat.ne_of_lt (Nat.lt_of_lt_of_le (by have := World.block_lt_of_cell? _ _ hw732_9; first | rwa [add_block] at this | exact this) GW747.out)) | (dsimp only; exact Nat.ne_of_lt (Nat.lt_of_lt_of_le (by have := World.block_lt_of_cell? _ _ hw732_9; first | rwa [add_block] at this | exact this) GW747.out)))).trans (hHeld.2.2.2.2.2.2.2.2.2.2.2.2.2.2.2.2.2.2.2.2.2.2.2))⟩ (fun hHeld => ?_)
     clear hK K
     refine done_ (done_of HT_.out (by kernel_rfl)) ?_
     go_upto_region 7 with (fail)
     go_cut [30] (fun v30 wc => ∃ (kq : Nat) (x30_12 : Bool), v30 = .bool x30_12 ∧ Aside0 (hogsheadlaw17_DeedEnds.j1 kq l1 t730 x7_1 x30_12 a0_0 a0_1 a0_2 a0_3 a0_4 a0_5 a0_6 a0_7 a0_8 a0_9 a0_10 a0_11 a0_12 a0_13 t733 t734 t735 t736 t737 t738 t739 t740 t741 t742 t743 t744 t745 t746 = some r) ∧ Aside0 (kq ≤ k1) ∧ Aside0 (wc.heap[g729]? = some (.cells #[.int .i64 x730000_1, .int .i64 x730001_1, .string x730002_1, .string x730003_1, .int .i64 x730004_1, .int .i64 x730005_1, .int .i64 x730006_1, .int .i64 x730007_1, .int .i64 x730008_1, .int .u32 x730009_1, .int .i64 x730010_1, .int .i64 x730011_1, .string x730012_1, .bool x730013_1] 28 (0, 0))) ∧ Aside0 (wc.heap[g731]? = some (.cells #[.int .i64 a0_0, .int .i64 a0_1, .string a0_2, .string a0_3, .int .i64 a0_4, .int .i64 a0_5, .int .i64 a0_6, .int .i64 a0_7, .int .i64 a0_8, .int .u32 a0_9, .int .i64 a0_10, .int .i64 a0_11, .string a0_12, .bool a0_13] 28 (0, 0))) ∧ Aside0 (wc.heap[g747]? = some (.cells #[.int .i64 t733, .int .i64 t734, .string t735, .string t736, .int .i64 t737, .int .i64 t738, .int .i64 t739, .int .i64 t740, .int .i64 t741, .int .u32 t742, .int .i64 t743, .int .i64 t744, .string t745, .bool t746] 28 (0, 0))) ∧ Aside0 (Below w.heap.size w wc))
     case first =>
      have H := HC13.out
      clear HC13
      by_cases c32 : x730005_1 = 8
      ·rw [if_pos c32] at H
       have c32b0 : (x730005_1 == 8) = true := beq_iff_eq.mpr c32
       have c32b1 : (x730005_1 != 8) = false := bne_eq_false_iff_eq.mpr c32
       clear c32
       (first | rw [c32b0] | (simp only [i64_w, i32_w]; rw [c32b0]) | skip)
       have H' := qM H
       clear H
       have hnb33 := NB729_731.out
       have hnc33 := NB731_729.out
       have hnb34 := NB729_747.out
       have hnc34 := NB747_729.out
       obtain ⟨z35_0, z35_1, z35_2, z35_3, z35_4, z35_5, z35_6, z35_7, z35_8, z35_9, z35_10, z35_11, z35_12, z35_13, f35_0, f35_1, f35_2, f35_3, f35_4, f35_5, f35_6, f35_7, f35_8, f35_9, f35_10, f35_11, f35_12, f35_13⟩ := cells14 B729.out
       have hnb36 := NB747_731.out
       have hnc36 := NB731_747.out
       obtain ⟨z37_0, z37_1, z37_2, z37_3, z37_4, z37_5, z37_6, z37_7, z37_8, z37_9, z37_10, z37_11, z37_12, z37_13, f37_0, f37_1, f37_2, f37_3, f37_4, f37_5, f37_6, f37_7, f37_8, f37_9, f37_10, f37_11, f37_12, f37_13⟩ := cells14 B747.out
       go_wp2
       go_meet
       case rel => exact ⟨_, ((!(t733 == x730000_1) || (!(t734 == x730001_1) || (!(t735.toList == x730002_1.toList) || (!(t736.toList == x730003_1.toList) || (!(t737 == x730004_1) || (!(t738 == x730005_1) || (!(t739 == x730006_1) || (!(t740 == x730007_1) || (!(t741 == x730008_1) || (!(t742 == x730009_1) || (!(t743 == x730010_1) || (!(t744 == x730011_1) || (!(t745.toList == x730012_1.toList) || (!(t746 == x730013_1)))))))))))))))), (by first | rfl | (simp; done) | (simp [*]; done)), H', ⟨by have := HK1.out; first | omega | exact Nat.le_refl _⟩, ⟨by (with_reducible repeat first | refine qN ?_ _ | refine qD ?_ | refine qA ?_ _); (iterate 14 (refine qR ?_ NB729_747.out _; (with_reducible repeat first | refine qN ?_ _ | refine qD ?_ | refine qA ?_ _))); exact B729.out⟩, ⟨by (with_reducible repeat first | refine qN ?_ _ | refine qD ?_ | refine qA ?_ _); (iterate 14 (refine qR ?_ NB731_747.out _; (with_reducible repeat first | refine qN ?_ _ | refine qD ?_ | refine qA ?_ _))); exact B731.out⟩, ⟨by (with_reducible repeat first | refine qN ?_ _ | refine qD ?_ | refine qA ?_ _); apply puts14; (with_reducible repeat first | refine qN ?_ _ | refine qD ?_ | refine qA ?_ _); exact B747.out⟩, ⟨by repeat (first | (with_reducible first | exact HB.out | apply eA | apply eN | apply eD | refine eS ?_ GE729.out | refine eS ?_ GE731.out | refine eS ?_ GE747.out) | exact HB.out)⟩⟩
      ·rw [if_neg c32] at H
       have c32b0 : (x730005_1 == 8) = false := beq_eq_false_iff_ne.mpr c32
       have c32b1 : (x730005_1 != 8) = true := bne_iff_ne.mpr c32
       (first | rw [c32b0] | (simp only [i64_w, i32_w]; rw [c32b0]) | skip)
       have H' := qM H
       clear H
       have hnb38 := NB729_731.out
       have hnc38 := NB731_729.out
       have hnb39 := NB729_747.out
       have hnc39 := NB747_729.out
       obtain ⟨z40_0, z40_1, z40_2, z40_3, z40_4, z40_5, z40_6, z40_7, z40_8, z40_9, z40_10, z40_11, z40_12, z40_13, f40_0, f40_1, f40_2, f40_3, f40_4, f40_5, f40_6, f40_7, f40_8, f40_9, f40_10, f40_11, f40_12, f40_13⟩ := cells14 B729.out
       go_wp2
       go_meet
       case rel => exact ⟨_, (false), (by first | rfl | (simp; done) | (simp [*]; done)), H', ⟨by have := HK1.out; first | omega | exact Nat.le_refl _⟩, ⟨by (with_reducible repeat first | refine qN ?_ _ | refine qD ?_ | refine qA ?_ _); (iterate 14 (refine qR ?_ NB729_747.out _; (with_reducible repeat first | refine qN ?_ _ | refine qD ?_ | refine qA ?_ _))); exact B729.out⟩, ⟨by (with_reducible repeat first | refine qN ?_ _ | refine qD ?_ | refine qA ?_ _); (iterate 14 (refine qR ?_ NB731_747.out _; (with_reducible repeat first | refine qN ?_ _ | refine qD ?_ | refine qA ?_ _))); exact B731.out⟩, ⟨by (with_reducible repeat first | refine qN ?_ _ | refine qD ?_ | refine qA ?_ _); apply puts14; (with_reducible repeat first | refine qN ?_ _ | refine qD ?_ | refine qA ?_ _); exact B747.out⟩, ⟨by repeat (first | (with_reducible first | exact HB.out | apply eA | apply eN | apply eD | refine eS ?_ GE729.out | refine eS ?_ GE731.out | refine eS ?_ GE747.out) | exact HB.out)⟩⟩
     case rest =>
      clear HC13
      try clear c1
      try clear c2
      try clear p2
      try clear c3
      try clear c6
      try clear p7
      try clear q7
      try clear hx7
      try clear c8
      try clear c9
      try clear c10
      try clear c10b0
      try clear c11
      try clear c11b0
      try clear c25
      try clear c32
      try clear c32b0
      try clear c32b1
      try clear c33
      try clear c34
      try clear c36
      try clear c38
      try clear c39
      try clear z35_0
      try clear z35_1
      try clear z35_10
      try clear z35_11
      try clear z35_12
      try clear z35_13
      try clear z35_2
      try clear z35_3
      try clear z35_4
      try clear z35_5
      try clear z35_6
      try clear z35_7
      try clear z35_8
      try clear z35_9
      try clear z37_0
      try clear z37_1
      try clear z37_10
      try clear z37_11
      try clear z37_12
      try clear z37_13
      try clear z37_2
      try clear z37_3
      try clear z37_4
      try clear z37_5
      try clear z37_6
      try clear z37_7
      try clear z37_8
      try clear z37_9
      try clear z40_0
      try clear z40_1
      try clear z40_10
      try clear z40_11
      try clear z40_12
      try clear z40_13
      try clear z40_2
      try clear z40_3
      try clear z40_4
      try clear z40_5
      try clear z40_6
      try clear z40_7
      try clear z40_8
      try clear z40_9
      try clear z6_0
      try clear z6_1
      try clear z6_10
      try clear z6_11
      try clear z6_12
      try clear z6_13
      try clear z6_2
      try clear z6_3
      try clear z6_4
      try clear z6_5
      try clear z6_6
      try clear z6_7
      try clear z6_8
      try clear z6_9
      try clear z9_0
      try clear z9_1
      try clear z9_10
      try clear z9_11
      try clear z9_12
      try clear z9_13
      try clear z9_2
      try clear z9_3
      try clear z9_4
      try clear z9_5
      try clear z9_6
      try clear z9_7
      try clear z9_8
      try clear z9_9
      try clear f35_0
      try clear f35_1
      try clear f35_10
      try clear f35_11
      try clear f35_12
      try clear f35_13
      try clear f35_2
      try clear f35_3
      try clear f35_4
      try clear f35_5
      try clear f35_6
      try clear f35_7
      try clear f35_8
      try clear f35_9
      try clear f37_0
      try clear f37_1
      try clear f37_10
      try clear f37_11
      try clear f37_12
      try clear f37_13
      try clear f37_2
      try clear f37_3
      try clear f37_4
      try clear f37_5
      try clear f37_6
      try clear f37_7
      try clear f37_8
      try clear f37_9
      try clear f40_0
      try clear f40_1
      try clear f40_10
      try clear f40_11
      try clear f40_12
      try clear f40_13
      try clear f40_2
      try clear f40_3
      try clear f40_4
      try clear f40_5
      try clear f40_6
      try clear f40_7
      try clear f40_8
      try clear f40_9
      try clear f6_0
      try clear f6_1
      try clear f6_10
      try clear f6_11
      try clear f6_12
      try clear f6_13
      try clear f6_2
      try clear f6_3
      try clear f6_4
      try clear f6_5
      try clear f6_6
      try clear f6_7
      try clear f6_8
      try clear f6_9
      try clear f9_0
      try clear f9_1
      try clear f9_10
      try clear f9_11
      try clear f9_12
      try clear f9_13
      try clear f9_2
      try clear f9_3
      try clear f9_4
      try clear f9_5
      try clear f9_6
      try clear f9_7
      try clear f9_8
      try clear f9_9
      try clear hx732_0
      try clear hx732_1
      try clear hx732_2
      try clear hx732_3
      try clear hx732_4
      try clear hx732_5
      try clear hx732_6
      try clear hx732_7
      try clear hx732_8
      try clear hx732_9
      try clear p2
      try clear p732
      try clear q732
      obtain ⟨kq, x30_12, rfl, HA, HJ12, B729, B731, B747, HB⟩ := hcut
      cases kq with
      | zero => exact absurd HA.out (by simp [hogsheadlaw17_DeedEnds.j1])
      | succ kj12 =>
       have H := HA.out
       clear HA
       simp only [hogsheadlaw17_DeedEnds.j1] at H
       by_cases c41 : x30_12 = true
       ·subst c41
        have H1 : (some false) = some r := by rw [if_pos rfl] at H; exact H
        clear H
        have H := H1
        clear H1
        obtain rfl := Option.some.inj H
        go_wp2
        go_ret
        exact ⟨by first | rfl | (simp [errW_none, errW_some] <;> rfl) | (simp [*, errW_none, errW_some] <;> rfl), by repeat (first | (with_reducible first | exact HB.out | apply eA | apply eN | apply eD | refine eS ?_ GE729.out | refine eS ?_ GE731.out | refine eS ?_ GE747.out) | exact HB.out)⟩
       ·replace c41 := Bool.eq_false_iff.mpr c41
        subst c41
        have H1 : (hogsheadlaw17_DeedEnds.l0 kj12 l1 t730 (wrap64 (x7_1 + 1)) t733 t734 t735 t736 t737 t738 t739 t740 t741 t742 t743 t744 t745 t746 a0_0 a0_1 a0_2 a0_3 a0_4 a0_5 a0_6 a0_7 a0_8 a0_9 a0_10 a0_11 a0_12 a0_13) = some r := by rw [if_neg (show ¬ (false = true) by decide)] at H; exact H
        clear H
        have H := H1
        clear H1
        have H' := qM H
        clear H
        have hnb42 := NB747_729.out
        have hnc42 := NB729_747.out
        have hnb43 := NB747_731.out
        have hnc43 := NB731_747.out
        obtain ⟨z44_0, z44_1, z44_2, z44_3, z44_4, z44_5, z44_6, z44_7, z44_8, z44_9, z44_10, z44_11, z44_12, z44_13, f44_0, f44_1, f44_2, f44_3, f44_4, f44_5, f44_6, f44_7, f44_8, f44_9, f44_10, f44_11, f44_12, f44_13⟩ := cells14 B747.out
        have hnb45 := NB729_731.out
        have hnc45 := NB731_729.out
        obtain ⟨z46_0, z46_1, z46_2, z46_3, z46_4, z46_5, z46_6, z46_7, z46_8, z46_9, z46_10, z46_11, z46_12, z46_13, f46_0, f46_1, f46_2, f46_3, f46_4, f46_5, f46_6, f46_7, f46_8, f46_9, f46_10, f46_11, f46_12, f46_13⟩ := cells14 B729.out
        go_wp2
        go_roundg kj12
        case measure => have := HK1.out; have := HJ12.out; omega
        case rel => exact ⟨(wrap64 (x7_1 + 1)), (t733), (t734), (t735), (t736), (t737), (t738), (t739), (t740), (t741), (t742), (t743), (t744), (t745), (t746), (by first | rfl | (simp; done) | (simp [*]; done)), H', ⟨by have := HK1.out; have := HJ12.out; omega⟩, ⟨by (with_reducible repeat first | refine qN ?_ _ | refine qD ?_ | refine qA ?_ _); apply puts14; (with_reducible repeat first | refine qN ?_ _ | refine qD ?_ | refine qA ?_ _); exact B729.out⟩, ⟨by (with_reducible repeat first | refine qN ?_ _ | refine qD ?_ | refine qA ?_ _); (iterate 14 (refine qR ?_ NB731_729.out _; (with_reducible repeat first | refine qN ?_ _ | refine qD ?_ | refine qA ?_ _))); exact B731.out⟩, ⟨by repeat (first | (with_reducible first | exact HB.out | apply eA | apply eN | apply eD | refine eS ?_ GE729.out | refine eS ?_ GE731.out | refine eS ?_ GE747.out) | exact HB.out)⟩⟩
    ·rw [if_neg c11] at H
     exact absurd H (by simp)
   ·rw [if_neg c10] at H
    have c10b0 : decide (x7_1 < (l1.length : Int)) = false := decide_eq_false c10
    clear c10
    have HC47 := qM H
    clear H
    go_upto_region 10 with (fail)
    go_cut [4] (fun v4 wc => ∃ (kq : Nat) (x4_46 : Bool), v4 = .bool x4_46 ∧ Aside0 (hogsheadlaw17_DeedEnds.j2 kq x4_46 = some r) ∧ Aside0 (kq ≤ k1) ∧ Aside0 (wc.heap[g729]? = some (.cells #[.int .i64 x730000_1, .int .i64 x730001_1, .string x730002_1, .string x730003_1, .int .i64 x730004_1, .int .i64 x730005_1, .int .i64 x730006_1, .int .i64 x730007_1, .int .i64 x730008_1, .int .u32 x730009_1, .int .i64 x730010_1, .int .i64 x730011_1, .string x730012_1, .bool x730013_1] 28 (0, 0))) ∧ Aside0 (wc.heap[g731]? = some (.cells #[.int .i64 a0_0, .int .i64 a0_1, .string a0_2, .string a0_3, .int .i64 a0_4, .int .i64 a0_5, .int .i64 a0_6, .int .i64 a0_7, .int .i64 a0_8, .int .u32 a0_9, .int .i64 a0_10, .int .i64 a0_11, .string a0_12, .bool a0_13] 28 (0, 0))) ∧ Aside0 (Below w.heap.size w wc))
    case first =>
     have H := HC47.out
     clear HC47
     by_cases c48 : t730 = true
     ·subst c48
      have H1 : (if x730000_1 = a0_0 then (if x730001_1 = a0_1 then (if x730002_1.toList = a0_2.toList then (hogsheadlaw17_DeedEnds.j2 k1 (x730003_1.toList == a0_3.toList)) else (hogsheadlaw17_DeedEnds.j2 k1 false)) else (hogsheadlaw17_DeedEnds.j2 k1 false)) else (hogsheadlaw17_DeedEnds.j2 k1 false)) = some r := by rw [if_pos rfl] at H; exact H
      clear H
      have H := H1
      clear H1
      by_cases c49 : x730000_1 = a0_0
      ·rw [if_pos c49] at H
       have c49b0 : (x730000_1 == a0_0) = true := beq_iff_eq.mpr c49
       have c49b1 : (x730000_1 != a0_0) = false := bne_eq_false_iff_eq.mpr c49
       clear c49
       (first | rw [c49b0] | (simp only [i64_w, i32_w]; rw [c49b0]) | skip)
       by_cases c50 : x730001_1 = a0_1
       ·rw [if_pos c50] at H
        have c50b0 : (x730001_1 == a0_1) = true := beq_iff_eq.mpr c50
        have c50b1 : (x730001_1 != a0_1) = false := bne_eq_false_iff_eq.mpr c50
        clear c50
        by_cases c51 : x730002_1.toList = a0_2.toList
        ·rw [if_pos c51] at H
         have c51b0 : (x730002_1.toList == a0_2.toList) = true := beq_iff_eq.mpr c51
         have c51b1 : (x730002_1.toList != a0_2.toList) = false := bne_eq_false_iff_eq.mpr c51
         clear c51
         have H' := qM H
         clear H
         have hnb52 := NB729_731.out
         have hnc52 := NB731_729.out
         obtain ⟨z53_0, z53_1, z53_2, z53_3, z53_4, z53_5, z53_6, z53_7, z53_8, z53_9, z53_10, z53_11, z53_12, z53_13, f53_0, f53_1, f53_2, f53_3, f53_4, f53_5, f53_6, f53_7, f53_8, f53_9, f53_10, f53_11, f53_12, f53_13⟩ := cells14 B729.out
         obtain ⟨z54_0, z54_1, z54_2, z54_3, z54_4, z54_5, z54_6, z54_7, z54_8, z54_9, z54_10, z54_11, z54_12, z54_13, f54_0, f54_1, f54_2, f54_3, f54_4, f54_5, f54_6, f54_7, f54_8, f54_9, f54_10, f54_11, f54_12, f54_13⟩ := cells14 B731.out
         go_wp2
         go_meet
         case rel => exact ⟨_, ((x730003_1.toList == a0_3.toList)), (by first | rfl | (simp; done) | (simp [*]; done)), H', ⟨by have := HK1.out; first | omega | exact Nat.le_refl _⟩, ⟨by (with_reducible repeat first | refine qN ?_ _ | refine qD ?_ | refine qA ?_ _); exact B729.out⟩, ⟨by (with_reducible repeat first | refine qN ?_ _ | refine qD ?_ | refine qA ?_ _); exact B731.out⟩, ⟨by repeat (first | (with_reducible first | exact HB.out | apply eA | apply eN | apply eD | refine eS ?_ GE729.out | refine eS ?_ GE731.out) | exact HB.out)⟩⟩
        ·rw [if_neg c51] at H
         have c51b0 : (x730002_1.toList == a0_2.toList) = false := beq_eq_false_iff_ne.mpr c51
         have c51b1 : (x730002_1.toList != a0_2.toList) = true := bne_iff_ne.mpr c51
         have H' := qM H
         clear H
         have hnb55 := NB729_731.out
         have hnc55 := NB731_729.out
         obtain ⟨z56_0, z56_1, z56_2, z56_3, z56_4, z56_5, z56_6, z56_7, z56_8, z56_9, z56_10, z56_11, z56_12, z56_13, f56_0, f56_1, f56_2, f56_3, f56_4, f56_5, f56_6, f56_7, f56_8, f56_9, f56_10, f56_11, f56_12, f56_13⟩ := cells14 B729.out
         obtain ⟨z57_0, z57_1, z57_2, z57_3, z57_4, z57_5, z57_6, z57_7, z57_8, z57_9, z57_10, z57_11, z57_12, z57_13, f57_0, f57_1, f57_2, f57_3, f57_4, f57_5, f57_6, f57_7, f57_8, f57_9, f57_10, f57_11, f57_12, f57_13⟩ := cells14 B731.out
         go_wp2
         go_meet
         case rel => exact ⟨_, (false), (by first | rfl | (simp; done) | (simp [*]; done)), H', ⟨by have := HK1.out; first | omega | exact Nat.le_refl _⟩, ⟨by (with_reducible repeat first | refine qN ?_ _ | refine qD ?_ | refine qA ?_ _); exact B729.out⟩, ⟨by (with_reducible repeat first | refine qN ?_ _ | refine qD ?_ | refine qA ?_ _); exact B731.out⟩, ⟨by repeat (first | (with_reducible first | exact HB.out | apply eA | apply eN | apply eD | refine eS ?_ GE729.out | refine eS ?_ GE731.out) | exact HB.out)⟩⟩
       ·rw [if_neg c50] at H
        have c50b0 : (x730001_1 == a0_1) = false := beq_eq_false_iff_ne.mpr c50
        have c50b1 : (x730001_1 != a0_1) = true := bne_iff_ne.mpr c50
        have H' := qM H
        clear H
        have hnb58 := NB729_731.out
        have hnc58 := NB731_729.out
        obtain ⟨z59_0, z59_1, z59_2, z59_3, z59_4, z59_5, z59_6, z59_7, z59_8, z59_9, z59_10, z59_11, z59_12, z59_13, f59_0, f59_1, f59_2, f59_3, f59_4, f59_5, f59_6, f59_7, f59_8, f59_9, f59_10, f59_11, f59_12, f59_13⟩ := cells14 B729.out
        obtain ⟨z60_0, z60_1, z60_2, z60_3, z60_4, z60_5, z60_6, z60_7, z60_8, z60_9, z60_10, z60_11, z60_12, z60_13, f60_0, f60_1, f60_2, f60_3, f60_4, f60_5, f60_6, f60_7, f60_8, f60_9, f60_10, f60_11, f60_12, f60_13⟩ := cells14 B731.out
        go_wp2
        go_meet
        case rel => exact ⟨_, (false), (by first | rfl | (simp; done) | (simp [*]; done)), H', ⟨by have := HK1.out; first | omega | exact Nat.le_refl _⟩, ⟨by (with_reducible repeat first | refine qN ?_ _ | refine qD ?_ | refine qA ?_ _); exact B729.out⟩, ⟨by (with_reducible repeat first | refine qN ?_ _ | refine qD ?_ | refine qA ?_ _); exact B731.out⟩, ⟨by repeat (first | (with_reducible first | exact HB.out | apply eA | apply eN | apply eD | refine eS ?_ GE729.out | refine eS ?_ GE731.out) | exact HB.out)⟩⟩
      ·rw [if_neg c49] at H
       have c49b0 : (x730000_1 == a0_0) = false := beq_eq_false_iff_ne.mpr c49
       have c49b1 : (x730000_1 != a0_0) = true := bne_iff_ne.mpr c49
       (first | rw [c49b0] | (simp only [i64_w, i32_w]; rw [c49b0]) | skip)
       have H' := qM H
       clear H
       have hnb61 := NB729_731.out
       have hnc61 := NB731_729.out
       obtain ⟨z62_0, z62_1, z62_2, z62_3, z62_4, z62_5, z62_6, z62_7, z62_8, z62_9, z62_10, z62_11, z62_12, z62_13, f62_0, f62_1, f62_2, f62_3, f62_4, f62_5, f62_6, f62_7, f62_8, f62_9, f62_10, f62_11, f62_12, f62_13⟩ := cells14 B729.out
       obtain ⟨z63_0, z63_1, z63_2, z63_3, z63_4, z63_5, z63_6, z63_7, z63_8, z63_9, z63_10, z63_11, z63_12, z63_13, f63_0, f63_1, f63_2, f63_3, f63_4, f63_5, f63_6, f63_7, f63_8, f63_9, f63_10, f63_11, f63_12, f63_13⟩ := cells14 B731.out
       go_wp2
       go_meet
       case rel => exact ⟨_, (false), (by first | rfl | (simp; done) | (simp [*]; done)), H', ⟨by have := HK1.out; first | omega | exact Nat.le_refl _⟩, ⟨by (with_reducible repeat first | refine qN ?_ _ | refine qD ?_ | refine qA ?_ _); exact B729.out⟩, ⟨by (with_reducible repeat first | refine qN ?_ _ | refine qD ?_ | refine qA ?_ _); exact B731.out⟩, ⟨by repeat (first | (with_reducible first | exact HB.out | apply eA | apply eN | apply eD | refine eS ?_ GE729.out | refine eS ?_ GE731.out) | exact HB.out)⟩⟩
     ·replace c48 := Bool.eq_false_iff.mpr c48
      subst c48
      have H1 : (hogsheadlaw17_DeedEnds.j2 k1 false) = some r := by rw [if_neg (show ¬ (false = true) by decide)] at H; exact H
      clear H
      have H := H1
      clear H1
      have H' := qM H
      clear H
      go_wp2
      go_meet
      case rel => exact ⟨_, (false), (by first | rfl | (simp; done) | (simp [*]; done)), H', ⟨by have := HK1.out; first | omega | exact Nat.le_refl _⟩, ⟨by (with_reducible repeat first | refine qN ?_ _ | refine qD ?_ | refine qA ?_ _); exact B729.out⟩, ⟨by (with_reducible repeat first | refine qN ?_ _ | refine qD ?_ | refine qA ?_ _); exact B731.out⟩, ⟨by repeat (first | (with_reducible first | exact HB.out | apply eA | apply eN | apply eD | refine eS ?_ GE729.out | refine eS ?_ GE731.out) | exact HB.out)⟩⟩
    case rest =>
     clear HC47
     try clear c1
     try clear c2
     try clear p2
     try clear c3
     try clear c4
     try clear c5
     try clear c6
     try clear p6
     try clear p7
     try clear q7
     try clear hx7
     try clear c8
     try clear c9
     try clear c10
     try clear c10b0
     try clear c11
     try clear c11b0
     try clear c25
     try clear c32
     try clear c32b0
     try clear c32b1
     try clear c33
     try clear c34
     try clear c36
     try clear c38
     try clear c39
     try clear c41
     try clear c42
     try clear c43
     try clear c45
     try clear c48
     try clear c49
     try clear c49b0
     try clear c49b1
     try clear c50
     try clear c50b0
     try clear c50b1
     try clear c51
     try clear c51b0
     try clear c51b1
     try clear c52
     try clear c55
     try clear c58
     try clear c61
     try clear z35_0
     try clear z35_1
     try clear z35_10
     try clear z35_11
     try clear z35_12
     try clear z35_13
     try clear z35_2
     try clear z35_3
     try clear z35_4
     try clear z35_5
     try clear z35_6
     try clear z35_7
     try clear z35_8
     try clear z35_9
     try clear z37_0
     try clear z37_1
     try clear z37_10
     try clear z37_11
     try clear z37_12
     try clear z37_13
     try clear z37_2
     try clear z37_3
     try clear z37_4
     try clear z37_5
     try clear z37_6
     try clear z37_7
     try clear z37_8
     try clear z37_9
     try clear z40_0
     try clear z40_1
     try clear z40_10
     try clear z40_11
     try clear z40_12
     try clear z40_13
     try clear z40_2
     try clear z40_3
     try clear z40_4
     try clear z40_5
     try clear z40_6
     try clear z40_7
     try clear z40_8
     try clear z40_9
     try clear z44_0
     try clear z44_1
     try clear z44_10
     try clear z44_11
     try clear z44_12
     try clear z44_13
     try clear z44_2
     try clear z44_3
     try clear z44_4
     try clear z44_5
     try clear z44_6
     try clear z44_7
     try clear z44_8
     try clear z44_9
     try clear z46_0
     try clear z46_1
     try clear z46_10
     try clear z46_11
     try clear z46_12
     try clear z46_13
     try clear z46_2
     try clear z46_3
     try clear z46_4
     try clear z46_5
     try clear z46_6
     try clear z46_7
     try clear z46_8
     try clear z46_9
     try clear z53_0
     try clear z53_1
     try clear z53_10
     try clear z53_11
     try clear z53_12
     try clear z53_13
     try clear z53_2
     try clear z53_3
     try clear z53_4
     try clear z53_5
     try clear z53_6
     try clear z53_7
     try clear z53_8
     try clear z53_9
     try clear z54_0
     try clear z54_1
     try clear z54_10
     try clear z54_11
     try clear z54_12
     try clear z54_13
     try clear z54_2
     try clear z54_3
     try clear z54_4
     try clear z54_5
     try clear z54_6
     try clear z54_7
     try clear z54_8
     try clear z54_9
     try clear z56_0
     try clear z56_1
     try clear z56_10
     try clear z56_11
     try clear z56_12
     try clear z56_13
     try clear z56_2
     try clear z56_3
     try clear z56_4
     try clear z56_5
     try clear z56_6
     try clear z56_7
     try clear z56_8
     try clear z56_9
     try clear z57_0
     try clear z57_1
     try clear z57_10
     try clear z57_11
     try clear z57_12
     try clear z57_13
     try clear z57_2
     try clear z57_3
     try clear z57_4
     try clear z57_5
     try clear z57_6
     try clear z57_7
     try clear z57_8
     try clear z57_9
     try clear z59_0
     try clear z59_1
     try clear z59_10
     try clear z59_11
     try clear z59_12
     try clear z59_13
     try clear z59_2
     try clear z59_3
     try clear z59_4
     try clear z59_5
     try clear z59_6
     try clear z59_7
     try clear z59_8
     try clear z59_9
     try clear z60_0
     try clear z60_1
     try clear z60_10
     try clear z60_11
     try clear z60_12
     try clear z60_13
     try clear z60_2
     try clear z60_3
     try clear z60_4
     try clear z60_5
     try clear z60_6
     try clear z60_7
     try clear z60_8
     try clear z60_9
     try clear z62_0
     try clear z62_1
     try clear z62_10
     try clear z62_11
     try clear z62_12
     try clear z62_13
     try clear z62_2
     try clear z62_3
     try clear z62_4
     try clear z62_5
     try clear z62_6
     try clear z62_7
     try clear z62_8
     try clear z62_9
     try clear z63_0
     try clear z63_1
     try clear z63_10
     try clear z63_11
     try clear z63_12
     try clear z63_13
     try clear z63_2
     try clear z63_3
     try clear z63_4
     try clear z63_5
     try clear z63_6
     try clear z63_7
     try clear z63_8
     try clear z63_9
     try clear z6_0
     try clear z6_1
     try clear z6_10
     try clear z6_11
     try clear z6_12
     try clear z6_13
     try clear z6_2
     try clear z6_3
     try clear z6_4
     try clear z6_5
     try clear z6_6
     try clear z6_7
     try clear z6_8
     try clear z6_9
     try clear z9_0
     try clear z9_1
     try clear z9_10
     try clear z9_11
     try clear z9_12
     try clear z9_13
     try clear z9_2
     try clear z9_3
     try clear z9_4
     try clear z9_5
     try clear z9_6
     try clear z9_7
     try clear z9_8
     try clear z9_9
     try clear f35_0
     try clear f35_1
     try clear f35_10
     try clear f35_11
     try clear f35_12
     try clear f35_13
     try clear f35_2
     try clear f35_3
     try clear f35_4
     try clear f35_5
     try clear f35_6
     try clear f35_7
     try clear f35_8
     try clear f35_9
     try clear f37_0
     try clear f37_1
     try clear f37_10
     try clear f37_11
     try clear f37_12
     try clear f37_13
     try clear f37_2
     try clear f37_3
     try clear f37_4
     try clear f37_5
     try clear f37_6
     try clear f37_7
     try clear f37_8
     try clear f37_9
     try clear f40_0
     try clear f40_1
     try clear f40_10
     try clear f40_11
     try clear f40_12
     try clear f40_13
     try clear f40_2
     try clear f40_3
     try clear f40_4
     try clear f40_5
     try clear f40_6
     try clear f40_7
     try clear f40_8
     try clear f40_9
     try clear f44_0
     try clear f44_1
     try clear f44_10
     try clear f44_11
     try clear f44_12
     try clear f44_13
     try clear f44_2
     try clear f44_3
     try clear f44_4
     try clear f44_5
     try clear f44_6
     try clear f44_7
     try clear f44_8
     try clear f44_9
     try clear f46_0
     try clear f46_1
     try clear f46_10
     try clear f46_11
     try clear f46_12
     try clear f46_13
     try clear f46_2
     try clear f46_3
     try clear f46_4
     try clear f46_5
     try clear f46_6
     try clear f46_7
     try clear f46_8
     try clear f46_9
     try clear f53_0
     try clear f53_1
     try clear f53_10
     try clear f53_11
     try clear f53_12
     try clear f53_13
     try clear f53_2
     try clear f53_3
     try clear f53_4
     try clear f53_5
     try clear f53_6
     try clear f53_7
     try clear f53_8
     try clear f53_9
     try clear f54_0
     try clear f54_1
     try clear f54_10
     try clear f54_11
     try clear f54_12
     try clear f54_13
     try clear f54_2
     try clear f54_3
     try clear f54_4
     try clear f54_5
     try clear f54_6
     try clear f54_7
     try clear f54_8
     try clear f54_9
     try clear f56_0
     try clear f56_1
     try clear f56_10
     try clear f56_11
     try clear f56_12
     try clear f56_13
     try clear f56_2
     try clear f56_3
     try clear f56_4
     try clear f56_5
     try clear f56_6
     try clear f56_7
     try clear f56_8
     try clear f56_9
     try clear f57_0
     try clear f57_1
     try clear f57_10
     try clear f57_11
     try clear f57_12
     try clear f57_13
     try clear f57_2
     try clear f57_3
     try clear f57_4
     try clear f57_5
     try clear f57_6
     try clear f57_7
     try clear f57_8
     try clear f57_9
     try clear f59_0
     try clear f59_1
     try clear f59_10
     try clear f59_11
     try clear f59_12
     try clear f59_13
     try clear f59_2
     try clear f59_3
     try clear f59_4
     try clear f59_5
     try clear f59_6
     try clear f59_7
     try clear f59_8
     try clear f59_9
     try clear f60_0
     try clear f60_1
     try clear f60_10
     try clear f60_11
     try clear f60_12
     try clear f60_13
     try clear f60_2
     try clear f60_3
     try clear f60_4
     try clear f60_5
     try clear f60_6
     try clear f60_7
     try clear f60_8
     try clear f60_9
     try clear f62_0
     try clear f62_1
     try clear f62_10
     try clear f62_11
     try clear f62_12
     try clear f62_13
     try clear f62_2
     try clear f62_3
     try clear f62_4
     try clear f62_5
     try clear f62_6
     try clear f62_7
     try clear f62_8
     try clear f62_9
     try clear f63_0
     try clear f63_1
     try clear f63_10
     try clear f63_11
     try clear f63_12
     try clear f63_13
     try clear f63_2
     try clear f63_3
     try clear f63_4
     try clear f63_5
     try clear f63_6
     try clear f63_7
     try clear f63_8
     try clear f63_9
     try clear f6_0
     try clear f6_1
     try clear f6_10
     try clear f6_11
     try clear f6_12
     try clear f6_13
     try clear f6_2
     try clear f6_3
     try clear f6_4
     try clear f6_5
     try clear f6_6
     try clear f6_7
     try clear f6_8
     try clear f6_9
     try clear f9_0
     try clear f9_1
     try clear f9_10
     try clear f9_11
     try clear f9_12
     try clear f9_13
     try clear f9_2
     try clear f9_3
     try clear f9_4
     try clear f9_5
     try clear f9_6
     try clear f9_7
     try clear f9_8
     try clear f9_9
     try clear hx732_0
     try clear hx732_1
     try clear hx732_2
     try clear hx732_3
     try clear hx732_4
     try clear hx732_5
     try clear hx732_6
     try clear hx732_7
     try clear hx732_8
     try clear hx732_9
     try clear p2
     try clear p7
     try clear p732
     try clear q7
     try clear q732
     obtain ⟨kq, x4_46, rfl, HA, HJ46, B729, B731, HB⟩ := hcut
     cases kq with
     | zero => exact absurd HA.out (by simp [hogsheadlaw17_DeedEnds.j2])
     | succ kj46 =>
      have H := HA.out
      clear HA
      simp only [hogsheadlaw17_DeedEnds.j2] at H
      obtain rfl := Option.some.inj H
      go_wp2
      go_ret
      exact ⟨by first | rfl | (simp [errW_none, errW_some] <;> rfl) | (simp [*, errW_none, errW_some] <;> rfl), by repeat (first | (with_reducible first | exact HB.out | apply eA | apply eN | apply eD | refine eS ?_ GE729.out | refine eS ?_ GE731.out) | exact HB.out)⟩

end Go.Proofs.Ytmjmmgefkebggaa.PAll
