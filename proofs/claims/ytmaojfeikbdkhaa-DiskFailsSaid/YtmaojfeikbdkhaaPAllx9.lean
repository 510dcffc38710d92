/- Functions of the program as plain Lean functions, and that each call comes to what they say. Laid by a program of this session (hprint.py); Lean checks it. -/
import Derived.Test.YtmaojfeikbdkhaaPAllx0
import Derived.Test.YtmaojfeikbdkhaaPAllx3
import Derived.Test.YtmaojfeikbdkhaaPAllx4
import Derived.Test.YtmaojfeikbdkhaaPAllx6
import Derived.Test.YtmaojfeikbdkhaaPAllx7
import Derived.Test.YtmaojfeikbdkhaaPAllx8
namespace Go.Proofs.Ytmaojfeikbdkhaa.PAll
open Go.RowKit Go.Proofs.YtmaojfeikbdkhaaW.PrintWords Go.Proofs.YtmaojfeikbdkhaaW.PrintLast Go.Proofs.YtmaojfeikbdkhaaW.PrintMore
attribute [local go_sem] max2_int min2_int max_two min_two max_three min_three max_four min_four   -- for this text's walks alone
set_option linter.unusedVariables false
set_option linter.unusedSimpArgs false

/-! ### hogsheadlaw08_DiskFails: function 9 -/
mutual
def hogsheadlaw08_DiskFails.j0 : Nat → Int → Int → Int → Bool → Bool → List ByteArray → List (S47) → Int → Bool → List ByteArray → List (S47) → Int → Bool → Option (Bool)
 | 0, _, _, _, _, _, _, _, _, _, _, _, _, _ => none
 | k + 1, x4, x6, x7, x9, x10, x249000, x249001, x249002, x249003, x250000, x250001, x250002, x250003 => (disk_Burst.f x249000 x249001 x249002 x249003 x6 x4 x7).bind fun bt285 => ((hogsheadref08_Burst.f x249000 x249001 x249002 x249003 x6 x4 x7).bind fun bt295 => ((hogsheadref08_Same.f k bt285.1 bt285.2.1 bt285.2.2.1 bt285.2.2.2.1 bt295.1 bt295.2.1 bt295.2.2.1 bt295.2.2.2.1).bind fun t305 => (if x9 = true then (if x10 = true then (if t305 = true then (if bt285.2.2.2.2 = bt295.2.2.2.2 then ((disk_Same.f k x249000 x249001 x249002 x249003 x250000 x250001 x250002 x250003).bind fun t306 => ((hogsheadref08_Same.f k x249000 x249001 x249002 x249003 x250000 x250001 x250002 x250003).bind fun t307 => (if (t306 == t307) = true then ((disk_Same.f k x249000 x249001 x249002 x249003 x249000 x249001 x249002 x249003).bind fun t308 => (hogsheadlaw08_DiskFails.j1 k t308)) else (hogsheadlaw08_DiskFails.j1 k false)))) else (hogsheadlaw08_DiskFails.j1 k false)) else (hogsheadlaw08_DiskFails.j1 k false)) else (hogsheadlaw08_DiskFails.j1 k false)) else (hogsheadlaw08_DiskFails.j1 k false))))
def hogsheadlaw08_DiskFails.j1 : Nat → Bool → Option (Bool)
 | 0, _ => none
 | k + 1, x2 => some x2
end
def hogsheadlaw08_DiskFails.f (k : Nat) (l0_0 : List ByteArray) (l0_1 : List (S47)) (a0_2 : Int) (a0_3 : Bool) (a0_4 : Int) (a0_5 : Int) (a0_6 : Int) (a0_7 : Int) (l0_8 : List ByteArray) (l0_9 : List (S47)) (a0_10 : Int) (a0_11 : Bool) : Option (Bool) := (hogsheadlaw08_shown.f k).bind fun t250 => ((disk_Crash.f k l0_0 l0_1 a0_2 a0_3 a0_4 a0_5).bind fun bt251 => ((hogsheadref08_Crash.f k l0_0 l0_1 a0_2 a0_3 a0_4 a0_5).bind fun bt259 => ((hogsheadref08_Same.f k bt251.1 bt251.2.1 bt251.2.2.1 bt251.2.2.2 bt259.1 bt259.2.1 bt259.2.2.1 bt259.2.2.2).bind fun t267 => (if t267 = true then ((disk_Arm.f l0_0 l0_1 a0_2 a0_3 a0_4).bind fun bt268 => ((hogsheadref08_Arm.f l0_0 l0_1 a0_2 a0_3 a0_4).bind fun bt276 => ((hogsheadref08_Same.f k bt268.1 bt268.2.1 bt268.2.2.1 bt268.2.2.2 bt276.1 bt276.2.1 bt276.2.2.1 bt276.2.2.2).bind fun t284 => (hogsheadlaw08_DiskFails.j0 k a0_4 a0_6 a0_7 t250 t284 l0_0 l0_1 a0_2 a0_3 l0_8 l0_9 a0_10 a0_11)))) else (hogsheadlaw08_DiskFails.j0 k a0_4 a0_6 a0_7 t250 false l0_0 l0_1 a0_2 a0_3 l0_8 l0_9 a0_10 a0_11)))))
theorem hogsheadlaw08_DiskFails.mono_l : ∀ k, (∀ y0 y1 y2 y3 y4 y5 y6 y7 y8 y9 y10 y11 y12, LeO (hogsheadlaw08_DiskFails.j0 k y0 y1 y2 y3 y4 y5 y6 y7 y8 y9 y10 y11 y12) (hogsheadlaw08_DiskFails.j0 (k + 1) y0 y1 y2 y3 y4 y5 y6 y7 y8 y9 y10 y11 y12)) ∧ (∀ y0, LeO (hogsheadlaw08_DiskFails.j1 k y0) (hogsheadlaw08_DiskFails.j1 (k + 1) y0))
 | 0 => ⟨fun _ _ _ _ _ _ _ _ _ _ _ _ _ r h => by simp [hogsheadlaw08_DiskFails.j0] at h, fun _ r h => by simp [hogsheadlaw08_DiskFails.j1] at h⟩
 | k + 1 => by
  obtain ⟨ih0, ih1⟩ := hogsheadlaw08_DiskFails.mono_l k
  refine ⟨?_, ?_⟩
  ·intro y0 y1 y2 y3 y4 y5 y6 y7 y8 y9 y10 y11 y12
   unfold hogsheadlaw08_DiskFails.j0
   repeat' first
   | (with_reducible exact ih0 _ _ _ _ _ _ _ _ _ _ _ _ _)
   | (with_reducible exact ih1 _)
   | (with_reducible exact disk_Crash.mono _ _ _ _ _ _ _)
   | (with_reducible exact disk_Same.mono _ _ _ _ _ _ _ _ _)
   | (with_reducible exact hogsheadlaw08_shown.mono _)
   | (with_reducible exact hogsheadref08_Crash.mono _ _ _ _ _ _ _)
   | (with_reducible exact hogsheadref08_Same.mono _ _ _ _ _ _ _ _ _)
   | (with_reducible exact LeO.refl _)
   | (with_reducible exact LeO.none _)
   | (with_reducible refine LeO.ite ?_ ?_)
   | (with_reducible refine LeO.bind ?_ (fun _ => ?_))
   | exact ih0 _ _ _ _ _ _ _ _ _ _ _ _ _
   | exact ih1 _
   | exact disk_Crash.mono _ _ _ _ _ _ _
   | exact disk_Same.mono _ _ _ _ _ _ _ _ _
   | exact hogsheadlaw08_shown.mono _
   | exact hogsheadref08_Crash.mono _ _ _ _ _ _ _
   | exact hogsheadref08_Same.mono _ _ _ _ _ _ _ _ _
   | exact LeO.none _
   | refine LeO.ite ?_ ?_
   | refine LeO.bind ?_ (fun _ => ?_)
  ·intro y0
   unfold hogsheadlaw08_DiskFails.j1
   repeat' first
   | (with_reducible exact ih0 _ _ _ _ _ _ _ _ _ _ _ _ _)
   | (with_reducible exact ih1 _)
   | (with_reducible exact disk_Crash.mono _ _ _ _ _ _ _)
   | (with_reducible exact disk_Same.mono _ _ _ _ _ _ _ _ _)
   | (with_reducible exact hogsheadlaw08_shown.mono _)
   | (with_reducible exact hogsheadref08_Crash.mono _ _ _ _ _ _ _)
   | (with_reducible exact hogsheadref08_Same.mono _ _ _ _ _ _ _ _ _)
   | (with_reducible exact LeO.refl _)
   | (with_reducible exact LeO.none _)
   | (with_reducible refine LeO.ite ?_ ?_)
   | (with_reducible refine LeO.bind ?_ (fun _ => ?_))
   | exact ih0 _ _ _ _ _ _ _ _ _ _ _ _ _
   | exact ih1 _
   | exact disk_Crash.mono _ _ _ _ _ _ _
   | exact disk_Same.mono _ _ _ _ _ _ _ _ _
   | exact hogsheadlaw08_shown.mono _
   | exact hogsheadref08_Crash.mono _ _ _ _ _ _ _
   | exact hogsheadref08_Same.mono _ _ _ _ _ _ _ _ _
   | exact LeO.none _
   | refine LeO.ite ?_ ?_
   | refine LeO.bind ?_ (fun _ => ?_)
theorem hogsheadlaw08_DiskFails.mono : ∀ a0 a1 a2 a3 a4 a5 a6 a7 a8 a9 a10 a11 k, LeO (hogsheadlaw08_DiskFails.f k a0 a1 a2 a3 a4 a5 a6 a7 a8 a9 a10 a11) (hogsheadlaw08_DiskFails.f (k + 1) a0 a1 a2 a3 a4 a5 a6 a7 a8 a9 a10 a11) := by
 intro a0 a1 a2 a3 a4 a5 a6 a7 a8 a9 a10 a11 k
 obtain ⟨ih0, ih1⟩ := hogsheadlaw08_DiskFails.mono_l k
 unfold hogsheadlaw08_DiskFails.f
 repeat' first
   | (with_reducible exact ih0 _ _ _ _ _ _ _ _ _ _ _ _ _)
   | (with_reducible exact ih1 _)
   | (with_reducible exact disk_Crash.mono _ _ _ _ _ _ _)
   | (with_reducible exact disk_Same.mono _ _ _ _ _ _ _ _ _)
   | (with_reducible exact hogsheadlaw08_shown.mono _)
   | (with_reducible exact hogsheadref08_Crash.mono _ _ _ _ _ _ _)
   | (with_reducible exact hogsheadref08_Same.mono _ _ _ _ _ _ _ _ _)
   | (with_reducible exact LeO.refl _)
   | (with_reducible exact LeO.none _)
   | (with_reducible refine LeO.ite ?_ ?_)
   | (with_reducible refine LeO.bind ?_ (fun _ => ?_))
   | exact ih0 _ _ _ _ _ _ _ _ _ _ _ _ _
   | exact ih1 _
   | exact disk_Crash.mono _ _ _ _ _ _ _
   | exact disk_Same.mono _ _ _ _ _ _ _ _ _
   | exact hogsheadlaw08_shown.mono _
   | exact hogsheadref08_Crash.mono _ _ _ _ _ _ _
   | exact hogsheadref08_Same.mono _ _ _ _ _ _ _ _ _
   | exact LeO.none _
   | refine LeO.ite ?_ ?_
   | refine LeO.bind ?_ (fun _ => ?_)
def hogsheadlaw08_DiskFails.T8 : Bool × List (List Nat × List Nat) := (true, [([], []), ([], []), ([], []), ([0, 1, 2], [0, 1, 2]), ([], []), ([], []), ([], []), ([4, 5, 6, 3], [4, 5, 6]), ([3, 7, 7], [3, 7]), ([8, 8], [8]), ([9], [9]), ([9], [9]), ([10, 11, 9, 9], [9, 10, 11]), ([9], [9]), ([9], [9]), ([13, 14, 12, 9], [9, 13, 14]), ([12, 15, 15, 9], [9, 12, 15]), ([9, 16], [9, 16]), ([17, 16, 0, 1, 2, 3, 4, 5, 6, 7, 8, 9, 10, 11, 12, 13, 14, 15, 16, 17], [17])])
def hogsheadlaw08_DiskFails.B8 : List Nat := [0, 0, 0, 7, 0, 0, 0, 127, 255, 511, 1023, 1023, 4095, 1023, 1023, 32767, 65535, 131071, 262143]
theorem hogsheadlaw08_DiskFails.tab8 : rtab .any (opsOf Try.f9 8) = hogsheadlaw08_DiskFails.T8 := by kernel_rfl
theorem hogsheadlaw08_DiskFails.bits8 : waitsOk hogsheadlaw08_DiskFails.T8.2 hogsheadlaw08_DiskFails.B8 = true := by kernel_rfl
def hogsheadlaw08_DiskFails.T12 : Bool × List (List Nat × List Nat) := (true, [([], []), ([0], [0]), ([1], [1]), ([1, 2], [1, 2]), ([3, 1], [3]), ([4], [4]), ([4, 5], [4, 5]), ([6, 4], [6]), ([7], [7]), ([7], [7]), ([8, 9, 7], [7, 8, 9]), ([7, 10], [7, 10]), ([11, 7], [11]), ([12], [12]), ([12], [12]), ([13, 14, 12, 12], [12, 13, 14]), ([12], [12]), ([12], [12]), ([16, 17, 15, 12], [12, 16, 17]), ([15, 18, 12], [12, 15, 18]), ([12, 19], [12, 19]), ([20, 18], [20]), ([21], [21]), ([21], [21]), ([22, 23, 21, 21], [21, 22, 23]), ([21, 24], [21, 24]), ([25, 24, 0, 1, 2, 3, 4, 5, 6, 7, 8, 9, 10, 11, 12, 13, 14, 15, 16, 17, 18, 19, 20, 21, 22, 23, 24, 25], [25])])
def hogsheadlaw08_DiskFails.B12 : List Nat := [0, 1, 3, 7, 15, 31, 63, 127, 255, 255, 1023, 2047, 4095, 8191, 8191, 32767, 8191, 8191, 262143, 524287, 1048575, 2097151, 4194303, 4194303, 16777215, 33554431, 67108863]
theorem hogsheadlaw08_DiskFails.tab12 : rtab .any (opsOf Try.f9 12) = hogsheadlaw08_DiskFails.T12 := by kernel_rfl
theorem hogsheadlaw08_DiskFails.bits12 : waitsOk hogsheadlaw08_DiskFails.T12.2 hogsheadlaw08_DiskFails.B12 = true := by kernel_rfl
set_option maxHeartbeats 40000000 in
set_option maxRecDepth 100000 in
theorem hogsheadlaw08_DiskFails.calls (k : Nat) (A0_0 : Option Addr) (c0_0 : Nat) (l0_0 : List ByteArray) (A0_1 : Option Addr) (c0_1 : Nat) (l0_1 : List (S47)) (a0_2 : Int) (a0_3 : Bool) (a0_4 : Int) (a0_5 : Int) (a0_6 : Int) (a0_7 : Int) (A0_8 : Option Addr) (c0_8 : Nat) (l0_8 : List ByteArray) (A0_9 : Option Addr) (c0_9 : Nat) (l0_9 : List (S47)) (a0_10 : Int) (a0_11 : Bool) (r : Bool) (w : World) (hr0_0 : Kd.C Kd.string w A0_0 l0_0.length l0_0) (hc0_0 : l0_0.length ≤ c0_0) (hr0_1 : Kd.C k47 w A0_1 l0_1.length l0_1) (hc0_1 : l0_1.length ≤ c0_1) (hr0_8 : Kd.C Kd.string w A0_8 l0_8.length l0_8) (hc0_8 : l0_8.length ≤ c0_8) (hr0_9 : Kd.C k47 w A0_9 l0_9.length l0_9) (hc0_9 : l0_9.length ≤ c0_9) (h : hogsheadlaw08_DiskFails.f k l0_0 l0_1 a0_2 a0_3 a0_4 a0_5 a0_6 a0_7 l0_8 l0_9 a0_10 a0_11 = some r) :
  Calls Try.prog 9 #[.agg #[.slice A0_0 l0_0.length c0_0, .slice A0_1 l0_1.length c0_1, .int .i64 a0_2, .bool a0_3, .int .i64 a0_4, .int .i64 a0_5, .int .i64 a0_6, .int .u32 a0_7, .slice A0_8 l0_8.length c0_8, .slice A0_9 l0_9.length c0_9, .int .i64 a0_10, .bool a0_11]] w fun e w' => e = .returned (.bool r) ∧ Below w.heap.size w w' := by
 have hu64 := Try.underlying64
 have hu25 := Try.underlying25
 have HR0_0 := qM hr0_0
 have HC0_0 := qM hc0_0
 clear hr0_0 hc0_0
 have HR0_1 := qM hr0_1
 have HC0_1 := qM hc0_1
 clear hr0_1 hc0_1
 have HR0_8 := qM hr0_8
 have HC0_8 := qM hc0_8
 clear hr0_8 hc0_8
 have HR0_9 := qM hr0_9
 have HC0_9 := qM hc0_9
 clear hr0_9 hc0_9
 have HB := qM (Below.refl w.heap.size w)
 have H : ((hogsheadlaw08_shown.f k).bind fun t250 => ((disk_Crash.f k l0_0 l0_1 a0_2 a0_3 a0_4 a0_5).bind fun bt251 => ((hogsheadref08_Crash.f k l0_0 l0_1 a0_2 a0_3 a0_4 a0_5).bind fun bt259 => ((hogsheadref08_Same.f k bt251.1 bt251.2.1 bt251.2.2.1 bt251.2.2.2 bt259.1 bt259.2.1 bt259.2.2.1 bt259.2.2.2).bind fun t267 => (if t267 = true then ((disk_Arm.f l0_0 l0_1 a0_2 a0_3 a0_4).bind fun bt268 => ((hogsheadref08_Arm.f l0_0 l0_1 a0_2 a0_3 a0_4).bind fun bt276 => ((hogsheadref08_Same.f k bt268.1 bt268.2.1 bt268.2.2.1 bt268.2.2.2 bt276.1 bt276.2.1 bt276.2.2.1 bt276.2.2.2).bind fun t284 => (hogsheadlaw08_DiskFails.j0 k a0_4 a0_6 a0_7 t250 t284 l0_0 l0_1 a0_2 a0_3 l0_8 l0_9 a0_10 a0_11)))) else (hogsheadlaw08_DiskFails.j0 k a0_4 a0_6 a0_7 t250 false l0_0 l0_1 a0_2 a0_3 l0_8 l0_9 a0_10 a0_11)))))) = some r := h
 clear h
 replace H := Option.bind_eq_some_iff.mp H
 obtain ⟨t250, A20, H⟩ := H
 replace H : ((disk_Crash.f k l0_0 l0_1 a0_2 a0_3 a0_4 a0_5).bind fun bt251 => ((hogsheadref08_Crash.f k l0_0 l0_1 a0_2 a0_3 a0_4 a0_5).bind fun bt259 => ((hogsheadref08_Same.f k bt251.1 bt251.2.1 bt251.2.2.1 bt251.2.2.2 bt259.1 bt259.2.1 bt259.2.2.1 bt259.2.2.2).bind fun t267 => (if t267 = true then ((disk_Arm.f l0_0 l0_1 a0_2 a0_3 a0_4).bind fun bt268 => ((hogsheadref08_Arm.f l0_0 l0_1 a0_2 a0_3 a0_4).bind fun bt276 => ((hogsheadref08_Same.f k bt268.1 bt268.2.1 bt268.2.2.1 bt268.2.2.2 bt276.1 bt276.2.1 bt276.2.2.1 bt276.2.2.2).bind fun t284 => (hogsheadlaw08_DiskFails.j0 k a0_4 a0_6 a0_7 t250 t284 l0_0 l0_1 a0_2 a0_3 l0_8 l0_9 a0_10 a0_11)))) else (hogsheadlaw08_DiskFails.j0 k a0_4 a0_6 a0_7 t250 false l0_0 l0_1 a0_2 a0_3 l0_8 l0_9 a0_10 a0_11))))) = some r := H
 have A2 := qM A20
 clear A20
 have HC3 := qM H
 clear H
 go_enter Try.func9, Try.ntmps9
 go_upto_region 8 with (first | ((with_reducible refine gate_dst (N := 1) rfl ?_); refine box_event ?hg (N := 1) ?hd (cs := #[.slice A0_0 l0_0.length c0_0, .slice A0_1 l0_1.length c0_1, .int .i64 a0_2, .bool a0_3, .int .i64 a0_4, .int .i64 a0_5, .int .i64 a0_6, .int .u32 a0_7, .slice A0_8 l0_8.length c0_8, .slice A0_9 l0_9.length c0_9, .int .i64 a0_10, .bool a0_11]) (t := 64) ?hr ?_; (case hd => rfl); (case hg => rfl); (case hr => first | (go_simp; done) | (go_simp; rfl)); intro g247 hg w4 hbox hb; have n0_ := qM (eT (by repeat (first | (with_reducible first | exact HB.out | apply eA | apply eN | apply eD) | exact HB.out)) hb); have n1_ := qM (hbox); have n2_ := qM ((by rw [hg]; exact (eZ (by repeat (first | (with_reducible first | exact HB.out | apply eA | apply eN | apply eD) | exact HB.out))) : w.heap.size ≤ g247)); have n3_ := n2_; clear HB; have HB := n0_; have B247 := n1_; have GW247 := n2_; have GE247 := n3_; clear n0_ n1_ n2_ n3_; clear hb hbox hg; obtain ⟨z5_0, z5_1, z5_2, z5_3, z5_4, z5_5, z5_6, z5_7, z5_8, z5_9, z5_10, z5_11, f5_0, f5_1, f5_2, f5_3, f5_4, f5_5, f5_6, f5_7, f5_8, f5_9, f5_10, f5_11⟩ := cells12 B247.out) | ((with_reducible refine gate_dst (N := 3) rfl ?_); refine box_event ?hg (N := 3) ?hd (cs := #[.slice none 0 0, .slice none 0 0, .int .i64 0, .bool false]) (t := 25) ?hr ?_; (case hd => rfl); (case hg => rfl); (case hr => first | (go_simp; done) | (go_simp; rfl)); intro g248 hg w6 hbox hb; have n0_ := qM (qB (g := g247) (by (with_reducible repeat first | refine qN ?_ _ | refine qD ?_ | refine qA ?_ _); exact B247.out) hb); have n1_ := qM (eT (by repeat (first | (with_reducible first | exact HB.out | apply eA | apply eN | apply eD | refine eU ?_ (by assumption)) | exact HB.out)) hb); have n2_ := qM (hbox); have n3_ := qM ((by rw [hg]; exact (eZ (by repeat (first | (with_reducible first | exact HB.out | apply eA | apply eN | apply eD | refine eU ?_ (by assumption)) | exact HB.out))) : w.heap.size ≤ g248)); have n4_ := n3_; have n5_ := qM ((by rw [hg]; exact Nat.ne_of_lt (qL (g := g247) (by (with_reducible repeat first | refine qN ?_ _ | refine qD ?_ | refine qA ?_ _); exact B247.out)) : g247 ≠ g248)); have n6_ := qM (Ne.symm n5_.out); clear B247 HB; have B247 := n0_; have HB := n1_; have B248 := n2_; have GW248 := n3_; have GE248 := n4_; have NB247_248 := n5_; have NB248_247 := n6_; clear n0_ n1_ n2_ n3_ n4_ n5_ n6_; clear hb hbox hg; have hnb7 := NB248_247.out; have hnc7 := NB247_248.out; obtain ⟨z8_0, z8_1, z8_2, z8_3, f8_0, f8_1, f8_2, f8_3⟩ := cells4 B248.out; obtain ⟨z9_0, z9_1, z9_2, z9_3, z9_4, z9_5, z9_6, z9_7, z9_8, z9_9, z9_10, z9_11, f9_0, f9_1, f9_2, f9_3, f9_4, f9_5, f9_6, f9_7, f9_8, f9_9, f9_10, f9_11⟩ := cells12 B247.out) | ((with_reducible refine gate_dst (N := 8) rfl ?_); refine box_event ?hg (N := 8) ?hd (cs := #[.slice none 0 0, .slice none 0 0, .int .i64 0, .bool false]) (t := 25) ?hr ?_; (case hd => rfl); (case hg => rfl); (case hr => first | (go_simp; done) | (go_simp; rfl)); intro g249 hg w10 hbox hb; have n0_ := qM (qB (g := g247) (o := .cells #[.slice A0_0 l0_0.length c0_0, .slice A0_1 l0_1.length c0_1, .int .i64 a0_2, .bool a0_3, .int .i64 a0_4, .int .i64 a0_5, .int .i64 a0_6, .int .u32 a0_7, .slice A0_8 l0_8.length c0_8, .slice A0_9 l0_9.length c0_9, .int .i64 a0_10, .bool a0_11] 64 (0, 0)) (by (with_reducible repeat first | refine qN ?_ _ | refine qD ?_ | refine qA ?_ _); (iterate 4 (refine qR ?_ NB247_248.out _; (with_reducible repeat first | refine qN ?_ _ | refine qD ?_ | refine qA ?_ _))); exact B247.out) hb); have n1_ := qM (qB (g := g248) (by (with_reducible repeat first | refine qN ?_ _ | refine qD ?_ | refine qA ?_ _); apply puts4; (with_reducible repeat first | refine qN ?_ _ | refine qD ?_ | refine qA ?_ _); exact B248.out) hb); have n2_ := qM (eT (by repeat (first | (with_reducible first | exact HB.out | apply eA | apply eN | apply eD | refine eU ?_ (by assumption)) | exact HB.out)) hb); have n3_ := qM (hbox); have n4_ := qM ((by rw [hg]; exact (eZ (by repeat (first | (with_reducible first | exact HB.out | apply eA | apply eN | apply eD | refine eU ?_ (by assumption)) | exact HB.out))) : w.heap.size ≤ g249)); have n5_ := n4_; have n6_ := qM ((by rw [hg]; exact Nat.ne_of_lt (by (with_reducible repeat first | refine Nat.lt_of_lt_of_le ?_ ((Below.refl 0 _).setCell (Nat.zero_le _) _).size | refine Nat.lt_of_lt_of_le ?_ ((Below.refl 0 _).alloc (Nat.zero_le _) _).size); exact qL B247.out) : g247 ≠ g249)); have n7_ := qM ((by rw [hg]; exact Nat.ne_of_gt (by (with_reducible repeat first | refine Nat.lt_of_lt_of_le ?_ ((Below.refl 0 _).setCell (Nat.zero_le _) _).size | refine Nat.lt_of_lt_of_le ?_ ((Below.refl 0 _).alloc (Nat.zero_le _) _).size); exact qL B247.out) : g249 ≠ g247)); have n8_ := qM ((by rw [hg]; exact Nat.ne_of_lt (qL (g := g248) (by (with_reducible repeat first | refine qN ?_ _ | refine qD ?_ | refine qA ?_ _); apply puts4; (with_reducible repeat first | refine qN ?_ _ | refine qD ?_ | refine qA ?_ _); exact B248.out)) : g248 ≠ g249)); have n9_ := qM ((by rw [hg]; exact Nat.ne_of_gt (qL (g := g248) (by (with_reducible repeat first | refine qN ?_ _ | refine qD ?_ | refine qA ?_ _); apply puts4; (with_reducible repeat first | refine qN ?_ _ | refine qD ?_ | refine qA ?_ _); exact B248.out)) : g249 ≠ g248)); clear B247 B248 HB; have B247 := n0_; have B248 := n1_; have HB := n2_; have B249 := n3_; have GW249 := n4_; have GE249 := n5_; have NB247_249 := n6_; have NB249_247 := n7_; have NB248_249 := n8_; have NB249_248 := n9_; clear n0_ n1_ n2_ n3_ n4_ n5_ n6_ n7_ n8_ n9_; clear hb hbox hg; have hnb11 := NB249_247.out; have hnc11 := NB247_249.out; have hnb12 := NB249_248.out; have hnc12 := NB248_249.out; obtain ⟨z13_0, z13_1, z13_2, z13_3, f13_0, f13_1, f13_2, f13_3⟩ := cells4 B249.out) | ((with_reducible refine gate_callee (f := 10) rfl ?_); refine goesL_ (some 28) rfl rfl Try.func10 (by kernel_rfl) rfl #[] rfl (by (try simp only [List.map_toArray, List.map_cons, List.map_nil]); first | done | rfl | (simp only [List.length_drop, List.length_take]; rfl)) ?_; (with_reducible refine (hogsheadlaw08_shown.calls k  t250 _ A2.out).mono ?_); rintro e w14 ⟨rfl, hb⟩; refine ⟨_, rfl, ?_⟩; have n0_ := qM (qB (g := g247) (o := .cells #[.slice A0_0 l0_0.length c0_0, .slice A0_1 l0_1.length c0_1, .int .i64 a0_2, .bool a0_3, .int .i64 a0_4, .int .i64 a0_5, .int .i64 a0_6, .int .u32 a0_7, .slice A0_8 l0_8.length c0_8, .slice A0_9 l0_9.length c0_9, .int .i64 a0_10, .bool a0_11] 64 (0, 0)) (by (with_reducible repeat first | refine qN ?_ _ | refine qD ?_ | refine qA ?_ _); (iterate 4 (refine qR ?_ NB247_249.out _; (with_reducible repeat first | refine qN ?_ _ | refine qD ?_ | refine qA ?_ _))); exact B247.out) hb); have n1_ := qM (qB (g := g248) (o := .cells #[.slice A0_0 l0_0.length c0_0, .slice A0_1 l0_1.length c0_1, .int .i64 a0_2, .bool a0_3] 25 (0, 0)) (by (with_reducible repeat first | refine qN ?_ _ | refine qD ?_ | refine qA ?_ _); (iterate 4 (refine qR ?_ NB248_249.out _; (with_reducible repeat first | refine qN ?_ _ | refine qD ?_ | refine qA ?_ _))); exact B248.out) hb); have n2_ := qM (qB (g := g249) (by (with_reducible repeat first | refine qN ?_ _ | refine qD ?_ | refine qA ?_ _); apply puts4; (with_reducible repeat first | refine qN ?_ _ | refine qD ?_ | refine qA ?_ _); exact B249.out) hb); have n3_ := qM (eT (by repeat (first | (with_reducible first | exact HB.out | apply eA | apply eN | apply eD | refine eU ?_ (by assumption)) | exact HB.out)) hb); clear B247 B248 B249 HB; have B247 := n0_; have B248 := n1_; have B249 := n2_; have HB := n3_; clear n0_ n1_ n2_ n3_; (try clear hb); (try clear hb2); (try clear hk); (try clear hi)))
 (try simp only [Act.put, List.setIfInBounds_toArray, List.set_cons_zero, List.set_cons_succ])
 go_cut [10] (fun v10 wc => ∃ (kq : Nat) (x10_2 : Bool), v10 = .bool x10_2 ∧ Aside0 (hogsheadlaw08_DiskFails.j0 kq a0_4 a0_6 a0_7 t250 x10_2 l0_0 l0_1 a0_2 a0_3 l0_8 l0_9 a0_10 a0_11 = some r) ∧ Aside0 (kq ≤ k) ∧ Aside0 (wc.heap[g247]? = some (.cells #[(.slice A0_0 l0_0.length c0_0), (.slice A0_1 l0_1.length c0_1), .int .i64 a0_2, .bool a0_3, .int .i64 a0_4, .int .i64 a0_5, .int .i64 a0_6, .int .u32 a0_7, (.slice A0_8 l0_8.length c0_8), (.slice A0_9 l0_9.length c0_9), .int .i64 a0_10, .bool a0_11] 64 (0, 0))) ∧ Aside0 (wc.heap[g248]? = some (.cells #[(.slice A0_0 l0_0.length c0_0), (.slice A0_1 l0_1.length c0_1), .int .i64 a0_2, .bool a0_3] 25 (0, 0))) ∧ Aside0 (wc.heap[g249]? = some (.cells #[(.slice A0_8 l0_8.length c0_8), (.slice A0_9 l0_9.length c0_9), .int .i64 a0_10, .bool a0_11] 25 (0, 0))) ∧ Aside0 (Below w.heap.size w wc))
 case first =>
  have H := HC3.out
  clear HC3
  replace H := Option.bind_eq_some_iff.mp H
  obtain ⟨⟨t251, t254, t257, t258⟩, A150, H⟩ := H
  replace H : ((hogsheadref08_Crash.f k l0_0 l0_1 a0_2 a0_3 a0_4 a0_5).bind fun bt259 => ((hogsheadref08_Same.f k t251 t254 t257 t258 bt259.1 bt259.2.1 bt259.2.2.1 bt259.2.2.2).bind fun t267 => (if t267 = true then ((disk_Arm.f l0_0 l0_1 a0_2 a0_3 a0_4).bind fun bt268 => ((hogsheadref08_Arm.f l0_0 l0_1 a0_2 a0_3 a0_4).bind fun bt276 => ((hogsheadref08_Same.f k bt268.1 bt268.2.1 bt268.2.2.1 bt268.2.2.2 bt276.1 bt276.2.1 bt276.2.2.1 bt276.2.2.2).bind fun t284 => (hogsheadlaw08_DiskFails.j0 k a0_4 a0_6 a0_7 t250 t284 l0_0 l0_1 a0_2 a0_3 l0_8 l0_9 a0_10 a0_11)))) else (hogsheadlaw08_DiskFails.j0 k a0_4 a0_6 a0_7 t250 false l0_0 l0_1 a0_2 a0_3 l0_8 l0_9 a0_10 a0_11)))) = some r := H
  have A15 := qM A150
  clear A150
  replace H := Option.bind_eq_some_iff.mp H
  obtain ⟨⟨t259, t262, t265, t266⟩, A160, H⟩ := H
  replace H : ((hogsheadref08_Same.f k t251 t254 t257 t258 t259 t262 t265 t266).bind fun t267 => (if t267 = true then ((disk_Arm.f l0_0 l0_1 a0_2 a0_3 a0_4).bind fun bt268 => ((hogsheadref08_Arm.f l0_0 l0_1 a0_2 a0_3 a0_4).bind fun bt276 => ((hogsheadref08_Same.f k bt268.1 bt268.2.1 bt268.2.2.1 bt268.2.2.2 bt276.1 bt276.2.1 bt276.2.2.1 bt276.2.2.2).bind fun t284 => (hogsheadlaw08_DiskFails.j0 k a0_4 a0_6 a0_7 t250 t284 l0_0 l0_1 a0_2 a0_3 l0_8 l0_9 a0_10 a0_11)))) else (hogsheadlaw08_DiskFails.j0 k a0_4 a0_6 a0_7 t250 false l0_0 l0_1 a0_2 a0_3 l0_8 l0_9 a0_10 a0_11))) = some r := H
  have A16 := qM A160
  clear A160
  replace H := Option.bind_eq_some_iff.mp H
  obtain ⟨t267, A170, H⟩ := H
  replace H : (if t267 = true then ((disk_Arm.f l0_0 l0_1 a0_2 a0_3 a0_4).bind fun bt268 => ((hogsheadref08_Arm.f l0_0 l0_1 a0_2 a0_3 a0_4).bind fun bt276 => ((hogsheadref08_Same.f k bt268.1 bt268.2.1 bt268.2.2.1 bt268.2.2.2 bt276.1 bt276.2.1 bt276.2.2.1 bt276.2.2.2).bind fun t284 => (hogsheadlaw08_DiskFails.j0 k a0_4 a0_6 a0_7 t250 t284 l0_0 l0_1 a0_2 a0_3 l0_8 l0_9 a0_10 a0_11)))) else (hogsheadlaw08_DiskFails.j0 k a0_4 a0_6 a0_7 t250 false l0_0 l0_1 a0_2 a0_3 l0_8 l0_9 a0_10 a0_11)) = some r := H
  have A17 := qM A170
  clear A170
  by_cases c18 : t267 = true
  ·subst c18
   have H1 : ((disk_Arm.f l0_0 l0_1 a0_2 a0_3 a0_4).bind fun bt268 => ((hogsheadref08_Arm.f l0_0 l0_1 a0_2 a0_3 a0_4).bind fun bt276 => ((hogsheadref08_Same.f k bt268.1 bt268.2.1 bt268.2.2.1 bt268.2.2.2 bt276.1 bt276.2.1 bt276.2.2.1 bt276.2.2.2).bind fun t284 => (hogsheadlaw08_DiskFails.j0 k a0_4 a0_6 a0_7 t250 t284 l0_0 l0_1 a0_2 a0_3 l0_8 l0_9 a0_10 a0_11)))) = some r := by rw [if_pos rfl] at H; exact H
   clear H
   have H := H1
   clear H1
   replace H := Option.bind_eq_some_iff.mp H
   obtain ⟨⟨t268, t271, t274, t275⟩, A190, H⟩ := H
   replace H : ((hogsheadref08_Arm.f l0_0 l0_1 a0_2 a0_3 a0_4).bind fun bt276 => ((hogsheadref08_Same.f k t268 t271 t274 t275 bt276.1 bt276.2.1 bt276.2.2.1 bt276.2.2.2).bind fun t284 => (hogsheadlaw08_DiskFails.j0 k a0_4 a0_6 a0_7 t250 t284 l0_0 l0_1 a0_2 a0_3 l0_8 l0_9 a0_10 a0_11))) = some r := H
   have A19 := qM A190
   clear A190
   replace H := Option.bind_eq_some_iff.mp H
   obtain ⟨⟨t276, t279, t282, t283⟩, A200, H⟩ := H
   replace H : ((hogsheadref08_Same.f k t268 t271 t274 t275 t276 t279 t282 t283).bind fun t284 => (hogsheadlaw08_DiskFails.j0 k a0_4 a0_6 a0_7 t250 t284 l0_0 l0_1 a0_2 a0_3 l0_8 l0_9 a0_10 a0_11)) = some r := H
   have A20 := qM A200
   clear A200
   replace H := Option.bind_eq_some_iff.mp H
   obtain ⟨t284, A210, H⟩ := H
   replace H : (hogsheadlaw08_DiskFails.j0 k a0_4 a0_6 a0_7 t250 t284 l0_0 l0_1 a0_2 a0_3 l0_8 l0_9 a0_10 a0_11) = some r := H
   have A21 := qM A210
   clear A210
   have H' := qM H
   clear H
   try go_wp2
   have n0_ := qM (blk_drew B247.out)
   have n1_ := qM (blk_drew B248.out)
   have n2_ := qM (blk_drew B249.out)
   have n3_ := qM (below_drew1 HB.out)
   clear B247
   clear B248
   clear B249
   clear HB
   have B247 := n0_
   have B248 := n1_
   have B249 := n2_
   have HB := n3_
   clear n0_ n1_ n2_ n3_
   refine start_ (n := 19) (S := fun w' => w'.cell? ⟨g248, 0, none⟩ = some (.slice A0_0 l0_0.length c0_0) ∧ w'.cell? ⟨g248, 1, none⟩ = some (.slice A0_1 l0_1.length c0_1) ∧ w'.cell? ⟨g248, 2, none⟩ = some (.int .i64 a0_2) ∧ w'.cell? ⟨g248, 3, none⟩ = some (.bool a0_3)) (ds := []) #[false, false, false, false, false, false, false, false, false, false, false, false, false, false, false, false, false, false, false] (by kernel_rfl) rfl rfl ⟨(qC B248.out 0).trans rfl, (qC B248.out 1).trans rfl, (qC B248.out 2).trans rfl, (qC B248.out 3).trans rfl⟩ (fun hHeld => ?_); refine with_tabW hogsheadlaw08_DiskFails.tab8 hogsheadlaw08_DiskFails.bits8 (fun HT_ HW_ => ?_)
   generalize w14.drew = w22 at B247 B248 B249 HB hHeld ⊢
   refine pure_ (i := 1) (N := some 30) (v := ?_) (a' := ?_) #[false, true, false, false, false, false, false, false, false, false, false, false, false, false, false, false, false, false, false] rfl rfl (any_of HT_.out (by kernel_rfl)) (fun _ _ _ h => h) (Or.inl ⟨by rfl, ?_⟩) ?_ ?_
   rotate_left
   ·intro w'; go_simp; with_reducible rfl
   rotate_left
   ·simp only [Act.put, xA, xZ, xS, i64_w, i32_w]; rfl
   refine pure_ (i := 2) (N := some 31) (v := ?_) (a' := ?_) #[false, true, true, false, false, false, false, false, false, false, false, false, false, false, false, false, false, false, false] rfl rfl (any_of HT_.out (by kernel_rfl)) (fun _ _ _ h => h) (Or.inl ⟨by rfl, ?_⟩) ?_ ?_
   rotate_left
   ·intro w'; go_simp; with_reducible rfl
   rotate_left
   ·simp only [Act.put, xA, xZ, xS, i64_w, i32_w]; rfl
   refine pure_ (i := 5) (N := some 34) (v := ?_) (a' := ?_) #[false, true, true, false, false, true, false, false, false, false, false, false, false, false, false, false, false, false, false] rfl rfl (any_of HT_.out (by kernel_rfl)) (fun _ _ _ h => h) (Or.inl ⟨by rfl, ?_⟩) ?_ ?_
   rotate_left
   ·intro w'; go_simp; with_reducible rfl
   rotate_left
   ·simp only [Act.put, xA, xZ, xS, i64_w, i32_w]; rfl
   refine pure_ (i := 6) (N := some 35) (v := ?_) (a' := ?_) #[false, true, true, false, false, true, true, false, false, false, false, false, false, false, false, false, false, false, false] rfl rfl (any_of HT_.out (by kernel_rfl)) (fun _ _ _ h => h) (Or.inl ⟨by rfl, ?_⟩) ?_ ?_
   rotate_left
   ·intro w'; go_simp; with_reducible rfl
   rotate_left
   ·simp only [Act.put, xA, xZ, xS, i64_w, i32_w]; rfl
   refine take_ (i := 0) (N := some 29) (v := ?_) (a' := ?_) #[true, true, true, false, false, true, true, false, false, false, false, false, false, false, false, false, false, false, false] rfl rfl (take_ofW HT_.out HW_.out (by kernel_rfl)) (fun _ _ _ h => h) (Or.inl ⟨by rfl, ?_⟩) hHeld ?_ ?_
   rotate_left
   ·rintro w' ⟨s0, s1, s2, s3⟩; go_simp; with_reducible rfl
   rotate_left
   ·simp only [Act.put, xA, xZ, xS, i64_w, i32_w]; rfl
   refine take_ (i := 4) (N := some 33) (v := ?_) (a' := ?_) #[true, true, true, false, true, true, true, false, false, false, false, false, false, false, false, false, false, false, false] rfl rfl (take_ofW HT_.out HW_.out (by kernel_rfl)) (fun _ _ _ h => h) (Or.inl ⟨by rfl, ?_⟩) hHeld ?_ ?_
   rotate_left
   ·rintro w' ⟨s0, s1, s2, s3⟩; go_simp; with_reducible rfl
   rotate_left
   ·simp only [Act.put, xA, xZ, xS, i64_w, i32_w]; rfl
   refine one_ (i := 3) (N := some 32) #[true, true, true, true, true, true, true, false, false, false, false, false, false, false, false, false, false, false, false] rfl rfl (one_of HT_.out (by kernel_rfl)) (by decide) (fun K hK => ?_)
   refine goes_ Try.func20 (by kernel_rfl) rfl #[.agg #[.slice A0_0 l0_0.length c0_0, .slice A0_1 l0_1.length c0_1, .int .i64 a0_2, .bool a0_3], .int .i64 a0_4, .int .i64 a0_5] (by rfl) rfl rfl (by (try simp only [List.map_toArray, List.map_cons, List.map_nil]); first | done | rfl | (simp only [List.length_drop, List.length_take]; rfl)) ?_
   with_reducible refine (disk_Crash.calls k _ _ l0_0 _ _ l0_1 a0_2 a0_3 a0_4 a0_5 t251 t254 t257 t258 _ ?side1 ?side2 ?side3 ?side4 A15.out).mono ?_
   (case side1 => repeat (first | exact (Kd.C_below HR0_0.out HB.out) | (with_reducible refine Kd.C_alloc ?_ _) | (with_reducible refine Kd.C_drewN ?_ _) | (with_reducible refine Kd.C_drew ?_)))
   (case side2 => exact HC0_0.out)
   (case side3 => repeat (first | exact (Kd.C_below HR0_1.out HB.out) | (with_reducible refine Kd.C_alloc ?_ _) | (with_reducible refine Kd.C_drewN ?_ _) | (with_reducible refine Kd.C_drew ?_)))
   (case side4 => exact HC0_1.out)
   rintro e w23 ⟨v252, v255, rfl, ho0, ho1, hb⟩
   refine ⟨_, rfl, ?_⟩
   have n0_ := qM (Kd.R_lower ho0 (eZ (by repeat (first | (with_reducible first | exact HB.out | apply eA | apply eN | apply eD | refine eU ?_ (by assumption)) | exact HB.out))))
   have n1_ := qM (Kd.R_lower ho1 (eZ (by repeat (first | (with_reducible first | exact HB.out | apply eA | apply eN | apply eD | refine eU ?_ (by assumption)) | exact HB.out))))
   have n2_ := qM (qB (g := g247) (by (with_reducible repeat first | refine qN ?_ _ | refine qD ?_ | refine qA ?_ _); exact B247.out) hb)
   have n3_ := qM (qB (g := g248) (by (with_reducible repeat first | refine qN ?_ _ | refine qD ?_ | refine qA ?_ _); exact B248.out) hb)
   have n4_ := qM (qB (g := g249) (by (with_reducible repeat first | refine qN ?_ _ | refine qD ?_ | refine qA ?_ _); exact B249.out) hb)
   have n5_ := qM (eT (by repeat (first | (with_reducible first | exact HB.out | apply eA | apply eN | apply eD | refine eU ?_ (by assumption)) | exact HB.out)) hb)
   clear B247
   clear B248
   clear B249
   clear HB
   have HO253 := n0_
   have HO256 := n1_
   have B247 := n2_
   have B248 := n3_
   have B249 := n4_
   have HB := n5_
   clear n0_ n1_ n2_ n3_ n4_ n5_
   (try clear hb)
   (try clear hb2)
   (try clear hk)
   (try clear hi)
   (try clear ho0)
   (try clear ho1)
   refine hK.out _ _ ⟨(qC B248.out 0).trans rfl, (qC B248.out 1).trans rfl, (qC B248.out 2).trans rfl, (qC B248.out 3).trans rfl⟩ (fun hHeld => ?_)
   clear hK K
   refine norm_ (a' := ?_) ?_ ?_
   rotate_left
   ·show Act.put _ (some 32) _ = _
    simp only [Act.put, xA, xZ, xS, i64_w, i32_w]
    rfl
   refine one_ (i := 7) (N := some 36) #[true, true, true, true, true, true, true, true, false, false, false, false, false, false, false, false, false, false, false] rfl rfl (one_of HT_.out (by kernel_rfl)) (by decide) (fun K hK => ?_)
   refine goes_ Try.func23 (by kernel_rfl) rfl #[.agg #[.slice A0_0 l0_0.length c0_0, .slice A0_1 l0_1.length c0_1, .int .i64 a0_2, .bool a0_3], .int .i64 a0_4, .int .i64 a0_5] (by rfl) rfl rfl (by (try simp only [List.map_toArray, List.map_cons, List.map_nil]); first | done | rfl | (simp only [List.length_drop, List.length_take]; rfl)) ?_
   with_reducible refine (hogsheadref08_Crash.calls k _ _ l0_0 _ _ l0_1 a0_2 a0_3 a0_4 a0_5 t259 t262 t265 t266 _ ?side1 ?side2 ?side3 ?side4 A16.out).mono ?_
   (case side1 => repeat (first | exact (Kd.C_below HR0_0.out HB.out) | (with_reducible refine Kd.C_alloc ?_ _) | (with_reducible refine Kd.C_drewN ?_ _) | (with_reducible refine Kd.C_drew ?_)))
   (case side2 => exact HC0_0.out)
   (case side3 => repeat (first | exact (Kd.C_below HR0_1.out HB.out) | (with_reducible refine Kd.C_alloc ?_ _) | (with_reducible refine Kd.C_drewN ?_ _) | (with_reducible refine Kd.C_drew ?_)))
   (case side4 => exact HC0_1.out)
   rintro e w24 ⟨v260, v263, rfl, ho0, ho1, hb⟩
   refine ⟨_, rfl, ?_⟩
   have n0_ := qM (Kd.R_elder' (by (with_reducible repeat first | apply RA | apply RN | apply RD); exact HO253.out) (Kd.R_base ho0) hb)
   have n1_ := qM (Kd.R_elder' (by (with_reducible repeat first | apply RA | apply RN | apply RD); exact HO256.out) (Kd.R_base ho1) hb)
   have n2_ := qM (Kd.R_lower (Kd.R_new' ho0 (Kd.R_lt (by (with_reducible repeat first | apply RA | apply RN | apply RD); exact HO253.out))) (eZ (by repeat (first | (with_reducible first | exact HB.out | apply eA | apply eN | apply eD | refine eU ?_ (by assumption)) | exact HB.out))))
   have n3_ := qM (Kd.R_lower (Kd.R_new' ho1 (Kd.R_lt (by (with_reducible repeat first | apply RA | apply RN | apply RD); exact HO256.out))) (eZ (by repeat (first | (with_reducible first | exact HB.out | apply eA | apply eN | apply eD | refine eU ?_ (by assumption)) | exact HB.out))))
   have n4_ := qM (qB (g := g247) (by (with_reducible repeat first | refine qN ?_ _ | refine qD ?_ | refine qA ?_ _); exact B247.out) hb)
   have n5_ := qM (qB (g := g248) (by (with_reducible repeat first | refine qN ?_ _ | refine qD ?_ | refine qA ?_ _); exact B248.out) hb)
   have n6_ := qM (qB (g := g249) (by (with_reducible repeat first | refine qN ?_ _ | refine qD ?_ | refine qA ?_ _); exact B249.out) hb)
   have n7_ := qM (eT (by repeat (first | (with_reducible first | exact HB.out | apply eA | apply eN | apply eD | refine eU ?_ (by assumption)) | exact HB.out)) hb)
   clear HO253
   clear HO256
   clear B247
   clear B248
   clear B249
   clear HB
   have HO253 := n0_
   have HO256 := n1_
   have HO261 := n2_
   have HO264 := n3_
   have B247 := n4_
   have B248 := n5_
   have B249 := n6_
   have HB := n7_
   clear n0_ n1_ n2_ n3_ n4_ n5_ n6_ n7_
   (try clear hb)
   (try clear hb2)
   (try clear hk)
   (try clear hi)
   (try clear ho0)
   (try clear ho1)
   obtain ⟨Ao25, co25, eo25⟩ := Kd.R_slice HO253.out
   (first | subst eo25 | (injection eo25 with f1_ f2_ f3_; have f4_ := f1_.symm; have f5_ := f3_.symm; clear f1_ f2_ f3_; subst f4_; subst f5_))
   obtain ⟨Ao26, co26, eo26⟩ := Kd.R_slice HO256.out
   (first | subst eo26 | (injection eo26 with f1_ f2_ f3_; have f4_ := f1_.symm; have f5_ := f3_.symm; clear f1_ f2_ f3_; subst f4_; subst f5_))
   obtain ⟨Ao27, co27, eo27⟩ := Kd.R_slice HO261.out
   (first | subst eo27 | (injection eo27 with f1_ f2_ f3_; have f4_ := f1_.symm; have f5_ := f3_.symm; clear f1_ f2_ f3_; subst f4_; subst f5_))
   obtain ⟨Ao28, co28, eo28⟩ := Kd.R_slice HO264.out
   (first | subst eo28 | (injection eo28 with f1_ f2_ f3_; have f4_ := f1_.symm; have f5_ := f3_.symm; clear f1_ f2_ f3_; subst f4_; subst f5_))
   refine hK.out _ _ ⟨(qC B248.out 0).trans rfl, (qC B248.out 1).trans rfl, (qC B248.out 2).trans rfl, (qC B248.out 3).trans rfl⟩ (fun hHeld => ?_)
   clear hK K
   refine norm_ (a' := ?_) ?_ ?_
   rotate_left
   ·show Act.put _ (some 36) _ = _
    simp only [Act.put, xA, xZ, xS, i64_w, i32_w]
    rfl
   refine one_ (i := 8) (N := some 37) #[true, true, true, true, true, true, true, true, true, false, false, false, false, false, false, false, false, false, false] rfl rfl (one_of HT_.out (by kernel_rfl)) (by decide) (fun K hK => ?_)
   refine goes_ Try.func19 (by kernel_rfl) rfl #[.agg #[.slice Ao25 t251.length co25, .slice Ao26 t254.length co26, .int .i64 t257, .bool t258], .agg #[.slice Ao27 t259.length co27, .slice Ao28 t262.length co28, .int .i64 t265, .bool t266]] (by rfl) rfl rfl (by (try simp only [List.map_toArray, List.map_cons, List.map_nil]); first | done | rfl | (simp only [List.length_drop, List.length_take]; rfl)) ?_
   with_reducible refine (hogsheadref08_Same.calls k _ _ t251 _ _ t254 t257 t258 _ _ t259 _ _ t262 t265 t266 true _ ?side1 ?side2 ?side3 ?side4 ?side5 ?side6 ?side7 ?side8 A17.out).mono ?_
   (case side1 => repeat (first | exact (Kd.R_reads' HO253.out).2.2 | (with_reducible refine Kd.C_alloc ?_ _) | (with_reducible refine Kd.C_drewN ?_ _) | (with_reducible refine Kd.C_drew ?_)))
   (case side2 => exact (Kd.R_reads' HO253.out).2.1)
   (case side3 => repeat (first | exact (Kd.R_reads' HO256.out).2.2 | (with_reducible refine Kd.C_alloc ?_ _) | (with_reducible refine Kd.C_drewN ?_ _) | (with_reducible refine Kd.C_drew ?_)))
   (case side4 => exact (Kd.R_reads' HO256.out).2.1)
   (case side5 => repeat (first | exact (Kd.R_reads' HO261.out).2.2 | (with_reducible refine Kd.C_alloc ?_ _) | (with_reducible refine Kd.C_drewN ?_ _) | (with_reducible refine Kd.C_drew ?_)))
   (case side6 => exact (Kd.R_reads' HO261.out).2.1)
   (case side7 => repeat (first | exact (Kd.R_reads' HO264.out).2.2 | (with_reducible refine Kd.C_alloc ?_ _) | (with_reducible refine Kd.C_drewN ?_ _) | (with_reducible refine Kd.C_drew ?_)))
   (case side8 => exact (Kd.R_reads' HO264.out).2.1)
   rintro e w29 ⟨rfl, hb⟩
   refine ⟨_, rfl, ?_⟩
   have n0_ := qM (Kd.R_below (by (with_reducible repeat first | apply RA | apply RN | apply RD); exact HO253.out) hb)
   have n1_ := qM (Kd.R_below (by (with_reducible repeat first | apply RA | apply RN | apply RD); exact HO256.out) hb)
   have n2_ := qM (Kd.R_below (by (with_reducible repeat first | apply RA | apply RN | apply RD); exact HO261.out) hb)
   have n3_ := qM (Kd.R_below (by (with_reducible repeat first | apply RA | apply RN | apply RD); exact HO264.out) hb)
   have n4_ := qM (qB (g := g247) (by (with_reducible repeat first | refine qN ?_ _ | refine qD ?_ | refine qA ?_ _); exact B247.out) hb)
   have n5_ := qM (qB (g := g248) (by (with_reducible repeat first | refine qN ?_ _ | refine qD ?_ | refine qA ?_ _); exact B248.out) hb)
   have n6_ := qM (qB (g := g249) (by (with_reducible repeat first | refine qN ?_ _ | refine qD ?_ | refine qA ?_ _); exact B249.out) hb)
   have n7_ := qM (eT (by repeat (first | (with_reducible first | exact HB.out | apply eA | apply eN | apply eD | refine eU ?_ (by assumption)) | exact HB.out)) hb)
   clear HO253
   clear HO256
   clear HO261
   clear HO264
   clear B247
   clear B248
   clear B249
   clear HB
   have HO253 := n0_
   have HO256 := n1_
   have HO261 := n2_
   have HO264 := n3_
   have B247 := n4_
   have B248 := n5_
   have B249 := n6_
   have HB := n7_
   clear n0_ n1_ n2_ n3_ n4_ n5_ n6_ n7_
   (try clear hb)
   (try clear hb2)
   (try clear hk)
   (try clear hi)
   refine hK.out _ _ ⟨(qC B248.out 0).trans rfl, (qC B248.out 1).trans rfl, (qC B248.out 2).trans rfl, (qC B248.out 3).trans rfl⟩ (fun hHeld => ?_)
   clear hK K
   refine norm_ (a' := ?_) ?_ ?_
   rotate_left
   ·show Act.put _ (some 37) _ = _
    simp only [Act.put, xA, xZ, xS, i64_w, i32_w]
    rfl
   refine pure_ (i := 9) (N := some 38) (v := ?_) (a' := ?_) #[true, true, true, true, true, true, true, true, true, true, false, false, false, false, false, false, false, false, false] rfl rfl (any_of HT_.out (by kernel_rfl)) (fun _ _ _ h => h) (Or.inl ⟨by rfl, ?_⟩) ?_ ?_
   rotate_left
   ·intro w'; go_simp; with_reducible rfl
   rotate_left
   ·simp only [Act.put, xA, xZ, xS, i64_w, i32_w]; rfl
   refine pure_ (i := 11) (N := some 40) (v := ?_) (a' := ?_) #[true, true, true, true, true, true, true, true, true, true, false, true, false, false, false, false, false, false, false] rfl rfl (any_of HT_.out (by kernel_rfl)) (fun _ _ _ h => h) (Or.inl ⟨by rfl, ?_⟩) ?_ ?_
   rotate_left
   ·intro w'; go_simp; with_reducible rfl
   rotate_left
   ·simp only [Act.put, xA, xZ, xS, i64_w, i32_w]; rfl
   refine pure_ (i := 14) (N := some 43) (v := ?_) (a' := ?_) #[true, true, true, true, true, true, true, true, true, true, false, true, false, false, true, false, false, false, false] rfl rfl (any_of HT_.out (by kernel_rfl)) (fun _ _ _ h => h) (Or.inl ⟨by rfl, ?_⟩) ?_ ?_
   rotate_left
   ·intro w'; go_simp; with_reducible rfl
   rotate_left
   ·simp only [Act.put, xA, xZ, xS, i64_w, i32_w]; rfl
   refine take_ (i := 10) (N := some 39) (v := ?_) (a' := ?_) #[true, true, true, true, true, true, true, true, true, true, true, true, false, false, true, false, false, false, false] rfl rfl (take_ofW HT_.out HW_.out (by kernel_rfl)) (fun _ _ _ h => h) (Or.inl ⟨by rfl, ?_⟩) hHeld ?_ ?_
   rotate_left
   ·rintro w' ⟨s0, s1, s2, s3⟩; go_simp; with_reducible rfl
   rotate_left
   ·simp only [Act.put, xA, xZ, xS, i64_w, i32_w]; rfl
   refine take_ (i := 13) (N := some 42) (v := ?_) (a' := ?_) #[true, true, true, true, true, true, true, true, true, true, true, true, false, true, true, false, false, false, false] rfl rfl (take_ofW HT_.out HW_.out (by kernel_rfl)) (fun _ _ _ h => h) (Or.inl ⟨by rfl, ?_⟩) hHeld ?_ ?_
   rotate_left
   ·rintro w' ⟨s0, s1, s2, s3⟩; go_simp; with_reducible rfl
   rotate_left
   ·simp only [Act.put, xA, xZ, xS, i64_w, i32_w]; rfl
   refine one_ (i := 12) (N := some 41) #[true, true, true, true, true, true, true, true, true, true, true, true, true, true, true, false, false, false, false] rfl rfl (one_of HT_.out (by kernel_rfl)) (by decide) (fun K hK => ?_)
   refine goes_ Try.func21 (by kernel_rfl) rfl #[.agg #[.slice A0_0 l0_0.length c0_0, .slice A0_1 l0_1.length c0_1, .int .i64 a0_2, .bool a0_3], .int .i64 a0_4] (by rfl) rfl rfl (by (try simp only [List.map_toArray, List.map_cons, List.map_nil]); first | done | rfl | (simp only [List.length_drop, List.length_take]; rfl)) ?_
   with_reducible refine (disk_Arm.calls (fun k_ => k_ < w.heap.size) _ _ l0_0 (fun k_ => k_ < w.heap.size) _ _ l0_1 a0_2 a0_3 a0_4 t268 t271 t274 t275 _ ?side1 ?side2 A19.out).mono ?_
   (case side1 => exact Kd.V_mk HC0_0.out (Kd.F_below (Kd.C_F Kd.heap_string HR0_0.out) (by repeat (first | (with_reducible first | exact HB.out | apply eA | apply eN | apply eD | refine eU ?_ (by assumption)) | exact HB.out))))
   (case side2 => exact Kd.V_mk HC0_1.out (Kd.F_below (Kd.C_F k47_heap HR0_1.out) (by repeat (first | (with_reducible first | exact HB.out | apply eA | apply eN | apply eD | refine eU ?_ (by assumption)) | exact HB.out))))
   rintro e w30 ⟨v269, v272, rfl, ho0, ho1, hb⟩
   refine ⟨_, rfl, ?_⟩
   have n0_ := qM (Kd.R_below (by (with_reducible repeat first | apply RA | apply RN | apply RD); exact HO253.out) hb)
   have n1_ := qM (Kd.R_below (by (with_reducible repeat first | apply RA | apply RN | apply RD); exact HO256.out) hb)
   have n2_ := qM (Kd.R_below (by (with_reducible repeat first | apply RA | apply RN | apply RD); exact HO261.out) hb)
   have n3_ := qM (Kd.R_below (by (with_reducible repeat first | apply RA | apply RN | apply RD); exact HO264.out) hb)
   have n4_ := qM (Vl (Vm (ok' := fun k_ => some k_ ≠ (.slice Ao25 t251.length co25 : Value).ownBlock ∧ some k_ ≠ (.slice Ao26 t254.length co26 : Value).ownBlock ∧ some k_ ≠ (.slice Ao27 t259.length co27 : Value).ownBlock ∧ some k_ ≠ (.slice Ao28 t262.length co28 : Value).ownBlock ∧ k_ ≠ g247 ∧ k_ ≠ g248 ∧ k_ ≠ g249) ho0 (fun k_ hk_ => ⟨Or.elim hk_ (fun hs_ => Or.elim hs_ (fun hs_ => fun e_ => Nat.not_le.2 hs_ (Kd.R_base HO253.out k_ e_.symm)) (fun hs_ => fun e_ => Nat.not_le.2 hs_ (Kd.R_base HO253.out k_ e_.symm))) (fun hn_ => (Kd.fresh' (Kd.R_lt (by (with_reducible repeat first | apply RA | apply RN | apply RD); exact HO253.out)) k_ hn_)), Or.elim hk_ (fun hs_ => Or.elim hs_ (fun hs_ => fun e_ => Nat.not_le.2 hs_ (Kd.R_base HO256.out k_ e_.symm)) (fun hs_ => fun e_ => Nat.not_le.2 hs_ (Kd.R_base HO256.out k_ e_.symm))) (fun hn_ => (Kd.fresh' (Kd.R_lt (by (with_reducible repeat first | apply RA | apply RN | apply RD); exact HO256.out)) k_ hn_)), Or.elim hk_ (fun hs_ => Or.elim hs_ (fun hs_ => fun e_ => Nat.not_le.2 hs_ (Kd.R_base HO261.out k_ e_.symm)) (fun hs_ => fun e_ => Nat.not_le.2 hs_ (Kd.R_base HO261.out k_ e_.symm))) (fun hn_ => (Kd.fresh' (Kd.R_lt (by (with_reducible repeat first | apply RA | apply RN | apply RD); exact HO261.out)) k_ hn_)), Or.elim hk_ (fun hs_ => Or.elim hs_ (fun hs_ => fun e_ => Nat.not_le.2 hs_ (Kd.R_base HO264.out k_ e_.symm)) (fun hs_ => fun e_ => Nat.not_le.2 hs_ (Kd.R_base HO264.out k_ e_.symm))) (fun hn_ => (Kd.fresh' (Kd.R_lt (by (with_reducible repeat first | apply RA | apply RN | apply RD); exact HO264.out)) k_ hn_)), Or.elim hk_ (fun hs_ => Or.elim hs_ (nL GW247) (nL GW247)) (fun hn_ => (Fb (g := g247) (by (with_reducible repeat first | refine qN ?_ _ | refine qD ?_ | refine qA ?_ _); exact B247.out) k_ hn_)), Or.elim hk_ (fun hs_ => Or.elim hs_ (nL GW248) (nL GW248)) (fun hn_ => (Fb (g := g248) (by (with_reducible repeat first | refine qN ?_ _ | refine qD ?_ | refine qA ?_ _); exact B248.out) k_ hn_)), Or.elim hk_ (fun hs_ => Or.elim hs_ (nL GW249) (nL GW249)) (fun hn_ => (Fb (g := g249) (by (with_reducible repeat first | refine qN ?_ _ | refine qD ?_ | refine qA ?_ _); exact B249.out) k_ hn_))⟩)) (eZ (by repeat (first | (with_reducible first | exact HB.out | apply eA | apply eN | apply eD | refine eU ?_ (by assumption)) | exact HB.out))))
   have n5_ := qM (Vl (Vm (ok' := fun k_ => some k_ ≠ (.slice Ao25 t251.length co25 : Value).ownBlock ∧ some k_ ≠ (.slice Ao26 t254.length co26 : Value).ownBlock ∧ some k_ ≠ (.slice Ao27 t259.length co27 : Value).ownBlock ∧ some k_ ≠ (.slice Ao28 t262.length co28 : Value).ownBlock ∧ k_ ≠ g247 ∧ k_ ≠ g248 ∧ k_ ≠ g249) ho1 (fun k_ hk_ => ⟨Or.elim hk_ (fun hs_ => Or.elim hs_ (fun hs_ => fun e_ => Nat.not_le.2 hs_ (Kd.R_base HO253.out k_ e_.symm)) (fun hs_ => fun e_ => Nat.not_le.2 hs_ (Kd.R_base HO253.out k_ e_.symm))) (fun hn_ => (Kd.fresh' (Kd.R_lt (by (with_reducible repeat first | apply RA | apply RN | apply RD); exact HO253.out)) k_ hn_)), Or.elim hk_ (fun hs_ => Or.elim hs_ (fun hs_ => fun e_ => Nat.not_le.2 hs_ (Kd.R_base HO256.out k_ e_.symm)) (fun hs_ => fun e_ => Nat.not_le.2 hs_ (Kd.R_base HO256.out k_ e_.symm))) (fun hn_ => (Kd.fresh' (Kd.R_lt (by (with_reducible repeat first | apply RA | apply RN | apply RD); exact HO256.out)) k_ hn_)), Or.elim hk_ (fun hs_ => Or.elim hs_ (fun hs_ => fun e_ => Nat.not_le.2 hs_ (Kd.R_base HO261.out k_ e_.symm)) (fun hs_ => fun e_ => Nat.not_le.2 hs_ (Kd.R_base HO261.out k_ e_.symm))) (fun hn_ => (Kd.fresh' (Kd.R_lt (by (with_reducible repeat first | apply RA | apply RN | apply RD); exact HO261.out)) k_ hn_)), Or.elim hk_ (fun hs_ => Or.elim hs_ (fun hs_ => fun e_ => Nat.not_le.2 hs_ (Kd.R_base HO264.out k_ e_.symm)) (fun hs_ => fun e_ => Nat.not_le.2 hs_ (Kd.R_base HO264.out k_ e_.symm))) (fun hn_ => (Kd.fresh' (Kd.R_lt (by (with_reducible repeat first | apply RA | apply RN | apply RD); exact HO264.out)) k_ hn_)), Or.elim hk_ (fun hs_ => Or.elim hs_ (nL GW247) (nL GW247)) (fun hn_ => (Fb (g := g247) (by (with_reducible repeat first | refine qN ?_ _ | refine qD ?_ | refine qA ?_ _); exact B247.out) k_ hn_)), Or.elim hk_ (fun hs_ => Or.elim hs_ (nL GW248) (nL GW248)) (fun hn_ => (Fb (g := g248) (by (with_reducible repeat first | refine qN ?_ _ | refine qD ?_ | refine qA ?_ _); exact B248.out) k_ hn_)), Or.elim hk_ (fun hs_ => Or.elim hs_ (nL GW249) (nL GW249)) (fun hn_ => (Fb (g := g249) (by (with_reducible repeat first | refine qN ?_ _ | refine qD ?_ | refine qA ?_ _); exact B249.out) k_ hn_))⟩)) (eZ (by repeat (first | (with_reducible first | exact HB.out | apply eA | apply eN | apply eD | refine eU ?_ (by assumption)) | exact HB.out))))
   have n6_ := qM (qB (g := g247) (by (with_reducible repeat first | refine qN ?_ _ | refine qD ?_ | refine qA ?_ _); exact B247.out) hb)
   have n7_ := qM (qB (g := g248) (by (with_reducible repeat first | refine qN ?_ _ | refine qD ?_ | refine qA ?_ _); exact B248.out) hb)
   have n8_ := qM (qB (g := g249) (by (with_reducible repeat first | refine qN ?_ _ | refine qD ?_ | refine qA ?_ _); exact B249.out) hb)
   have n9_ := qM (eT (by repeat (first | (with_reducible first | exact HB.out | apply eA | apply eN | apply eD | refine eU ?_ (by assumption)) | exact HB.out)) hb)
   clear HO253
   clear HO256
   clear HO261
   clear HO264
   clear B247
   clear B248
   clear B249
   clear HB
   have HO253 := n0_
   have HO256 := n1_
   have HO261 := n2_
   have HO264 := n3_
   have HO270 := n4_
   have HO273 := n5_
   have B247 := n6_
   have B248 := n7_
   have B249 := n8_
   have HB := n9_
   clear n0_ n1_ n2_ n3_ n4_ n5_ n6_ n7_ n8_ n9_
   (try clear hb)
   (try clear hb2)
   (try clear hk)
   (try clear hi)
   (try clear ho0)
   (try clear ho1)
   refine hK.out _ _ ⟨(qC B248.out 0).trans rfl, (qC B248.out 1).trans rfl, (qC B248.out 2).trans rfl, (qC B248.out 3).trans rfl⟩ (fun hHeld => ?_)
   clear hK K
   refine norm_ (a' := ?_) ?_ ?_
   rotate_left
   ·show Act.put _ (some 41) _ = _
    simp only [Act.put, xA, xZ, xS, i64_w, i32_w]
    rfl
   refine one_ (i := 15) (N := some 44) #[true, true, true, true, true, true, true, true, true, true, true, true, true, true, true, true, false, false, false] rfl rfl (one_of HT_.out (by kernel_rfl)) (by decide) (fun K hK => ?_)
   refine goes_ Try.func24 (by kernel_rfl) rfl #[.agg #[.slice A0_0 l0_0.length c0_0, .slice A0_1 l0_1.length c0_1, .int .i64 a0_2, .bool a0_3], .int .i64 a0_4] (by rfl) rfl rfl (by (try simp only [List.map_toArray, List.map_cons, List.map_nil]); first | done | rfl | (simp only [List.length_drop, List.length_take]; rfl)) ?_
   with_reducible refine (hogsheadref08_Arm.calls (fun k_ => k_ < w.heap.size) _ _ l0_0 (fun k_ => k_ < w.heap.size) _ _ l0_1 a0_2 a0_3 a0_4 t276 t279 t282 t283 _ ?side1 ?side2 A20.out).mono ?_
   (case side1 => exact Kd.V_mk HC0_0.out (Kd.F_below (Kd.C_F Kd.heap_string HR0_0.out) (by repeat (first | (with_reducible first | exact HB.out | apply eA | apply eN | apply eD | refine eU ?_ (by assumption)) | exact HB.out))))
   (case side2 => exact Kd.V_mk HC0_1.out (Kd.F_below (Kd.C_F k47_heap HR0_1.out) (by repeat (first | (with_reducible first | exact HB.out | apply eA | apply eN | apply eD | refine eU ?_ (by assumption)) | exact HB.out))))
   rintro e w31 ⟨v277, v280, rfl, ho0, ho1, hb⟩
   refine ⟨_, rfl, ?_⟩
   have n0_ := qM (Kd.R_below (by (with_reducible repeat first | apply RA | apply RN | apply RD); exact HO253.out) hb)
   have n1_ := qM (Kd.R_below (by (with_reducible repeat first | apply RA | apply RN | apply RD); exact HO256.out) hb)
   have n2_ := qM (Kd.R_below (by (with_reducible repeat first | apply RA | apply RN | apply RD); exact HO261.out) hb)
   have n3_ := qM (Kd.R_below (by (with_reducible repeat first | apply RA | apply RN | apply RD); exact HO264.out) hb)
   have n4_ := qM (Vb (by (with_reducible repeat first | apply VA | apply VN | apply VD); exact HO270.out) hb)
   have n5_ := qM (Vb (by (with_reducible repeat first | apply VA | apply VN | apply VD); exact HO273.out) hb)
   have n6_ := qM (Vl (Vm (ok' := fun k_ => some k_ ≠ (.slice Ao25 t251.length co25 : Value).ownBlock ∧ some k_ ≠ (.slice Ao26 t254.length co26 : Value).ownBlock ∧ some k_ ≠ (.slice Ao27 t259.length co27 : Value).ownBlock ∧ some k_ ≠ (.slice Ao28 t262.length co28 : Value).ownBlock ∧ k_ ≠ g247 ∧ k_ ≠ g248 ∧ k_ ≠ g249) ho0 (fun k_ hk_ => ⟨Or.elim hk_ (fun hs_ => Or.elim hs_ (fun hs_ => fun e_ => Nat.not_le.2 hs_ (Kd.R_base HO253.out k_ e_.symm)) (fun hs_ => fun e_ => Nat.not_le.2 hs_ (Kd.R_base HO253.out k_ e_.symm))) (fun hn_ => (Kd.fresh' (Kd.R_lt (by (with_reducible repeat first | apply RA | apply RN | apply RD); exact HO253.out)) k_ hn_)), Or.elim hk_ (fun hs_ => Or.elim hs_ (fun hs_ => fun e_ => Nat.not_le.2 hs_ (Kd.R_base HO256.out k_ e_.symm)) (fun hs_ => fun e_ => Nat.not_le.2 hs_ (Kd.R_base HO256.out k_ e_.symm))) (fun hn_ => (Kd.fresh' (Kd.R_lt (by (with_reducible repeat first | apply RA | apply RN | apply RD); exact HO256.out)) k_ hn_)), Or.elim hk_ (fun hs_ => Or.elim hs_ (fun hs_ => fun e_ => Nat.not_le.2 hs_ (Kd.R_base HO261.out k_ e_.symm)) (fun hs_ => fun e_ => Nat.not_le.2 hs_ (Kd.R_base HO261.out k_ e_.symm))) (fun hn_ => (Kd.fresh' (Kd.R_lt (by (with_reducible repeat first | apply RA | apply RN | apply RD); exact HO261.out)) k_ hn_)), Or.elim hk_ (fun hs_ => Or.elim hs_ (fun hs_ => fun e_ => Nat.not_le.2 hs_ (Kd.R_base HO264.out k_ e_.symm)) (fun hs_ => fun e_ => Nat.not_le.2 hs_ (Kd.R_base HO264.out k_ e_.symm))) (fun hn_ => (Kd.fresh' (Kd.R_lt (by (with_reducible repeat first | apply RA | apply RN | apply RD); exact HO264.out)) k_ hn_)), Or.elim hk_ (fun hs_ => Or.elim hs_ (nL GW247) (nL GW247)) (fun hn_ => (Fb (g := g247) (by (with_reducible repeat first | refine qN ?_ _ | refine qD ?_ | refine qA ?_ _); exact B247.out) k_ hn_)), Or.elim hk_ (fun hs_ => Or.elim hs_ (nL GW248) (nL GW248)) (fun hn_ => (Fb (g := g248) (by (with_reducible repeat first | refine qN ?_ _ | refine qD ?_ | refine qA ?_ _); exact B248.out) k_ hn_)), Or.elim hk_ (fun hs_ => Or.elim hs_ (nL GW249) (nL GW249)) (fun hn_ => (Fb (g := g249) (by (with_reducible repeat first | refine qN ?_ _ | refine qD ?_ | refine qA ?_ _); exact B249.out) k_ hn_))⟩)) (eZ (by repeat (first | (with_reducible first | exact HB.out | apply eA | apply eN | apply eD | refine eU ?_ (by assumption)) | exact HB.out))))
   have n7_ := qM (Vl (Vm (ok' := fun k_ => some k_ ≠ (.slice Ao25 t251.length co25 : Value).ownBlock ∧ some k_ ≠ (.slice Ao26 t254.length co26 : Value).ownBlock ∧ some k_ ≠ (.slice Ao27 t259.length co27 : Value).ownBlock ∧ some k_ ≠ (.slice Ao28 t262.length co28 : Value).ownBlock ∧ k_ ≠ g247 ∧ k_ ≠ g248 ∧ k_ ≠ g249) ho1 (fun k_ hk_ => ⟨Or.elim hk_ (fun hs_ => Or.elim hs_ (fun hs_ => fun e_ => Nat.not_le.2 hs_ (Kd.R_base HO253.out k_ e_.symm)) (fun hs_ => fun e_ => Nat.not_le.2 hs_ (Kd.R_base HO253.out k_ e_.symm))) (fun hn_ => (Kd.fresh' (Kd.R_lt (by (with_reducible repeat first | apply RA | apply RN | apply RD); exact HO253.out)) k_ hn_)), Or.elim hk_ (fun hs_ => Or.elim hs_ (fun hs_ => fun e_ => Nat.not_le.2 hs_ (Kd.R_base HO256.out k_ e_.symm)) (fun hs_ => fun e_ => Nat.not_le.2 hs_ (Kd.R_base HO256.out k_ e_.symm))) (fun hn_ => (Kd.fresh' (Kd.R_lt (by (with_reducible repeat first | apply RA | apply RN | apply RD); exact HO256.out)) k_ hn_)), Or.elim hk_ (fun hs_ => Or.elim hs_ (fun hs_ => fun e_ => Nat.not_le.2 hs_ (Kd.R_base HO261.out k_ e_.symm)) (fun hs_ => fun e_ => Nat.not_le.2 hs_ (Kd.R_base HO261.out k_ e_.symm))) (fun hn_ => (Kd.fresh' (Kd.R_lt (by (with_reducible repeat first | apply RA | apply RN | apply RD); exact HO261.out)) k_ hn_)), Or.elim hk_ (fun hs_ => Or.elim hs_ (fun hs_ => fun e_ => Nat.not_le.2 hs_ (Kd.R_base HO264.out k_ e_.symm)) (fun hs_ => fun e_ => Nat.not_le.2 hs_ (Kd.R_base HO264.out k_ e_.symm))) (fun hn_ => (Kd.fresh' (Kd.R_lt (by (with_reducible repeat first | apply RA | apply RN | apply RD); exact HO264.out)) k_ hn_)), Or.elim hk_ (fun hs_ => Or.elim hs_ (nL GW247) (nL GW247)) (fun hn_ => (Fb (g := g247) (by (with_reducible repeat first | refine qN ?_ _ | refine qD ?_ | refine qA ?_ _); exact B247.out) k_ hn_)), Or.elim hk_ (fun hs_ => Or.elim hs_ (nL GW248) (nL GW248)) (fun hn_ => (Fb (g := g248) (by (with_reducible repeat first | refine qN ?_ _ | refine qD ?_ | refine qA ?_ _); exact B248.out) k_ hn_)), Or.elim hk_ (fun hs_ => Or.elim hs_ (nL GW249) (nL GW249)) (fun hn_ => (Fb (g := g249) (by (with_reducible repeat first | refine qN ?_ _ | refine qD ?_ | refine qA ?_ _); exact B249.out) k_ hn_))⟩)) (eZ (by repeat (first | (with_reducible first | exact HB.out | apply eA | apply eN | apply eD | refine eU ?_ (by assumption)) | exact HB.out))))
   have n8_ := qM (qB (g := g247) (by (with_reducible repeat first | refine qN ?_ _ | refine qD ?_ | refine qA ?_ _); exact B247.out) hb)
   have n9_ := qM (qB (g := g248) (by (with_reducible repeat first | refine qN ?_ _ | refine qD ?_ | refine qA ?_ _); exact B248.out) hb)
   have n10_ := qM (qB (g := g249) (by (with_reducible repeat first | refine qN ?_ _ | refine qD ?_ | refine qA ?_ _); exact B249.out) hb)
   have n11_ := qM (eT (by repeat (first | (with_reducible first | exact HB.out | apply eA | apply eN | apply eD | refine eU ?_ (by assumption)) | exact HB.out)) hb)
   clear HO253
   clear HO256
   clear HO261
   clear HO264
   clear HO270
   clear HO273
   clear B247
   clear B248
   clear B249
   clear HB
   have HO253 := n0_
   have HO256 := n1_
   have HO261 := n2_
   have HO264 := n3_
   have HO270 := n4_
   have HO273 := n5_
   have HO278 := n6_
   have HO281 := n7_
   have B247 := n8_
   have B248 := n9_
   have B249 := n10_
   have HB := n11_
   clear n0_ n1_ n2_ n3_ n4_ n5_ n6_ n7_ n8_ n9_ n10_ n11_
   (try clear hb)
   (try clear hb2)
   (try clear hk)
   (try clear hi)
   (try clear ho0)
   (try clear ho1)
   obtain ⟨Ao32, co32, eo32⟩ := Kd.V_slice HO270.out
   (first | subst eo32 | (injection eo32 with f1_ f2_ f3_; have f4_ := f1_.symm; have f5_ := f3_.symm; clear f1_ f2_ f3_; subst f4_; subst f5_))
   obtain ⟨Ao33, co33, eo33⟩ := Kd.V_slice HO273.out
   (first | subst eo33 | (injection eo33 with f1_ f2_ f3_; have f4_ := f1_.symm; have f5_ := f3_.symm; clear f1_ f2_ f3_; subst f4_; subst f5_))
   obtain ⟨Ao34, co34, eo34⟩ := Kd.V_slice HO278.out
   (first | subst eo34 | (injection eo34 with f1_ f2_ f3_; have f4_ := f1_.symm; have f5_ := f3_.symm; clear f1_ f2_ f3_; subst f4_; subst f5_))
   obtain ⟨Ao35, co35, eo35⟩ := Kd.V_slice HO281.out
   (first | subst eo35 | (injection eo35 with f1_ f2_ f3_; have f4_ := f1_.symm; have f5_ := f3_.symm; clear f1_ f2_ f3_; subst f4_; subst f5_))
   refine hK.out _ _ ⟨(qC B248.out 0).trans rfl, (qC B248.out 1).trans rfl, (qC B248.out 2).trans rfl, (qC B248.out 3).trans rfl⟩ (fun hHeld => ?_)
   clear hK K
   refine norm_ (a' := ?_) ?_ ?_
   rotate_left
   ·show Act.put _ (some 44) _ = _
    simp only [Act.put, xA, xZ, xS, i64_w, i32_w]
    rfl
   refine one_ (i := 16) (N := some 45) #[true, true, true, true, true, true, true, true, true, true, true, true, true, true, true, true, true, false, false] rfl rfl (one_of HT_.out (by kernel_rfl)) (by decide) (fun K hK => ?_)
   refine goes_ Try.func19 (by kernel_rfl) rfl #[.agg #[.slice Ao32 t268.length co32, .slice Ao33 t271.length co33, .int .i64 t274, .bool t275], .agg #[.slice Ao34 t276.length co34, .slice Ao35 t279.length co35, .int .i64 t282, .bool t283]] (by rfl) rfl rfl (by (try simp only [List.map_toArray, List.map_cons, List.map_nil]); first | done | rfl | (simp only [List.length_drop, List.length_take]; rfl)) ?_
   with_reducible refine (hogsheadref08_Same.calls k _ _ t268 _ _ t271 t274 t275 _ _ t276 _ _ t279 t282 t283 t284 _ ?side1 ?side2 ?side3 ?side4 ?side5 ?side6 ?side7 ?side8 A21.out).mono ?_
   (case side1 => repeat (first | exact (Kd.V_reads' HO270.out).2.2 | (with_reducible refine Kd.C_alloc ?_ _) | (with_reducible refine Kd.C_drewN ?_ _) | (with_reducible refine Kd.C_drew ?_)))
   (case side2 => exact (Kd.V_reads' HO270.out).2.1)
   (case side3 => repeat (first | exact (Kd.V_reads' HO273.out).2.2 | (with_reducible refine Kd.C_alloc ?_ _) | (with_reducible refine Kd.C_drewN ?_ _) | (with_reducible refine Kd.C_drew ?_)))
   (case side4 => exact (Kd.V_reads' HO273.out).2.1)
   (case side5 => repeat (first | exact (Kd.V_reads' HO278.out).2.2 | (with_reducible refine Kd.C_alloc ?_ _) | (with_reducible refine Kd.C_drewN ?_ _) | (with_reducible refine Kd.C_drew ?_)))
   (case side6 => exact (Kd.V_reads' HO278.out).2.1)
   (case side7 => repeat (first | exact (Kd.V_reads' HO281.out).2.2 | (with_reducible refine Kd.C_alloc ?_ _) | (with_reducible refine Kd.C_drewN ?_ _) | (with_reducible refine Kd.C_drew ?_)))
   (case side8 => exact (Kd.V_reads' HO281.out).2.1)
   rintro e w36 ⟨rfl, hb⟩
   refine ⟨_, rfl, ?_⟩
   have n0_ := qM (Kd.R_below (by (with_reducible repeat first | apply RA | apply RN | apply RD); exact HO253.out) hb)
   have n1_ := qM (Kd.R_below (by (with_reducible repeat first | apply RA | apply RN | apply RD); exact HO256.out) hb)
   have n2_ := qM (Kd.R_below (by (with_reducible repeat first | apply RA | apply RN | apply RD); exact HO261.out) hb)
   have n3_ := qM (Kd.R_below (by (with_reducible repeat first | apply RA | apply RN | apply RD); exact HO264.out) hb)
   have n4_ := qM (Vb (by (with_reducible repeat first | apply VA | apply VN | apply VD); exact HO270.out) hb)
   have n5_ := qM (Vb (by (with_reducible repeat first | apply VA | apply VN | apply VD); exact HO273.out) hb)
   have n6_ := qM (Vb (by (with_reducible repeat first | apply VA | apply VN | apply VD); exact HO278.out) hb)
   have n7_ := qM (Vb (by (with_reducible repeat first | apply VA | apply VN | apply VD); exact HO281.out) hb)
   have n8_ := qM (qB (g := g247) (by (with_reducible repeat first | refine qN ?_ _ | refine qD ?_ | refine qA ?_ _); exact B247.out) hb)
   have n9_ := qM (qB (g := g248) (by (with_reducible repeat first | refine qN ?_ _ | refine qD ?_ | refine qA ?_ _); exact B248.out) hb)
   have n10_ := qM (qB (g := g249) (by (with_reducible repeat first | refine qN ?_ _ | refine qD ?_ | refine qA ?_ _); exact B249.out) hb)
   have n11_ := qM (eT (by repeat (first | (with_reducible first | exact HB.out | apply eA | apply eN | apply eD | refine eU ?_ (by assumption)) | exact HB.out)) hb)
   clear HO253
   clear HO256
   clear HO261
   clear HO264
   clear HO270
   clear HO273
   clear HO278
   clear HO281
   clear B247
   clear B248
   clear B249
   clear HB
   have HO253 := n0_
   have HO256 := n1_
   have HO261 := n2_
   have HO264 := n3_
   have HO270 := n4_
   have HO273 := n5_
   have HO278 := n6_
   have HO281 := n7_
   have B247 := n8_
   have B248 := n9_
   have B249 := n10_
   have HB := n11_
   clear n0_ n1_ n2_ n3_ n4_ n5_ n6_ n7_ n8_ n9_ n10_ n11_
   (try clear hb)
   (try clear hb2)
   (try clear hk)
   (try clear hi)
   refine hK.out _ _ ⟨(qC B248.out 0).trans rfl, (qC B248.out 1).trans rfl, (qC B248.out 2).trans rfl, (qC B248.out 3).trans rfl⟩ (fun hHeld => ?_)
   clear hK K
   refine norm_ (a' := ?_) ?_ ?_
   rotate_left
   ·show Act.put _ (some 45) _ = _
    simp only [Act.put, xA, xZ, xS, i64_w, i32_w]
    rfl
   refine pure_ (i := 17) (N := some 46) (v := ?_) (a' := ?_) #[true, true, true, true, true, true, true, true, true, true, true, true, true, true, true, true, true, true, false] rfl rfl (any_of HT_.out (by kernel_rfl)) (fun _ _ _ h => h) (Or.inl ⟨by rfl, ?_⟩) ?_ ?_
   rotate_left
   ·intro w'; go_simp; with_reducible rfl
   rotate_left
   ·simp only [Act.put, xA, xZ, xS, i64_w, i32_w]; rfl
   refine pure_ (i := 18) (N := some 10) (v := ?_) (a' := ?_) #[true, true, true, true, true, true, true, true, true, true, true, true, true, true, true, true, true, true, true] rfl rfl (any_of HT_.out (by kernel_rfl)) (fun _ _ _ h => h) (Or.inl ⟨by rfl, ?_⟩) ?_ ?_
   rotate_left
   ·intro w'; go_simp; with_reducible rfl
   rotate_left
   ·simp only [Act.put, xA, xZ, xS, i64_w, i32_w]; rfl
   refine done_ (done_of HT_.out (by kernel_rfl)) ?_
   try go_wp2
   go_meet
   case rel => exact ⟨_, (t284), (by first | rfl | (simp; done) | (simp [*]; done)), H', ⟨by first | omega | exact Nat.le_refl _⟩, ⟨by (with_reducible repeat first | refine qN ?_ _ | refine qD ?_ | refine qA ?_ _); exact B247.out⟩, ⟨by (with_reducible repeat first | refine qN ?_ _ | refine qD ?_ | refine qA ?_ _); exact B248.out⟩, ⟨by (with_reducible repeat first | refine qN ?_ _ | refine qD ?_ | refine qA ?_ _); exact B249.out⟩, ⟨by repeat (first | (with_reducible first | exact HB.out | apply eA | apply eN | apply eD | refine eS ?_ GE247.out | refine eS ?_ GE248.out | refine eS ?_ GE249.out) | exact HB.out)⟩⟩
  ·replace c18 := Bool.eq_false_iff.mpr c18
   subst c18
   have H1 : (hogsheadlaw08_DiskFails.j0 k a0_4 a0_6 a0_7 t250 false l0_0 l0_1 a0_2 a0_3 l0_8 l0_9 a0_10 a0_11) = some r := by rw [if_neg (show ¬ (false = true) by decide)] at H; exact H
   clear H
   have H := H1
   clear H1
   have H' := qM H
   clear H
   try go_wp2
   have n0_ := qM (blk_drew B247.out)
   have n1_ := qM (blk_drew B248.out)
   have n2_ := qM (blk_drew B249.out)
   have n3_ := qM (below_drew1 HB.out)
   clear B247
   clear B248
   clear B249
   clear HB
   have B247 := n0_
   have B248 := n1_
   have B249 := n2_
   have HB := n3_
   clear n0_ n1_ n2_ n3_
   refine start_ (n := 19) (S := fun w' => w'.cell? ⟨g248, 0, none⟩ = some (.slice A0_0 l0_0.length c0_0) ∧ w'.cell? ⟨g248, 1, none⟩ = some (.slice A0_1 l0_1.length c0_1) ∧ w'.cell? ⟨g248, 2, none⟩ = some (.int .i64 a0_2) ∧ w'.cell? ⟨g248, 3, none⟩ = some (.bool a0_3)) (ds := []) #[false, false, false, false, false, false, false, false, false, false, false, false, false, false, false, false, false, false, false] (by kernel_rfl) rfl rfl ⟨(qC B248.out 0).trans rfl, (qC B248.out 1).trans rfl, (qC B248.out 2).trans rfl, (qC B248.out 3).trans rfl⟩ (fun hHeld => ?_); refine with_tabW hogsheadlaw08_DiskFails.tab8 hogsheadlaw08_DiskFails.bits8 (fun HT_ HW_ => ?_)
   generalize w14.drew = w37 at B247 B248 B249 HB hHeld ⊢
   refine pure_ (i := 1) (N := some 30) (v := ?_) (a' := ?_) #[false, true, false, false, false, false, false, false, false, false, false, false, false, false, false, false, false, false, false] rfl rfl (any_of HT_.out (by kernel_rfl)) (fun _ _ _ h => h) (Or.inl ⟨by rfl, ?_⟩) ?_ ?_
   rotate_left
   ·intro w'; go_simp; with_reducible rfl
   rotate_left
   ·simp only [Act.put, xA, xZ, xS, i64_w, i32_w]; rfl
   refine pure_ (i := 2) (N := some 31) (v := ?_) (a' := ?_) #[false, true, true, false, false, false, false, false, false, false, false, false, false, false, false, false, false, false, false] rfl rfl (any_of HT_.out (by kernel_rfl)) (fun _ _ _ h => h) (Or.inl ⟨by rfl, ?_⟩) ?_ ?_
   rotate_left
   ·intro w'; go_simp; with_reducible rfl
   rotate_left
   ·simp only [Act.put, xA, xZ, xS, i64_w, i32_w]; rfl
   refine pure_ (i := 5) (N := some 34) (v := ?_) (a' := ?_) #[false, true, true, false, false, true, false, false, false, false, false, false, false, false, false, false, false, false, false] rfl rfl (any_of HT_.out (by kernel_rfl)) (fun _ _ _ h => h) (Or.inl ⟨by rfl, ?_⟩) ?_ ?_
   rotate_left
   ·intro w'; go_simp; with_reducible rfl
   rotate_left
   ·simp only [Act.put, xA, xZ, xS, i64_w, i32_w]; rfl
   refine pure_ (i := 6) (N := some 35) (v := ?_) (a' := ?_) #[false, true, true, false, false, true, true, false, false, false, false, false, false, false, false, false, false, false, false] rfl rfl (any_of HT_.out (by kernel_rfl)) (fun _ _ _ h => h) (Or.inl ⟨by rfl, ?_⟩) ?_ ?_
   rotate_left
   ·intro w'; go_simp; with_reducible rfl
   rotate_left
   ·simp only [Act.put, xA, xZ, xS, i64_w, i32_w]; rfl
   refine take_ (i := 0) (N := some 29) (v := ?_) (a' := ?_) #[true, true, true, false, false, true, true, false, false, false, false, false, false, false, false, false, false, false, false] rfl rfl (take_ofW HT_.out HW_.out (by kernel_rfl)) (fun _ _ _ h => h) (Or.inl ⟨by rfl, ?_⟩) hHeld ?_ ?_
   rotate_left
   ·rintro w' ⟨s0, s1, s2, s3⟩; go_simp; with_reducible rfl
   rotate_left
   ·simp only [Act.put, xA, xZ, xS, i64_w, i32_w]; rfl
   refine take_ (i := 4) (N := some 33) (v := ?_) (a' := ?_) #[true, true, true, false, true, true, true, false, false, false, false, false, false, false, false, false, false, false, false] rfl rfl (take_ofW HT_.out HW_.out (by kernel_rfl)) (fun _ _ _ h => h) (Or.inl ⟨by rfl, ?_⟩) hHeld ?_ ?_
   rotate_left
   ·rintro w' ⟨s0, s1, s2, s3⟩; go_simp; with_reducible rfl
   rotate_left
   ·simp only [Act.put, xA, xZ, xS, i64_w, i32_w]; rfl
   refine one_ (i := 3) (N := some 32) #[true, true, true, true, true, true, true, false, false, false, false, false, false, false, false, false, false, false, false] rfl rfl (one_of HT_.out (by kernel_rfl)) (by decide) (fun K hK => ?_)
   refine goes_ Try.func20 (by kernel_rfl) rfl #[.agg #[.slice A0_0 l0_0.length c0_0, .slice A0_1 l0_1.length c0_1, .int .i64 a0_2, .bool a0_3], .int .i64 a0_4, .int .i64 a0_5] (by rfl) rfl rfl (by (try simp only [List.map_toArray, List.map_cons, List.map_nil]); first | done | rfl | (simp only [List.length_drop, List.length_take]; rfl)) ?_
   with_reducible refine (disk_Crash.calls k _ _ l0_0 _ _ l0_1 a0_2 a0_3 a0_4 a0_5 t251 t254 t257 t258 _ ?side1 ?side2 ?side3 ?side4 A15.out).mono ?_
   (case side1 => repeat (first | exact (Kd.C_below HR0_0.out HB.out) | (with_reducible refine Kd.C_alloc ?_ _) | (with_reducible refine Kd.C_drewN ?_ _) | (with_reducible refine Kd.C_drew ?_)))
   (case side2 => exact HC0_0.out)
   (case side3 => repeat (first | exact (Kd.C_below HR0_1.out HB.out) | (with_reducible refine Kd.C_alloc ?_ _) | (with_reducible refine Kd.C_drewN ?_ _) | (with_reducible refine Kd.C_drew ?_)))
   (case side4 => exact HC0_1.out)
   rintro e w38 ⟨v252, v255, rfl, ho0, ho1, hb⟩
   refine ⟨_, rfl, ?_⟩
   have n0_ := qM (Kd.R_lower ho0 (eZ (by repeat (first | (with_reducible first | exact HB.out | apply eA | apply eN | apply eD | refine eU ?_ (by assumption)) | exact HB.out))))
   have n1_ := qM (Kd.R_lower ho1 (eZ (by repeat (first | (with_reducible first | exact HB.out | apply eA | apply eN | apply eD | refine eU ?_ (by assumption)) | exact HB.out))))
   have n2_ := qM (qB (g := g247) (by (with_reducible repeat first | refine qN ?_ _ | refine qD ?_ | refine qA ?_ _); exact B247.out) hb)
   have n3_ := qM (qB (g := g248) (by (with_reducible repeat first | refine qN ?_ _ | refine qD ?_ | refine qA ?_ _); exact B248.out) hb)
   have n4_ := qM (qB (g := g249) (by (with_reducible repeat first | refine qN ?_ _ | refine qD ?_ | refine qA ?_ _); exact B249.out) hb)
   have n5_ := qM (eT (by repeat (first | (with_reducible first | exact HB.out | apply eA | apply eN | apply eD | refine eU ?_ (by assumption)) | exact HB.out)) hb)
   clear B247
   clear B248
   clear B249
   clear HB
   have HO253 := n0_
   have HO256 := n1_
   have B247 := n2_
   have B248 := n3_
   have B249 := n4_
   have HB := n5_
   clear n0_ n1_ n2_ n3_ n4_ n5_
   (try clear hb)
   (try clear hb2)
   (try clear hk)
   (try clear hi)
   (try clear ho0)
   (try clear ho1)
   refine hK.out _ _ ⟨(qC B248.out 0).trans rfl, (qC B248.out 1).trans rfl, (qC B248.out 2).trans rfl, (qC B248.out 3).trans rfl⟩ (fun hHeld => ?_)
   clear hK K
   refine norm_ (a' := ?_) ?_ ?_
   rotate_left
   ·show Act.put _ (some 32) _ = _
    simp only [Act.put, xA, xZ, xS, i64_w, i32_w]
    rfl
   refine one_ (i := 7) (N := some 36) #[true, true, true, true, true, true, true, true, false, false, false, false, false, false, false, false, false, false, false] rfl rfl (one_of HT_.out (by kernel_rfl)) (by decide) (fun K hK => ?_)
   refine goes_ Try.func23 (by kernel_rfl) rfl #[.agg #[.slice A0_0 l0_0.length c0_0, .slice A0_1 l0_1.length c0_1, .int .i64 a0_2, .bool a0_3], .int .i64 a0_4, .int .i64 a0_5] (by rfl) rfl rfl (by (try simp only [List.map_toArray, List.map_cons, List.map_nil]); first | done | rfl | (simp only [List.length_drop, List.length_take]; rfl)) ?_
   with_reducible refine (hogsheadref08_Crash.calls k _ _ l0_0 _ _ l0_1 a0_2 a0_3 a0_4 a0_5 t259 t262 t265 t266 _ ?side1 ?side2 ?side3 ?side4 A16.out).mono ?_
   (case side1 => repeat (first | exact (Kd.C_below HR0_0.out HB.out) | (with_reducible refine Kd.C_alloc ?_ _) | (with_reducible refine Kd.C_drewN ?_ _) | (with_reducible refine Kd.C_drew ?_)))
   (case side2 => exact HC0_0.out)
   (case side3 => repeat (first | exact (Kd.C_below HR0_1.out HB.out) | (with_reducible refine Kd.C_alloc ?_ _) | (with_reducible refine Kd.C_drewN ?_ _) | (with_reducible refine Kd.C_drew ?_)))
   (case side4 => exact HC0_1.out)
   rintro e w39 ⟨v260, v263, rfl, ho0, ho1, hb⟩
   refine ⟨_, rfl, ?_⟩
   have n0_ := qM (Kd.R_elder' (by (with_reducible repeat first | apply RA | apply RN | apply RD); exact HO253.out) (Kd.R_base ho0) hb)
   have n1_ := qM (Kd.R_elder' (by (with_reducible repeat first | apply RA | apply RN | apply RD); exact HO256.out) (Kd.R_base ho1) hb)
   have n2_ := qM (Kd.R_lower (Kd.R_new' ho0 (Kd.R_lt (by (with_reducible repeat first | apply RA | apply RN | apply RD); exact HO253.out))) (eZ (by repeat (first | (with_reducible first | exact HB.out | apply eA | apply eN | apply eD | refine eU ?_ (by assumption)) | exact HB.out))))
   have n3_ := qM (Kd.R_lower (Kd.R_new' ho1 (Kd.R_lt (by (with_reducible repeat first | apply RA | apply RN | apply RD); exact HO256.out))) (eZ (by repeat (first | (with_reducible first | exact HB.out | apply eA | apply eN | apply eD | refine eU ?_ (by assumption)) | exact HB.out))))
   have n4_ := qM (qB (g := g247) (by (with_reducible repeat first | refine qN ?_ _ | refine qD ?_ | refine qA ?_ _); exact B247.out) hb)
   have n5_ := qM (qB (g := g248) (by (with_reducible repeat first | refine qN ?_ _ | refine qD ?_ | refine qA ?_ _); exact B248.out) hb)
   have n6_ := qM (qB (g := g249) (by (with_reducible repeat first | refine qN ?_ _ | refine qD ?_ | refine qA ?_ _); exact B249.out) hb)
   have n7_ := qM (eT (by repeat (first | (with_reducible first | exact HB.out | apply eA | apply eN | apply eD | refine eU ?_ (by assumption)) | exact HB.out)) hb)
   clear HO253
   clear HO256
   clear B247
   clear B248
   clear B249
   clear HB
   have HO253 := n0_
   have HO256 := n1_
   have HO261 := n2_
   have HO264 := n3_
   have B247 := n4_
   have B248 := n5_
   have B249 := n6_
   have HB := n7_
   clear n0_ n1_ n2_ n3_ n4_ n5_ n6_ n7_
   (try clear hb)
   (try clear hb2)
   (try clear hk)
   (try clear hi)
   (try clear ho0)
   (try clear ho1)
   obtain ⟨Ao40, co40, eo40⟩ := Kd.R_slice HO253.out
   (first | subst eo40 | (injection eo40 with f1_ f2_ f3_; have f4_ := f1_.symm; have f5_ := f3_.symm; clear f1_ f2_ f3_; subst f4_; subst f5_))
   obtain ⟨Ao41, co41, eo41⟩ := Kd.R_slice HO256.out
   (first | subst eo41 | (injection eo41 with f1_ f2_ f3_; have f4_ := f1_.symm; have f5_ := f3_.symm; clear f1_ f2_ f3_; subst f4_; subst f5_))
   obtain ⟨Ao42, co42, eo42⟩ := Kd.R_slice HO261.out
   (first | subst eo42 | (injection eo42 with f1_ f2_ f3_; have f4_ := f1_.symm; have f5_ := f3_.symm; clear f1_ f2_ f3_; subst f4_; subst f5_))
   obtain ⟨Ao43, co43, eo43⟩ := Kd.R_slice HO264.out
   (first | subst eo43 | (injection eo43 with f1_ f2_ f3_; have f4_ := f1_.symm; have f5_ := f3_.symm; clear f1_ f2_ f3_; subst f4_; subst f5_))
   refine hK.out _ _ ⟨(qC B248.out 0).trans rfl, (qC B248.out 1).trans rfl, (qC B248.out 2).trans rfl, (qC B248.out 3).trans rfl⟩ (fun hHeld => ?_)
   clear hK K
   refine norm_ (a' := ?_) ?_ ?_
   rotate_left
   ·show Act.put _ (some 36) _ = _
    simp only [Act.put, xA, xZ, xS, i64_w, i32_w]
    rfl
   refine one_ (i := 8) (N := some 37) #[true, true, true, true, true, true, true, true, true, false, false, false, false, false, false, false, false, false, false] rfl rfl (one_of HT_.out (by kernel_rfl)) (by decide) (fun K hK => ?_)
   refine goes_ Try.func19 (by kernel_rfl) rfl #[.agg #[.slice Ao40 t251.length co40, .slice Ao41 t254.length co41, .int .i64 t257, .bool t258], .agg #[.slice Ao42 t259.length co42, .slice Ao43 t262.length co43, .int .i64 t265, .bool t266]] (by rfl) rfl rfl (by (try simp only [List.map_toArray, List.map_cons, List.map_nil]); first | done | rfl | (simp only [List.length_drop, List.length_take]; rfl)) ?_
   with_reducible refine (hogsheadref08_Same.calls k _ _ t251 _ _ t254 t257 t258 _ _ t259 _ _ t262 t265 t266 false _ ?side1 ?side2 ?side3 ?side4 ?side5 ?side6 ?side7 ?side8 A17.out).mono ?_
   (case side1 => repeat (first | exact (Kd.R_reads' HO253.out).2.2 | (with_reducible refine Kd.C_alloc ?_ _) | (with_reducible refine Kd.C_drewN ?_ _) | (with_reducible refine Kd.C_drew ?_)))
   (case side2 => exact (Kd.R_reads' HO253.out).2.1)
   (case side3 => repeat (first | exact (Kd.R_reads' HO256.out).2.2 | (with_reducible refine Kd.C_alloc ?_ _) | (with_reducible refine Kd.C_drewN ?_ _) | (with_reducible refine Kd.C_drew ?_)))
   (case side4 => exact (Kd.R_reads' HO256.out).2.1)
   (case side5 => repeat (first | exact (Kd.R_reads' HO261.out).2.2 | (with_reducible refine Kd.C_alloc ?_ _) | (with_reducible refine Kd.C_drewN ?_ _) | (with_reducible refine Kd.C_drew ?_)))
   (case side6 => exact (Kd.R_reads' HO261.out).2.1)
   (case side7 => repeat (first | exact (Kd.R_reads' HO264.out).2.2 | (with_reducible refine Kd.C_alloc ?_ _) | (with_reducible refine Kd.C_drewN ?_ _) | (with_reducible refine Kd.C_drew ?_)))
   (case side8 => exact (Kd.R_reads' HO264.out).2.1)
   rintro e w44 ⟨rfl, hb⟩
   refine ⟨_, rfl, ?_⟩
   have n0_ := qM (Kd.R_below (by (with_reducible repeat first | apply RA | apply RN | apply RD); exact HO253.out) hb)
   have n1_ := qM (Kd.R_below (by (with_reducible repeat first | apply RA | apply RN | apply RD); exact HO256.out) hb)
   have n2_ := qM (Kd.R_below (by (with_reducible repeat first | apply RA | apply RN | apply RD); exact HO261.out) hb)
   have n3_ := qM (Kd.R_below (by (with_reducible repeat first | apply RA | apply RN | apply RD); exact HO264.out) hb)
   have n4_ := qM (qB (g := g247) (by (with_reducible repeat first | refine qN ?_ _ | refine qD ?_ | refine qA ?_ _); exact B247.out) hb)
   have n5_ := qM (qB (g := g248) (by (with_reducible repeat first | refine qN ?_ _ | refine qD ?_ | refine qA ?_ _); exact B248.out) hb)
   have n6_ := qM (qB (g := g249) (by (with_reducible repeat first | refine qN ?_ _ | refine qD ?_ | refine qA ?_ _); exact B249.out) hb)
   have n7_ := qM (eT (by repeat (first | (with_reducible first | exact HB.out | apply eA | apply eN | apply eD | refine eU ?_ (by assumption)) | exact HB.out)) hb)
   clear HO253
   clear HO256
   clear HO261
   clear HO264
   clear B247
   clear B248
   clear B249
   clear HB
   have HO253 := n0_
   have HO256 := n1_
   have HO261 := n2_
   have HO264 := n3_
   have B247 := n4_
   have B248 := n5_
   have B249 := n6_
   have HB := n7_
   clear n0_ n1_ n2_ n3_ n4_ n5_ n6_ n7_
   (try clear hb)
   (try clear hb2)
   (try clear hk)
   (try clear hi)
   refine hK.out _ _ ⟨(qC B248.out 0).trans rfl, (qC B248.out 1).trans rfl, (qC B248.out 2).trans rfl, (qC B248.out 3).trans rfl⟩ (fun hHeld => ?_)
   clear hK K
   refine norm_ (a' := ?_) ?_ ?_
   rotate_left
   ·show Act.put _ (some 37) _ = _
    simp only [Act.put, xA, xZ, xS, i64_w, i32_w]
    rfl
   refine pure_ (i := 9) (N := some 38) (v := ?_) (a' := ?_) #[true, true, true, true, true, true, true, true, true, true, false, false, false, false, false, false, false, false, false] rfl rfl (any_of HT_.out (by kernel_rfl)) (fun _ _ _ h => h) (Or.inl ⟨by rfl, ?_⟩) ?_ ?_
   rotate_left
   ·intro w'; go_simp; with_reducible rfl
   rotate_left
   ·simp only [Act.put, xA, xZ, xS, i64_w, i32_w]; rfl
   refine pure_ (i := 10) (N := some 39) (v := undef) (a' := ?_) #[true, true, true, true, true, true, true, true, true, true, true, false, false, false, false, false, false, false, false] rfl rfl (any_of HT_.out (by kernel_rfl)) (fun _ _ _ h => h) (Or.inr ⟨by rfl, rfl⟩) ?_ ?_
   rotate_left
   ·simp only [Act.put, xA, xZ, xS, i64_w, i32_w]; rfl
   refine pure_ (i := 11) (N := some 40) (v := undef) (a' := ?_) #[true, true, true, true, true, true, true, true, true, true, true, true, false, false, false, false, false, false, false] rfl rfl (any_of HT_.out (by kernel_rfl)) (fun _ _ _ h => h) (Or.inr ⟨by rfl, rfl⟩) ?_ ?_
   rotate_left
   ·simp only [Act.put, xA, xZ, xS, i64_w, i32_w]; rfl
   refine pure_ (i := 12) (N := some 41) (v := undef) (a' := ?_) #[true, true, true, true, true, true, true, true, true, true, true, true, true, false, false, false, false, false, false] rfl rfl (any_of HT_.out (by kernel_rfl)) (fun _ _ _ h => h) (Or.inr ⟨by rfl, rfl⟩) ?_ ?_
   rotate_left
   ·simp only [Act.put, xA, xZ, xS, i64_w, i32_w]; rfl
   refine pure_ (i := 13) (N := some 42) (v := undef) (a' := ?_) #[true, true, true, true, true, true, true, true, true, true, true, true, true, true, false, false, false, false, false] rfl rfl (any_of HT_.out (by kernel_rfl)) (fun _ _ _ h => h) (Or.inr ⟨by rfl, rfl⟩) ?_ ?_
   rotate_left
   ·simp only [Act.put, xA, xZ, xS, i64_w, i32_w]; rfl
   refine pure_ (i := 14) (N := some 43) (v := undef) (a' := ?_) #[true, true, true, true, true, true, true, true, true, true, true, true, true, true, true, false, false, false, false] rfl rfl (any_of HT_.out (by kernel_rfl)) (fun _ _ _ h => h) (Or.inr ⟨by rfl, rfl⟩) ?_ ?_
   rotate_left
   ·simp only [Act.put, xA, xZ, xS, i64_w, i32_w]; rfl
   refine pure_ (i := 15) (N := some 44) (v := undef) (a' := ?_) #[true, true, true, true, true, true, true, true, true, true, true, true, true, true, true, true, false, false, false] rfl rfl (any_of HT_.out (by kernel_rfl)) (fun _ _ _ h => h) (Or.inr ⟨by rfl, rfl⟩) ?_ ?_
   rotate_left
   ·simp only [Act.put, xA, xZ, xS, i64_w, i32_w]; rfl
   refine pure_ (i := 16) (N := some 45) (v := undef) (a' := ?_) #[true, true, true, true, true, true, true, true, true, true, true, true, true, true, true, true, true, false, false] rfl rfl (any_of HT_.out (by kernel_rfl)) (fun _ _ _ h => h) (Or.inr ⟨by rfl, rfl⟩) ?_ ?_
   rotate_left
   ·simp only [Act.put, xA, xZ, xS, i64_w, i32_w]; rfl
   refine pure_ (i := 17) (N := some 46) (v := ?_) (a' := ?_) #[true, true, true, true, true, true, true, true, true, true, true, true, true, true, true, true, true, true, false] rfl rfl (any_of HT_.out (by kernel_rfl)) (fun _ _ _ h => h) (Or.inl ⟨by rfl, ?_⟩) ?_ ?_
   rotate_left
   ·intro w'; go_simp; with_reducible rfl
   rotate_left
   ·simp only [Act.put, xA, xZ, xS, i64_w, i32_w]; rfl
   refine pure_ (i := 18) (N := some 10) (v := ?_) (a' := ?_) #[true, true, true, true, true, true, true, true, true, true, true, true, true, true, true, true, true, true, true] rfl rfl (any_of HT_.out (by kernel_rfl)) (fun _ _ _ h => h) (Or.inl ⟨by rfl, ?_⟩) ?_ ?_
   rotate_left
   ·intro w'; go_simp; with_reducible rfl
   rotate_left
   ·simp only [Act.put, xA, xZ, xS, i64_w, i32_w]; rfl
   refine done_ (done_of HT_.out (by kernel_rfl)) ?_
   try go_wp2
   go_meet
   case rel => exact ⟨_, (false), (by first | rfl | (simp; done) | (simp [*]; done)), H', ⟨by first | omega | exact Nat.le_refl _⟩, ⟨by (with_reducible repeat first | refine qN ?_ _ | refine qD ?_ | refine qA ?_ _); exact B247.out⟩, ⟨by (with_reducible repeat first | refine qN ?_ _ | refine qD ?_ | refine qA ?_ _); exact B248.out⟩, ⟨by (with_reducible repeat first | refine qN ?_ _ | refine qD ?_ | refine qA ?_ _); exact B249.out⟩, ⟨by repeat (first | (with_reducible first | exact HB.out | apply eA | apply eN | apply eD | refine eS ?_ GE247.out | refine eS ?_ GE248.out | refine eS ?_ GE249.out) | exact HB.out)⟩⟩
 case rest =>
  clear HC3
  try clear c1
  try clear c2
  try clear p2
  try clear c18
  try clear c19
  try clear c20
  try clear c21
  try clear c23
  try clear c24
  obtain ⟨kq, x10_2, rfl, HA, HJ2, B247, B248, B249, HB⟩ := hcut
  cases kq with
  | zero => exact absurd HA.out (by simp [hogsheadlaw08_DiskFails.j0])
  | succ kj2 =>
   have H := HA.out
   clear HA
   simp only [hogsheadlaw08_DiskFails.j0] at H
   replace H := Option.bind_eq_some_iff.mp H
   obtain ⟨⟨t285, t288, t291, t292, t293⟩, A450, H⟩ := H
   replace H : ((hogsheadref08_Burst.f l0_0 l0_1 a0_2 a0_3 a0_6 a0_4 a0_7).bind fun bt295 => ((hogsheadref08_Same.f kj2 t285 t288 t291 t292 bt295.1 bt295.2.1 bt295.2.2.1 bt295.2.2.2.1).bind fun t305 => (if t250 = true then (if x10_2 = true then (if t305 = true then (if t293 = bt295.2.2.2.2 then ((disk_Same.f kj2 l0_0 l0_1 a0_2 a0_3 l0_8 l0_9 a0_10 a0_11).bind fun t306 => ((hogsheadref08_Same.f kj2 l0_0 l0_1 a0_2 a0_3 l0_8 l0_9 a0_10 a0_11).bind fun t307 => (if (t306 == t307) = true then ((disk_Same.f kj2 l0_0 l0_1 a0_2 a0_3 l0_0 l0_1 a0_2 a0_3).bind fun t308 => (hogsheadlaw08_DiskFails.j1 kj2 t308)) else (hogsheadlaw08_DiskFails.j1 kj2 false)))) else (hogsheadlaw08_DiskFails.j1 kj2 false)) else (hogsheadlaw08_DiskFails.j1 kj2 false)) else (hogsheadlaw08_DiskFails.j1 kj2 false)) else (hogsheadlaw08_DiskFails.j1 kj2 false)))) = some r := H
   have A45 := qM A450
   clear A450
   replace H := Option.bind_eq_some_iff.mp H
   obtain ⟨⟨t295, t298, t301, t302, t303⟩, A460, H⟩ := H
   replace H : ((hogsheadref08_Same.f kj2 t285 t288 t291 t292 t295 t298 t301 t302).bind fun t305 => (if t250 = true then (if x10_2 = true then (if t305 = true then (if t293 = t303 then ((disk_Same.f kj2 l0_0 l0_1 a0_2 a0_3 l0_8 l0_9 a0_10 a0_11).bind fun t306 => ((hogsheadref08_Same.f kj2 l0_0 l0_1 a0_2 a0_3 l0_8 l0_9 a0_10 a0_11).bind fun t307 => (if (t306 == t307) = true then ((disk_Same.f kj2 l0_0 l0_1 a0_2 a0_3 l0_0 l0_1 a0_2 a0_3).bind fun t308 => (hogsheadlaw08_DiskFails.j1 kj2 t308)) else (hogsheadlaw08_DiskFails.j1 kj2 false)))) else (hogsheadlaw08_DiskFails.j1 kj2 false)) else (hogsheadlaw08_DiskFails.j1 kj2 false)) else (hogsheadlaw08_DiskFails.j1 kj2 false)) else (hogsheadlaw08_DiskFails.j1 kj2 false))) = some r := H
   have A46 := qM A460
   clear A460
   replace H := Option.bind_eq_some_iff.mp H
   obtain ⟨t305, A470, H⟩ := H
   replace H : (if t250 = true then (if x10_2 = true then (if t305 = true then (if t293 = t303 then ((disk_Same.f kj2 l0_0 l0_1 a0_2 a0_3 l0_8 l0_9 a0_10 a0_11).bind fun t306 => ((hogsheadref08_Same.f kj2 l0_0 l0_1 a0_2 a0_3 l0_8 l0_9 a0_10 a0_11).bind fun t307 => (if (t306 == t307) = true then ((disk_Same.f kj2 l0_0 l0_1 a0_2 a0_3 l0_0 l0_1 a0_2 a0_3).bind fun t308 => (hogsheadlaw08_DiskFails.j1 kj2 t308)) else (hogsheadlaw08_DiskFails.j1 kj2 false)))) else (hogsheadlaw08_DiskFails.j1 kj2 false)) else (hogsheadlaw08_DiskFails.j1 kj2 false)) else (hogsheadlaw08_DiskFails.j1 kj2 false)) else (hogsheadlaw08_DiskFails.j1 kj2 false)) = some r := H
   have A47 := qM A470
   clear A470
   have HC48 := qM H
   clear H
   have hnb49 := NB248_247.out
   have hnc49 := NB247_248.out
   have hnb50 := NB248_249.out
   have hnc50 := NB249_248.out
   obtain ⟨z51_0, z51_1, z51_2, z51_3, f51_0, f51_1, f51_2, f51_3⟩ := cells4 B248.out
   go_upto_region 12 with (first | ((with_reducible refine gate_callee (f := 22) rfl ?_); refine goesL_ (some 52) rfl rfl Try.func22 (by kernel_rfl) rfl #[.agg #[.slice A0_0 l0_0.length c0_0, .slice A0_1 l0_1.length c0_1, .int .i64 a0_2, .bool a0_3], .int .i64 a0_6, .int .i64 a0_4, .int .u32 a0_7] rfl (by (try simp only [List.map_toArray, List.map_cons, List.map_nil]); first | done | rfl | (simp only [List.length_drop, List.length_take]; rfl)) ?_; (with_reducible refine (disk_Burst.calls (fun k_ => k_ < w.heap.size) _ _ l0_0 (fun k_ => k_ < w.heap.size) _ _ l0_1 a0_2 a0_3 a0_6 a0_4 a0_7 t285 t288 t291 t292 t293 _ ?side1 ?side2 A45.out).mono ?_); (case side1 => exact Kd.V_mk HC0_0.out (Kd.F_below (Kd.C_F Kd.heap_string HR0_0.out) (by repeat (first | (with_reducible first | exact HB.out | apply eA | apply eN | apply eD | refine eU ?_ (by assumption)) | exact HB.out)))); (case side2 => exact Kd.V_mk HC0_1.out (Kd.F_below (Kd.C_F k47_heap HR0_1.out) (by repeat (first | (with_reducible first | exact HB.out | apply eA | apply eN | apply eD | refine eU ?_ (by assumption)) | exact HB.out)))); rintro e w52 ⟨v286, v289, rfl, ho0, ho1, hb⟩; refine ⟨_, rfl, ?_⟩; have n0_ := qM (Vl (Vm (ok' := fun k_ => k_ ≠ g247 ∧ k_ ≠ g248 ∧ k_ ≠ g249) ho0 (fun k_ hk_ => ⟨Or.elim hk_ (fun hs_ => Or.elim hs_ (nL GW247) (nL GW247)) (fun hn_ => (Fb (g := g247) (by (with_reducible repeat first | refine qN ?_ _ | refine qD ?_ | refine qA ?_ _); exact B247.out) k_ hn_)), Or.elim hk_ (fun hs_ => Or.elim hs_ (nL GW248) (nL GW248)) (fun hn_ => (Fb (g := g248) (by (with_reducible repeat first | refine qN ?_ _ | refine qD ?_ | refine qA ?_ _); exact B248.out) k_ hn_)), Or.elim hk_ (fun hs_ => Or.elim hs_ (nL GW249) (nL GW249)) (fun hn_ => (Fb (g := g249) (by (with_reducible repeat first | refine qN ?_ _ | refine qD ?_ | refine qA ?_ _); exact B249.out) k_ hn_))⟩)) (eZ (by repeat (first | (with_reducible first | exact HB.out | apply eA | apply eN | apply eD | refine eU ?_ (by assumption)) | exact HB.out)))); have n1_ := qM (Vl (Vm (ok' := fun k_ => k_ ≠ g247 ∧ k_ ≠ g248 ∧ k_ ≠ g249) ho1 (fun k_ hk_ => ⟨Or.elim hk_ (fun hs_ => Or.elim hs_ (nL GW247) (nL GW247)) (fun hn_ => (Fb (g := g247) (by (with_reducible repeat first | refine qN ?_ _ | refine qD ?_ | refine qA ?_ _); exact B247.out) k_ hn_)), Or.elim hk_ (fun hs_ => Or.elim hs_ (nL GW248) (nL GW248)) (fun hn_ => (Fb (g := g248) (by (with_reducible repeat first | refine qN ?_ _ | refine qD ?_ | refine qA ?_ _); exact B248.out) k_ hn_)), Or.elim hk_ (fun hs_ => Or.elim hs_ (nL GW249) (nL GW249)) (fun hn_ => (Fb (g := g249) (by (with_reducible repeat first | refine qN ?_ _ | refine qD ?_ | refine qA ?_ _); exact B249.out) k_ hn_))⟩)) (eZ (by repeat (first | (with_reducible first | exact HB.out | apply eA | apply eN | apply eD | refine eU ?_ (by assumption)) | exact HB.out)))); have n2_ := qM (qB (g := g247) (by (with_reducible repeat first | refine qN ?_ _ | refine qD ?_ | refine qA ?_ _); exact B247.out) hb); have n3_ := qM (qB (g := g248) (by (with_reducible repeat first | refine qN ?_ _ | refine qD ?_ | refine qA ?_ _); exact B248.out) hb); have n4_ := qM (qB (g := g249) (by (with_reducible repeat first | refine qN ?_ _ | refine qD ?_ | refine qA ?_ _); exact B249.out) hb); have n5_ := qM (eT (by repeat (first | (with_reducible first | exact HB.out | apply eA | apply eN | apply eD | refine eU ?_ (by assumption)) | exact HB.out)) hb); clear B247 B248 B249 HB; have HO287 := n0_; have HO290 := n1_; have B247 := n2_; have B248 := n3_; have B249 := n4_; have HB := n5_; clear n0_ n1_ n2_ n3_ n4_ n5_; (try clear hb); (try clear hb2); (try clear hk); (try clear hi); (try clear ho0); (try clear ho1)) | ((with_reducible refine gate_dst (N := 11) rfl ?_); refine box_event ?hg (N := 11) ?hd (cs := #[.slice none 0 0, .slice none 0 0, .int .i64 0, .bool false]) (t := 25) ?hr ?_; (case hd => rfl); (case hg => rfl); (case hr => first | (go_simp; done) | (go_simp; rfl)); intro g294 hg w53 hbox hb; have n0_ := qM (Vb (Kd.V_elderB (by (with_reducible repeat first | apply VA | apply VN | apply VD); exact HO287.out) g294 (Nat.le_of_eq hg.symm)) hb); have n1_ := qM (Vb (Kd.V_elderB (by (with_reducible repeat first | apply VA | apply VN | apply VD); exact HO290.out) g294 (Nat.le_of_eq hg.symm)) hb); have n2_ := qM (qB (g := g247) (by (with_reducible repeat first | refine qN ?_ _ | refine qD ?_ | refine qA ?_ _); exact B247.out) hb); have n3_ := qM (qB (g := g248) (by (with_reducible repeat first | refine qN ?_ _ | refine qD ?_ | refine qA ?_ _); exact B248.out) hb); have n4_ := qM (qB (g := g249) (by (with_reducible repeat first | refine qN ?_ _ | refine qD ?_ | refine qA ?_ _); exact B249.out) hb); have n5_ := qM (eT (by repeat (first | (with_reducible first | exact HB.out | apply eA | apply eN | apply eD | refine eU ?_ (by assumption)) | exact HB.out)) hb); have n6_ := qM (hbox); have n7_ := qM ((by rw [hg]; exact (eZ (by repeat (first | (with_reducible first | exact HB.out | apply eA | apply eN | apply eD | refine eU ?_ (by assumption)) | exact HB.out))) : w.heap.size ≤ g294)); have n8_ := n7_; have n9_ := qM ((by rw [hg]; exact Nat.ne_of_lt (qL (g := g247) (by (with_reducible repeat first | refine qN ?_ _ | refine qD ?_ | refine qA ?_ _); exact B247.out)) : g247 ≠ g294)); have n10_ := qM (Ne.symm n9_.out); have n11_ := qM ((by rw [hg]; exact Nat.ne_of_lt (qL (g := g248) (by (with_reducible repeat first | refine qN ?_ _ | refine qD ?_ | refine qA ?_ _); exact B248.out)) : g248 ≠ g294)); have n12_ := qM (Ne.symm n11_.out); have n13_ := qM ((by rw [hg]; exact Nat.ne_of_lt (qL (g := g249) (by (with_reducible repeat first | refine qN ?_ _ | refine qD ?_ | refine qA ?_ _); exact B249.out)) : g249 ≠ g294)); have n14_ := qM (Ne.symm n13_.out); clear HO287 HO290 B247 B248 B249 HB; have HO287 := n0_; have HO290 := n1_; have B247 := n2_; have B248 := n3_; have B249 := n4_; have HB := n5_; have B294 := n6_; have GW294 := n7_; have GE294 := n8_; have NB247_294 := n9_; have NB294_247 := n10_; have NB248_294 := n11_; have NB294_248 := n12_; have NB249_294 := n13_; have NB294_249 := n14_; clear n0_ n1_ n2_ n3_ n4_ n5_ n6_ n7_ n8_ n9_ n10_ n11_ n12_ n13_ n14_; clear hb hbox hg; obtain ⟨Ao54, co54, eo54⟩ := Kd.V_slice HO287.out; subst eo54; have hnb55 := NB294_247.out; have hnc55 := NB247_294.out; have hnb56 := NB294_248.out; have hnc56 := NB248_294.out; have hnb57 := NB294_249.out; have hnc57 := NB249_294.out; obtain ⟨z58_0, z58_1, z58_2, z58_3, f58_0, f58_1, f58_2, f58_3⟩ := cells4 B294.out; obtain ⟨Ao59, co59, eo59⟩ := Kd.V_slice HO290.out; subst eo59) | ((with_reducible refine gate_store (t := 25) (p := 11) rfl ?_); refine store_event (t := 25) (p := 11) (v := ?vo_w60) (w1 := ((((w53.setCell ⟨g294, 0, none⟩ (.slice Ao54 t285.length co54)).setCell ⟨g294, 1, none⟩ (.slice Ao59 t288.length co59)).setCell ⟨g294, 2, none⟩ (.int .i64 t291)).setCell ⟨g294, 3, none⟩ (.bool t292))) ?hg ?ho ?hn ?hr ?_; (case ho => rfl); (case hg => rfl); (case hn => rfl); (case hr => first | (go_simp; done) | (go_simp; rfl)); intro w60 hw; have n0_ : Aside0 (Kd.V Kd.string 9 w60 w.heap.size (fun k_ => k_ ≠ g247 ∧ k_ ≠ g248 ∧ k_ ≠ g249 ∧ k_ ≠ g294) (.slice Ao54 t285.length co54) t285) := ⟨(by rw [hw]; exact (by (with_reducible repeat first | apply VA | apply VN | apply VD); exact Vm (Vf (p := ⟨g294, 3, none⟩) (Vf (p := ⟨g294, 2, none⟩) (Vf (p := ⟨g294, 1, none⟩) (Vf (p := ⟨g294, 0, none⟩) (Vm HO287.out (fun k_ hk => (⟨hk, hk.2⟩ : _ ∧ k_ ≠ g294))) (fun _ hk => hk.2) (.slice Ao54 t285.length co54)) (fun _ hk => hk.2) (.slice Ao59 t288.length co59)) (fun _ hk => hk.2) (.int .i64 t291)) (fun _ hk => hk.2) (.bool t292)) (fun _ hk => ⟨hk.1.1.1, ⟨hk.1.1.2.1, ⟨hk.1.1.2.2, hk.1.2⟩⟩⟩)))⟩; have n1_ : Aside0 (Kd.V k47 47 w60 w.heap.size (fun k_ => k_ ≠ g247 ∧ k_ ≠ g248 ∧ k_ ≠ g249 ∧ k_ ≠ g294) (.slice Ao59 t288.length co59) t288) := ⟨(by rw [hw]; exact (by (with_reducible repeat first | apply VA | apply VN | apply VD); exact Vm (Vf (p := ⟨g294, 3, none⟩) (Vf (p := ⟨g294, 2, none⟩) (Vf (p := ⟨g294, 1, none⟩) (Vf (p := ⟨g294, 0, none⟩) (Vm HO290.out (fun k_ hk => (⟨hk, hk.2⟩ : _ ∧ k_ ≠ g294))) (fun _ hk => hk.2) (.slice Ao54 t285.length co54)) (fun _ hk => hk.2) (.slice Ao59 t288.length co59)) (fun _ hk => hk.2) (.int .i64 t291)) (fun _ hk => hk.2) (.bool t292)) (fun _ hk => ⟨hk.1.1.1, ⟨hk.1.1.2.1, ⟨hk.1.1.2.2, hk.1.2⟩⟩⟩)))⟩; have n2_ : Aside0 (w60.heap[g247]? = some (.cells #[.slice A0_0 l0_0.length c0_0, .slice A0_1 l0_1.length c0_1, .int .i64 a0_2, .bool a0_3, .int .i64 a0_4, .int .i64 a0_5, .int .i64 a0_6, .int .u32 a0_7, .slice A0_8 l0_8.length c0_8, .slice A0_9 l0_9.length c0_9, .int .i64 a0_10, .bool a0_11] 64 (0, 0))) := ⟨(by rw [hw]; exact (by (with_reducible repeat first | refine qN ?_ _ | refine qD ?_ | refine qA ?_ _); (iterate 4 (refine qR ?_ NB247_294.out _; (with_reducible repeat first | refine qN ?_ _ | refine qD ?_ | refine qA ?_ _))); exact B247.out))⟩; have n3_ : Aside0 (w60.heap[g248]? = some (.cells #[.slice A0_0 l0_0.length c0_0, .slice A0_1 l0_1.length c0_1, .int .i64 a0_2, .bool a0_3] 25 (0, 0))) := ⟨(by rw [hw]; exact (by (with_reducible repeat first | refine qN ?_ _ | refine qD ?_ | refine qA ?_ _); (iterate 4 (refine qR ?_ NB248_294.out _; (with_reducible repeat first | refine qN ?_ _ | refine qD ?_ | refine qA ?_ _))); exact B248.out))⟩; have n4_ : Aside0 (w60.heap[g249]? = some (.cells #[.slice A0_8 l0_8.length c0_8, .slice A0_9 l0_9.length c0_9, .int .i64 a0_10, .bool a0_11] 25 (0, 0))) := ⟨(by rw [hw]; exact (by (with_reducible repeat first | refine qN ?_ _ | refine qD ?_ | refine qA ?_ _); (iterate 4 (refine qR ?_ NB249_294.out _; (with_reducible repeat first | refine qN ?_ _ | refine qD ?_ | refine qA ?_ _))); exact B249.out))⟩; have n5_ : Aside0 (w60.heap[g294]? = some (.cells #[.slice Ao54 t285.length co54, .slice Ao59 t288.length co59, .int .i64 t291, .bool t292] 25 (0, 0))) := ⟨(by rw [hw]; exact (by (with_reducible repeat first | refine qN ?_ _ | refine qD ?_ | refine qA ?_ _); apply puts4; (with_reducible repeat first | refine qN ?_ _ | refine qD ?_ | refine qA ?_ _); exact B294.out))⟩; have n6_ : Aside0 (Below w.heap.size w w60) := ⟨(by rw [hw]; exact (by repeat (first | (with_reducible first | exact HB.out | apply eA | apply eN | apply eD | refine eU ?_ (by assumption)) | exact HB.out)))⟩; clear hw HO287 HO290 B247 B248 B249 B294 HB; have HO287 := n0_; have HO290 := n1_; have B247 := n2_; have B248 := n3_; have B249 := n4_; have B294 := n5_; have HB := n6_; clear n0_ n1_ n2_ n3_ n4_ n5_ n6_; obtain ⟨z61_0, z61_1, z61_2, z61_3, f61_0, f61_1, f61_2, f61_3⟩ := cells4 B248.out) | ((with_reducible refine gate_callee (f := 25) rfl ?_); refine goesL_ (some 60) rfl rfl Try.func25 (by kernel_rfl) rfl #[.agg #[.slice A0_0 l0_0.length c0_0, .slice A0_1 l0_1.length c0_1, .int .i64 a0_2, .bool a0_3], .int .i64 a0_6, .int .i64 a0_4, .int .u32 a0_7] rfl (by (try simp only [List.map_toArray, List.map_cons, List.map_nil]); first | done | rfl | (simp only [List.length_drop, List.length_take]; rfl)) ?_; (with_reducible refine (hogsheadref08_Burst.calls (fun k_ => k_ < w.heap.size) _ _ l0_0 (fun k_ => k_ < w.heap.size) _ _ l0_1 a0_2 a0_3 a0_6 a0_4 a0_7 t295 t298 t301 t302 t303 _ ?side1 ?side2 A46.out).mono ?_); (case side1 => exact Kd.V_mk HC0_0.out (Kd.F_below (Kd.C_F Kd.heap_string HR0_0.out) (by repeat (first | (with_reducible first | exact HB.out | apply eA | apply eN | apply eD | refine eU ?_ (by assumption)) | exact HB.out)))); (case side2 => exact Kd.V_mk HC0_1.out (Kd.F_below (Kd.C_F k47_heap HR0_1.out) (by repeat (first | (with_reducible first | exact HB.out | apply eA | apply eN | apply eD | refine eU ?_ (by assumption)) | exact HB.out)))); rintro e w62 ⟨v296, v299, rfl, ho0, ho1, hb⟩; refine ⟨_, rfl, ?_⟩; have n0_ := qM (Vb (by (with_reducible repeat first | apply VA | apply VN | apply VD); exact HO287.out) hb); have n1_ := qM (Vb (by (with_reducible repeat first | apply VA | apply VN | apply VD); exact HO290.out) hb); have n2_ := qM (Vl (Vm (ok' := fun k_ => k_ ≠ g247 ∧ k_ ≠ g248 ∧ k_ ≠ g249 ∧ k_ ≠ g294) ho0 (fun k_ hk_ => ⟨Or.elim hk_ (fun hs_ => Or.elim hs_ (nL GW247) (nL GW247)) (fun hn_ => (Fb (g := g247) (by (with_reducible repeat first | refine qN ?_ _ | refine qD ?_ | refine qA ?_ _); exact B247.out) k_ hn_)), Or.elim hk_ (fun hs_ => Or.elim hs_ (nL GW248) (nL GW248)) (fun hn_ => (Fb (g := g248) (by (with_reducible repeat first | refine qN ?_ _ | refine qD ?_ | refine qA ?_ _); exact B248.out) k_ hn_)), Or.elim hk_ (fun hs_ => Or.elim hs_ (nL GW249) (nL GW249)) (fun hn_ => (Fb (g := g249) (by (with_reducible repeat first | refine qN ?_ _ | refine qD ?_ | refine qA ?_ _); exact B249.out) k_ hn_)), Or.elim hk_ (fun hs_ => Or.elim hs_ (nL GW294) (nL GW294)) (fun hn_ => (Fb (g := g294) (by (with_reducible repeat first | refine qN ?_ _ | refine qD ?_ | refine qA ?_ _); exact B294.out) k_ hn_))⟩)) (eZ (by repeat (first | (with_reducible first | exact HB.out | apply eA | apply eN | apply eD | refine eU ?_ (by assumption)) | exact HB.out)))); have n3_ := qM (Vl (Vm (ok' := fun k_ => k_ ≠ g247 ∧ k_ ≠ g248 ∧ k_ ≠ g249 ∧ k_ ≠ g294) ho1 (fun k_ hk_ => ⟨Or.elim hk_ (fun hs_ => Or.elim hs_ (nL GW247) (nL GW247)) (fun hn_ => (Fb (g := g247) (by (with_reducible repeat first | refine qN ?_ _ | refine qD ?_ | refine qA ?_ _); exact B247.out) k_ hn_)), Or.elim hk_ (fun hs_ => Or.elim hs_ (nL GW248) (nL GW248)) (fun hn_ => (Fb (g := g248) (by (with_reducible repeat first | refine qN ?_ _ | refine qD ?_ | refine qA ?_ _); exact B248.out) k_ hn_)), Or.elim hk_ (fun hs_ => Or.elim hs_ (nL GW249) (nL GW249)) (fun hn_ => (Fb (g := g249) (by (with_reducible repeat first | refine qN ?_ _ | refine qD ?_ | refine qA ?_ _); exact B249.out) k_ hn_)), Or.elim hk_ (fun hs_ => Or.elim hs_ (nL GW294) (nL GW294)) (fun hn_ => (Fb (g := g294) (by (with_reducible repeat first | refine qN ?_ _ | refine qD ?_ | refine qA ?_ _); exact B294.out) k_ hn_))⟩)) (eZ (by repeat (first | (with_reducible first | exact HB.out | apply eA | apply eN | apply eD | refine eU ?_ (by assumption)) | exact HB.out)))); have n4_ := qM (qB (g := g247) (by (with_reducible repeat first | refine qN ?_ _ | refine qD ?_ | refine qA ?_ _); exact B247.out) hb); have n5_ := qM (qB (g := g248) (by (with_reducible repeat first | refine qN ?_ _ | refine qD ?_ | refine qA ?_ _); exact B248.out) hb); have n6_ := qM (qB (g := g249) (by (with_reducible repeat first | refine qN ?_ _ | refine qD ?_ | refine qA ?_ _); exact B249.out) hb); have n7_ := qM (qB (g := g294) (by (with_reducible repeat first | refine qN ?_ _ | refine qD ?_ | refine qA ?_ _); exact B294.out) hb); have n8_ := qM (eT (by repeat (first | (with_reducible first | exact HB.out | apply eA | apply eN | apply eD | refine eU ?_ (by assumption)) | exact HB.out)) hb); clear HO287 HO290 B247 B248 B249 B294 HB; have HO287 := n0_; have HO290 := n1_; have HO297 := n2_; have HO300 := n3_; have B247 := n4_; have B248 := n5_; have B249 := n6_; have B294 := n7_; have HB := n8_; clear n0_ n1_ n2_ n3_ n4_ n5_ n6_ n7_ n8_; (try clear hb); (try clear hb2); (try clear hk); (try clear hi); (try clear ho0); (try clear ho1)) | ((with_reducible refine gate_dst (N := 13) rfl ?_); refine box_event ?hg (N := 13) ?hd (cs := #[.slice none 0 0, .slice none 0 0, .int .i64 0, .bool false]) (t := 25) ?hr ?_; (case hd => rfl); (case hg => rfl); (case hr => first | (go_simp; done) | (go_simp; rfl)); intro g304 hg w63 hbox hb; have n0_ := qM (Vb (Kd.V_elderB (by (with_reducible repeat first | apply VA | apply VN | apply VD); exact HO287.out) g304 (Nat.le_of_eq hg.symm)) hb); have n1_ := qM (Vb (Kd.V_elderB (by (with_reducible repeat first | apply VA | apply VN | apply VD); exact HO290.out) g304 (Nat.le_of_eq hg.symm)) hb); have n2_ := qM (Vb (Kd.V_elderB (by (with_reducible repeat first | apply VA | apply VN | apply VD); exact HO297.out) g304 (Nat.le_of_eq hg.symm)) hb); have n3_ := qM (Vb (Kd.V_elderB (by (with_reducible repeat first | apply VA | apply VN | apply VD); exact HO300.out) g304 (Nat.le_of_eq hg.symm)) hb); have n4_ := qM (qB (g := g247) (by (with_reducible repeat first | refine qN ?_ _ | refine qD ?_ | refine qA ?_ _); exact B247.out) hb); have n5_ := qM (qB (g := g248) (by (with_reducible repeat first | refine qN ?_ _ | refine qD ?_ | refine qA ?_ _); exact B248.out) hb); have n6_ := qM (qB (g := g249) (by (with_reducible repeat first | refine qN ?_ _ | refine qD ?_ | refine qA ?_ _); exact B249.out) hb); have n7_ := qM (qB (g := g294) (by (with_reducible repeat first | refine qN ?_ _ | refine qD ?_ | refine qA ?_ _); exact B294.out) hb); have n8_ := qM (eT (by repeat (first | (with_reducible first | exact HB.out | apply eA | apply eN | apply eD | refine eU ?_ (by assumption)) | exact HB.out)) hb); have n9_ := qM (hbox); have n10_ := qM ((by rw [hg]; exact (eZ (by repeat (first | (with_reducible first | exact HB.out | apply eA | apply eN | apply eD | refine eU ?_ (by assumption)) | exact HB.out))) : w.heap.size ≤ g304)); have n11_ := n10_; have n12_ := qM ((by rw [hg]; exact Nat.ne_of_lt (qL (g := g247) (by (with_reducible repeat first | refine qN ?_ _ | refine qD ?_ | refine qA ?_ _); exact B247.out)) : g247 ≠ g304)); have n13_ := qM (Ne.symm n12_.out); have n14_ := qM ((by rw [hg]; exact Nat.ne_of_lt (qL (g := g248) (by (with_reducible repeat first | refine qN ?_ _ | refine qD ?_ | refine qA ?_ _); exact B248.out)) : g248 ≠ g304)); have n15_ := qM (Ne.symm n14_.out); have n16_ := qM ((by rw [hg]; exact Nat.ne_of_lt (qL (g := g249) (by (with_reducible repeat first | refine qN ?_ _ | refine qD ?_ | refine qA ?_ _); exact B249.out)) : g249 ≠ g304)); have n17_ := qM (Ne.symm n16_.out); have n18_ := qM ((by rw [hg]; exact Nat.ne_of_lt (qL (g := g294) (by (with_reducible repeat first | refine qN ?_ _ | refine qD ?_ | refine qA ?_ _); exact B294.out)) : g294 ≠ g304)); have n19_ := qM (Ne.symm n18_.out); clear HO287 HO290 HO297 HO300 B247 B248 B249 B294 HB; have HO287 := n0_; have HO290 := n1_; have HO297 := n2_; have HO300 := n3_; have B247 := n4_; have B248 := n5_; have B249 := n6_; have B294 := n7_; have HB := n8_; have B304 := n9_; have GW304 := n10_; have GE304 := n11_; have NB247_304 := n12_; have NB304_247 := n13_; have NB248_304 := n14_; have NB304_248 := n15_; have NB249_304 := n16_; have NB304_249 := n17_; have NB294_304 := n18_; have NB304_294 := n19_; clear n0_ n1_ n2_ n3_ n4_ n5_ n6_ n7_ n8_ n9_ n10_ n11_ n12_ n13_ n14_ n15_ n16_ n17_ n18_ n19_; clear hb hbox hg; obtain ⟨Ao64, co64, eo64⟩ := Kd.V_slice HO297.out; subst eo64; have hnb65 := NB304_247.out; have hnc65 := NB247_304.out; have hnb66 := NB304_248.out; have hnc66 := NB248_304.out; have hnb67 := NB304_249.out; have hnc67 := NB249_304.out; have hnb68 := NB304_294.out; have hnc68 := NB294_304.out; obtain ⟨z69_0, z69_1, z69_2, z69_3, f69_0, f69_1, f69_2, f69_3⟩ := cells4 B304.out; obtain ⟨Ao70, co70, eo70⟩ := Kd.V_slice HO300.out; subst eo70; obtain ⟨z71_0, z71_1, z71_2, z71_3, f71_0, f71_1, f71_2, f71_3⟩ := cells4 B294.out) | ((with_reducible refine gate_callee (f := 19) rfl ?_); refine goesL_ (some 65) rfl rfl Try.func19 (by kernel_rfl) rfl #[.agg #[.slice Ao54 t285.length co54, .slice Ao59 t288.length co59, .int .i64 t291, .bool t292], .agg #[.slice Ao64 t295.length co64, .slice Ao70 t298.length co70, .int .i64 t301, .bool t302]] rfl (by (try simp only [List.map_toArray, List.map_cons, List.map_nil]); first | done | rfl | (simp only [List.length_drop, List.length_take]; rfl)) ?_; (with_reducible refine (hogsheadref08_Same.calls kj2 _ _ t285 _ _ t288 t291 t292 _ _ t295 _ _ t298 t301 t302 t305 _ ?side1 ?side2 ?side3 ?side4 ?side5 ?side6 ?side7 ?side8 A47.out).mono ?_); (case side1 => refine (Kd.V_reads' (e := 9) (base := w.heap.size) (ok := fun k_ => ((k_ ≠ g247 ∧ (k_ ≠ g248 ∧ (k_ ≠ g249 ∧ k_ ≠ g294))) ∧ k_ ≠ g304)) (n := t285.length) (c := co54) ?_).2.2; exact (by (with_reducible repeat first | apply VA | apply VN | apply VD); exact (Vm (Vf (p := ⟨g304, 3, none⟩) (Vf (p := ⟨g304, 2, none⟩) (Vf (p := ⟨g304, 1, none⟩) (Vf (p := ⟨g304, 0, none⟩) (Vm HO287.out (fun k_ hk => (⟨hk, hk.2⟩ : _ ∧ k_ ≠ g304))) (fun _ hk => hk.2) (.slice Ao64 t295.length co64)) (fun _ hk => hk.2) (.slice Ao70 t298.length co70)) (fun _ hk => hk.2) (.int .i64 t301)) (fun _ hk => hk.2) (.bool t302)) (fun _ h_ => h_.1)))); (case side2 => exact (Kd.V_reads' HO287.out).2.1); (case side3 => refine (Kd.V_reads' (e := 47) (base := w.heap.size) (ok := fun k_ => ((k_ ≠ g247 ∧ (k_ ≠ g248 ∧ (k_ ≠ g249 ∧ k_ ≠ g294))) ∧ k_ ≠ g304)) (n := t288.length) (c := co59) ?_).2.2; exact (by (with_reducible repeat first | apply VA | apply VN | apply VD); exact (Vm (Vf (p := ⟨g304, 3, none⟩) (Vf (p := ⟨g304, 2, none⟩) (Vf (p := ⟨g304, 1, none⟩) (Vf (p := ⟨g304, 0, none⟩) (Vm HO290.out (fun k_ hk => (⟨hk, hk.2⟩ : _ ∧ k_ ≠ g304))) (fun _ hk => hk.2) (.slice Ao64 t295.length co64)) (fun _ hk => hk.2) (.slice Ao70 t298.length co70)) (fun _ hk => hk.2) (.int .i64 t301)) (fun _ hk => hk.2) (.bool t302)) (fun _ h_ => h_.1)))); (case side4 => exact (Kd.V_reads' HO290.out).2.1); (case side5 => refine (Kd.V_reads' (e := 9) (base := w.heap.size) (ok := fun k_ => ((k_ ≠ g247 ∧ (k_ ≠ g248 ∧ (k_ ≠ g249 ∧ k_ ≠ g294))) ∧ k_ ≠ g304)) (n := t295.length) (c := co64) ?_).2.2; exact (by (with_reducible repeat first | apply VA | apply VN | apply VD); exact (Vm (Vf (p := ⟨g304, 3, none⟩) (Vf (p := ⟨g304, 2, none⟩) (Vf (p := ⟨g304, 1, none⟩) (Vf (p := ⟨g304, 0, none⟩) (Vm HO297.out (fun k_ hk => (⟨hk, hk.2⟩ : _ ∧ k_ ≠ g304))) (fun _ hk => hk.2) (.slice Ao64 t295.length co64)) (fun _ hk => hk.2) (.slice Ao70 t298.length co70)) (fun _ hk => hk.2) (.int .i64 t301)) (fun _ hk => hk.2) (.bool t302)) (fun _ h_ => h_.1)))); (case side6 => exact (Kd.V_reads' HO297.out).2.1); (case side7 => refine (Kd.V_reads' (e := 47) (base := w.heap.size) (ok := fun k_ => ((k_ ≠ g247 ∧ (k_ ≠ g248 ∧ (k_ ≠ g249 ∧ k_ ≠ g294))) ∧ k_ ≠ g304)) (n := t298.length) (c := co70) ?_).2.2; exact (by (with_reducible repeat first | apply VA | apply VN | apply VD); exact (Vm (Vf (p := ⟨g304, 3, none⟩) (Vf (p := ⟨g304, 2, none⟩) (Vf (p := ⟨g304, 1, none⟩) (Vf (p := ⟨g304, 0, none⟩) (Vm HO300.out (fun k_ hk => (⟨hk, hk.2⟩ : _ ∧ k_ ≠ g304))) (fun _ hk => hk.2) (.slice Ao64 t295.length co64)) (fun _ hk => hk.2) (.slice Ao70 t298.length co70)) (fun _ hk => hk.2) (.int .i64 t301)) (fun _ hk => hk.2) (.bool t302)) (fun _ h_ => h_.1)))); (case side8 => exact (Kd.V_reads' HO300.out).2.1); rintro e w72 ⟨rfl, hb⟩; refine ⟨_, rfl, ?_⟩; have n0_ := qM (Vb (by (with_reducible repeat first | apply VA | apply VN | apply VD); exact (Vm (Vf (p := ⟨g304, 3, none⟩) (Vf (p := ⟨g304, 2, none⟩) (Vf (p := ⟨g304, 1, none⟩) (Vf (p := ⟨g304, 0, none⟩) (Vm HO287.out (fun k_ hk => (⟨hk, hk.2⟩ : _ ∧ k_ ≠ g304))) (fun _ hk => hk.2) (.slice Ao64 t295.length co64)) (fun _ hk => hk.2) (.slice Ao70 t298.length co70)) (fun _ hk => hk.2) (.int .i64 t301)) (fun _ hk => hk.2) (.bool t302)) (fun _ h_ => h_.1))) hb); have n1_ := qM (Vb (by (with_reducible repeat first | apply VA | apply VN | apply VD); exact (Vm (Vf (p := ⟨g304, 3, none⟩) (Vf (p := ⟨g304, 2, none⟩) (Vf (p := ⟨g304, 1, none⟩) (Vf (p := ⟨g304, 0, none⟩) (Vm HO290.out (fun k_ hk => (⟨hk, hk.2⟩ : _ ∧ k_ ≠ g304))) (fun _ hk => hk.2) (.slice Ao64 t295.length co64)) (fun _ hk => hk.2) (.slice Ao70 t298.length co70)) (fun _ hk => hk.2) (.int .i64 t301)) (fun _ hk => hk.2) (.bool t302)) (fun _ h_ => h_.1))) hb); have n2_ := qM (Vb (by (with_reducible repeat first | apply VA | apply VN | apply VD); exact (Vm (Vf (p := ⟨g304, 3, none⟩) (Vf (p := ⟨g304, 2, none⟩) (Vf (p := ⟨g304, 1, none⟩) (Vf (p := ⟨g304, 0, none⟩) (Vm HO297.out (fun k_ hk => (⟨hk, hk.2⟩ : _ ∧ k_ ≠ g304))) (fun _ hk => hk.2) (.slice Ao64 t295.length co64)) (fun _ hk => hk.2) (.slice Ao70 t298.length co70)) (fun _ hk => hk.2) (.int .i64 t301)) (fun _ hk => hk.2) (.bool t302)) (fun _ h_ => h_.1))) hb); have n3_ := qM (Vb (by (with_reducible repeat first | apply VA | apply VN | apply VD); exact (Vm (Vf (p := ⟨g304, 3, none⟩) (Vf (p := ⟨g304, 2, none⟩) (Vf (p := ⟨g304, 1, none⟩) (Vf (p := ⟨g304, 0, none⟩) (Vm HO300.out (fun k_ hk => (⟨hk, hk.2⟩ : _ ∧ k_ ≠ g304))) (fun _ hk => hk.2) (.slice Ao64 t295.length co64)) (fun _ hk => hk.2) (.slice Ao70 t298.length co70)) (fun _ hk => hk.2) (.int .i64 t301)) (fun _ hk => hk.2) (.bool t302)) (fun _ h_ => h_.1))) hb); have n4_ := qM (qB (g := g247) (o := .cells #[.slice A0_0 l0_0.length c0_0, .slice A0_1 l0_1.length c0_1, .int .i64 a0_2, .bool a0_3, .int .i64 a0_4, .int .i64 a0_5, .int .i64 a0_6, .int .u32 a0_7, .slice A0_8 l0_8.length c0_8, .slice A0_9 l0_9.length c0_9, .int .i64 a0_10, .bool a0_11] 64 (0, 0)) (by (with_reducible repeat first | refine qN ?_ _ | refine qD ?_ | refine qA ?_ _); (iterate 4 (refine qR ?_ NB247_304.out _; (with_reducible repeat first | refine qN ?_ _ | refine qD ?_ | refine qA ?_ _))); exact B247.out) hb); have n5_ := qM (qB (g := g248) (o := .cells #[.slice A0_0 l0_0.length c0_0, .slice A0_1 l0_1.length c0_1, .int .i64 a0_2, .bool a0_3] 25 (0, 0)) (by (with_reducible repeat first | refine qN ?_ _ | refine qD ?_ | refine qA ?_ _); (iterate 4 (refine qR ?_ NB248_304.out _; (with_reducible repeat first | refine qN ?_ _ | refine qD ?_ | refine qA ?_ _))); exact B248.out) hb); have n6_ := qM (qB (g := g249) (o := .cells #[.slice A0_8 l0_8.length c0_8, .slice A0_9 l0_9.length c0_9, .int .i64 a0_10, .bool a0_11] 25 (0, 0)) (by (with_reducible repeat first | refine qN ?_ _ | refine qD ?_ | refine qA ?_ _); (iterate 4 (refine qR ?_ NB249_304.out _; (with_reducible repeat first | refine qN ?_ _ | refine qD ?_ | refine qA ?_ _))); exact B249.out) hb); have n7_ := qM (qB (g := g294) (o := .cells #[.slice Ao54 t285.length co54, .slice Ao59 t288.length co59, .int .i64 t291, .bool t292] 25 (0, 0)) (by (with_reducible repeat first | refine qN ?_ _ | refine qD ?_ | refine qA ?_ _); (iterate 4 (refine qR ?_ NB294_304.out _; (with_reducible repeat first | refine qN ?_ _ | refine qD ?_ | refine qA ?_ _))); exact B294.out) hb); have n8_ := qM (qB (g := g304) (by (with_reducible repeat first | refine qN ?_ _ | refine qD ?_ | refine qA ?_ _); apply puts4; (with_reducible repeat first | refine qN ?_ _ | refine qD ?_ | refine qA ?_ _); exact B304.out) hb); have n9_ := qM (eT (by repeat (first | (with_reducible first | exact HB.out | apply eA | apply eN | apply eD | refine eU ?_ (by assumption)) | exact HB.out)) hb); clear HO287 HO290 HO297 HO300 B247 B248 B249 B294 B304 HB; have HO287 := n0_; have HO290 := n1_; have HO297 := n2_; have HO300 := n3_; have B247 := n4_; have B248 := n5_; have B249 := n6_; have B294 := n7_; have B304 := n8_; have HB := n9_; clear n0_ n1_ n2_ n3_ n4_ n5_ n6_ n7_ n8_ n9_; (try clear hb); (try clear hb2); (try clear hk); (try clear hi)))
   (try simp only [Act.put, List.setIfInBounds_toArray, List.set_cons_zero, List.set_cons_succ])
   go_cut [2] (fun v2 wc => ∃ (kq : Nat) (x2_47 : Bool), v2 = .bool x2_47 ∧ Aside0 (hogsheadlaw08_DiskFails.j1 kq x2_47 = some r) ∧ Aside0 (kq ≤ kj2) ∧ Aside0 (Kd.V Kd.string 9 wc w.heap.size (fun k_ => k_ ≠ g247 ∧ k_ ≠ g248 ∧ k_ ≠ g249 ∧ k_ ≠ g294 ∧ k_ ≠ g304) (.slice Ao54 t285.length co54) t285) ∧ Aside0 (Kd.V k47 47 wc w.heap.size (fun k_ => k_ ≠ g247 ∧ k_ ≠ g248 ∧ k_ ≠ g249 ∧ k_ ≠ g294 ∧ k_ ≠ g304) (.slice Ao59 t288.length co59) t288) ∧ Aside0 (Kd.V Kd.string 9 wc w.heap.size (fun k_ => k_ ≠ g247 ∧ k_ ≠ g248 ∧ k_ ≠ g249 ∧ k_ ≠ g294 ∧ k_ ≠ g304) (.slice Ao64 t295.length co64) t295) ∧ Aside0 (Kd.V k47 47 wc w.heap.size (fun k_ => k_ ≠ g247 ∧ k_ ≠ g248 ∧ k_ ≠ g249 ∧ k_ ≠ g294 ∧ k_ ≠ g304) (.slice Ao70 t298.length co70) t298) ∧ Aside0 (wc.heap[g247]? = some (.cells #[(.slice A0_0 l0_0.length c0_0), (.slice A0_1 l0_1.length c0_1), .int .i64 a0_2, .bool a0_3, .int .i64 a0_4, .int .i64 a0_5, .int .i64 a0_6, .int .u32 a0_7, (.slice A0_8 l0_8.length c0_8), (.slice A0_9 l0_9.length c0_9), .int .i64 a0_10, .bool a0_11] 64 (0, 0))) ∧ Aside0 (wc.heap[g248]? = some (.cells #[(.slice A0_0 l0_0.length c0_0), (.slice A0_1 l0_1.length c0_1), .int .i64 a0_2, .bool a0_3] 25 (0, 0))) ∧ Aside0 (wc.heap[g249]? = some (.cells #[(.slice A0_8 l0_8.length c0_8), (.slice A0_9 l0_9.length c0_9), .int .i64 a0_10, .bool a0_11] 25 (0, 0))) ∧ Aside0 (wc.heap[g294]? = some (.cells #[(.slice Ao54 t285.length co54), (.slice Ao59 t288.length co59), .int .i64 t291, .bool t292] 25 (0, 0))) ∧ Aside0 (wc.heap[g304]? = some (.cells #[(.slice Ao64 t295.length co64), (.slice Ao70 t298.length co70), .int .i64 t301, .bool t302] 25 (0, 0))) ∧ Aside0 (Below w.heap.size w wc))
   case first =>
    have H := HC48.out
    clear HC48
    by_cases c73 : t250 = true
    ·subst c73
     have H1 : (if x10_2 = true then (if t305 = true then (if t293 = t303 then ((disk_Same.f kj2 l0_0 l0_1 a0_2 a0_3 l0_8 l0_9 a0_10 a0_11).bind fun t306 => ((hogsheadref08_Same.f kj2 l0_0 l0_1 a0_2 a0_3 l0_8 l0_9 a0_10 a0_11).bind fun t307 => (if (t306 == t307) = true then ((disk_Same.f kj2 l0_0 l0_1 a0_2 a0_3 l0_0 l0_1 a0_2 a0_3).bind fun t308 => (hogsheadlaw08_DiskFails.j1 kj2 t308)) else (hogsheadlaw08_DiskFails.j1 kj2 false)))) else (hogsheadlaw08_DiskFails.j1 kj2 false)) else (hogsheadlaw08_DiskFails.j1 kj2 false)) else (hogsheadlaw08_DiskFails.j1 kj2 false)) = some r := by rw [if_pos rfl] at H; exact H
     clear H
     have H := H1
     clear H1
     by_cases c74 : x10_2 = true
     ·subst c74
      have H1 : (if t305 = true then (if t293 = t303 then ((disk_Same.f kj2 l0_0 l0_1 a0_2 a0_3 l0_8 l0_9 a0_10 a0_11).bind fun t306 => ((hogsheadref08_Same.f kj2 l0_0 l0_1 a0_2 a0_3 l0_8 l0_9 a0_10 a0_11).bind fun t307 => (if (t306 == t307) = true then ((disk_Same.f kj2 l0_0 l0_1 a0_2 a0_3 l0_0 l0_1 a0_2 a0_3).bind fun t308 => (hogsheadlaw08_DiskFails.j1 kj2 t308)) else (hogsheadlaw08_DiskFails.j1 kj2 false)))) else (hogsheadlaw08_DiskFails.j1 kj2 false)) else (hogsheadlaw08_DiskFails.j1 kj2 false)) = some r := by rw [if_pos rfl] at H; exact H
      clear H
      have H := H1
      clear H1
      by_cases c75 : t305 = true
      ·subst c75
       have H1 : (if t293 = t303 then ((disk_Same.f kj2 l0_0 l0_1 a0_2 a0_3 l0_8 l0_9 a0_10 a0_11).bind fun t306 => ((hogsheadref08_Same.f kj2 l0_0 l0_1 a0_2 a0_3 l0_8 l0_9 a0_10 a0_11).bind fun t307 => (if (t306 == t307) = true then ((disk_Same.f kj2 l0_0 l0_1 a0_2 a0_3 l0_0 l0_1 a0_2 a0_3).bind fun t308 => (hogsheadlaw08_DiskFails.j1 kj2 t308)) else (hogsheadlaw08_DiskFails.j1 kj2 false)))) else (hogsheadlaw08_DiskFails.j1 kj2 false)) = some r := by rw [if_pos rfl] at H; exact H
       clear H
       have H := H1
       clear H1
       by_cases c76 : t293 = t303
       ·rw [if_pos c76] at H
        have c76b0 : (t293 == t303) = true := beq_iff_eq.mpr c76
        have c76b1 : (t293 != t303) = false := bne_eq_false_iff_eq.mpr c76
        clear c76
        (first | rw [c76b0] | (simp only [i64_w, i32_w]; rw [c76b0]) | skip)
        replace H := Option.bind_eq_some_iff.mp H
        obtain ⟨t306, A770, H⟩ := H
        replace H : ((hogsheadref08_Same.f kj2 l0_0 l0_1 a0_2 a0_3 l0_8 l0_9 a0_10 a0_11).bind fun t307 => (if (t306 == t307) = true then ((disk_Same.f kj2 l0_0 l0_1 a0_2 a0_3 l0_0 l0_1 a0_2 a0_3).bind fun t308 => (hogsheadlaw08_DiskFails.j1 kj2 t308)) else (hogsheadlaw08_DiskFails.j1 kj2 false))) = some r := H
        have A77 := qM A770
        clear A770
        replace H := Option.bind_eq_some_iff.mp H
        obtain ⟨t307, A780, H⟩ := H
        replace H : (if (t306 == t307) = true then ((disk_Same.f kj2 l0_0 l0_1 a0_2 a0_3 l0_0 l0_1 a0_2 a0_3).bind fun t308 => (hogsheadlaw08_DiskFails.j1 kj2 t308)) else (hogsheadlaw08_DiskFails.j1 kj2 false)) = some r := H
        have A78 := qM A780
        clear A780
        by_cases c79 : (t306 == t307) = true
        ·rw [if_pos c79] at H
         have c79b0 : (t306 == t307) = true := c79
         (try (have c79b1 : decide (t306 = t307) = true := by simpa using c79))
         (try (have c79b2 : (t306 == t307) = true := by simpa using c79))
         clear c79
         replace H := Option.bind_eq_some_iff.mp H
         obtain ⟨t308, A800, H⟩ := H
         replace H : (hogsheadlaw08_DiskFails.j1 kj2 t308) = some r := H
         have A80 := qM A800
         clear A800
         have H' := qM H
         clear H
         try go_wp2
         have n0_ := qM (Kd.V_drew HO287.out)
         have n1_ := qM (Kd.V_drew HO290.out)
         have n2_ := qM (Kd.V_drew HO297.out)
         have n3_ := qM (Kd.V_drew HO300.out)
         have n4_ := qM (blk_drew B247.out)
         have n5_ := qM (blk_drew B248.out)
         have n6_ := qM (blk_drew B249.out)
         have n7_ := qM (blk_drew B294.out)
         have n8_ := qM (blk_drew B304.out)
         have n9_ := qM (below_drew1 HB.out)
         clear HO287
         clear HO290
         clear HO297
         clear HO300
         clear B247
         clear B248
         clear B249
         clear B294
         clear B304
         clear HB
         have HO287 := n0_
         have HO290 := n1_
         have HO297 := n2_
         have HO300 := n3_
         have B247 := n4_
         have B248 := n5_
         have B249 := n6_
         have B294 := n7_
         have B304 := n8_
         have HB := n9_
         clear n0_ n1_ n2_ n3_ n4_ n5_ n6_ n7_ n8_ n9_
         refine start_ (n := 27) (S := fun w' => w'.cell? ⟨g248, 0, none⟩ = some (.slice A0_0 l0_0.length c0_0) ∧ w'.cell? ⟨g248, 1, none⟩ = some (.slice A0_1 l0_1.length c0_1) ∧ w'.cell? ⟨g248, 2, none⟩ = some (.int .i64 a0_2) ∧ w'.cell? ⟨g248, 3, none⟩ = some (.bool a0_3) ∧ w'.cell? ⟨g249, 0, none⟩ = some (.slice A0_8 l0_8.length c0_8) ∧ w'.cell? ⟨g249, 1, none⟩ = some (.slice A0_9 l0_9.length c0_9) ∧ w'.cell? ⟨g249, 2, none⟩ = some (.int .i64 a0_10) ∧ w'.cell? ⟨g249, 3, none⟩ = some (.bool a0_11)) (ds := []) #[false, false, false, false, false, false, false, false, false, false, false, false, false, false, false, false, false, false, false, false, false, false, false, false, false, false, false] (by kernel_rfl) rfl rfl ⟨(qC B248.out 0).trans rfl, (qC B248.out 1).trans rfl, (qC B248.out 2).trans rfl, (qC B248.out 3).trans rfl, (qC B249.out 0).trans rfl, (qC B249.out 1).trans rfl, (qC B249.out 2).trans rfl, (qC B249.out 3).trans rfl⟩ (fun hHeld => ?_); refine with_tabW hogsheadlaw08_DiskFails.tab12 hogsheadlaw08_DiskFails.bits12 (fun HT_ HW_ => ?_)
         generalize w72.drew = w81 at HO287 HO290 HO297 HO300 B247 B248 B249 B294 B304 HB hHeld ⊢
         refine pure_ (i := 0) (N := some 66) (v := ?_) (a' := ?_) #[true, false, false, false, false, false, false, false, false, false, false, false, false, false, false, false, false, false, false, false, false, false, false, false, false, false, false] rfl rfl (any_of HT_.out (by kernel_rfl)) (fun _ _ _ h => h) (Or.inl ⟨by rfl, ?_⟩) ?_ ?_
         rotate_left
         ·intro w'; go_simp; with_reducible rfl
         rotate_left
         ·simp only [Act.put, xA, xZ, xS, i64_w, i32_w]; rfl
         refine pure_ (i := 1) (N := some 67) (v := ?_) (a' := ?_) #[true, true, false, false, false, false, false, false, false, false, false, false, false, false, false, false, false, false, false, false, false, false, false, false, false, false, false] rfl rfl (any_of HT_.out (by kernel_rfl)) (fun _ _ _ h => h) (Or.inl ⟨by rfl, ?_⟩) ?_ ?_
         rotate_left
         ·intro w'; go_simp; with_reducible rfl
         rotate_left
         ·simp only [Act.put, xA, xZ, xS, i64_w, i32_w]; rfl
         refine pure_ (i := 2) (N := some 68) (v := ?_) (a' := ?_) #[true, true, true, false, false, false, false, false, false, false, false, false, false, false, false, false, false, false, false, false, false, false, false, false, false, false, false] rfl rfl (any_of HT_.out (by kernel_rfl)) (fun _ _ _ h => h) (Or.inl ⟨by rfl, ?_⟩) ?_ ?_
         rotate_left
         ·intro w'; go_simp; with_reducible rfl
         rotate_left
         ·simp only [Act.put, xA, xZ, xS, i64_w, i32_w]; rfl
         refine pure_ (i := 3) (N := some 69) (v := ?_) (a' := ?_) #[true, true, true, true, false, false, false, false, false, false, false, false, false, false, false, false, false, false, false, false, false, false, false, false, false, false, false] rfl rfl (any_of HT_.out (by kernel_rfl)) (fun _ _ _ h => h) (Or.inl ⟨by rfl, ?_⟩) ?_ ?_
         rotate_left
         ·intro w'; go_simp; with_reducible rfl
         rotate_left
         ·simp only [Act.put, xA, xZ, xS, i64_w, i32_w]; rfl
         refine pure_ (i := 4) (N := some 70) (v := ?_) (a' := ?_) #[true, true, true, true, true, false, false, false, false, false, false, false, false, false, false, false, false, false, false, false, false, false, false, false, false, false, false] rfl rfl (any_of HT_.out (by kernel_rfl)) (fun _ _ _ h => h) (Or.inl ⟨by rfl, ?_⟩) ?_ ?_
         rotate_left
         ·intro w'; go_simp; with_reducible rfl
         rotate_left
         ·simp only [Act.put, xA, xZ, xS, i64_w, i32_w]; rfl
         refine pure_ (i := 5) (N := some 71) (v := ?_) (a' := ?_) #[true, true, true, true, true, true, false, false, false, false, false, false, false, false, false, false, false, false, false, false, false, false, false, false, false, false, false] rfl rfl (any_of HT_.out (by kernel_rfl)) (fun _ _ _ h => h) (Or.inl ⟨by rfl, ?_⟩) ?_ ?_
         rotate_left
         ·intro w'; go_simp; with_reducible rfl
         rotate_left
         ·simp only [Act.put, xA, xZ, xS, i64_w, i32_w]; rfl
         refine pure_ (i := 6) (N := some 72) (v := ?_) (a' := ?_) #[true, true, true, true, true, true, true, false, false, false, false, false, false, false, false, false, false, false, false, false, false, false, false, false, false, false, false] rfl rfl (any_of HT_.out (by kernel_rfl)) (fun _ _ _ h => h) (Or.inl ⟨by rfl, ?_⟩) ?_ ?_
         rotate_left
         ·intro w'; go_simp; with_reducible rfl
         rotate_left
         ·simp only [Act.put, xA, xZ, xS, i64_w, i32_w]; rfl
         refine pure_ (i := 7) (N := some 73) (v := ?_) (a' := ?_) #[true, true, true, true, true, true, true, true, false, false, false, false, false, false, false, false, false, false, false, false, false, false, false, false, false, false, false] rfl rfl (any_of HT_.out (by kernel_rfl)) (fun _ _ _ h => h) (Or.inl ⟨by rfl, ?_⟩) ?_ ?_
         rotate_left
         ·intro w'; go_simp; with_reducible rfl
         rotate_left
         ·simp only [Act.put, xA, xZ, xS, i64_w, i32_w]; rfl
         refine pure_ (i := 8) (N := some 74) (v := ?_) (a' := ?_) #[true, true, true, true, true, true, true, true, true, false, false, false, false, false, false, false, false, false, false, false, false, false, false, false, false, false, false] rfl rfl (any_of HT_.out (by kernel_rfl)) (fun _ _ _ h => h) (Or.inl ⟨by rfl, ?_⟩) ?_ ?_
         rotate_left
         ·intro w'; go_simp; with_reducible rfl
         rotate_left
         ·simp only [Act.put, xA, xZ, xS, i64_w, i32_w]; rfl
         refine pure_ (i := 9) (N := some 75) (v := ?_) (a' := ?_) #[true, true, true, true, true, true, true, true, true, true, false, false, false, false, false, false, false, false, false, false, false, false, false, false, false, false, false] rfl rfl (any_of HT_.out (by kernel_rfl)) (fun _ _ _ h => h) (Or.inl ⟨by rfl, ?_⟩) ?_ ?_
         rotate_left
         ·intro w'; go_simp; with_reducible rfl
         rotate_left
         ·simp only [Act.put, xA, xZ, xS, i64_w, i32_w]; rfl
         refine pure_ (i := 10) (N := some 76) (v := ?_) (a' := ?_) #[true, true, true, true, true, true, true, true, true, true, true, false, false, false, false, false, false, false, false, false, false, false, false, false, false, false, false] rfl rfl (any_of HT_.out (by kernel_rfl)) (fun _ _ _ h => h) (Or.inl ⟨by rfl, ?_⟩) ?_ ?_
         rotate_left
         ·intro w'; go_simp; with_reducible rfl
         rotate_left
         ·simp only [Act.put, xA, xZ, xS, i64_w, i32_w]; rfl
         refine pure_ (i := 11) (N := some 77) (v := ?_) (a' := ?_) #[true, true, true, true, true, true, true, true, true, true, true, true, false, false, false, false, false, false, false, false, false, false, false, false, false, false, false] rfl rfl (any_of HT_.out (by kernel_rfl)) (fun _ _ _ h => h) (Or.inl ⟨by rfl, ?_⟩) ?_ ?_
         rotate_left
         ·intro w'; go_simp; with_reducible rfl
         rotate_left
         ·simp only [Act.put, xA, xZ, xS, i64_w, i32_w]; rfl
         refine pure_ (i := 12) (N := some 78) (v := ?_) (a' := ?_) #[true, true, true, true, true, true, true, true, true, true, true, true, true, false, false, false, false, false, false, false, false, false, false, false, false, false, false] rfl rfl (any_of HT_.out (by kernel_rfl)) (fun _ _ _ h => h) (Or.inl ⟨by rfl, ?_⟩) ?_ ?_
         rotate_left
         ·intro w'; go_simp; with_reducible rfl
         rotate_left
         ·simp only [Act.put, xA, xZ, xS, i64_w, i32_w]; rfl
         refine take_ (i := 13) (N := some 79) (v := ?_) (a' := ?_) #[true, true, true, true, true, true, true, true, true, true, true, true, true, true, false, false, false, false, false, false, false, false, false, false, false, false, false] rfl rfl (take_ofW HT_.out HW_.out (by kernel_rfl)) (fun _ _ _ h => h) (Or.inl ⟨by rfl, ?_⟩) hHeld ?_ ?_
         rotate_left
         ·rintro w' ⟨s0, s1, s2, s3, s4, s5, s6, s7⟩; go_simp; with_reducible rfl
         rotate_left
         ·simp only [Act.put, xA, xZ, xS, i64_w, i32_w]; rfl
         refine take_ (i := 14) (N := some 80) (v := ?_) (a' := ?_) #[true, true, true, true, true, true, true, true, true, true, true, true, true, true, true, false, false, false, false, false, false, false, false, false, false, false, false] rfl rfl (take_ofW HT_.out HW_.out (by kernel_rfl)) (fun _ _ _ h => h) (Or.inl ⟨by rfl, ?_⟩) hHeld ?_ ?_
         rotate_left
         ·rintro w' ⟨s0, s1, s2, s3, s4, s5, s6, s7⟩; go_simp; with_reducible rfl
         rotate_left
         ·simp only [Act.put, xA, xZ, xS, i64_w, i32_w]; rfl
         refine take_ (i := 16) (N := some 82) (v := ?_) (a' := ?_) #[true, true, true, true, true, true, true, true, true, true, true, true, true, true, true, false, true, false, false, false, false, false, false, false, false, false, false] rfl rfl (take_ofW HT_.out HW_.out (by kernel_rfl)) (fun _ _ _ h => h) (Or.inl ⟨by rfl, ?_⟩) hHeld ?_ ?_
         rotate_left
         ·rintro w' ⟨s0, s1, s2, s3, s4, s5, s6, s7⟩; go_simp; with_reducible rfl
         rotate_left
         ·simp only [Act.put, xA, xZ, xS, i64_w, i32_w]; rfl
         refine take_ (i := 17) (N := some 83) (v := ?_) (a' := ?_) #[true, true, true, true, true, true, true, true, true, true, true, true, true, true, true, false, true, true, false, false, false, false, false, false, false, false, false] rfl rfl (take_ofW HT_.out HW_.out (by kernel_rfl)) (fun _ _ _ h => h) (Or.inl ⟨by rfl, ?_⟩) hHeld ?_ ?_
         rotate_left
         ·rintro w' ⟨s0, s1, s2, s3, s4, s5, s6, s7⟩; go_simp; with_reducible rfl
         rotate_left
         ·simp only [Act.put, xA, xZ, xS, i64_w, i32_w]; rfl
         refine one_ (i := 15) (N := some 81) #[true, true, true, true, true, true, true, true, true, true, true, true, true, true, true, true, true, true, false, false, false, false, false, false, false, false, false] rfl rfl (one_of HT_.out (by kernel_rfl)) (by decide) (fun K hK => ?_)
         refine goes_ Try.func26 (by kernel_rfl) rfl #[.agg #[.slice A0_0 l0_0.length c0_0, .slice A0_1 l0_1.length c0_1, .int .i64 a0_2, .bool a0_3], .agg #[.slice A0_8 l0_8.length c0_8, .slice A0_9 l0_9.length c0_9, .int .i64 a0_10, .bool a0_11]] (by rfl) rfl rfl (by (try simp only [List.map_toArray, List.map_cons, List.map_nil]); first | done | rfl | (simp only [List.length_drop, List.length_take]; rfl)) ?_
         with_reducible refine (disk_Same.calls kj2 _ _ l0_0 _ _ l0_1 a0_2 a0_3 _ _ l0_8 _ _ l0_9 a0_10 a0_11 t306 _ ?side1 ?side2 ?side3 ?side4 ?side5 ?side6 ?side7 ?side8 A77.out).mono ?_
         (case side1 => repeat (first | exact (Kd.C_below HR0_0.out HB.out) | (with_reducible refine Kd.C_alloc ?_ _) | (with_reducible refine Kd.C_drewN ?_ _) | (with_reducible refine Kd.C_drew ?_)))
         (case side2 => exact HC0_0.out)
         (case side3 => repeat (first | exact (Kd.C_below HR0_1.out HB.out) | (with_reducible refine Kd.C_alloc ?_ _) | (with_reducible refine Kd.C_drewN ?_ _) | (with_reducible refine Kd.C_drew ?_)))
         (case side4 => exact HC0_1.out)
         (case side5 => repeat (first | exact (Kd.C_below HR0_8.out HB.out) | (with_reducible refine Kd.C_alloc ?_ _) | (with_reducible refine Kd.C_drewN ?_ _) | (with_reducible refine Kd.C_drew ?_)))
         (case side6 => exact HC0_8.out)
         (case side7 => repeat (first | exact (Kd.C_below HR0_9.out HB.out) | (with_reducible refine Kd.C_alloc ?_ _) | (with_reducible refine Kd.C_drewN ?_ _) | (with_reducible refine Kd.C_drew ?_)))
         (case side8 => exact HC0_9.out)
         rintro e w82 ⟨rfl, hb⟩
         refine ⟨_, rfl, ?_⟩
         have n0_ := qM (Vb (by (with_reducible repeat first | apply VA | apply VN | apply VD); exact HO287.out) hb)
         have n1_ := qM (Vb (by (with_reducible repeat first | apply VA | apply VN | apply VD); exact HO290.out) hb)
         have n2_ := qM (Vb (by (with_reducible repeat first | apply VA | apply VN | apply VD); exact HO297.out) hb)
         have n3_ := qM (Vb (by (with_reducible repeat first | apply VA | apply VN | apply VD); exact HO300.out) hb)
         have n4_ := qM (qB (g := g247) (by (with_reducible repeat first | refine qN ?_ _ | refine qD ?_ | refine qA ?_ _); exact B247.out) hb)
         have n5_ := qM (qB (g := g248) (by (with_reducible repeat first | refine qN ?_ _ | refine qD ?_ | refine qA ?_ _); exact B248.out) hb)
         have n6_ := qM (qB (g := g249) (by (with_reducible repeat first | refine qN ?_ _ | refine qD ?_ | refine qA ?_ _); exact B249.out) hb)
         have n7_ := qM (qB (g := g294) (by (with_reducible repeat first | refine qN ?_ _ | refine qD ?_ | refine qA ?_ _); exact B294.out) hb)
         have n8_ := qM (qB (g := g304) (by (with_reducible repeat first | refine qN ?_ _ | refine qD ?_ | refine qA ?_ _); exact B304.out) hb)
         have n9_ := qM (eT (by repeat (first | (with_reducible first | exact HB.out | apply eA | apply eN | apply eD | refine eU ?_ (by assumption)) | exact HB.out)) hb)
         clear HO287
         clear HO290
         clear HO297
         clear HO300
         clear B247
         clear B248
         clear B249
         clear B294
         clear B304
         clear HB
         have HO287 := n0_
         have HO290 := n1_
         have HO297 := n2_
         have HO300 := n3_
         have B247 := n4_
         have B248 := n5_
         have B249 := n6_
         have B294 := n7_
         have B304 := n8_
         have HB := n9_
         clear n0_ n1_ n2_ n3_ n4_ n5_ n6_ n7_ n8_ n9_
         (try clear hb)
         (try clear hb2)
         (try clear hk)
         (try clear hi)
         refine hK.out _ _ ⟨(qC B248.out 0).trans rfl, (qC B248.out 1).trans rfl, (qC B248.out 2).trans rfl, (qC B248.out 3).trans rfl, (qC B249.out 0).trans rfl, (qC B249.out 1).trans rfl, (qC B249.out 2).trans rfl, (qC B249.out 3).trans rfl⟩ (fun hHeld => ?_)
         clear hK K
         refine norm_ (a' := ?_) ?_ ?_
         rotate_left
         ·show Act.put _ (some 81) _ = _
          simp only [Act.put, xA, xZ, xS, i64_w, i32_w]
          rfl
         refine one_ (i := 18) (N := some 84) #[true, true, true, true, true, true, true, true, true, true, true, true, true, true, true, true, true, true, true, false, false, false, false, false, false, false, false] rfl rfl (one_of HT_.out (by kernel_rfl)) (by decide) (fun K hK => ?_)
         refine goes_ Try.func19 (by kernel_rfl) rfl #[.agg #[.slice A0_0 l0_0.length c0_0, .slice A0_1 l0_1.length c0_1, .int .i64 a0_2, .bool a0_3], .agg #[.slice A0_8 l0_8.length c0_8, .slice A0_9 l0_9.length c0_9, .int .i64 a0_10, .bool a0_11]] (by rfl) rfl rfl (by (try simp only [List.map_toArray, List.map_cons, List.map_nil]); first | done | rfl | (simp only [List.length_drop, List.length_take]; rfl)) ?_
         with_reducible refine (hogsheadref08_Same.calls kj2 _ _ l0_0 _ _ l0_1 a0_2 a0_3 _ _ l0_8 _ _ l0_9 a0_10 a0_11 t307 _ ?side1 ?side2 ?side3 ?side4 ?side5 ?side6 ?side7 ?side8 A78.out).mono ?_
         (case side1 => repeat (first | exact (Kd.C_below HR0_0.out HB.out) | (with_reducible refine Kd.C_alloc ?_ _) | (with_reducible refine Kd.C_drewN ?_ _) | (with_reducible refine Kd.C_drew ?_)))
         (case side2 => exact HC0_0.out)
         (case side3 => repeat (first | exact (Kd.C_below HR0_1.out HB.out) | (with_reducible refine Kd.C_alloc ?_ _) | (with_reducible refine Kd.C_drewN ?_ _) | (with_reducible refine Kd.C_drew ?_)))
         (case side4 => exact HC0_1.out)
         (case side5 => repeat (first | exact (Kd.C_below HR0_8.out HB.out) | (with_reducible refine Kd.C_alloc ?_ _) | (with_reducible refine Kd.C_drewN ?_ _) | (with_reducible refine Kd.C_drew ?_)))
         (case side6 => exact HC0_8.out)
         (case side7 => repeat (first | exact (Kd.C_below HR0_9.out HB.out) | (with_reducible refine Kd.C_alloc ?_ _) | (with_reducible refine Kd.C_drewN ?_ _) | (with_reducible refine Kd.C_drew ?_)))
         (case side8 => exact HC0_9.out)
         rintro e w83 ⟨rfl, hb⟩
         refine ⟨_, rfl, ?_⟩
         have n0_ := qM (Vb (by (with_reducible repeat first | apply VA | apply VN | apply VD); exact HO287.out) hb)
         have n1_ := qM (Vb (by (with_reducible repeat first | apply VA | apply VN | apply VD); exact HO290.out) hb)
         have n2_ := qM (Vb (by (with_reducible repeat first | apply VA | apply VN | apply VD); exact HO297.out) hb)
         have n3_ := qM (Vb (by (with_reducible repeat first | apply VA | apply VN | apply VD); exact HO300.out) hb)
         have n4_ := qM (qB (g := g247) (by (with_reducible repeat first | refine qN ?_ _ | refine qD ?_ | refine qA ?_ _); exact B247.out) hb)
         have n5_ := qM (qB (g := g248) (by (with_reducible repeat first | refine qN ?_ _ | refine qD ?_ | refine qA ?_ _); exact B248.out) hb)
         have n6_ := qM (qB (g := g249) (by (with_reducible repeat first | refine qN ?_ _ | refine qD ?_ | refine qA ?_ _); exact B249.out) hb)
         have n7_ := qM (qB (g := g294) (by (with_reducible repeat first | refine qN ?_ _ | refine qD ?_ | refine qA ?_ _); exact B294.out) hb)
         have n8_ := qM (qB (g := g304) (by (with_reducible repeat first | refine qN ?_ _ | refine qD ?_ | refine qA ?_ _); exact B304.out) hb)
         have n9_ := qM (eT (by repeat (first | (with_reducible first | exact HB.out | apply eA | apply eN | apply eD | refine eU ?_ (by assumption)) | exact HB.out)) hb)
         clear HO287
         clear HO290
         clear HO297
         clear HO300
         clear B247
         clear B248
         clear B249
         clear B294
         clear B304
         clear HB
         have HO287 := n0_
         have HO290 := n1_
         have HO297 := n2_
         have HO300 := n3_
         have B247 := n4_
         have B248 := n5_
         have B249 := n6_
         have B294 := n7_
         have B304 := n8_
         have HB := n9_
         clear n0_ n1_ n2_ n3_ n4_ n5_ n6_ n7_ n8_ n9_
         (try clear hb)
         (try clear hb2)
         (try clear hk)
         (try clear hi)
         refine hK.out _ _ ⟨(qC B248.out 0).trans rfl, (qC B248.out 1).trans rfl, (qC B248.out 2).trans rfl, (qC B248.out 3).trans rfl, (qC B249.out 0).trans rfl, (qC B249.out 1).trans rfl, (qC B249.out 2).trans rfl, (qC B249.out 3).trans rfl⟩ (fun hHeld => ?_)
         clear hK K
         refine norm_ (a' := ?_) ?_ ?_
         rotate_left
         ·show Act.put _ (some 84) _ = _
          simp only [Act.put, xA, xZ, xS, i64_w, i32_w]
          rfl
         refine pure_ (i := 19) (N := some 85) (v := ?_) (a' := ?_) #[true, true, true, true, true, true, true, true, true, true, true, true, true, true, true, true, true, true, true, true, false, false, false, false, false, false, false] rfl rfl (any_of HT_.out (by kernel_rfl)) (fun _ _ _ h => h) (Or.inl ⟨by rfl, ?_⟩) ?_ ?_
         rotate_left
         ·intro w'; go_simp; with_reducible rfl
         rotate_left
         ·simp only [Act.put, xA, xZ, xS, i64_w, i32_w]; rfl
         refine pure_ (i := 20) (N := some 86) (v := ?_) (a' := ?_) #[true, true, true, true, true, true, true, true, true, true, true, true, true, true, true, true, true, true, true, true, true, false, false, false, false, false, false] rfl rfl (any_of HT_.out (by kernel_rfl)) (fun _ _ _ h => h) (Or.inl ⟨by rfl, ?_⟩) ?_ ?_
         rotate_left
         ·intro w'; go_simp; with_reducible rfl
         rotate_left
         ·simp only [Act.put, xA, xZ, xS, i64_w, i32_w]; rfl
         refine pure_ (i := 21) (N := some 87) (v := ?_) (a' := ?_) #[true, true, true, true, true, true, true, true, true, true, true, true, true, true, true, true, true, true, true, true, true, true, false, false, false, false, false] rfl rfl (any_of HT_.out (by kernel_rfl)) (fun _ _ _ h => h) (Or.inl ⟨by rfl, ?_⟩) ?_ ?_
         rotate_left
         ·intro w'; go_simp; with_reducible rfl
         rotate_left
         ·simp only [Act.put, xA, xZ, xS, i64_w, i32_w]; rfl
         refine take_ (i := 22) (N := some 88) (v := ?_) (a' := ?_) #[true, true, true, true, true, true, true, true, true, true, true, true, true, true, true, true, true, true, true, true, true, true, true, false, false, false, false] rfl rfl (take_ofW HT_.out HW_.out (by kernel_rfl)) (fun _ _ _ h => h) (Or.inl ⟨by rfl, ?_⟩) hHeld ?_ ?_
         rotate_left
         ·rintro w' ⟨s0, s1, s2, s3, s4, s5, s6, s7⟩; go_simp; with_reducible rfl
         rotate_left
         ·simp only [Act.put, xA, xZ, xS, i64_w, i32_w]; rfl
         refine take_ (i := 23) (N := some 89) (v := ?_) (a' := ?_) #[true, true, true, true, true, true, true, true, true, true, true, true, true, true, true, true, true, true, true, true, true, true, true, true, false, false, false] rfl rfl (take_ofW HT_.out HW_.out (by kernel_rfl)) (fun _ _ _ h => h) (Or.inl ⟨by rfl, ?_⟩) hHeld ?_ ?_
         rotate_left
         ·rintro w' ⟨s0, s1, s2, s3, s4, s5, s6, s7⟩; go_simp; with_reducible rfl
         rotate_left
         ·simp only [Act.put, xA, xZ, xS, i64_w, i32_w]; rfl
         refine one_ (i := 24) (N := some 90) #[true, true, true, true, true, true, true, true, true, true, true, true, true, true, true, true, true, true, true, true, true, true, true, true, true, false, false] rfl rfl (one_of HT_.out (by kernel_rfl)) (by decide) (fun K hK => ?_)
         refine goes_ Try.func26 (by kernel_rfl) rfl #[.agg #[.slice A0_0 l0_0.length c0_0, .slice A0_1 l0_1.length c0_1, .int .i64 a0_2, .bool a0_3], .agg #[.slice A0_0 l0_0.length c0_0, .slice A0_1 l0_1.length c0_1, .int .i64 a0_2, .bool a0_3]] (by rfl) rfl rfl (by (try simp only [List.map_toArray, List.map_cons, List.map_nil]); first | done | rfl | (simp only [List.length_drop, List.length_take]; rfl)) ?_
         with_reducible refine (disk_Same.calls kj2 _ _ l0_0 _ _ l0_1 a0_2 a0_3 _ _ l0_0 _ _ l0_1 a0_2 a0_3 t308 _ ?side1 ?side2 ?side3 ?side4 ?side5 ?side6 ?side7 ?side8 A80.out).mono ?_
         (case side1 => repeat (first | exact (Kd.C_below HR0_0.out HB.out) | (with_reducible refine Kd.C_alloc ?_ _) | (with_reducible refine Kd.C_drewN ?_ _) | (with_reducible refine Kd.C_drew ?_)))
         (case side2 => exact HC0_0.out)
         (case side3 => repeat (first | exact (Kd.C_below HR0_1.out HB.out) | (with_reducible refine Kd.C_alloc ?_ _) | (with_reducible refine Kd.C_drewN ?_ _) | (with_reducible refine Kd.C_drew ?_)))
         (case side4 => exact HC0_1.out)
         (case side5 => repeat (first | exact (Kd.C_below HR0_0.out HB.out) | (with_reducible refine Kd.C_alloc ?_ _) | (with_reducible refine Kd.C_drewN ?_ _) | (with_reducible refine Kd.C_drew ?_)))
         (case side6 => exact HC0_0.out)
         (case side7 => repeat (first | exact (Kd.C_below HR0_1.out HB.out) | (with_reducible refine Kd.C_alloc ?_ _) | (with_reducible refine Kd.C_drewN ?_ _) | (with_reducible refine Kd.C_drew ?_)))
         (case side8 => exact HC0_1.out)
         rintro e w84 ⟨rfl, hb⟩
         refine ⟨_, rfl, ?_⟩
         have n0_ := qM (Vb (by (with_reducible repeat first | apply VA | apply VN | apply VD); exact HO287.out) hb)
         have n1_ := qM (Vb (by (with_reducible repeat first | apply VA | apply VN | apply VD); exact HO290.out) hb)
         have n2_ := qM (Vb (by (with_reducible repeat first | apply VA | apply VN | apply VD); exact HO297.out) hb)
         have n3_ := qM (Vb (by (with_reducible repeat first | apply VA | apply VN | apply VD); exact HO300.out) hb)
         have n4_ := qM (qB (g := g247) (by (with_reducible repeat first | refine qN ?_ _ | refine qD ?_ | refine qA ?_ _); exact B247.out) hb)
         have n5_ := qM (qB (g := g248) (by (with_reducible repeat first | refine qN ?_ _ | refine qD ?_ | refine qA ?_ _); exact B248.out) hb)
         have n6_ := qM (qB (g := g249) (by (with_reducible repeat first | refine qN ?_ _ | refine qD ?_ | refine qA ?_ _); exact B249.out) hb)
         have n7_ := qM (qB (g := g294) (by (with_reducible repeat first | refine qN ?_ _ | refine qD ?_ | refine qA ?_ _); exact B294.out) hb)
         have n8_ := qM (qB (g := g304) (by (with_reducible repeat first | refine qN ?_ _ | refine qD ?_ | refine qA ?_ _); exact B304.out) hb)
         have n9_ := qM (eT (by repeat (first | (with_reducible first | exact HB.out | apply eA | apply eN | apply eD | refine eU ?_ (by assumption)) | exact HB.out)) hb)
         clear HO287
         clear HO290
         clear HO297
         clear HO300
         clear B247
         clear B248
         clear B249
         clear B294
         clear B304
         clear HB
         have HO287 := n0_
         have HO290 := n1_
         have HO297 := n2_
         have HO300 := n3_
         have B247 := n4_
         have B248 := n5_
         have B249 := n6_
         have B294 := n7_
         have B304 := n8_
         have HB := n9_
         clear n0_ n1_ n2_ n3_ n4_ n5_ n6_ n7_ n8_ n9_
         (try clear hb)
         (try clear hb2)
         (try clear hk)
         (try clear hi)
         refine hK.out _ _ ⟨(qC B248.out 0).trans rfl, (qC B248.out 1).trans rfl, (qC B248.out 2).trans rfl, (qC B248.out 3).trans rfl, (qC B249.out 0).trans rfl, (qC B249.out 1).trans rfl, (qC B249.out 2).trans rfl, (qC B249.out 3).trans rfl⟩ (fun hHeld => ?_)
         clear hK K
         refine norm_ (a' := ?_) ?_ ?_
         rotate_left
         ·show Act.put _ (some 90) _ = _
          simp only [Act.put, xA, xZ, xS, i64_w, i32_w]
          rfl
         refine pure_ (i := 25) (N := some 91) (v := ?_) (a' := ?_) #[true, true, true, true, true, true, true, true, true, true, true, true, true, true, true, true, true, true, true, true, true, true, true, true, true, true, false] rfl rfl (any_of HT_.out (by kernel_rfl)) (fun _ _ _ h => h) (Or.inl ⟨by rfl, ?_⟩) ?_ ?_
         rotate_left
         ·intro w'; go_simp; with_reducible rfl
         rotate_left
         ·simp only [Act.put, xA, xZ, xS, i64_w, i32_w]; rfl
         refine pure_ (i := 26) (N := some 2) (v := ?_) (a' := ?_) #[true, true, true, true, true, true, true, true, true, true, true, true, true, true, true, true, true, true, true, true, true, true, true, true, true, true, true] rfl rfl (any_of HT_.out (by kernel_rfl)) (fun _ _ _ h => h) (Or.inl ⟨by rfl, ?_⟩) ?_ ?_
         rotate_left
         ·intro w'; go_simp; with_reducible rfl
         rotate_left
         ·simp only [Act.put, xA, xZ, xS, i64_w, i32_w]; rfl
         refine done_ (done_of HT_.out (by kernel_rfl)) ?_
         try go_wp2
         go_meet
         case rel => exact ⟨_, (t308), (by first | rfl | (simp; done) | (simp [*]; done)), H', ⟨by have := HJ2.out; first | omega | exact Nat.le_refl _⟩, ⟨by (with_reducible repeat first | apply VA | apply VN | apply VD); exact Vm HO287.out (fun _ hk => ⟨hk.1.1, ⟨hk.1.2.1, ⟨hk.1.2.2.1, ⟨hk.1.2.2.2, hk.2⟩⟩⟩⟩)⟩, ⟨by (with_reducible repeat first | apply VA | apply VN | apply VD); exact Vm HO290.out (fun _ hk => ⟨hk.1.1, ⟨hk.1.2.1, ⟨hk.1.2.2.1, ⟨hk.1.2.2.2, hk.2⟩⟩⟩⟩)⟩, ⟨by (with_reducible repeat first | apply VA | apply VN | apply VD); exact Vm HO297.out (fun _ hk => ⟨hk.1.1, ⟨hk.1.2.1, ⟨hk.1.2.2.1, ⟨hk.1.2.2.2, hk.2⟩⟩⟩⟩)⟩, ⟨by (with_reducible repeat first | apply VA | apply VN | apply VD); exact Vm HO300.out (fun _ hk => ⟨hk.1.1, ⟨hk.1.2.1, ⟨hk.1.2.2.1, ⟨hk.1.2.2.2, hk.2⟩⟩⟩⟩)⟩, ⟨by (with_reducible repeat first | refine qN ?_ _ | refine qD ?_ | refine qA ?_ _); exact B247.out⟩, ⟨by (with_reducible repeat first | refine qN ?_ _ | refine qD ?_ | refine qA ?_ _); exact B248.out⟩, ⟨by (with_reducible repeat first | refine qN ?_ _ | refine qD ?_ | refine qA ?_ _); exact B249.out⟩, ⟨by (with_reducible repeat first | refine qN ?_ _ | refine qD ?_ | refine qA ?_ _); exact B294.out⟩, ⟨by (with_reducible repeat first | refine qN ?_ _ | refine qD ?_ | refine qA ?_ _); exact B304.out⟩, ⟨by repeat (first | (with_reducible first | exact HB.out | apply eA | apply eN | apply eD | refine eS ?_ GE247.out | refine eS ?_ GE248.out | refine eS ?_ GE249.out | refine eS ?_ GE294.out | refine eS ?_ GE304.out) | exact HB.out)⟩⟩
        ·rw [if_neg c79] at H
         have c79b0 : (t306 == t307) = false := by simpa using c79
         (try (have c79b1 : decide (t306 = t307) = false := by simpa using c79))
         (try (have c79b2 : (t306 == t307) = false := by simpa using c79))
         (try (have c79b3 : ¬ (t306 = t307) := by simpa using c79))
         clear c79
         have H' := qM H
         clear H
         try go_wp2
         have n0_ := qM (Kd.V_drew HO287.out)
         have n1_ := qM (Kd.V_drew HO290.out)
         have n2_ := qM (Kd.V_drew HO297.out)
         have n3_ := qM (Kd.V_drew HO300.out)
         have n4_ := qM (blk_drew B247.out)
         have n5_ := qM (blk_drew B248.out)
         have n6_ := qM (blk_drew B249.out)
         have n7_ := qM (blk_drew B294.out)
         have n8_ := qM (blk_drew B304.out)
         have n9_ := qM (below_drew1 HB.out)
         clear HO287
         clear HO290
         clear HO297
         clear HO300
         clear B247
         clear B248
         clear B249
         clear B294
         clear B304
         clear HB
         have HO287 := n0_
         have HO290 := n1_
         have HO297 := n2_
         have HO300 := n3_
         have B247 := n4_
         have B248 := n5_
         have B249 := n6_
         have B294 := n7_
         have B304 := n8_
         have HB := n9_
         clear n0_ n1_ n2_ n3_ n4_ n5_ n6_ n7_ n8_ n9_
         refine start_ (n := 27) (S := fun w' => w'.cell? ⟨g248, 0, none⟩ = some (.slice A0_0 l0_0.length c0_0) ∧ w'.cell? ⟨g248, 1, none⟩ = some (.slice A0_1 l0_1.length c0_1) ∧ w'.cell? ⟨g248, 2, none⟩ = some (.int .i64 a0_2) ∧ w'.cell? ⟨g248, 3, none⟩ = some (.bool a0_3) ∧ w'.cell? ⟨g249, 0, none⟩ = some (.slice A0_8 l0_8.length c0_8) ∧ w'.cell? ⟨g249, 1, none⟩ = some (.slice A0_9 l0_9.length c0_9) ∧ w'.cell? ⟨g249, 2, none⟩ = some (.int .i64 a0_10) ∧ w'.cell? ⟨g249, 3, none⟩ = some (.bool a0_11)) (ds := []) #[false, false, false, false, false, false, false, false, false, false, false, false, false, false, false, false, false, false, false, false, false, false, false, false, false, false, false] (by kernel_rfl) rfl rfl ⟨(qC B248.out 0).trans rfl, (qC B248.out 1).trans rfl, (qC B248.out 2).trans rfl, (qC B248.out 3).trans rfl, (qC B249.out 0).trans rfl, (qC B249.out 1).trans rfl, (qC B249.out 2).trans rfl, (qC B249.out 3).trans rfl⟩ (fun hHeld => ?_); refine with_tabW hogsheadlaw08_DiskFails.tab12 hogsheadlaw08_DiskFails.bits12 (fun HT_ HW_ => ?_)
         generalize w72.drew = w85 at HO287 HO290 HO297 HO300 B247 B248 B249 B294 B304 HB hHeld ⊢
         refine pure_ (i := 0) (N := some 66) (v := ?_) (a' := ?_) #[true, false, false, false, false, false, false, false, false, false, false, false, false, false, false, false, false, false, false, false, false, false, false, false, false, false, false] rfl rfl (any_of HT_.out (by kernel_rfl)) (fun _ _ _ h => h) (Or.inl ⟨by rfl, ?_⟩) ?_ ?_
         rotate_left
         ·intro w'; go_simp; with_reducible rfl
         rotate_left
         ·simp only [Act.put, xA, xZ, xS, i64_w, i32_w]; rfl
         refine pure_ (i := 1) (N := some 67) (v := ?_) (a' := ?_) #[true, true, false, false, false, false, false, false, false, false, false, false, false, false, false, false, false, false, false, false, false, false, false, false, false, false, false] rfl rfl (any_of HT_.out (by kernel_rfl)) (fun _ _ _ h => h) (Or.inl ⟨by rfl, ?_⟩) ?_ ?_
         rotate_left
         ·intro w'; go_simp; with_reducible rfl
         rotate_left
         ·simp only [Act.put, xA, xZ, xS, i64_w, i32_w]; rfl
         refine pure_ (i := 2) (N := some 68) (v := ?_) (a' := ?_) #[true, true, true, false, false, false, false, false, false, false, false, false, false, false, false, false, false, false, false, false, false, false, false, false, false, false, false] rfl rfl (any_of HT_.out (by kernel_rfl)) (fun _ _ _ h => h) (Or.inl ⟨by rfl, ?_⟩) ?_ ?_
         rotate_left
         ·intro w'; go_simp; with_reducible rfl
         rotate_left
         ·simp only [Act.put, xA, xZ, xS, i64_w, i32_w]; rfl
         refine pure_ (i := 3) (N := some 69) (v := ?_) (a' := ?_) #[true, true, true, true, false, false, false, false, false, false, false, false, false, false, false, false, false, false, false, false, false, false, false, false, false, false, false] rfl rfl (any_of HT_.out (by kernel_rfl)) (fun _ _ _ h => h) (Or.inl ⟨by rfl, ?_⟩) ?_ ?_
         rotate_left
         ·intro w'; go_simp; with_reducible rfl
         rotate_left
         ·simp only [Act.put, xA, xZ, xS, i64_w, i32_w]; rfl
         refine pure_ (i := 4) (N := some 70) (v := ?_) (a' := ?_) #[true, true, true, true, true, false, false, false, false, false, false, false, false, false, false, false, false, false, false, false, false, false, false, false, false, false, false] rfl rfl (any_of HT_.out (by kernel_rfl)) (fun _ _ _ h => h) (Or.inl ⟨by rfl, ?_⟩) ?_ ?_
         rotate_left
         ·intro w'; go_simp; with_reducible rfl
         rotate_left
         ·simp only [Act.put, xA, xZ, xS, i64_w, i32_w]; rfl
         refine pure_ (i := 5) (N := some 71) (v := ?_) (a' := ?_) #[true, true, true, true, true, true, false, false, false, false, false, false, false, false, false, false, false, false, false, false, false, false, false, false, false, false, false] rfl rfl (any_of HT_.out (by kernel_rfl)) (fun _ _ _ h => h) (Or.inl ⟨by rfl, ?_⟩) ?_ ?_
         rotate_left
         ·intro w'; go_simp; with_reducible rfl
         rotate_left
         ·simp only [Act.put, xA, xZ, xS, i64_w, i32_w]; rfl
         refine pure_ (i := 6) (N := some 72) (v := ?_) (a' := ?_) #[true, true, true, true, true, true, true, false, false, false, false, false, false, false, false, false, false, false, false, false, false, false, false, false, false, false, false] rfl rfl (any_of HT_.out (by kernel_rfl)) (fun _ _ _ h => h) (Or.inl ⟨by rfl, ?_⟩) ?_ ?_
         rotate_left
         ·intro w'; go_simp; with_reducible rfl
         rotate_left
         ·simp only [Act.put, xA, xZ, xS, i64_w, i32_w]; rfl
         refine pure_ (i := 7) (N := some 73) (v := ?_) (a' := ?_) #[true, true, true, true, true, true, true, true, false, false, false, false, false, false, false, false, false, false, false, false, false, false, false, false, false, false, false] rfl rfl (any_of HT_.out (by kernel_rfl)) (fun _ _ _ h => h) (Or.inl ⟨by rfl, ?_⟩) ?_ ?_
         rotate_left
         ·intro w'; go_simp; with_reducible rfl
         rotate_left
         ·simp only [Act.put, xA, xZ, xS, i64_w, i32_w]; rfl
         refine pure_ (i := 8) (N := some 74) (v := ?_) (a' := ?_) #[true, true, true, true, true, true, true, true, true, false, false, false, false, false, false, false, false, false, false, false, false, false, false, false, false, false, false] rfl rfl (any_of HT_.out (by kernel_rfl)) (fun _ _ _ h => h) (Or.inl ⟨by rfl, ?_⟩) ?_ ?_
         rotate_left
         ·intro w'; go_simp; with_reducible rfl
         rotate_left
         ·simp only [Act.put, xA, xZ, xS, i64_w, i32_w]; rfl
         refine pure_ (i := 9) (N := some 75) (v := ?_) (a' := ?_) #[true, true, true, true, true, true, true, true, true, true, false, false, false, false, false, false, false, false, false, false, false, false, false, false, false, false, false] rfl rfl (any_of HT_.out (by kernel_rfl)) (fun _ _ _ h => h) (Or.inl ⟨by rfl, ?_⟩) ?_ ?_
         rotate_left
         ·intro w'; go_simp; with_reducible rfl
         rotate_left
         ·simp only [Act.put, xA, xZ, xS, i64_w, i32_w]; rfl
         refine pure_ (i := 10) (N := some 76) (v := ?_) (a' := ?_) #[true, true, true, true, true, true, true, true, true, true, true, false, false, false, false, false, false, false, false, false, false, false, false, false, false, false, false] rfl rfl (any_of HT_.out (by kernel_rfl)) (fun _ _ _ h => h) (Or.inl ⟨by rfl, ?_⟩) ?_ ?_
         rotate_left
         ·intro w'; go_simp; with_reducible rfl
         rotate_left
         ·simp only [Act.put, xA, xZ, xS, i64_w, i32_w]; rfl
         refine pure_ (i := 11) (N := some 77) (v := ?_) (a' := ?_) #[true, true, true, true, true, true, true, true, true, true, true, true, false, false, false, false, false, false, false, false, false, false, false, false, false, false, false] rfl rfl (any_of HT_.out (by kernel_rfl)) (fun _ _ _ h => h) (Or.inl ⟨by rfl, ?_⟩) ?_ ?_
         rotate_left
         ·intro w'; go_simp; with_reducible rfl
         rotate_left
         ·simp only [Act.put, xA, xZ, xS, i64_w, i32_w]; rfl
         refine pure_ (i := 12) (N := some 78) (v := ?_) (a' := ?_) #[true, true, true, true, true, true, true, true, true, true, true, true, true, false, false, false, false, false, false, false, false, false, false, false, false, false, false] rfl rfl (any_of HT_.out (by kernel_rfl)) (fun _ _ _ h => h) (Or.inl ⟨by rfl, ?_⟩) ?_ ?_
         rotate_left
         ·intro w'; go_simp; with_reducible rfl
         rotate_left
         ·simp only [Act.put, xA, xZ, xS, i64_w, i32_w]; rfl
         refine take_ (i := 13) (N := some 79) (v := ?_) (a' := ?_) #[true, true, true, true, true, true, true, true, true, true, true, true, true, true, false, false, false, false, false, false, false, false, false, false, false, false, false] rfl rfl (take_ofW HT_.out HW_.out (by kernel_rfl)) (fun _ _ _ h => h) (Or.inl ⟨by rfl, ?_⟩) hHeld ?_ ?_
         rotate_left
         ·rintro w' ⟨s0, s1, s2, s3, s4, s5, s6, s7⟩; go_simp; with_reducible rfl
         rotate_left
         ·simp only [Act.put, xA, xZ, xS, i64_w, i32_w]; rfl
         refine take_ (i := 14) (N := some 80) (v := ?_) (a' := ?_) #[true, true, true, true, true, true, true, true, true, true, true, true, true, true, true, false, false, false, false, false, false, false, false, false, false, false, false] rfl rfl (take_ofW HT_.out HW_.out (by kernel_rfl)) (fun _ _ _ h => h) (Or.inl ⟨by rfl, ?_⟩) hHeld ?_ ?_
         rotate_left
         ·rintro w' ⟨s0, s1, s2, s3, s4, s5, s6, s7⟩; go_simp; with_reducible rfl
         rotate_left
         ·simp only [Act.put, xA, xZ, xS, i64_w, i32_w]; rfl
         refine take_ (i := 16) (N := some 82) (v := ?_) (a' := ?_) #[true, true, true, true, true, true, true, true, true, true, true, true, true, true, true, false, true, false, false, false, false, false, false, false, false, false, false] rfl rfl (take_ofW HT_.out HW_.out (by kernel_rfl)) (fun _ _ _ h => h) (Or.inl ⟨by rfl, ?_⟩) hHeld ?_ ?_
         rotate_left
         ·rintro w' ⟨s0, s1, s2, s3, s4, s5, s6, s7⟩; go_simp; with_reducible rfl
         rotate_left
         ·simp only [Act.put, xA, xZ, xS, i64_w, i32_w]; rfl
         refine take_ (i := 17) (N := some 83) (v := ?_) (a' := ?_) #[true, true, true, true, true, true, true, true, true, true, true, true, true, true, true, false, true, true, false, false, false, false, false, false, false, false, false] rfl rfl (take_ofW HT_.out HW_.out (by kernel_rfl)) (fun _ _ _ h => h) (Or.inl ⟨by rfl, ?_⟩) hHeld ?_ ?_
         rotate_left
         ·rintro w' ⟨s0, s1, s2, s3, s4, s5, s6, s7⟩; go_simp; with_reducible rfl
         rotate_left
         ·simp only [Act.put, xA, xZ, xS, i64_w, i32_w]; rfl
         refine one_ (i := 15) (N := some 81) #[true, true, true, true, true, true, true, true, true, true, true, true, true, true, true, true, true, true, false, false, false, false, false, false, false, false, false] rfl rfl (one_of HT_.out (by kernel_rfl)) (by decide) (fun K hK => ?_)
         refine goes_ Try.func26 (by kernel_rfl) rfl #[.agg #[.slice A0_0 l0_0.length c0_0, .slice A0_1 l0_1.length c0_1, .int .i64 a0_2, .bool a0_3], .agg #[.slice A0_8 l0_8.length c0_8, .slice A0_9 l0_9.length c0_9, .int .i64 a0_10, .bool a0_11]] (by rfl) rfl rfl (by (try simp only [List.map_toArray, List.map_cons, List.map_nil]); first | done | rfl | (simp only [List.length_drop, List.length_take]; rfl)) ?_
         with_reducible refine (disk_Same.calls kj2 _ _ l0_0 _ _ l0_1 a0_2 a0_3 _ _ l0_8 _ _ l0_9 a0_10 a0_11 t306 _ ?side1 ?side2 ?side3 ?side4 ?side5 ?side6 ?side7 ?side8 A77.out).mono ?_
         (case side1 => repeat (first | exact (Kd.C_below HR0_0.out HB.out) | (with_reducible refine Kd.C_alloc ?_ _) | (with_reducible refine Kd.C_drewN ?_ _) | (with_reducible refine Kd.C_drew ?_)))
         (case side2 => exact HC0_0.out)
         (case side3 => repeat (first | exact (Kd.C_below HR0_1.out HB.out) | (with_reducible refine Kd.C_alloc ?_ _) | (with_reducible refine Kd.C_drewN ?_ _) | (with_reducible refine Kd.C_drew ?_)))
         (case side4 => exact HC0_1.out)
         (case side5 => repeat (first | exact (Kd.C_below HR0_8.out HB.out) | (with_reducible refine Kd.C_alloc ?_ _) | (with_reducible refine Kd.C_drewN ?_ _) | (with_reducible refine Kd.C_drew ?_)))
         (case side6 => exact HC0_8.out)
         (case side7 => repeat (first | exact (Kd.C_below HR0_9.out HB.out) | (with_reducible refine Kd.C_alloc ?_ _) | (with_reducible refine Kd.C_drewN ?_ _) | (with_reducible refine Kd.C_drew ?_)))
         (case side8 => exact HC0_9.out)
         rintro e w86 ⟨rfl, hb⟩
         refine ⟨_, rfl, ?_⟩
         have n0_ := qM (Vb (by (with_reducible repeat first | apply VA | apply VN | apply VD); exact HO287.out) hb)
         have n1_ := qM (Vb (by (with_reducible repeat first | apply VA | apply VN | apply VD); exact HO290.out) hb)
         have n2_ := qM (Vb (by (with_reducible repeat first | apply VA | apply VN | apply VD); exact HO297.out) hb)
         have n3_ := qM (Vb (by (with_reducible repeat first | apply VA | apply VN | apply VD); exact HO300.out) hb)
         have n4_ := qM (qB (g := g247) (by (with_reducible repeat first | refine qN ?_ _ | refine qD ?_ | refine qA ?_ _); exact B247.out) hb)
         have n5_ := qM (qB (g := g248) (by (with_reducible repeat first | refine qN ?_ _ | refine qD ?_ | refine qA ?_ _); exact B248.out) hb)
         have n6_ := qM (qB (g := g249) (by (with_reducible repeat first | refine qN ?_ _ | refine qD ?_ | refine qA ?_ _); exact B249.out) hb)
         have n7_ := qM (qB (g := g294) (by (with_reducible repeat first | refine qN ?_ _ | refine qD ?_ | refine qA ?_ _); exact B294.out) hb)
         have n8_ := qM (qB (g := g304) (by (with_reducible repeat first | refine qN ?_ _ | refine qD ?_ | refine qA ?_ _); exact B304.out) hb)
         have n9_ := qM (eT (by repeat (first | (with_reducible first | exact HB.out | apply eA | apply eN | apply eD | refine eU ?_ (by assumption)) | exact HB.out)) hb)
         clear HO287
         clear HO290
         clear HO297
         clear HO300
         clear B247
         clear B248
         clear B249
         clear B294
         clear B304
         clear HB
         have HO287 := n0_
         have HO290 := n1_
         have HO297 := n2_
         have HO300 := n3_
         have B247 := n4_
         have B248 := n5_
         have B249 := n6_
         have B294 := n7_
         have B304 := n8_
         have HB := n9_
         clear n0_ n1_ n2_ n3_ n4_ n5_ n6_ n7_ n8_ n9_
         (try clear hb)
         (try clear hb2)
         (try clear hk)
         (try clear hi)
         refine hK.out _ _ ⟨(qC B248.out 0).trans rfl, (qC B248.out 1).trans rfl, (qC B248.out 2).trans rfl, (qC B248.out 3).trans rfl, (qC B249.out 0).trans rfl, (qC B249.out 1).trans rfl, (qC B249.out 2).trans rfl, (qC B249.out 3).trans rfl⟩ (fun hHeld => ?_)
         clear hK K
         refine norm_ (a' := ?_) ?_ ?_
         rotate_left
         ·show Act.put _ (some 81) _ = _
          simp only [Act.put, xA, xZ, xS, i64_w, i32_w]
          rfl
         refine one_ (i := 18) (N := some 84) #[true, true, true, true, true, true, true, true, true, true, true, true, true, true, true, true, true, true, true, false, false, false, false, false, false, false, false] rfl rfl (one_of HT_.out (by kernel_rfl)) (by decide) (fun K hK => ?_)
         refine goes_ Try.func19 (by kernel_rfl) rfl #[.agg #[.slice A0_0 l0_0.length c0_0, .slice A0_1 l0_1.length c0_1, .int .i64 a0_2, .bool a0_3], .agg #[.slice A0_8 l0_8.length c0_8, .slice A0_9 l0_9.length c0_9, .int .i64 a0_10, .bool a0_11]] (by rfl) rfl rfl (by (try simp only [List.map_toArray, List.map_cons, List.map_nil]); first | done | rfl | (simp only [List.length_drop, List.length_take]; rfl)) ?_
         with_reducible refine (hogsheadref08_Same.calls kj2 _ _ l0_0 _ _ l0_1 a0_2 a0_3 _ _ l0_8 _ _ l0_9 a0_10 a0_11 t307 _ ?side1 ?side2 ?side3 ?side4 ?side5 ?side6 ?side7 ?side8 A78.out).mono ?_
         (case side1 => repeat (first | exact (Kd.C_below HR0_0.out HB.out) | (with_reducible refine Kd.C_alloc ?_ _) | (with_reducible refine Kd.C_drewN ?_ _) | (with_reducible refine Kd.C_drew ?_)))
         (case side2 => exact HC0_0.out)
         (case side3 => repeat (first | exact (Kd.C_below HR0_1.out HB.out) | (with_reducible refine Kd.C_alloc ?_ _) | (with_reducible refine Kd.C_drewN ?_ _) | (with_reducible refine Kd.C_drew ?_)))
         (case side4 => exact HC0_1.out)
         (case side5 => repeat (first | exact (Kd.C_below HR0_8.out HB.out) | (with_reducible refine Kd.C_alloc ?_ _) | (with_reducible refine Kd.C_drewN ?_ _) | (with_reducible refine Kd.C_drew ?_)))
         (case side6 => exact HC0_8.out)
         (case side7 => repeat (first | exact (Kd.C_below HR0_9.out HB.out) | (with_reducible refine Kd.C_alloc ?_ _) | (with_reducible refine Kd.C_drewN ?_ _) | (with_reducible refine Kd.C_drew ?_)))
         (case side8 => exact HC0_9.out)
         rintro e w87 ⟨rfl, hb⟩
         refine ⟨_, rfl, ?_⟩
         have n0_ := qM (Vb (by (with_reducible repeat first | apply VA | apply VN | apply VD); exact HO287.out) hb)
         have n1_ := qM (Vb (by (with_reducible repeat first | apply VA | apply VN | apply VD); exact HO290.out) hb)
         have n2_ := qM (Vb (by (with_reducible repeat first | apply VA | apply VN | apply VD); exact HO297.out) hb)
         have n3_ := qM (Vb (by (with_reducible repeat first | apply VA | apply VN | apply VD); exact HO300.out) hb)
         have n4_ := qM (qB (g := g247) (by (with_reducible repeat first | refine qN ?_ _ | refine qD ?_ | refine qA ?_ _); exact B247.out) hb)
         have n5_ := qM (qB (g := g248) (by (with_reducible repeat first | refine qN ?_ _ | refine qD ?_ | refine qA ?_ _); exact B248.out) hb)
         have n6_ := qM (qB (g := g249) (by (with_reducible repeat first | refine qN ?_ _ | refine qD ?_ | refine qA ?_ _); exact B249.out) hb)
         have n7_ := qM (qB (g := g294) (by (with_reducible repeat first | refine qN ?_ _ | refine qD ?_ | refine qA ?_ _); exact B294.out) hb)
         have n8_ := qM (qB (g := g304) (by (with_reducible repeat first | refine qN ?_ _ | refine qD ?_ | refine qA ?_ _); exact B304.out) hb)
         have n9_ := qM (eT (by repeat (first | (with_reducible first | exact HB.out | apply eA | apply eN | apply eD | refine eU ?_ (by assumption)) | exact HB.out)) hb)
         clear HO287
         clear HO290
         clear HO297
         clear HO300
         clear B247
         clear B248
         clear B249
         clear B294
         clear B304
         clear HB
         have HO287 := n0_
         have HO290 := n1_
         have HO297 := n2_
         have HO300 := n3_
         have B247 := n4_
         have B248 := n5_
         have B249 := n6_
         have B294 := n7_
         have B304 := n8_
         have HB := n9_
         clear n0_ n1_ n2_ n3_ n4_ n5_ n6_ n7_ n8_ n9_
         (try clear hb)
         (try clear hb2)
         (try clear hk)
         (try clear hi)
         refine hK.out _ _ ⟨(qC B248.out 0).trans rfl, (qC B248.out 1).trans rfl, (qC B248.out 2).trans rfl, (qC B248.out 3).trans rfl, (qC B249.out 0).trans rfl, (qC B249.out 1).trans rfl, (qC B249.out 2).trans rfl, (qC B249.out 3).trans rfl⟩ (fun hHeld => ?_)
         clear hK K
         refine norm_ (a' := ?_) ?_ ?_
         rotate_left
         ·show Act.put _ (some 84) _ = _
          simp only [Act.put, xA, xZ, xS, i64_w, i32_w]
          rfl
         refine pure_ (i := 19) (N := some 85) (v := ?_) (a' := ?_) #[true, true, true, true, true, true, true, true, true, true, true, true, true, true, true, true, true, true, true, true, false, false, false, false, false, false, false] rfl rfl (any_of HT_.out (by kernel_rfl)) (fun _ _ _ h => h) (Or.inl ⟨by rfl, ?_⟩) ?_ ?_
         rotate_left
         ·intro w'; go_simp; with_reducible rfl
         rotate_left
         ·simp only [Act.put, xA, xZ, xS, i64_w, i32_w]; rfl
         refine pure_ (i := 20) (N := some 86) (v := ?_) (a' := ?_) #[true, true, true, true, true, true, true, true, true, true, true, true, true, true, true, true, true, true, true, true, true, false, false, false, false, false, false] rfl rfl (any_of HT_.out (by kernel_rfl)) (fun _ _ _ h => h) (Or.inl ⟨by rfl, ?_⟩) ?_ ?_
         rotate_left
         ·intro w'; go_simp; with_reducible rfl
         rotate_left
         ·simp only [Act.put, xA, xZ, xS, i64_w, i32_w]; rfl
         refine pure_ (i := 21) (N := some 87) (v := ?_) (a' := ?_) #[true, true, true, true, true, true, true, true, true, true, true, true, true, true, true, true, true, true, true, true, true, true, false, false, false, false, false] rfl rfl (any_of HT_.out (by kernel_rfl)) (fun _ _ _ h => h) (Or.inl ⟨by rfl, ?_⟩) ?_ ?_
         rotate_left
         ·intro w'; go_simp; with_reducible rfl
         rotate_left
         ·simp only [Act.put, xA, xZ, xS, i64_w, i32_w]; rfl
         refine pure_ (i := 22) (N := some 88) (v := undef) (a' := ?_) #[true, true, true, true, true, true, true, true, true, true, true, true, true, true, true, true, true, true, true, true, true, true, true, false, false, false, false] rfl rfl (any_of HT_.out (by kernel_rfl)) (fun _ _ _ h => h) (Or.inr ⟨by rfl, rfl⟩) ?_ ?_
         rotate_left
         ·simp only [Act.put, xA, xZ, xS, i64_w, i32_w]; rfl
         refine pure_ (i := 23) (N := some 89) (v := undef) (a' := ?_) #[true, true, true, true, true, true, true, true, true, true, true, true, true, true, true, true, true, true, true, true, true, true, true, true, false, false, false] rfl rfl (any_of HT_.out (by kernel_rfl)) (fun _ _ _ h => h) (Or.inr ⟨by rfl, rfl⟩) ?_ ?_
         rotate_left
         ·simp only [Act.put, xA, xZ, xS, i64_w, i32_w]; rfl
         refine pure_ (i := 24) (N := some 90) (v := undef) (a' := ?_) #[true, true, true, true, true, true, true, true, true, true, true, true, true, true, true, true, true, true, true, true, true, true, true, true, true, false, false] rfl rfl (any_of HT_.out (by kernel_rfl)) (fun _ _ _ h => h) (Or.inr ⟨by rfl, rfl⟩) ?_ ?_
         rotate_left
         ·simp only [Act.put, xA, xZ, xS, i64_w, i32_w]; rfl
         refine pure_ (i := 25) (N := some 91) (v := ?_) (a' := ?_) #[true, true, true, true, true, true, true, true, true, true, true, true, true, true, true, true, true, true, true, true, true, true, true, true, true, true, false] rfl rfl (any_of HT_.out (by kernel_rfl)) (fun _ _ _ h => h) (Or.inl ⟨by rfl, ?_⟩) ?_ ?_
         rotate_left
         ·intro w'; go_simp; with_reducible rfl
         rotate_left
         ·simp only [Act.put, xA, xZ, xS, i64_w, i32_w]; rfl
         refine pure_ (i := 26) (N := some 2) (v := ?_) (a' := ?_) #[true, true, true, true, true, true, true, true, true, true, true, true, true, true, true, true, true, true, true, true, true, true, true, true, true, true, true] rfl rfl (any_of HT_.out (by kernel_rfl)) (fun _ _ _ h => h) (Or.inl ⟨by rfl, ?_⟩) ?_ ?_
         rotate_left
         ·intro w'; go_simp; with_reducible rfl
         rotate_left
         ·simp only [Act.put, xA, xZ, xS, i64_w, i32_w]; rfl
         refine done_ (done_of HT_.out (by kernel_rfl)) ?_
         try go_wp2
         go_meet
         case rel => exact ⟨_, (false), (by first | rfl | (simp; done) | (simp [*]; done)), H', ⟨by have := HJ2.out; first | omega | exact Nat.le_refl _⟩, ⟨by (with_reducible repeat first | apply VA | apply VN | apply VD); exact Vm HO287.out (fun _ hk => ⟨hk.1.1, ⟨hk.1.2.1, ⟨hk.1.2.2.1, ⟨hk.1.2.2.2, hk.2⟩⟩⟩⟩)⟩, ⟨by (with_reducible repeat first | apply VA | apply VN | apply VD); exact Vm HO290.out (fun _ hk => ⟨hk.1.1, ⟨hk.1.2.1, ⟨hk.1.2.2.1, ⟨hk.1.2.2.2, hk.2⟩⟩⟩⟩)⟩, ⟨by (with_reducible repeat first | apply VA | apply VN | apply VD); exact Vm HO297.out (fun _ hk => ⟨hk.1.1, ⟨hk.1.2.1, ⟨hk.1.2.2.1, ⟨hk.1.2.2.2, hk.2⟩⟩⟩⟩)⟩, ⟨by (with_reducible repeat first | apply VA | apply VN | apply VD); exact Vm HO300.out (fun _ hk => ⟨hk.1.1, ⟨hk.1.2.1, ⟨hk.1.2.2.1, ⟨hk.1.2.2.2, hk.2⟩⟩⟩⟩)⟩, ⟨by (with_reducible repeat first | refine qN ?_ _ | refine qD ?_ | refine qA ?_ _); exact B247.out⟩, ⟨by (with_reducible repeat first | refine qN ?_ _ | refine qD ?_ | refine qA ?_ _); exact B248.out⟩, ⟨by (with_reducible repeat first | refine qN ?_ _ | refine qD ?_ | refine qA ?_ _); exact B249.out⟩, ⟨by (with_reducible repeat first | refine qN ?_ _ | refine qD ?_ | refine qA ?_ _); exact B294.out⟩, ⟨by (with_reducible repeat first | refine qN ?_ _ | refine qD ?_ | refine qA ?_ _); exact B304.out⟩, ⟨by repeat (first | (with_reducible first | exact HB.out | apply eA | apply eN | apply eD | refine eS ?_ GE247.out | refine eS ?_ GE248.out | refine eS ?_ GE249.out | refine eS ?_ GE294.out | refine eS ?_ GE304.out) | exact HB.out)⟩⟩
       ·rw [if_neg c76] at H
        have c76b0 : (t293 == t303) = false := beq_eq_false_iff_ne.mpr c76
        have c76b1 : (t293 != t303) = true := bne_iff_ne.mpr c76
        (first | rw [c76b0] | (simp only [i64_w, i32_w]; rw [c76b0]) | skip)
        have H' := qM H
        clear H
        try go_wp2
        have n0_ := qM (Kd.V_drew HO287.out)
        have n1_ := qM (Kd.V_drew HO290.out)
        have n2_ := qM (Kd.V_drew HO297.out)
        have n3_ := qM (Kd.V_drew HO300.out)
        have n4_ := qM (blk_drew B247.out)
        have n5_ := qM (blk_drew B248.out)
        have n6_ := qM (blk_drew B249.out)
        have n7_ := qM (blk_drew B294.out)
        have n8_ := qM (blk_drew B304.out)
        have n9_ := qM (below_drew1 HB.out)
        clear HO287
        clear HO290
        clear HO297
        clear HO300
        clear B247
        clear B248
        clear B249
        clear B294
        clear B304
        clear HB
        have HO287 := n0_
        have HO290 := n1_
        have HO297 := n2_
        have HO300 := n3_
        have B247 := n4_
        have B248 := n5_
        have B249 := n6_
        have B294 := n7_
        have B304 := n8_
        have HB := n9_
        clear n0_ n1_ n2_ n3_ n4_ n5_ n6_ n7_ n8_ n9_
        refine start_ (n := 27) (S := fun w' => True) (ds := []) #[false, false, false, false, false, false, false, false, false, false, false, false, false, false, false, false, false, false, false, false, false, false, false, false, false, false, false] (by kernel_rfl) rfl rfl trivial (fun hHeld => ?_); refine with_tabW hogsheadlaw08_DiskFails.tab12 hogsheadlaw08_DiskFails.bits12 (fun HT_ HW_ => ?_)
        generalize w72.drew = w88 at HO287 HO290 HO297 HO300 B247 B248 B249 B294 B304 HB hHeld ⊢
        refine pure_ (i := 0) (N := some 66) (v := ?_) (a' := ?_) #[true, false, false, false, false, false, false, false, false, false, false, false, false, false, false, false, false, false, false, false, false, false, false, false, false, false, false] rfl rfl (any_of HT_.out (by kernel_rfl)) (fun _ _ _ h => h) (Or.inl ⟨by rfl, ?_⟩) ?_ ?_
        rotate_left
        ·intro w'; go_simp; with_reducible rfl
        rotate_left
        ·simp only [Act.put, xA, xZ, xS, i64_w, i32_w]; rfl
        refine pure_ (i := 1) (N := some 67) (v := ?_) (a' := ?_) #[true, true, false, false, false, false, false, false, false, false, false, false, false, false, false, false, false, false, false, false, false, false, false, false, false, false, false] rfl rfl (any_of HT_.out (by kernel_rfl)) (fun _ _ _ h => h) (Or.inl ⟨by rfl, ?_⟩) ?_ ?_
        rotate_left
        ·intro w'; go_simp; with_reducible rfl
        rotate_left
        ·simp only [Act.put, xA, xZ, xS, i64_w, i32_w]; rfl
        refine pure_ (i := 2) (N := some 68) (v := ?_) (a' := ?_) #[true, true, true, false, false, false, false, false, false, false, false, false, false, false, false, false, false, false, false, false, false, false, false, false, false, false, false] rfl rfl (any_of HT_.out (by kernel_rfl)) (fun _ _ _ h => h) (Or.inl ⟨by rfl, ?_⟩) ?_ ?_
        rotate_left
        ·intro w'; go_simp; with_reducible rfl
        rotate_left
        ·simp only [Act.put, xA, xZ, xS, i64_w, i32_w]; rfl
        refine pure_ (i := 3) (N := some 69) (v := ?_) (a' := ?_) #[true, true, true, true, false, false, false, false, false, false, false, false, false, false, false, false, false, false, false, false, false, false, false, false, false, false, false] rfl rfl (any_of HT_.out (by kernel_rfl)) (fun _ _ _ h => h) (Or.inl ⟨by rfl, ?_⟩) ?_ ?_
        rotate_left
        ·intro w'; go_simp; with_reducible rfl
        rotate_left
        ·simp only [Act.put, xA, xZ, xS, i64_w, i32_w]; rfl
        refine pure_ (i := 4) (N := some 70) (v := ?_) (a' := ?_) #[true, true, true, true, true, false, false, false, false, false, false, false, false, false, false, false, false, false, false, false, false, false, false, false, false, false, false] rfl rfl (any_of HT_.out (by kernel_rfl)) (fun _ _ _ h => h) (Or.inl ⟨by rfl, ?_⟩) ?_ ?_
        rotate_left
        ·intro w'; go_simp; with_reducible rfl
        rotate_left
        ·simp only [Act.put, xA, xZ, xS, i64_w, i32_w]; rfl
        refine pure_ (i := 5) (N := some 71) (v := ?_) (a' := ?_) #[true, true, true, true, true, true, false, false, false, false, false, false, false, false, false, false, false, false, false, false, false, false, false, false, false, false, false] rfl rfl (any_of HT_.out (by kernel_rfl)) (fun _ _ _ h => h) (Or.inl ⟨by rfl, ?_⟩) ?_ ?_
        rotate_left
        ·intro w'; go_simp; with_reducible rfl
        rotate_left
        ·simp only [Act.put, xA, xZ, xS, i64_w, i32_w]; rfl
        refine pure_ (i := 6) (N := some 72) (v := ?_) (a' := ?_) #[true, true, true, true, true, true, true, false, false, false, false, false, false, false, false, false, false, false, false, false, false, false, false, false, false, false, false] rfl rfl (any_of HT_.out (by kernel_rfl)) (fun _ _ _ h => h) (Or.inl ⟨by rfl, ?_⟩) ?_ ?_
        rotate_left
        ·intro w'; go_simp; with_reducible rfl
        rotate_left
        ·simp only [Act.put, xA, xZ, xS, i64_w, i32_w]; rfl
        refine pure_ (i := 7) (N := some 73) (v := ?_) (a' := ?_) #[true, true, true, true, true, true, true, true, false, false, false, false, false, false, false, false, false, false, false, false, false, false, false, false, false, false, false] rfl rfl (any_of HT_.out (by kernel_rfl)) (fun _ _ _ h => h) (Or.inl ⟨by rfl, ?_⟩) ?_ ?_
        rotate_left
        ·intro w'; go_simp; with_reducible rfl
        rotate_left
        ·simp only [Act.put, xA, xZ, xS, i64_w, i32_w]; rfl
        refine pure_ (i := 8) (N := some 74) (v := ?_) (a' := ?_) #[true, true, true, true, true, true, true, true, true, false, false, false, false, false, false, false, false, false, false, false, false, false, false, false, false, false, false] rfl rfl (any_of HT_.out (by kernel_rfl)) (fun _ _ _ h => h) (Or.inl ⟨by rfl, ?_⟩) ?_ ?_
        rotate_left
        ·intro w'; go_simp; with_reducible rfl
        rotate_left
        ·simp only [Act.put, xA, xZ, xS, i64_w, i32_w]; rfl
        refine pure_ (i := 9) (N := some 75) (v := ?_) (a' := ?_) #[true, true, true, true, true, true, true, true, true, true, false, false, false, false, false, false, false, false, false, false, false, false, false, false, false, false, false] rfl rfl (any_of HT_.out (by kernel_rfl)) (fun _ _ _ h => h) (Or.inl ⟨by rfl, ?_⟩) ?_ ?_
        rotate_left
        ·intro w'; go_simp; with_reducible rfl
        rotate_left
        ·simp only [Act.put, xA, xZ, xS, i64_w, i32_w]; rfl
        refine pure_ (i := 10) (N := some 76) (v := ?_) (a' := ?_) #[true, true, true, true, true, true, true, true, true, true, true, false, false, false, false, false, false, false, false, false, false, false, false, false, false, false, false] rfl rfl (any_of HT_.out (by kernel_rfl)) (fun _ _ _ h => h) (Or.inl ⟨by rfl, ?_⟩) ?_ ?_
        rotate_left
        ·intro w'; go_simp; with_reducible rfl
        rotate_left
        ·simp only [Act.put, xA, xZ, xS, i64_w, i32_w]; rfl
        refine pure_ (i := 11) (N := some 77) (v := ?_) (a' := ?_) #[true, true, true, true, true, true, true, true, true, true, true, true, false, false, false, false, false, false, false, false, false, false, false, false, false, false, false] rfl rfl (any_of HT_.out (by kernel_rfl)) (fun _ _ _ h => h) (Or.inl ⟨by rfl, ?_⟩) ?_ ?_
        rotate_left
        ·intro w'; go_simp; with_reducible rfl
        rotate_left
        ·simp only [Act.put, xA, xZ, xS, i64_w, i32_w]; rfl
        refine pure_ (i := 12) (N := some 78) (v := ?_) (a' := ?_) #[true, true, true, true, true, true, true, true, true, true, true, true, true, false, false, false, false, false, false, false, false, false, false, false, false, false, false] rfl rfl (any_of HT_.out (by kernel_rfl)) (fun _ _ _ h => h) (Or.inl ⟨by rfl, ?_⟩) ?_ ?_
        rotate_left
        ·intro w'; go_simp; with_reducible rfl
        rotate_left
        ·simp only [Act.put, xA, xZ, xS, i64_w, i32_w]; rfl
        refine pure_ (i := 13) (N := some 79) (v := undef) (a' := ?_) #[true, true, true, true, true, true, true, true, true, true, true, true, true, true, false, false, false, false, false, false, false, false, false, false, false, false, false] rfl rfl (any_of HT_.out (by kernel_rfl)) (fun _ _ _ h => h) (Or.inr ⟨by rfl, rfl⟩) ?_ ?_
        rotate_left
        ·simp only [Act.put, xA, xZ, xS, i64_w, i32_w]; rfl
        refine pure_ (i := 14) (N := some 80) (v := undef) (a' := ?_) #[true, true, true, true, true, true, true, true, true, true, true, true, true, true, true, false, false, false, false, false, false, false, false, false, false, false, false] rfl rfl (any_of HT_.out (by kernel_rfl)) (fun _ _ _ h => h) (Or.inr ⟨by rfl, rfl⟩) ?_ ?_
        rotate_left
        ·simp only [Act.put, xA, xZ, xS, i64_w, i32_w]; rfl
        refine pure_ (i := 15) (N := some 81) (v := undef) (a' := ?_) #[true, true, true, true, true, true, true, true, true, true, true, true, true, true, true, true, false, false, false, false, false, false, false, false, false, false, false] rfl rfl (any_of HT_.out (by kernel_rfl)) (fun _ _ _ h => h) (Or.inr ⟨by rfl, rfl⟩) ?_ ?_
        rotate_left
        ·simp only [Act.put, xA, xZ, xS, i64_w, i32_w]; rfl
        refine pure_ (i := 16) (N := some 82) (v := undef) (a' := ?_) #[true, true, true, true, true, true, true, true, true, true, true, true, true, true, true, true, true, false, false, false, false, false, false, false, false, false, false] rfl rfl (any_of HT_.out (by kernel_rfl)) (fun _ _ _ h => h) (Or.inr ⟨by rfl, rfl⟩) ?_ ?_
        rotate_left
        ·simp only [Act.put, xA, xZ, xS, i64_w, i32_w]; rfl
        refine pure_ (i := 17) (N := some 83) (v := undef) (a' := ?_) #[true, true, true, true, true, true, true, true, true, true, true, true, true, true, true, true, true, true, false, false, false, false, false, false, false, false, false] rfl rfl (any_of HT_.out (by kernel_rfl)) (fun _ _ _ h => h) (Or.inr ⟨by rfl, rfl⟩) ?_ ?_
        rotate_left
        ·simp only [Act.put, xA, xZ, xS, i64_w, i32_w]; rfl
        refine pure_ (i := 18) (N := some 84) (v := undef) (a' := ?_) #[true, true, true, true, true, true, true, true, true, true, true, true, true, true, true, true, true, true, true, false, false, false, false, false, false, false, false] rfl rfl (any_of HT_.out (by kernel_rfl)) (fun _ _ _ h => h) (Or.inr ⟨by rfl, rfl⟩) ?_ ?_
        rotate_left
        ·simp only [Act.put, xA, xZ, xS, i64_w, i32_w]; rfl
        refine pure_ (i := 19) (N := some 85) (v := undef) (a' := ?_) #[true, true, true, true, true, true, true, true, true, true, true, true, true, true, true, true, true, true, true, true, false, false, false, false, false, false, false] rfl rfl (any_of HT_.out (by kernel_rfl)) (fun _ _ _ h => h) (Or.inr ⟨by rfl, rfl⟩) ?_ ?_
        rotate_left
        ·simp only [Act.put, xA, xZ, xS, i64_w, i32_w]; rfl
        refine pure_ (i := 20) (N := some 86) (v := ?_) (a' := ?_) #[true, true, true, true, true, true, true, true, true, true, true, true, true, true, true, true, true, true, true, true, true, false, false, false, false, false, false] rfl rfl (any_of HT_.out (by kernel_rfl)) (fun _ _ _ h => h) (Or.inl ⟨by rfl, ?_⟩) ?_ ?_
        rotate_left
        ·intro w'; go_simp; with_reducible rfl
        rotate_left
        ·simp only [Act.put, xA, xZ, xS, i64_w, i32_w]; rfl
        refine pure_ (i := 21) (N := some 87) (v := ?_) (a' := ?_) #[true, true, true, true, true, true, true, true, true, true, true, true, true, true, true, true, true, true, true, true, true, true, false, false, false, false, false] rfl rfl (any_of HT_.out (by kernel_rfl)) (fun _ _ _ h => h) (Or.inl ⟨by rfl, ?_⟩) ?_ ?_
        rotate_left
        ·intro w'; go_simp; with_reducible rfl
        rotate_left
        ·simp only [Act.put, xA, xZ, xS, i64_w, i32_w]; rfl
        refine pure_ (i := 22) (N := some 88) (v := undef) (a' := ?_) #[true, true, true, true, true, true, true, true, true, true, true, true, true, true, true, true, true, true, true, true, true, true, true, false, false, false, false] rfl rfl (any_of HT_.out (by kernel_rfl)) (fun _ _ _ h => h) (Or.inr ⟨by rfl, rfl⟩) ?_ ?_
        rotate_left
        ·simp only [Act.put, xA, xZ, xS, i64_w, i32_w]; rfl
        refine pure_ (i := 23) (N := some 89) (v := undef) (a' := ?_) #[true, true, true, true, true, true, true, true, true, true, true, true, true, true, true, true, true, true, true, true, true, true, true, true, false, false, false] rfl rfl (any_of HT_.out (by kernel_rfl)) (fun _ _ _ h => h) (Or.inr ⟨by rfl, rfl⟩) ?_ ?_
        rotate_left
        ·simp only [Act.put, xA, xZ, xS, i64_w, i32_w]; rfl
        refine pure_ (i := 24) (N := some 90) (v := undef) (a' := ?_) #[true, true, true, true, true, true, true, true, true, true, true, true, true, true, true, true, true, true, true, true, true, true, true, true, true, false, false] rfl rfl (any_of HT_.out (by kernel_rfl)) (fun _ _ _ h => h) (Or.inr ⟨by rfl, rfl⟩) ?_ ?_
        rotate_left
        ·simp only [Act.put, xA, xZ, xS, i64_w, i32_w]; rfl
        refine pure_ (i := 25) (N := some 91) (v := ?_) (a' := ?_) #[true, true, true, true, true, true, true, true, true, true, true, true, true, true, true, true, true, true, true, true, true, true, true, true, true, true, false] rfl rfl (any_of HT_.out (by kernel_rfl)) (fun _ _ _ h => h) (Or.inl ⟨by rfl, ?_⟩) ?_ ?_
        rotate_left
        ·intro w'; go_simp; with_reducible rfl
        rotate_left
        ·simp only [Act.put, xA, xZ, xS, i64_w, i32_w]; rfl
        refine pure_ (i := 26) (N := some 2) (v := ?_) (a' := ?_) #[true, true, true, true, true, true, true, true, true, true, true, true, true, true, true, true, true, true, true, true, true, true, true, true, true, true, true] rfl rfl (any_of HT_.out (by kernel_rfl)) (fun _ _ _ h => h) (Or.inl ⟨by rfl, ?_⟩) ?_ ?_
        rotate_left
        ·intro w'; go_simp; with_reducible rfl
        rotate_left
        ·simp only [Act.put, xA, xZ, xS, i64_w, i32_w]; rfl
        refine done_ (done_of HT_.out (by kernel_rfl)) ?_
        try go_wp2
        go_meet
        case rel => exact ⟨_, (false), (by first | rfl | (simp; done) | (simp [*]; done)), H', ⟨by have := HJ2.out; first | omega | exact Nat.le_refl _⟩, ⟨by (with_reducible repeat first | apply VA | apply VN | apply VD); exact Vm HO287.out (fun _ hk => ⟨hk.1.1, ⟨hk.1.2.1, ⟨hk.1.2.2.1, ⟨hk.1.2.2.2, hk.2⟩⟩⟩⟩)⟩, ⟨by (with_reducible repeat first | apply VA | apply VN | apply VD); exact Vm HO290.out (fun _ hk => ⟨hk.1.1, ⟨hk.1.2.1, ⟨hk.1.2.2.1, ⟨hk.1.2.2.2, hk.2⟩⟩⟩⟩)⟩, ⟨by (with_reducible repeat first | apply VA | apply VN | apply VD); exact Vm HO297.out (fun _ hk => ⟨hk.1.1, ⟨hk.1.2.1, ⟨hk.1.2.2.1, ⟨hk.1.2.2.2, hk.2⟩⟩⟩⟩)⟩, ⟨by (with_reducible repeat first | apply VA | apply VN | apply VD); exact Vm HO300.out (fun _ hk => ⟨hk.1.1, ⟨hk.1.2.1, ⟨hk.1.2.2.1, ⟨hk.1.2.2.2, hk.2⟩⟩⟩⟩)⟩, ⟨by (with_reducible repeat first | refine qN ?_ _ | refine qD ?_ | refine qA ?_ _); exact B247.out⟩, ⟨by (with_reducible repeat first | refine qN ?_ _ | refine qD ?_ | refine qA ?_ _); exact B248.out⟩, ⟨by (with_reducible repeat first | refine qN ?_ _ | refine qD ?_ | refine qA ?_ _); exact B249.out⟩, ⟨by (with_reducible repeat first | refine qN ?_ _ | refine qD ?_ | refine qA ?_ _); exact B294.out⟩, ⟨by (with_reducible repeat first | refine qN ?_ _ | refine qD ?_ | refine qA ?_ _); exact B304.out⟩, ⟨by repeat (first | (with_reducible first | exact HB.out | apply eA | apply eN | apply eD | refine eS ?_ GE247.out | refine eS ?_ GE248.out | refine eS ?_ GE249.out | refine eS ?_ GE294.out | refine eS ?_ GE304.out) | exact HB.out)⟩⟩
      ·replace c75 := Bool.eq_false_iff.mpr c75
       subst c75
       have H1 : (hogsheadlaw08_DiskFails.j1 kj2 false) = some r := by rw [if_neg (show ¬ (false = true) by decide)] at H; exact H
       clear H
       have H := H1
       clear H1
       have H' := qM H
       clear H
       try go_wp2
       have n0_ := qM (Kd.V_drew HO287.out)
       have n1_ := qM (Kd.V_drew HO290.out)
       have n2_ := qM (Kd.V_drew HO297.out)
       have n3_ := qM (Kd.V_drew HO300.out)
       have n4_ := qM (blk_drew B247.out)
       have n5_ := qM (blk_drew B248.out)
       have n6_ := qM (blk_drew B249.out)
       have n7_ := qM (blk_drew B294.out)
       have n8_ := qM (blk_drew B304.out)
       have n9_ := qM (below_drew1 HB.out)
       clear HO287
       clear HO290
       clear HO297
       clear HO300
       clear B247
       clear B248
       clear B249
       clear B294
       clear B304
       clear HB
       have HO287 := n0_
       have HO290 := n1_
       have HO297 := n2_
       have HO300 := n3_
       have B247 := n4_
       have B248 := n5_
       have B249 := n6_
       have B294 := n7_
       have B304 := n8_
       have HB := n9_
       clear n0_ n1_ n2_ n3_ n4_ n5_ n6_ n7_ n8_ n9_
       refine start_ (n := 27) (S := fun w' => True) (ds := []) #[false, false, false, false, false, false, false, false, false, false, false, false, false, false, false, false, false, false, false, false, false, false, false, false, false, false, false] (by kernel_rfl) rfl rfl trivial (fun hHeld => ?_); refine with_tabW hogsheadlaw08_DiskFails.tab12 hogsheadlaw08_DiskFails.bits12 (fun HT_ HW_ => ?_)
       generalize w72.drew = w89 at HO287 HO290 HO297 HO300 B247 B248 B249 B294 B304 HB hHeld ⊢
       refine pure_ (i := 0) (N := some 66) (v := ?_) (a' := ?_) #[true, false, false, false, false, false, false, false, false, false, false, false, false, false, false, false, false, false, false, false, false, false, false, false, false, false, false] rfl rfl (any_of HT_.out (by kernel_rfl)) (fun _ _ _ h => h) (Or.inl ⟨by rfl, ?_⟩) ?_ ?_
       rotate_left
       ·intro w'; go_simp; with_reducible rfl
       rotate_left
       ·simp only [Act.put, xA, xZ, xS, i64_w, i32_w]; rfl
       refine pure_ (i := 1) (N := some 67) (v := ?_) (a' := ?_) #[true, true, false, false, false, false, false, false, false, false, false, false, false, false, false, false, false, false, false, false, false, false, false, false, false, false, false] rfl rfl (any_of HT_.out (by kernel_rfl)) (fun _ _ _ h => h) (Or.inl ⟨by rfl, ?_⟩) ?_ ?_
       rotate_left
       ·intro w'; go_simp; with_reducible rfl
       rotate_left
       ·simp only [Act.put, xA, xZ, xS, i64_w, i32_w]; rfl
       refine pure_ (i := 2) (N := some 68) (v := ?_) (a' := ?_) #[true, true, true, false, false, false, false, false, false, false, false, false, false, false, false, false, false, false, false, false, false, false, false, false, false, false, false] rfl rfl (any_of HT_.out (by kernel_rfl)) (fun _ _ _ h => h) (Or.inl ⟨by rfl, ?_⟩) ?_ ?_
       rotate_left
       ·intro w'; go_simp; with_reducible rfl
       rotate_left
       ·simp only [Act.put, xA, xZ, xS, i64_w, i32_w]; rfl
       refine pure_ (i := 3) (N := some 69) (v := ?_) (a' := ?_) #[true, true, true, true, false, false, false, false, false, false, false, false, false, false, false, false, false, false, false, false, false, false, false, false, false, false, false] rfl rfl (any_of HT_.out (by kernel_rfl)) (fun _ _ _ h => h) (Or.inl ⟨by rfl, ?_⟩) ?_ ?_
       rotate_left
       ·intro w'; go_simp; with_reducible rfl
       rotate_left
       ·simp only [Act.put, xA, xZ, xS, i64_w, i32_w]; rfl
       refine pure_ (i := 4) (N := some 70) (v := ?_) (a' := ?_) #[true, true, true, true, true, false, false, false, false, false, false, false, false, false, false, false, false, false, false, false, false, false, false, false, false, false, false] rfl rfl (any_of HT_.out (by kernel_rfl)) (fun _ _ _ h => h) (Or.inl ⟨by rfl, ?_⟩) ?_ ?_
       rotate_left
       ·intro w'; go_simp; with_reducible rfl
       rotate_left
       ·simp only [Act.put, xA, xZ, xS, i64_w, i32_w]; rfl
       refine pure_ (i := 5) (N := some 71) (v := ?_) (a' := ?_) #[true, true, true, true, true, true, false, false, false, false, false, false, false, false, false, false, false, false, false, false, false, false, false, false, false, false, false] rfl rfl (any_of HT_.out (by kernel_rfl)) (fun _ _ _ h => h) (Or.inl ⟨by rfl, ?_⟩) ?_ ?_
       rotate_left
       ·intro w'; go_simp; with_reducible rfl
       rotate_left
       ·simp only [Act.put, xA, xZ, xS, i64_w, i32_w]; rfl
       refine pure_ (i := 6) (N := some 72) (v := ?_) (a' := ?_) #[true, true, true, true, true, true, true, false, false, false, false, false, false, false, false, false, false, false, false, false, false, false, false, false, false, false, false] rfl rfl (any_of HT_.out (by kernel_rfl)) (fun _ _ _ h => h) (Or.inl ⟨by rfl, ?_⟩) ?_ ?_
       rotate_left
       ·intro w'; go_simp; with_reducible rfl
       rotate_left
       ·simp only [Act.put, xA, xZ, xS, i64_w, i32_w]; rfl
       refine pure_ (i := 7) (N := some 73) (v := ?_) (a' := ?_) #[true, true, true, true, true, true, true, true, false, false, false, false, false, false, false, false, false, false, false, false, false, false, false, false, false, false, false] rfl rfl (any_of HT_.out (by kernel_rfl)) (fun _ _ _ h => h) (Or.inl ⟨by rfl, ?_⟩) ?_ ?_
       rotate_left
       ·intro w'; go_simp; with_reducible rfl
       rotate_left
       ·simp only [Act.put, xA, xZ, xS, i64_w, i32_w]; rfl
       refine pure_ (i := 8) (N := some 74) (v := undef) (a' := ?_) #[true, true, true, true, true, true, true, true, true, false, false, false, false, false, false, false, false, false, false, false, false, false, false, false, false, false, false] rfl rfl (any_of HT_.out (by kernel_rfl)) (fun _ _ _ h => h) (Or.inr ⟨by rfl, rfl⟩) ?_ ?_
       rotate_left
       ·simp only [Act.put, xA, xZ, xS, i64_w, i32_w]; rfl
       refine pure_ (i := 9) (N := some 75) (v := undef) (a' := ?_) #[true, true, true, true, true, true, true, true, true, true, false, false, false, false, false, false, false, false, false, false, false, false, false, false, false, false, false] rfl rfl (any_of HT_.out (by kernel_rfl)) (fun _ _ _ h => h) (Or.inr ⟨by rfl, rfl⟩) ?_ ?_
       rotate_left
       ·simp only [Act.put, xA, xZ, xS, i64_w, i32_w]; rfl
       refine pure_ (i := 10) (N := some 76) (v := undef) (a' := ?_) #[true, true, true, true, true, true, true, true, true, true, true, false, false, false, false, false, false, false, false, false, false, false, false, false, false, false, false] rfl rfl (any_of HT_.out (by kernel_rfl)) (fun _ _ _ h => h) (Or.inr ⟨by rfl, rfl⟩) ?_ ?_
       rotate_left
       ·simp only [Act.put, xA, xZ, xS, i64_w, i32_w]; rfl
       refine pure_ (i := 11) (N := some 77) (v := ?_) (a' := ?_) #[true, true, true, true, true, true, true, true, true, true, true, true, false, false, false, false, false, false, false, false, false, false, false, false, false, false, false] rfl rfl (any_of HT_.out (by kernel_rfl)) (fun _ _ _ h => h) (Or.inl ⟨by rfl, ?_⟩) ?_ ?_
       rotate_left
       ·intro w'; go_simp; with_reducible rfl
       rotate_left
       ·simp only [Act.put, xA, xZ, xS, i64_w, i32_w]; rfl
       refine pure_ (i := 12) (N := some 78) (v := ?_) (a' := ?_) #[true, true, true, true, true, true, true, true, true, true, true, true, true, false, false, false, false, false, false, false, false, false, false, false, false, false, false] rfl rfl (any_of HT_.out (by kernel_rfl)) (fun _ _ _ h => h) (Or.inl ⟨by rfl, ?_⟩) ?_ ?_
       rotate_left
       ·intro w'; go_simp; with_reducible rfl
       rotate_left
       ·simp only [Act.put, xA, xZ, xS, i64_w, i32_w]; rfl
       refine pure_ (i := 13) (N := some 79) (v := undef) (a' := ?_) #[true, true, true, true, true, true, true, true, true, true, true, true, true, true, false, false, false, false, false, false, false, false, false, false, false, false, false] rfl rfl (any_of HT_.out (by kernel_rfl)) (fun _ _ _ h => h) (Or.inr ⟨by rfl, rfl⟩) ?_ ?_
       rotate_left
       ·simp only [Act.put, xA, xZ, xS, i64_w, i32_w]; rfl
       refine pure_ (i := 14) (N := some 80) (v := undef) (a' := ?_) #[true, true, true, true, true, true, true, true, true, true, true, true, true, true, true, false, false, false, false, false, false, false, false, false, false, false, false] rfl rfl (any_of HT_.out (by kernel_rfl)) (fun _ _ _ h => h) (Or.inr ⟨by rfl, rfl⟩) ?_ ?_
       rotate_left
       ·simp only [Act.put, xA, xZ, xS, i64_w, i32_w]; rfl
       refine pure_ (i := 15) (N := some 81) (v := undef) (a' := ?_) #[true, true, true, true, true, true, true, true, true, true, true, true, true, true, true, true, false, false, false, false, false, false, false, false, false, false, false] rfl rfl (any_of HT_.out (by kernel_rfl)) (fun _ _ _ h => h) (Or.inr ⟨by rfl, rfl⟩) ?_ ?_
       rotate_left
       ·simp only [Act.put, xA, xZ, xS, i64_w, i32_w]; rfl
       refine pure_ (i := 16) (N := some 82) (v := undef) (a' := ?_) #[true, true, true, true, true, true, true, true, true, true, true, true, true, true, true, true, true, false, false, false, false, false, false, false, false, false, false] rfl rfl (any_of HT_.out (by kernel_rfl)) (fun _ _ _ h => h) (Or.inr ⟨by rfl, rfl⟩) ?_ ?_
       rotate_left
       ·simp only [Act.put, xA, xZ, xS, i64_w, i32_w]; rfl
       refine pure_ (i := 17) (N := some 83) (v := undef) (a' := ?_) #[true, true, true, true, true, true, true, true, true, true, true, true, true, true, true, true, true, true, false, false, false, false, false, false, false, false, false] rfl rfl (any_of HT_.out (by kernel_rfl)) (fun _ _ _ h => h) (Or.inr ⟨by rfl, rfl⟩) ?_ ?_
       rotate_left
       ·simp only [Act.put, xA, xZ, xS, i64_w, i32_w]; rfl
       refine pure_ (i := 18) (N := some 84) (v := undef) (a' := ?_) #[true, true, true, true, true, true, true, true, true, true, true, true, true, true, true, true, true, true, true, false, false, false, false, false, false, false, false] rfl rfl (any_of HT_.out (by kernel_rfl)) (fun _ _ _ h => h) (Or.inr ⟨by rfl, rfl⟩) ?_ ?_
       rotate_left
       ·simp only [Act.put, xA, xZ, xS, i64_w, i32_w]; rfl
       refine pure_ (i := 19) (N := some 85) (v := undef) (a' := ?_) #[true, true, true, true, true, true, true, true, true, true, true, true, true, true, true, true, true, true, true, true, false, false, false, false, false, false, false] rfl rfl (any_of HT_.out (by kernel_rfl)) (fun _ _ _ h => h) (Or.inr ⟨by rfl, rfl⟩) ?_ ?_
       rotate_left
       ·simp only [Act.put, xA, xZ, xS, i64_w, i32_w]; rfl
       refine pure_ (i := 20) (N := some 86) (v := ?_) (a' := ?_) #[true, true, true, true, true, true, true, true, true, true, true, true, true, true, true, true, true, true, true, true, true, false, false, false, false, false, false] rfl rfl (any_of HT_.out (by kernel_rfl)) (fun _ _ _ h => h) (Or.inl ⟨by rfl, ?_⟩) ?_ ?_
       rotate_left
       ·intro w'; go_simp; with_reducible rfl
       rotate_left
       ·simp only [Act.put, xA, xZ, xS, i64_w, i32_w]; rfl
       refine pure_ (i := 21) (N := some 87) (v := ?_) (a' := ?_) #[true, true, true, true, true, true, true, true, true, true, true, true, true, true, true, true, true, true, true, true, true, true, false, false, false, false, false] rfl rfl (any_of HT_.out (by kernel_rfl)) (fun _ _ _ h => h) (Or.inl ⟨by rfl, ?_⟩) ?_ ?_
       rotate_left
       ·intro w'; go_simp; with_reducible rfl
       rotate_left
       ·simp only [Act.put, xA, xZ, xS, i64_w, i32_w]; rfl
       refine pure_ (i := 22) (N := some 88) (v := undef) (a' := ?_) #[true, true, true, true, true, true, true, true, true, true, true, true, true, true, true, true, true, true, true, true, true, true, true, false, false, false, false] rfl rfl (any_of HT_.out (by kernel_rfl)) (fun _ _ _ h => h) (Or.inr ⟨by rfl, rfl⟩) ?_ ?_
       rotate_left
       ·simp only [Act.put, xA, xZ, xS, i64_w, i32_w]; rfl
       refine pure_ (i := 23) (N := some 89) (v := undef) (a' := ?_) #[true, true, true, true, true, true, true, true, true, true, true, true, true, true, true, true, true, true, true, true, true, true, true, true, false, false, false] rfl rfl (any_of HT_.out (by kernel_rfl)) (fun _ _ _ h => h) (Or.inr ⟨by rfl, rfl⟩) ?_ ?_
       rotate_left
       ·simp only [Act.put, xA, xZ, xS, i64_w, i32_w]; rfl
       refine pure_ (i := 24) (N := some 90) (v := undef) (a' := ?_) #[true, true, true, true, true, true, true, true, true, true, true, true, true, true, true, true, true, true, true, true, true, true, true, true, true, false, false] rfl rfl (any_of HT_.out (by kernel_rfl)) (fun _ _ _ h => h) (Or.inr ⟨by rfl, rfl⟩) ?_ ?_
       rotate_left
       ·simp only [Act.put, xA, xZ, xS, i64_w, i32_w]; rfl
       refine pure_ (i := 25) (N := some 91) (v := ?_) (a' := ?_) #[true, true, true, true, true, true, true, true, true, true, true, true, true, true, true, true, true, true, true, true, true, true, true, true, true, true, false] rfl rfl (any_of HT_.out (by kernel_rfl)) (fun _ _ _ h => h) (Or.inl ⟨by rfl, ?_⟩) ?_ ?_
       rotate_left
       ·intro w'; go_simp; with_reducible rfl
       rotate_left
       ·simp only [Act.put, xA, xZ, xS, i64_w, i32_w]; rfl
       refine pure_ (i := 26) (N := some 2) (v := ?_) (a' := ?_) #[true, true, true, true, true, true, true, true, true, true, true, true, true, true, true, true, true, true, true, true, true, true, true, true, true, true, true] rfl rfl (any_of HT_.out (by kernel_rfl)) (fun _ _ _ h => h) (Or.inl ⟨by rfl, ?_⟩) ?_ ?_
       rotate_left
       ·intro w'; go_simp; with_reducible rfl
       rotate_left
       ·simp only [Act.put, xA, xZ, xS, i64_w, i32_w]; rfl
       refine done_ (done_of HT_.out (by kernel_rfl)) ?_
       try go_wp2
       go_meet
       case rel => exact ⟨_, (false), (by first | rfl | (simp; done) | (simp [*]; done)), H', ⟨by have := HJ2.out; first | omega | exact Nat.le_refl _⟩, ⟨by (with_reducible repeat first | apply VA | apply VN | apply VD); exact Vm HO287.out (fun _ hk => ⟨hk.1.1, ⟨hk.1.2.1, ⟨hk.1.2.2.1, ⟨hk.1.2.2.2, hk.2⟩⟩⟩⟩)⟩, ⟨by (with_reducible repeat first | apply VA | apply VN | apply VD); exact Vm HO290.out (fun _ hk => ⟨hk.1.1, ⟨hk.1.2.1, ⟨hk.1.2.2.1, ⟨hk.1.2.2.2, hk.2⟩⟩⟩⟩)⟩, ⟨by (with_reducible repeat first | apply VA | apply VN | apply VD); exact Vm HO297.out (fun _ hk => ⟨hk.1.1, ⟨hk.1.2.1, ⟨hk.1.2.2.1, ⟨hk.1.2.2.2, hk.2⟩⟩⟩⟩)⟩, ⟨by (with_reducible repeat first | apply VA | apply VN | apply VD); exact Vm HO300.out (fun _ hk => ⟨hk.1.1, ⟨hk.1.2.1, ⟨hk.1.2.2.1, ⟨hk.1.2.2.2, hk.2⟩⟩⟩⟩)⟩, ⟨by (with_reducible repeat first | refine qN ?_ _ | refine qD ?_ | refine qA ?_ _); exact B247.out⟩, ⟨by (with_reducible repeat first | refine qN ?_ _ | refine qD ?_ | refine qA ?_ _); exact B248.out⟩, ⟨by (with_reducible repeat first | refine qN ?_ _ | refine qD ?_ | refine qA ?_ _); exact B249.out⟩, ⟨by (with_reducible repeat first | refine qN ?_ _ | refine qD ?_ | refine qA ?_ _); exact B294.out⟩, ⟨by (with_reducible repeat first | refine qN ?_ _ | refine qD ?_ | refine qA ?_ _); exact B304.out⟩, ⟨by repeat (first | (with_reducible first | exact HB.out | apply eA | apply eN | apply eD | refine eS ?_ GE247.out | refine eS ?_ GE248.out | refine eS ?_ GE249.out | refine eS ?_ GE294.out | refine eS ?_ GE304.out) | exact HB.out)⟩⟩
     ·replace c74 := Bool.eq_false_iff.mpr c74
      subst c74
      have H1 : (hogsheadlaw08_DiskFails.j1 kj2 false) = some r := by rw [if_neg (show ¬ (false = true) by decide)] at H; exact H
      clear H
      have H := H1
      clear H1
      have H' := qM H
      clear H
      try go_wp2
      have n0_ := qM (Kd.V_drew HO287.out)
      have n1_ := qM (Kd.V_drew HO290.out)
      have n2_ := qM (Kd.V_drew HO297.out)
      have n3_ := qM (Kd.V_drew HO300.out)
      have n4_ := qM (blk_drew B247.out)
      have n5_ := qM (blk_drew B248.out)
      have n6_ := qM (blk_drew B249.out)
      have n7_ := qM (blk_drew B294.out)
      have n8_ := qM (blk_drew B304.out)
      have n9_ := qM (below_drew1 HB.out)
      clear HO287
      clear HO290
      clear HO297
      clear HO300
      clear B247
      clear B248
      clear B249
      clear B294
      clear B304
      clear HB
      have HO287 := n0_
      have HO290 := n1_
      have HO297 := n2_
      have HO300 := n3_
      have B247 := n4_
      have B248 := n5_
      have B249 := n6_
      have B294 := n7_
      have B304 := n8_
      have HB := n9_
      clear n0_ n1_ n2_ n3_ n4_ n5_ n6_ n7_ n8_ n9_
      refine start_ (n := 27) (S := fun w' => True) (ds := []) #[false, false, false, false, false, false, false, false, false, false, false, false, false, false, false, false, false, false, false, false, false, false, false, false, false, false, false] (by kernel_rfl) rfl rfl trivial (fun hHeld => ?_); refine with_tabW hogsheadlaw08_DiskFails.tab12 hogsheadlaw08_DiskFails.bits12 (fun HT_ HW_ => ?_)
      generalize w72.drew = w90 at HO287 HO290 HO297 HO300 B247 B248 B249 B294 B304 HB hHeld ⊢
      refine pure_ (i := 0) (N := some 66) (v := ?_) (a' := ?_) #[true, false, false, false, false, false, false, false, false, false, false, false, false, false, false, false, false, false, false, false, false, false, false, false, false, false, false] rfl rfl (any_of HT_.out (by kernel_rfl)) (fun _ _ _ h => h) (Or.inl ⟨by rfl, ?_⟩) ?_ ?_
      rotate_left
      ·intro w'; go_simp; with_reducible rfl
      rotate_left
      ·simp only [Act.put, xA, xZ, xS, i64_w, i32_w]; rfl
      refine pure_ (i := 1) (N := some 67) (v := ?_) (a' := ?_) #[true, true, false, false, false, false, false, false, false, false, false, false, false, false, false, false, false, false, false, false, false, false, false, false, false, false, false] rfl rfl (any_of HT_.out (by kernel_rfl)) (fun _ _ _ h => h) (Or.inl ⟨by rfl, ?_⟩) ?_ ?_
      rotate_left
      ·intro w'; go_simp; with_reducible rfl
      rotate_left
      ·simp only [Act.put, xA, xZ, xS, i64_w, i32_w]; rfl
      refine pure_ (i := 2) (N := some 68) (v := ?_) (a' := ?_) #[true, true, true, false, false, false, false, false, false, false, false, false, false, false, false, false, false, false, false, false, false, false, false, false, false, false, false] rfl rfl (any_of HT_.out (by kernel_rfl)) (fun _ _ _ h => h) (Or.inl ⟨by rfl, ?_⟩) ?_ ?_
      rotate_left
      ·intro w'; go_simp; with_reducible rfl
      rotate_left
      ·simp only [Act.put, xA, xZ, xS, i64_w, i32_w]; rfl
      refine pure_ (i := 3) (N := some 69) (v := ?_) (a' := ?_) #[true, true, true, true, false, false, false, false, false, false, false, false, false, false, false, false, false, false, false, false, false, false, false, false, false, false, false] rfl rfl (any_of HT_.out (by kernel_rfl)) (fun _ _ _ h => h) (Or.inl ⟨by rfl, ?_⟩) ?_ ?_
      rotate_left
      ·intro w'; go_simp; with_reducible rfl
      rotate_left
      ·simp only [Act.put, xA, xZ, xS, i64_w, i32_w]; rfl
      refine pure_ (i := 4) (N := some 70) (v := ?_) (a' := ?_) #[true, true, true, true, true, false, false, false, false, false, false, false, false, false, false, false, false, false, false, false, false, false, false, false, false, false, false] rfl rfl (any_of HT_.out (by kernel_rfl)) (fun _ _ _ h => h) (Or.inl ⟨by rfl, ?_⟩) ?_ ?_
      rotate_left
      ·intro w'; go_simp; with_reducible rfl
      rotate_left
      ·simp only [Act.put, xA, xZ, xS, i64_w, i32_w]; rfl
      refine pure_ (i := 5) (N := some 71) (v := undef) (a' := ?_) #[true, true, true, true, true, true, false, false, false, false, false, false, false, false, false, false, false, false, false, false, false, false, false, false, false, false, false] rfl rfl (any_of HT_.out (by kernel_rfl)) (fun _ _ _ h => h) (Or.inr ⟨by rfl, rfl⟩) ?_ ?_
      rotate_left
      ·simp only [Act.put, xA, xZ, xS, i64_w, i32_w]; rfl
      refine pure_ (i := 6) (N := some 72) (v := ?_) (a' := ?_) #[true, true, true, true, true, true, true, false, false, false, false, false, false, false, false, false, false, false, false, false, false, false, false, false, false, false, false] rfl rfl (any_of HT_.out (by kernel_rfl)) (fun _ _ _ h => h) (Or.inl ⟨by rfl, ?_⟩) ?_ ?_
      rotate_left
      ·intro w'; go_simp; with_reducible rfl
      rotate_left
      ·simp only [Act.put, xA, xZ, xS, i64_w, i32_w]; rfl
      refine pure_ (i := 7) (N := some 73) (v := ?_) (a' := ?_) #[true, true, true, true, true, true, true, true, false, false, false, false, false, false, false, false, false, false, false, false, false, false, false, false, false, false, false] rfl rfl (any_of HT_.out (by kernel_rfl)) (fun _ _ _ h => h) (Or.inl ⟨by rfl, ?_⟩) ?_ ?_
      rotate_left
      ·intro w'; go_simp; with_reducible rfl
      rotate_left
      ·simp only [Act.put, xA, xZ, xS, i64_w, i32_w]; rfl
      refine pure_ (i := 8) (N := some 74) (v := undef) (a' := ?_) #[true, true, true, true, true, true, true, true, true, false, false, false, false, false, false, false, false, false, false, false, false, false, false, false, false, false, false] rfl rfl (any_of HT_.out (by kernel_rfl)) (fun _ _ _ h => h) (Or.inr ⟨by rfl, rfl⟩) ?_ ?_
      rotate_left
      ·simp only [Act.put, xA, xZ, xS, i64_w, i32_w]; rfl
      refine pure_ (i := 9) (N := some 75) (v := undef) (a' := ?_) #[true, true, true, true, true, true, true, true, true, true, false, false, false, false, false, false, false, false, false, false, false, false, false, false, false, false, false] rfl rfl (any_of HT_.out (by kernel_rfl)) (fun _ _ _ h => h) (Or.inr ⟨by rfl, rfl⟩) ?_ ?_
      rotate_left
      ·simp only [Act.put, xA, xZ, xS, i64_w, i32_w]; rfl
      refine pure_ (i := 10) (N := some 76) (v := undef) (a' := ?_) #[true, true, true, true, true, true, true, true, true, true, true, false, false, false, false, false, false, false, false, false, false, false, false, false, false, false, false] rfl rfl (any_of HT_.out (by kernel_rfl)) (fun _ _ _ h => h) (Or.inr ⟨by rfl, rfl⟩) ?_ ?_
      rotate_left
      ·simp only [Act.put, xA, xZ, xS, i64_w, i32_w]; rfl
      refine pure_ (i := 11) (N := some 77) (v := ?_) (a' := ?_) #[true, true, true, true, true, true, true, true, true, true, true, true, false, false, false, false, false, false, false, false, false, false, false, false, false, false, false] rfl rfl (any_of HT_.out (by kernel_rfl)) (fun _ _ _ h => h) (Or.inl ⟨by rfl, ?_⟩) ?_ ?_
      rotate_left
      ·intro w'; go_simp; with_reducible rfl
      rotate_left
      ·simp only [Act.put, xA, xZ, xS, i64_w, i32_w]; rfl
      refine pure_ (i := 12) (N := some 78) (v := ?_) (a' := ?_) #[true, true, true, true, true, true, true, true, true, true, true, true, true, false, false, false, false, false, false, false, false, false, false, false, false, false, false] rfl rfl (any_of HT_.out (by kernel_rfl)) (fun _ _ _ h => h) (Or.inl ⟨by rfl, ?_⟩) ?_ ?_
      rotate_left
      ·intro w'; go_simp; with_reducible rfl
      rotate_left
      ·simp only [Act.put, xA, xZ, xS, i64_w, i32_w]; rfl
      refine pure_ (i := 13) (N := some 79) (v := undef) (a' := ?_) #[true, true, true, true, true, true, true, true, true, true, true, true, true, true, false, false, false, false, false, false, false, false, false, false, false, false, false] rfl rfl (any_of HT_.out (by kernel_rfl)) (fun _ _ _ h => h) (Or.inr ⟨by rfl, rfl⟩) ?_ ?_
      rotate_left
      ·simp only [Act.put, xA, xZ, xS, i64_w, i32_w]; rfl
      refine pure_ (i := 14) (N := some 80) (v := undef) (a' := ?_) #[true, true, true, true, true, true, true, true, true, true, true, true, true, true, true, false, false, false, false, false, false, false, false, false, false, false, false] rfl rfl (any_of HT_.out (by kernel_rfl)) (fun _ _ _ h => h) (Or.inr ⟨by rfl, rfl⟩) ?_ ?_
      rotate_left
      ·simp only [Act.put, xA, xZ, xS, i64_w, i32_w]; rfl
      refine pure_ (i := 15) (N := some 81) (v := undef) (a' := ?_) #[true, true, true, true, true, true, true, true, true, true, true, true, true, true, true, true, false, false, false, false, false, false, false, false, false, false, false] rfl rfl (any_of HT_.out (by kernel_rfl)) (fun _ _ _ h => h) (Or.inr ⟨by rfl, rfl⟩) ?_ ?_
      rotate_left
      ·simp only [Act.put, xA, xZ, xS, i64_w, i32_w]; rfl
      refine pure_ (i := 16) (N := some 82) (v := undef) (a' := ?_) #[true, true, true, true, true, true, true, true, true, true, true, true, true, true, true, true, true, false, false, false, false, false, false, false, false, false, false] rfl rfl (any_of HT_.out (by kernel_rfl)) (fun _ _ _ h => h) (Or.inr ⟨by rfl, rfl⟩) ?_ ?_
      rotate_left
      ·simp only [Act.put, xA, xZ, xS, i64_w, i32_w]; rfl
      refine pure_ (i := 17) (N := some 83) (v := undef) (a' := ?_) #[true, true, true, true, true, true, true, true, true, true, true, true, true, true, true, true, true, true, false, false, false, false, false, false, false, false, false] rfl rfl (any_of HT_.out (by kernel_rfl)) (fun _ _ _ h => h) (Or.inr ⟨by rfl, rfl⟩) ?_ ?_
      rotate_left
      ·simp only [Act.put, xA, xZ, xS, i64_w, i32_w]; rfl
      refine pure_ (i := 18) (N := some 84) (v := undef) (a' := ?_) #[true, true, true, true, true, true, true, true, true, true, true, true, true, true, true, true, true, true, true, false, false, false, false, false, false, false, false] rfl rfl (any_of HT_.out (by kernel_rfl)) (fun _ _ _ h => h) (Or.inr ⟨by rfl, rfl⟩) ?_ ?_
      rotate_left
      ·simp only [Act.put, xA, xZ, xS, i64_w, i32_w]; rfl
      refine pure_ (i := 19) (N := some 85) (v := undef) (a' := ?_) #[true, true, true, true, true, true, true, true, true, true, true, true, true, true, true, true, true, true, true, true, false, false, false, false, false, false, false] rfl rfl (any_of HT_.out (by kernel_rfl)) (fun _ _ _ h => h) (Or.inr ⟨by rfl, rfl⟩) ?_ ?_
      rotate_left
      ·simp only [Act.put, xA, xZ, xS, i64_w, i32_w]; rfl
      refine pure_ (i := 20) (N := some 86) (v := ?_) (a' := ?_) #[true, true, true, true, true, true, true, true, true, true, true, true, true, true, true, true, true, true, true, true, true, false, false, false, false, false, false] rfl rfl (any_of HT_.out (by kernel_rfl)) (fun _ _ _ h => h) (Or.inl ⟨by rfl, ?_⟩) ?_ ?_
      rotate_left
      ·intro w'; go_simp; with_reducible rfl
      rotate_left
      ·simp only [Act.put, xA, xZ, xS, i64_w, i32_w]; rfl
      refine pure_ (i := 21) (N := some 87) (v := ?_) (a' := ?_) #[true, true, true, true, true, true, true, true, true, true, true, true, true, true, true, true, true, true, true, true, true, true, false, false, false, false, false] rfl rfl (any_of HT_.out (by kernel_rfl)) (fun _ _ _ h => h) (Or.inl ⟨by rfl, ?_⟩) ?_ ?_
      rotate_left
      ·intro w'; go_simp; with_reducible rfl
      rotate_left
      ·simp only [Act.put, xA, xZ, xS, i64_w, i32_w]; rfl
      refine pure_ (i := 22) (N := some 88) (v := undef) (a' := ?_) #[true, true, true, true, true, true, true, true, true, true, true, true, true, true, true, true, true, true, true, true, true, true, true, false, false, false, false] rfl rfl (any_of HT_.out (by kernel_rfl)) (fun _ _ _ h => h) (Or.inr ⟨by rfl, rfl⟩) ?_ ?_
      rotate_left
      ·simp only [Act.put, xA, xZ, xS, i64_w, i32_w]; rfl
      refine pure_ (i := 23) (N := some 89) (v := undef) (a' := ?_) #[true, true, true, true, true, true, true, true, true, true, true, true, true, true, true, true, true, true, true, true, true, true, true, true, false, false, false] rfl rfl (any_of HT_.out (by kernel_rfl)) (fun _ _ _ h => h) (Or.inr ⟨by rfl, rfl⟩) ?_ ?_
      rotate_left
      ·simp only [Act.put, xA, xZ, xS, i64_w, i32_w]; rfl
      refine pure_ (i := 24) (N := some 90) (v := undef) (a' := ?_) #[true, true, true, true, true, true, true, true, true, true, true, true, true, true, true, true, true, true, true, true, true, true, true, true, true, false, false] rfl rfl (any_of HT_.out (by kernel_rfl)) (fun _ _ _ h => h) (Or.inr ⟨by rfl, rfl⟩) ?_ ?_
      rotate_left
      ·simp only [Act.put, xA, xZ, xS, i64_w, i32_w]; rfl
      refine pure_ (i := 25) (N := some 91) (v := ?_) (a' := ?_) #[true, true, true, true, true, true, true, true, true, true, true, true, true, true, true, true, true, true, true, true, true, true, true, true, true, true, false] rfl rfl (any_of HT_.out (by kernel_rfl)) (fun _ _ _ h => h) (Or.inl ⟨by rfl, ?_⟩) ?_ ?_
      rotate_left
      ·intro w'; go_simp; with_reducible rfl
      rotate_left
      ·simp only [Act.put, xA, xZ, xS, i64_w, i32_w]; rfl
      refine pure_ (i := 26) (N := some 2) (v := ?_) (a' := ?_) #[true, true, true, true, true, true, true, true, true, true, true, true, true, true, true, true, true, true, true, true, true, true, true, true, true, true, true] rfl rfl (any_of HT_.out (by kernel_rfl)) (fun _ _ _ h => h) (Or.inl ⟨by rfl, ?_⟩) ?_ ?_
      rotate_left
      ·intro w'; go_simp; with_reducible rfl
      rotate_left
      ·simp only [Act.put, xA, xZ, xS, i64_w, i32_w]; rfl
      refine done_ (done_of HT_.out (by kernel_rfl)) ?_
      try go_wp2
      go_meet
      case rel => exact ⟨_, (false), (by first | rfl | (simp; done) | (simp [*]; done)), H', ⟨by have := HJ2.out; first | omega | exact Nat.le_refl _⟩, ⟨by (with_reducible repeat first | apply VA | apply VN | apply VD); exact Vm HO287.out (fun _ hk => ⟨hk.1.1, ⟨hk.1.2.1, ⟨hk.1.2.2.1, ⟨hk.1.2.2.2, hk.2⟩⟩⟩⟩)⟩, ⟨by (with_reducible repeat first | apply VA | apply VN | apply VD); exact Vm HO290.out (fun _ hk => ⟨hk.1.1, ⟨hk.1.2.1, ⟨hk.1.2.2.1, ⟨hk.1.2.2.2, hk.2⟩⟩⟩⟩)⟩, ⟨by (with_reducible repeat first | apply VA | apply VN | apply VD); exact Vm HO297.out (fun _ hk => ⟨hk.1.1, ⟨hk.1.2.1, ⟨hk.1.2.2.1, ⟨hk.1.2.2.2, hk.2⟩⟩⟩⟩)⟩, ⟨by (with_reducible repeat first | apply VA | apply VN | apply VD); exact Vm HO300.out (fun _ hk => ⟨hk.1.1, ⟨hk.1.2.1, ⟨hk.1.2.2.1, ⟨hk.1.2.2.2, hk.2⟩⟩⟩⟩)⟩, ⟨by (with_reducible repeat first | refine qN ?_ _ | refine qD ?_ | refine qA ?_ _); exact B247.out⟩, ⟨by (with_reducible repeat first | refine qN ?_ _ | refine qD ?_ | refine qA ?_ _); exact B248.out⟩, ⟨by (with_reducible repeat first | refine qN ?_ _ | refine qD ?_ | refine qA ?_ _); exact B249.out⟩, ⟨by (with_reducible repeat first | refine qN ?_ _ | refine qD ?_ | refine qA ?_ _); exact B294.out⟩, ⟨by (with_reducible repeat first | refine qN ?_ _ | refine qD ?_ | refine qA ?_ _); exact B304.out⟩, ⟨by repeat (first | (with_reducible first | exact HB.out | apply eA | apply eN | apply eD | refine eS ?_ GE247.out | refine eS ?_ GE248.out | refine eS ?_ GE249.out | refine eS ?_ GE294.out | refine eS ?_ GE304.out) | exact HB.out)⟩⟩
    ·replace c73 := Bool.eq_false_iff.mpr c73
     subst c73
     have H1 : (hogsheadlaw08_DiskFails.j1 kj2 false) = some r := by rw [if_neg (show ¬ (false = true) by decide)] at H; exact H
     clear H
     have H := H1
     clear H1
     have H' := qM H
     clear H
     try go_wp2
     have n0_ := qM (Kd.V_drew HO287.out)
     have n1_ := qM (Kd.V_drew HO290.out)
     have n2_ := qM (Kd.V_drew HO297.out)
     have n3_ := qM (Kd.V_drew HO300.out)
     have n4_ := qM (blk_drew B247.out)
     have n5_ := qM (blk_drew B248.out)
     have n6_ := qM (blk_drew B249.out)
     have n7_ := qM (blk_drew B294.out)
     have n8_ := qM (blk_drew B304.out)
     have n9_ := qM (below_drew1 HB.out)
     clear HO287
     clear HO290
     clear HO297
     clear HO300
     clear B247
     clear B248
     clear B249
     clear B294
     clear B304
     clear HB
     have HO287 := n0_
     have HO290 := n1_
     have HO297 := n2_
     have HO300 := n3_
     have B247 := n4_
     have B248 := n5_
     have B249 := n6_
     have B294 := n7_
     have B304 := n8_
     have HB := n9_
     clear n0_ n1_ n2_ n3_ n4_ n5_ n6_ n7_ n8_ n9_
     refine start_ (n := 27) (S := fun w' => True) (ds := []) #[false, false, false, false, false, false, false, false, false, false, false, false, false, false, false, false, false, false, false, false, false, false, false, false, false, false, false] (by kernel_rfl) rfl rfl trivial (fun hHeld => ?_); refine with_tabW hogsheadlaw08_DiskFails.tab12 hogsheadlaw08_DiskFails.bits12 (fun HT_ HW_ => ?_)
     generalize w72.drew = w91 at HO287 HO290 HO297 HO300 B247 B248 B249 B294 B304 HB hHeld ⊢
     refine pure_ (i := 0) (N := some 66) (v := ?_) (a' := ?_) #[true, false, false, false, false, false, false, false, false, false, false, false, false, false, false, false, false, false, false, false, false, false, false, false, false, false, false] rfl rfl (any_of HT_.out (by kernel_rfl)) (fun _ _ _ h => h) (Or.inl ⟨by rfl, ?_⟩) ?_ ?_
     rotate_left
     ·intro w'; go_simp; with_reducible rfl
     rotate_left
     ·simp only [Act.put, xA, xZ, xS, i64_w, i32_w]; rfl
     refine pure_ (i := 1) (N := some 67) (v := ?_) (a' := ?_) #[true, true, false, false, false, false, false, false, false, false, false, false, false, false, false, false, false, false, false, false, false, false, false, false, false, false, false] rfl rfl (any_of HT_.out (by kernel_rfl)) (fun _ _ _ h => h) (Or.inl ⟨by rfl, ?_⟩) ?_ ?_
     rotate_left
     ·intro w'; go_simp; with_reducible rfl
     rotate_left
     ·simp only [Act.put, xA, xZ, xS, i64_w, i32_w]; rfl
     refine pure_ (i := 2) (N := some 68) (v := undef) (a' := ?_) #[true, true, true, false, false, false, false, false, false, false, false, false, false, false, false, false, false, false, false, false, false, false, false, false, false, false, false] rfl rfl (any_of HT_.out (by kernel_rfl)) (fun _ _ _ h => h) (Or.inr ⟨by rfl, rfl⟩) ?_ ?_
     rotate_left
     ·simp only [Act.put, xA, xZ, xS, i64_w, i32_w]; rfl
     refine pure_ (i := 3) (N := some 69) (v := ?_) (a' := ?_) #[true, true, true, true, false, false, false, false, false, false, false, false, false, false, false, false, false, false, false, false, false, false, false, false, false, false, false] rfl rfl (any_of HT_.out (by kernel_rfl)) (fun _ _ _ h => h) (Or.inl ⟨by rfl, ?_⟩) ?_ ?_
     rotate_left
     ·intro w'; go_simp; with_reducible rfl
     rotate_left
     ·simp only [Act.put, xA, xZ, xS, i64_w, i32_w]; rfl
     refine pure_ (i := 4) (N := some 70) (v := ?_) (a' := ?_) #[true, true, true, true, true, false, false, false, false, false, false, false, false, false, false, false, false, false, false, false, false, false, false, false, false, false, false] rfl rfl (any_of HT_.out (by kernel_rfl)) (fun _ _ _ h => h) (Or.inl ⟨by rfl, ?_⟩) ?_ ?_
     rotate_left
     ·intro w'; go_simp; with_reducible rfl
     rotate_left
     ·simp only [Act.put, xA, xZ, xS, i64_w, i32_w]; rfl
     refine pure_ (i := 5) (N := some 71) (v := undef) (a' := ?_) #[true, true, true, true, true, true, false, false, false, false, false, false, false, false, false, false, false, false, false, false, false, false, false, false, false, false, false] rfl rfl (any_of HT_.out (by kernel_rfl)) (fun _ _ _ h => h) (Or.inr ⟨by rfl, rfl⟩) ?_ ?_
     rotate_left
     ·simp only [Act.put, xA, xZ, xS, i64_w, i32_w]; rfl
     refine pure_ (i := 6) (N := some 72) (v := ?_) (a' := ?_) #[true, true, true, true, true, true, true, false, false, false, false, false, false, false, false, false, false, false, false, false, false, false, false, false, false, false, false] rfl rfl (any_of HT_.out (by kernel_rfl)) (fun _ _ _ h => h) (Or.inl ⟨by rfl, ?_⟩) ?_ ?_
     rotate_left
     ·intro w'; go_simp; with_reducible rfl
     rotate_left
     ·simp only [Act.put, xA, xZ, xS, i64_w, i32_w]; rfl
     refine pure_ (i := 7) (N := some 73) (v := ?_) (a' := ?_) #[true, true, true, true, true, true, true, true, false, false, false, false, false, false, false, false, false, false, false, false, false, false, false, false, false, false, false] rfl rfl (any_of HT_.out (by kernel_rfl)) (fun _ _ _ h => h) (Or.inl ⟨by rfl, ?_⟩) ?_ ?_
     rotate_left
     ·intro w'; go_simp; with_reducible rfl
     rotate_left
     ·simp only [Act.put, xA, xZ, xS, i64_w, i32_w]; rfl
     refine pure_ (i := 8) (N := some 74) (v := undef) (a' := ?_) #[true, true, true, true, true, true, true, true, true, false, false, false, false, false, false, false, false, false, false, false, false, false, false, false, false, false, false] rfl rfl (any_of HT_.out (by kernel_rfl)) (fun _ _ _ h => h) (Or.inr ⟨by rfl, rfl⟩) ?_ ?_
     rotate_left
     ·simp only [Act.put, xA, xZ, xS, i64_w, i32_w]; rfl
     refine pure_ (i := 9) (N := some 75) (v := undef) (a' := ?_) #[true, true, true, true, true, true, true, true, true, true, false, false, false, false, false, false, false, false, false, false, false, false, false, false, false, false, false] rfl rfl (any_of HT_.out (by kernel_rfl)) (fun _ _ _ h => h) (Or.inr ⟨by rfl, rfl⟩) ?_ ?_
     rotate_left
     ·simp only [Act.put, xA, xZ, xS, i64_w, i32_w]; rfl
     refine pure_ (i := 10) (N := some 76) (v := undef) (a' := ?_) #[true, true, true, true, true, true, true, true, true, true, true, false, false, false, false, false, false, false, false, false, false, false, false, false, false, false, false] rfl rfl (any_of HT_.out (by kernel_rfl)) (fun _ _ _ h => h) (Or.inr ⟨by rfl, rfl⟩) ?_ ?_
     rotate_left
     ·simp only [Act.put, xA, xZ, xS, i64_w, i32_w]; rfl
     refine pure_ (i := 11) (N := some 77) (v := ?_) (a' := ?_) #[true, true, true, true, true, true, true, true, true, true, true, true, false, false, false, false, false, false, false, false, false, false, false, false, false, false, false] rfl rfl (any_of HT_.out (by kernel_rfl)) (fun _ _ _ h => h) (Or.inl ⟨by rfl, ?_⟩) ?_ ?_
     rotate_left
     ·intro w'; go_simp; with_reducible rfl
     rotate_left
     ·simp only [Act.put, xA, xZ, xS, i64_w, i32_w]; rfl
     refine pure_ (i := 12) (N := some 78) (v := ?_) (a' := ?_) #[true, true, true, true, true, true, true, true, true, true, true, true, true, false, false, false, false, false, false, false, false, false, false, false, false, false, false] rfl rfl (any_of HT_.out (by kernel_rfl)) (fun _ _ _ h => h) (Or.inl ⟨by rfl, ?_⟩) ?_ ?_
     rotate_left
     ·intro w'; go_simp; with_reducible rfl
     rotate_left
     ·simp only [Act.put, xA, xZ, xS, i64_w, i32_w]; rfl
     refine pure_ (i := 13) (N := some 79) (v := undef) (a' := ?_) #[true, true, true, true, true, true, true, true, true, true, true, true, true, true, false, false, false, false, false, false, false, false, false, false, false, false, false] rfl rfl (any_of HT_.out (by kernel_rfl)) (fun _ _ _ h => h) (Or.inr ⟨by rfl, rfl⟩) ?_ ?_
     rotate_left
     ·simp only [Act.put, xA, xZ, xS, i64_w, i32_w]; rfl
     refine pure_ (i := 14) (N := some 80) (v := undef) (a' := ?_) #[true, true, true, true, true, true, true, true, true, true, true, true, true, true, true, false, false, false, false, false, false, false, false, false, false, false, false] rfl rfl (any_of HT_.out (by kernel_rfl)) (fun _ _ _ h => h) (Or.inr ⟨by rfl, rfl⟩) ?_ ?_
     rotate_left
     ·simp only [Act.put, xA, xZ, xS, i64_w, i32_w]; rfl
     refine pure_ (i := 15) (N := some 81) (v := undef) (a' := ?_) #[true, true, true, true, true, true, true, true, true, true, true, true, true, true, true, true, false, false, false, false, false, false, false, false, false, false, false] rfl rfl (any_of HT_.out (by kernel_rfl)) (fun _ _ _ h => h) (Or.inr ⟨by rfl, rfl⟩) ?_ ?_
     rotate_left
     ·simp only [Act.put, xA, xZ, xS, i64_w, i32_w]; rfl
     refine pure_ (i := 16) (N := some 82) (v := undef) (a' := ?_) #[true, true, true, true, true, true, true, true, true, true, true, true, true, true, true, true, true, false, false, false, false, false, false, false, false, false, false] rfl rfl (any_of HT_.out (by kernel_rfl)) (fun _ _ _ h => h) (Or.inr ⟨by rfl, rfl⟩) ?_ ?_
     rotate_left
     ·simp only [Act.put, xA, xZ, xS, i64_w, i32_w]; rfl
     refine pure_ (i := 17) (N := some 83) (v := undef) (a' := ?_) #[true, true, true, true, true, true, true, true, true, true, true, true, true, true, true, true, true, true, false, false, false, false, false, false, false, false, false] rfl rfl (any_of HT_.out (by kernel_rfl)) (fun _ _ _ h => h) (Or.inr ⟨by rfl, rfl⟩) ?_ ?_
     rotate_left
     ·simp only [Act.put, xA, xZ, xS, i64_w, i32_w]; rfl
     refine pure_ (i := 18) (N := some 84) (v := undef) (a' := ?_) #[true, true, true, true, true, true, true, true, true, true, true, true, true, true, true, true, true, true, true, false, false, false, false, false, false, false, false] rfl rfl (any_of HT_.out (by kernel_rfl)) (fun _ _ _ h => h) (Or.inr ⟨by rfl, rfl⟩) ?_ ?_
     rotate_left
     ·simp only [Act.put, xA, xZ, xS, i64_w, i32_w]; rfl
     refine pure_ (i := 19) (N := some 85) (v := undef) (a' := ?_) #[true, true, true, true, true, true, true, true, true, true, true, true, true, true, true, true, true, true, true, true, false, false, false, false, false, false, false] rfl rfl (any_of HT_.out (by kernel_rfl)) (fun _ _ _ h => h) (Or.inr ⟨by rfl, rfl⟩) ?_ ?_
     rotate_left
     ·simp only [Act.put, xA, xZ, xS, i64_w, i32_w]; rfl
     refine pure_ (i := 20) (N := some 86) (v := ?_) (a' := ?_) #[true, true, true, true, true, true, true, true, true, true, true, true, true, true, true, true, true, true, true, true, true, false, false, false, false, false, false] rfl rfl (any_of HT_.out (by kernel_rfl)) (fun _ _ _ h => h) (Or.inl ⟨by rfl, ?_⟩) ?_ ?_
     rotate_left
     ·intro w'; go_simp; with_reducible rfl
     rotate_left
     ·simp only [Act.put, xA, xZ, xS, i64_w, i32_w]; rfl
     refine pure_ (i := 21) (N := some 87) (v := ?_) (a' := ?_) #[true, true, true, true, true, true, true, true, true, true, true, true, true, true, true, true, true, true, true, true, true, true, false, false, false, false, false] rfl rfl (any_of HT_.out (by kernel_rfl)) (fun _ _ _ h => h) (Or.inl ⟨by rfl, ?_⟩) ?_ ?_
     rotate_left
     ·intro w'; go_simp; with_reducible rfl
     rotate_left
     ·simp only [Act.put, xA, xZ, xS, i64_w, i32_w]; rfl
     refine pure_ (i := 22) (N := some 88) (v := undef) (a' := ?_) #[true, true, true, true, true, true, true, true, true, true, true, true, true, true, true, true, true, true, true, true, true, true, true, false, false, false, false] rfl rfl (any_of HT_.out (by kernel_rfl)) (fun _ _ _ h => h) (Or.inr ⟨by rfl, rfl⟩) ?_ ?_
     rotate_left
     ·simp only [Act.put, xA, xZ, xS, i64_w, i32_w]; rfl
     refine pure_ (i := 23) (N := some 89) (v := undef) (a' := ?_) #[true, true, true, true, true, true, true, true, true, true, true, true, true, true, true, true, true, true, true, true, true, true, true, true, false, false, false] rfl rfl (any_of HT_.out (by kernel_rfl)) (fun _ _ _ h => h) (Or.inr ⟨by rfl, rfl⟩) ?_ ?_
     rotate_left
     ·simp only [Act.put, xA, xZ, xS, i64_w, i32_w]; rfl
     refine pure_ (i := 24) (N := some 90) (v := undef) (a' := ?_) #[true, true, true, true, true, true, true, true, true, true, true, true, true, true, true, true, true, true, true, true, true, true, true, true, true, false, false] rfl rfl (any_of HT_.out (by kernel_rfl)) (fun _ _ _ h => h) (Or.inr ⟨by rfl, rfl⟩) ?_ ?_
     rotate_left
     ·simp only [Act.put, xA, xZ, xS, i64_w, i32_w]; rfl
     refine pure_ (i := 25) (N := some 91) (v := ?_) (a' := ?_) #[true, true, true, true, true, true, true, true, true, true, true, true, true, true, true, true, true, true, true, true, true, true, true, true, true, true, false] rfl rfl (any_of HT_.out (by kernel_rfl)) (fun _ _ _ h => h) (Or.inl ⟨by rfl, ?_⟩) ?_ ?_
     rotate_left
     ·intro w'; go_simp; with_reducible rfl
     rotate_left
     ·simp only [Act.put, xA, xZ, xS, i64_w, i32_w]; rfl
     refine pure_ (i := 26) (N := some 2) (v := ?_) (a' := ?_) #[true, true, true, true, true, true, true, true, true, true, true, true, true, true, true, true, true, true, true, true, true, true, true, true, true, true, true] rfl rfl (any_of HT_.out (by kernel_rfl)) (fun _ _ _ h => h) (Or.inl ⟨by rfl, ?_⟩) ?_ ?_
     rotate_left
     ·intro w'; go_simp; with_reducible rfl
     rotate_left
     ·simp only [Act.put, xA, xZ, xS, i64_w, i32_w]; rfl
     refine done_ (done_of HT_.out (by kernel_rfl)) ?_
     try go_wp2
     go_meet
     case rel => exact ⟨_, (false), (by first | rfl | (simp; done) | (simp [*]; done)), H', ⟨by have := HJ2.out; first | omega | exact Nat.le_refl _⟩, ⟨by (with_reducible repeat first | apply VA | apply VN | apply VD); exact Vm HO287.out (fun _ hk => ⟨hk.1.1, ⟨hk.1.2.1, ⟨hk.1.2.2.1, ⟨hk.1.2.2.2, hk.2⟩⟩⟩⟩)⟩, ⟨by (with_reducible repeat first | apply VA | apply VN | apply VD); exact Vm HO290.out (fun _ hk => ⟨hk.1.1, ⟨hk.1.2.1, ⟨hk.1.2.2.1, ⟨hk.1.2.2.2, hk.2⟩⟩⟩⟩)⟩, ⟨by (with_reducible repeat first | apply VA | apply VN | apply VD); exact Vm HO297.out (fun _ hk => ⟨hk.1.1, ⟨hk.1.2.1, ⟨hk.1.2.2.1, ⟨hk.1.2.2.2, hk.2⟩⟩⟩⟩)⟩, ⟨by (with_reducible repeat first | apply VA | apply VN | apply VD); exact Vm HO300.out (fun _ hk => ⟨hk.1.1, ⟨hk.1.2.1, ⟨hk.1.2.2.1, ⟨hk.1.2.2.2, hk.2⟩⟩⟩⟩)⟩, ⟨by (with_reducible repeat first | refine qN ?_ _ | refine qD ?_ | refine qA ?_ _); exact B247.out⟩, ⟨by (with_reducible repeat first | refine qN ?_ _ | refine qD ?_ | refine qA ?_ _); exact B248.out⟩, ⟨by (with_reducible repeat first | refine qN ?_ _ | refine qD ?_ | refine qA ?_ _); exact B249.out⟩, ⟨by (with_reducible repeat first | refine qN ?_ _ | refine qD ?_ | refine qA ?_ _); exact B294.out⟩, ⟨by (with_reducible repeat first | refine qN ?_ _ | refine qD ?_ | refine qA ?_ _); exact B304.out⟩, ⟨by repeat (first | (with_reducible first | exact HB.out | apply eA | apply eN | apply eD | refine eS ?_ GE247.out | refine eS ?_ GE248.out | refine eS ?_ GE249.out | refine eS ?_ GE294.out | refine eS ?_ GE304.out) | exact HB.out)⟩⟩
   case rest =>
    clear HC48
    try clear p2
    try clear c7
    try clear c73
    try clear c74
    obtain ⟨kq, x2_47, rfl, HA, HJ47, HO_295000, HO_295001, HO_305000, HO_305001, B247, B248, B249, B294, B304, HB⟩ := hcut
    cases kq with
    | zero => exact absurd HA.out (by simp [hogsheadlaw08_DiskFails.j1])
    | succ kj47 =>
     have H := HA.out
     clear HA
     simp only [hogsheadlaw08_DiskFails.j1] at H
     obtain rfl := Option.some.inj H
     go_wp2
     go_ret
     exact ⟨by first | rfl | (simp [errW_none, errW_some] <;> rfl) | (simp [*, errW_none, errW_some] <;> rfl), by repeat (first | (with_reducible first | exact HB.out | apply eA | apply eN | apply eD | refine eS ?_ GE247.out | refine eS ?_ GE248.out | refine eS ?_ GE249.out | refine eS ?_ GE294.out | refine eS ?_ GE304.out) | exact HB.out)⟩

end Go.Proofs.Ytmaojfeikbdkhaa.PAll
