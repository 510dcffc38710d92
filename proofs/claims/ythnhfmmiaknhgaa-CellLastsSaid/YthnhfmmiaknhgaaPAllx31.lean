/- Functions of the program as plain Lean functions, and that each call comes to what they say. Laid by a program of this session (hprint.py); Lean checks it. -/
import Derived.Test.YthnhfmmiaknhgaaPAllx0
import Derived.Test.YthnhfmmiaknhgaaPAllx9
import Derived.Test.YthnhfmmiaknhgaaPAllx11
import Derived.Test.YthnhfmmiaknhgaaPAllx13
import Derived.Test.YthnhfmmiaknhgaaPAllx14
import Derived.Test.YthnhfmmiaknhgaaPAllx16
namespace Go.Proofs.Ythnhfmmiaknhgaa.PAll
open Go.RowKit Go.Proofs.YthnhfmmiaknhgaaW.PrintWords Go.Proofs.YthnhfmmiaknhgaaW.PrintLast Go.Proofs.YthnhfmmiaknhgaaW.PrintMore
attribute [local go_sem] max2_int min2_int max_two min_two max_three min_three max_four min_four   -- for this text's walks alone
set_option linter.unusedVariables false
set_option linter.unusedSimpArgs false

/-! ### hogsheadlaw09_CellLasts: function 6 -/
mutual
def hogsheadlaw09_CellLasts.j0 : Nat → Int → List ByteArray → Int → Int → Bool → ByteArray → Int → Bool → List ByteArray → List (S77) → Int → Bool → Option (Bool)
 | 0, _, _, _, _, _, _, _, _, _, _, _, _ => none
 | k + 1, x4, x5, x6, x7, x8, x10, x12, x54, x401000, x401001, x401002, x401003 => if x54 = true then (some x8) else (hogsheadlaw09_CellLasts.l0 k x4 x5 x6 x7 x8 x12 (([x10] : List ByteArray)) 0 x401000 x401001 x401002 x401003)
def hogsheadlaw09_CellLasts.l0 : Nat → Int → List ByteArray → Int → Int → Bool → Int → List ByteArray → Int → List ByteArray → List (S77) → Int → Bool → Option (Bool)
 | 0, _, _, _, _, _, _, _, _, _, _, _, _ => none
 | k + 1, x4, x5, x6, x7, x8, x12, x13, x14, x401000, x401001, x401002, x401003 => if x14 < (x5.length : Int) then (hogsheadlaw09_CellLasts.j2 k x4 x5 x6 x7 x8 x12 x13 x14 (decide (x14 < 100)) x401000 x401001 x401002 x401003) else (hogsheadlaw09_CellLasts.j2 k x4 x5 x6 x7 x8 x12 x13 x14 false x401000 x401001 x401002 x401003)
def hogsheadlaw09_CellLasts.j2 : Nat → Int → List ByteArray → Int → Int → Bool → Int → List ByteArray → Int → Bool → List ByteArray → List (S77) → Int → Bool → Option (Bool)
 | 0, _, _, _, _, _, _, _, _, _, _, _, _, _ => none
 | k + 1, x4, x5, x6, x7, x8, x12, x13, x14, x65, x401000, x401001, x401002, x401003 => if x65 = true then (if 0 ≤ x14 then (if x14 < (x5.length : Int) then ((cell_Write.f k x401000 x401001 x401002 x401003 x4 (rdOf ByteArray.empty x5 x14)).bind fun bt418 => (if bt418.2.2.2.2 = 0 then (hogsheadlaw09_CellLasts.j3 k x4 x5 x6 x7 x8 x12 x13 x14 true bt418.1 bt418.2.1 bt418.2.2.1 bt418.2.2.2.1) else (hogsheadlaw09_CellLasts.j3 k x4 x5 x6 x7 x8 x12 x13 x14 (bt418.2.2.2.2 == 6) bt418.1 bt418.2.1 bt418.2.2.1 bt418.2.2.2.1))) else (none)) else (none)) else ((hogsheadref08_Crash.f k x401000 x401001 x401002 x401003 x6 x7).bind fun bt432 => ((cell_Read.f k bt432.1 bt432.2.1 bt432.2.2.1 bt432.2.2.2 x4).bind fun bt440 => (if bt440.2.2 = 7 then (if x8 = true then (some (x12 == 7)) else (some false)) else (hogsheadlaw09_CellLasts.l1 k x8 x12 x13 bt440.1 bt440.2.2 false 0))))
def hogsheadlaw09_CellLasts.j3 : Nat → Int → List ByteArray → Int → Int → Bool → Int → List ByteArray → Int → Bool → List ByteArray → List (S77) → Int → Bool → Option (Bool)
 | 0, _, _, _, _, _, _, _, _, _, _, _, _, _ => none
 | k + 1, x4, x5, x6, x7, x8, x12, x13, x14, x84, x401000, x401001, x401002, x401003 => if x84 = true then (if 0 ≤ x14 then (if x14 < (x5.length : Int) then (if x13.length < 8796093022208 then (hogsheadlaw09_CellLasts.l0 k x4 x5 x6 x7 x8 x12 (x13 ++ [rdOf ByteArray.empty x5 x14]) (wrap64 (x14 + 1)) x401000 x401001 x401002 x401003) else (none)) else (none)) else (none)) else (hogsheadlaw09_CellLasts.l0 k x4 x5 x6 x7 x8 x12 x13 (wrap64 (x14 + 1)) x401000 x401001 x401002 x401003)
def hogsheadlaw09_CellLasts.l1 : Nat → Bool → Int → List ByteArray → ByteArray → Int → Bool → Int → Option (Bool)
 | 0, _, _, _, _, _, _, _ => none
 | k + 1, x8, x12, x13, x17, x19, x20, x21 => if x21 < (x13.length : Int) then (if x20 = true then (hogsheadlaw09_CellLasts.l1 k x8 x12 x13 x17 x19 true (wrap64 (x21 + 1))) else (if 0 ≤ x21 then (if (rdOf ByteArray.empty x13 x21).toList = x17.toList then (if x21 > 0 then (hogsheadlaw09_CellLasts.l1 k x8 x12 x13 x17 x19 true (wrap64 (x21 + 1))) else (hogsheadlaw09_CellLasts.l1 k x8 x12 x13 x17 x19 (x12 == 0) (wrap64 (x21 + 1)))) else (hogsheadlaw09_CellLasts.l1 k x8 x12 x13 x17 x19 false (wrap64 (x21 + 1)))) else (none))) else (if x8 = true then (if x19 = 0 then (some x20) else (some false)) else (some false))
end
def hogsheadlaw09_CellLasts.f (k : Nat) (l0_0 : List ByteArray) (l0_1 : List (S77)) (a0_2 : Int) (a0_3 : Bool) (a0_4 : Int) (l0_5 : List ByteArray) (a0_6 : Int) (a0_7 : Int) : Option (Bool) := (hogsheadlaw09_shown.f k).bind fun t401 => ((hogsheadref08_Flush.f k l0_0 l0_1 a0_2 a0_3).bind fun bt402 => ((cell_Read.f k bt402.1 bt402.2.1 bt402.2.2.1 bt402.2.2.2.1 a0_4).bind fun bt411 => (if bt402.2.2.2.2 = 0 then (if bt411.2.2 = 1 then (hogsheadlaw09_CellLasts.j0 k a0_4 l0_5 a0_6 a0_7 t401 bt411.1 bt411.2.2 true bt402.1 bt402.2.1 bt402.2.2.1 bt402.2.2.2.1) else (hogsheadlaw09_CellLasts.j0 k a0_4 l0_5 a0_6 a0_7 t401 bt411.1 bt411.2.2 (decide (bt411.2.1 > 4611686018427387904)) bt402.1 bt402.2.1 bt402.2.2.1 bt402.2.2.2.1)) else (hogsheadlaw09_CellLasts.j0 k a0_4 l0_5 a0_6 a0_7 t401 bt411.1 bt411.2.2 true bt402.1 bt402.2.1 bt402.2.2.1 bt402.2.2.2.1))))
theorem hogsheadlaw09_CellLasts.mono_l : ∀ k, (∀ y0 y1 y2 y3 y4 y5 y6 y7 y8 y9 y10 y11, LeO (hogsheadlaw09_CellLasts.j0 k y0 y1 y2 y3 y4 y5 y6 y7 y8 y9 y10 y11) (hogsheadlaw09_CellLasts.j0 (k + 1) y0 y1 y2 y3 y4 y5 y6 y7 y8 y9 y10 y11)) ∧ (∀ y0 y1 y2 y3 y4 y5 y6 y7 y8 y9 y10 y11, LeO (hogsheadlaw09_CellLasts.l0 k y0 y1 y2 y3 y4 y5 y6 y7 y8 y9 y10 y11) (hogsheadlaw09_CellLasts.l0 (k + 1) y0 y1 y2 y3 y4 y5 y6 y7 y8 y9 y10 y11)) ∧ (∀ y0 y1 y2 y3 y4 y5 y6 y7 y8 y9 y10 y11 y12, LeO (hogsheadlaw09_CellLasts.j2 k y0 y1 y2 y3 y4 y5 y6 y7 y8 y9 y10 y11 y12) (hogsheadlaw09_CellLasts.j2 (k + 1) y0 y1 y2 y3 y4 y5 y6 y7 y8 y9 y10 y11 y12)) ∧ (∀ y0 y1 y2 y3 y4 y5 y6 y7 y8 y9 y10 y11 y12, LeO (hogsheadlaw09_CellLasts.j3 k y0 y1 y2 y3 y4 y5 y6 y7 y8 y9 y10 y11 y12) (hogsheadlaw09_CellLasts.j3 (k + 1) y0 y1 y2 y3 y4 y5 y6 y7 y8 y9 y10 y11 y12)) ∧ (∀ y0 y1 y2 y3 y4 y5 y6, LeO (hogsheadlaw09_CellLasts.l1 k y0 y1 y2 y3 y4 y5 y6) (hogsheadlaw09_CellLasts.l1 (k + 1) y0 y1 y2 y3 y4 y5 y6))
 | 0 => ⟨fun _ _ _ _ _ _ _ _ _ _ _ _ r h => by simp [hogsheadlaw09_CellLasts.j0] at h, fun _ _ _ _ _ _ _ _ _ _ _ _ r h => by simp [hogsheadlaw09_CellLasts.l0] at h, fun _ _ _ _ _ _ _ _ _ _ _ _ _ r h => by simp [hogsheadlaw09_CellLasts.j2] at h, fun _ _ _ _ _ _ _ _ _ _ _ _ _ r h => by simp [hogsheadlaw09_CellLasts.j3] at h, fun _ _ _ _ _ _ _ r h => by simp [hogsheadlaw09_CellLasts.l1] at h⟩
 | k + 1 => by
  obtain ⟨ih0, ih1, ih2, ih3, ih4⟩ := hogsheadlaw09_CellLasts.mono_l k
  refine ⟨?_, ?_, ?_, ?_, ?_⟩
  ·intro y0 y1 y2 y3 y4 y5 y6 y7 y8 y9 y10 y11
   unfold hogsheadlaw09_CellLasts.j0
   repeat' first
   | (with_reducible exact ih0 _ _ _ _ _ _ _ _ _ _ _ _)
   | (with_reducible exact ih1 _ _ _ _ _ _ _ _ _ _ _ _)
   | (with_reducible exact ih2 _ _ _ _ _ _ _ _ _ _ _ _ _)
   | (with_reducible exact ih3 _ _ _ _ _ _ _ _ _ _ _ _ _)
   | (with_reducible exact ih4 _ _ _ _ _ _ _)
   | (with_reducible exact cell_Read.mono _ _ _ _ _ _)
   | (with_reducible exact cell_Write.mono _ _ _ _ _ _ _)
   | (with_reducible exact hogsheadlaw09_shown.mono _)
   | (with_reducible exact hogsheadref08_Crash.mono _ _ _ _ _ _ _)
   | (with_reducible exact hogsheadref08_Flush.mono _ _ _ _ _)
   | (with_reducible exact LeO.refl _)
   | (with_reducible exact LeO.none _)
   | (with_reducible refine LeO.ite ?_ ?_)
   | (with_reducible refine LeO.bind ?_ (fun _ => ?_))
   | exact ih0 _ _ _ _ _ _ _ _ _ _ _ _
   | exact ih1 _ _ _ _ _ _ _ _ _ _ _ _
   | exact ih2 _ _ _ _ _ _ _ _ _ _ _ _ _
   | exact ih3 _ _ _ _ _ _ _ _ _ _ _ _ _
   | exact ih4 _ _ _ _ _ _ _
   | exact cell_Read.mono _ _ _ _ _ _
   | exact cell_Write.mono _ _ _ _ _ _ _
   | exact hogsheadlaw09_shown.mono _
   | exact hogsheadref08_Crash.mono _ _ _ _ _ _ _
   | exact hogsheadref08_Flush.mono _ _ _ _ _
   | exact LeO.none _
   | refine LeO.ite ?_ ?_
   | refine LeO.bind ?_ (fun _ => ?_)
  ·intro y0 y1 y2 y3 y4 y5 y6 y7 y8 y9 y10 y11
   unfold hogsheadlaw09_CellLasts.l0
   repeat' first
   | (with_reducible exact ih0 _ _ _ _ _ _ _ _ _ _ _ _)
   | (with_reducible exact ih1 _ _ _ _ _ _ _ _ _ _ _ _)
   | (with_reducible exact ih2 _ _ _ _ _ _ _ _ _ _ _ _ _)
   | (with_reducible exact ih3 _ _ _ _ _ _ _ _ _ _ _ _ _)
   | (with_reducible exact ih4 _ _ _ _ _ _ _)
   | (with_reducible exact cell_Read.mono _ _ _ _ _ _)
   | (with_reducible exact cell_Write.mono _ _ _ _ _ _ _)
   | (with_reducible exact hogsheadlaw09_shown.mono _)
   | (with_reducible exact hogsheadref08_Crash.mono _ _ _ _ _ _ _)
   | (with_reducible exact hogsheadref08_Flush.mono _ _ _ _ _)
   | (with_reducible exact LeO.refl _)
   | (with_reducible exact LeO.none _)
   | (with_reducible refine LeO.ite ?_ ?_)
   | (with_reducible refine LeO.bind ?_ (fun _ => ?_))
   | exact ih0 _ _ _ _ _ _ _ _ _ _ _ _
   | exact ih1 _ _ _ _ _ _ _ _ _ _ _ _
   | exact ih2 _ _ _ _ _ _ _ _ _ _ _ _ _
   | exact ih3 _ _ _ _ _ _ _ _ _ _ _ _ _
   | exact ih4 _ _ _ _ _ _ _
   | exact cell_Read.mono _ _ _ _ _ _
   | exact cell_Write.mono _ _ _ _ _ _ _
   | exact hogsheadlaw09_shown.mono _
   | exact hogsheadref08_Crash.mono _ _ _ _ _ _ _
   | exact hogsheadref08_Flush.mono _ _ _ _ _
   | exact LeO.none _
   | refine LeO.ite ?_ ?_
   | refine LeO.bind ?_ (fun _ => ?_)
  ·intro y0 y1 y2 y3 y4 y5 y6 y7 y8 y9 y10 y11 y12
   unfold hogsheadlaw09_CellLasts.j2
   repeat' first
   | (with_reducible exact ih0 _ _ _ _ _ _ _ _ _ _ _ _)
   | (with_reducible exact ih1 _ _ _ _ _ _ _ _ _ _ _ _)
   | (with_reducible exact ih2 _ _ _ _ _ _ _ _ _ _ _ _ _)
   | (with_reducible exact ih3 _ _ _ _ _ _ _ _ _ _ _ _ _)
   | (with_reducible exact ih4 _ _ _ _ _ _ _)
   | (with_reducible exact cell_Read.mono _ _ _ _ _ _)
   | (with_reducible exact cell_Write.mono _ _ _ _ _ _ _)
   | (with_reducible exact hogsheadlaw09_shown.mono _)
   | (with_reducible exact hogsheadref08_Crash.mono _ _ _ _ _ _ _)
   | (with_reducible exact hogsheadref08_Flush.mono _ _ _ _ _)
   | (with_reducible exact LeO.refl _)
   | (with_reducible exact LeO.none _)
   | (with_reducible refine LeO.ite ?_ ?_)
   | (with_reducible refine LeO.bind ?_ (fun _ => ?_))
   | exact ih0 _ _ _ _ _ _ _ _ _ _ _ _
   | exact ih1 _ _ _ _ _ _ _ _ _ _ _ _
   | exact ih2 _ _ _ _ _ _ _ _ _ _ _ _ _
   | exact ih3 _ _ _ _ _ _ _ _ _ _ _ _ _
   | exact ih4 _ _ _ _ _ _ _
   | exact cell_Read.mono _ _ _ _ _ _
   | exact cell_Write.mono _ _ _ _ _ _ _
   | exact hogsheadlaw09_shown.mono _
   | exact hogsheadref08_Crash.mono _ _ _ _ _ _ _
   | exact hogsheadref08_Flush.mono _ _ _ _ _
   | exact LeO.none _
   | refine LeO.ite ?_ ?_
   | refine LeO.bind ?_ (fun _ => ?_)
  ·intro y0 y1 y2 y3 y4 y5 y6 y7 y8 y9 y10 y11 y12
   unfold hogsheadlaw09_CellLasts.j3
   repeat' first
   | (with_reducible exact ih0 _ _ _ _ _ _ _ _ _ _ _ _)
   | (with_reducible exact ih1 _ _ _ _ _ _ _ _ _ _ _ _)
   | (with_reducible exact ih2 _ _ _ _ _ _ _ _ _ _ _ _ _)
   | (with_reducible exact ih3 _ _ _ _ _ _ _ _ _ _ _ _ _)
   | (with_reducible exact ih4 _ _ _ _ _ _ _)
   | (with_reducible exact cell_Read.mono _ _ _ _ _ _)
   | (with_reducible exact cell_Write.mono _ _ _ _ _ _ _)
   | (with_reducible exact hogsheadlaw09_shown.mono _)
   | (with_reducible exact hogsheadref08_Crash.mono _ _ _ _ _ _ _)
   | (with_reducible exact hogsheadref08_Flush.mono _ _ _ _ _)
   | (with_reducible exact LeO.refl _)
   | (with_reducible exact LeO.none _)
   | (with_reducible refine LeO.ite ?_ ?_)
   | (with_reducible refine LeO.bind ?_ (fun _ => ?_))
   | exact ih0 _ _ _ _ _ _ _ _ _ _ _ _
   | exact ih1 _ _ _ _ _ _ _ _ _ _ _ _
   | exact ih2 _ _ _ _ _ _ _ _ _ _ _ _ _
   | exact ih3 _ _ _ _ _ _ _ _ _ _ _ _ _
   | exact ih4 _ _ _ _ _ _ _
   | exact cell_Read.mono _ _ _ _ _ _
   | exact cell_Write.mono _ _ _ _ _ _ _
   | exact hogsheadlaw09_shown.mono _
   | exact hogsheadref08_Crash.mono _ _ _ _ _ _ _
   | exact hogsheadref08_Flush.mono _ _ _ _ _
   | exact LeO.none _
   | refine LeO.ite ?_ ?_
   | refine LeO.bind ?_ (fun _ => ?_)
  ·intro y0 y1 y2 y3 y4 y5 y6
   unfold hogsheadlaw09_CellLasts.l1
   repeat' first
   | (with_reducible exact ih0 _ _ _ _ _ _ _ _ _ _ _ _)
   | (with_reducible exact ih1 _ _ _ _ _ _ _ _ _ _ _ _)
   | (with_reducible exact ih2 _ _ _ _ _ _ _ _ _ _ _ _ _)
   | (with_reducible exact ih3 _ _ _ _ _ _ _ _ _ _ _ _ _)
   | (with_reducible exact ih4 _ _ _ _ _ _ _)
   | (with_reducible exact cell_Read.mono _ _ _ _ _ _)
   | (with_reducible exact cell_Write.mono _ _ _ _ _ _ _)
   | (with_reducible exact hogsheadlaw09_shown.mono _)
   | (with_reducible exact hogsheadref08_Crash.mono _ _ _ _ _ _ _)
   | (with_reducible exact hogsheadref08_Flush.mono _ _ _ _ _)
   | (with_reducible exact LeO.refl _)
   | (with_reducible exact LeO.none _)
   | (with_reducible refine LeO.ite ?_ ?_)
   | (with_reducible refine LeO.bind ?_ (fun _ => ?_))
   | exact ih0 _ _ _ _ _ _ _ _ _ _ _ _
   | exact ih1 _ _ _ _ _ _ _ _ _ _ _ _
   | exact ih2 _ _ _ _ _ _ _ _ _ _ _ _ _
   | exact ih3 _ _ _ _ _ _ _ _ _ _ _ _ _
   | exact ih4 _ _ _ _ _ _ _
   | exact cell_Read.mono _ _ _ _ _ _
   | exact cell_Write.mono _ _ _ _ _ _ _
   | exact hogsheadlaw09_shown.mono _
   | exact hogsheadref08_Crash.mono _ _ _ _ _ _ _
   | exact hogsheadref08_Flush.mono _ _ _ _ _
   | exact LeO.none _
   | refine LeO.ite ?_ ?_
   | refine LeO.bind ?_ (fun _ => ?_)
theorem hogsheadlaw09_CellLasts.mono : ∀ a0 a1 a2 a3 a4 a5 a6 a7 k, LeO (hogsheadlaw09_CellLasts.f k a0 a1 a2 a3 a4 a5 a6 a7) (hogsheadlaw09_CellLasts.f (k + 1) a0 a1 a2 a3 a4 a5 a6 a7) := by
 intro a0 a1 a2 a3 a4 a5 a6 a7 k
 obtain ⟨ih0, ih1, ih2, ih3, ih4⟩ := hogsheadlaw09_CellLasts.mono_l k
 unfold hogsheadlaw09_CellLasts.f
 repeat' first
   | (with_reducible exact ih0 _ _ _ _ _ _ _ _ _ _ _ _)
   | (with_reducible exact ih1 _ _ _ _ _ _ _ _ _ _ _ _)
   | (with_reducible exact ih2 _ _ _ _ _ _ _ _ _ _ _ _ _)
   | (with_reducible exact ih3 _ _ _ _ _ _ _ _ _ _ _ _ _)
   | (with_reducible exact ih4 _ _ _ _ _ _ _)
   | (with_reducible exact cell_Read.mono _ _ _ _ _ _)
   | (with_reducible exact cell_Write.mono _ _ _ _ _ _ _)
   | (with_reducible exact hogsheadlaw09_shown.mono _)
   | (with_reducible exact hogsheadref08_Crash.mono _ _ _ _ _ _ _)
   | (with_reducible exact hogsheadref08_Flush.mono _ _ _ _ _)
   | (with_reducible exact LeO.refl _)
   | (with_reducible exact LeO.none _)
   | (with_reducible refine LeO.ite ?_ ?_)
   | (with_reducible refine LeO.bind ?_ (fun _ => ?_))
   | exact ih0 _ _ _ _ _ _ _ _ _ _ _ _
   | exact ih1 _ _ _ _ _ _ _ _ _ _ _ _
   | exact ih2 _ _ _ _ _ _ _ _ _ _ _ _ _
   | exact ih3 _ _ _ _ _ _ _ _ _ _ _ _ _
   | exact ih4 _ _ _ _ _ _ _
   | exact cell_Read.mono _ _ _ _ _ _
   | exact cell_Write.mono _ _ _ _ _ _ _
   | exact hogsheadlaw09_shown.mono _
   | exact hogsheadref08_Crash.mono _ _ _ _ _ _ _
   | exact hogsheadref08_Flush.mono _ _ _ _ _
   | exact LeO.none _
   | refine LeO.ite ?_ ?_
   | refine LeO.bind ?_ (fun _ => ?_)
def hogsheadlaw09_CellLasts.T15 : Bool × List (List Nat × List Nat) := (true, [([], []), ([], []), ([], []), ([], []), ([2, 3], [2, 3]), ([4], [4]), ([0, 1, 5], [0, 1, 5]), ([6], [6]), ([7], [7]), ([7], [7]), ([], []), ([10, 8, 6, 0, 1, 2, 3, 4, 5, 6, 7, 8, 10], [8, 10]), ([9, 11, 0, 1, 2, 3, 4, 5, 6, 7, 8, 9, 10, 11], [9])])
def hogsheadlaw09_CellLasts.B15 : List Nat := [0, 0, 0, 0, 12, 28, 63, 127, 255, 255, 0, 1535, 4095]
theorem hogsheadlaw09_CellLasts.tab15 : rtab .any (opsOf Try.f6 15) = hogsheadlaw09_CellLasts.T15 := by kernel_rfl
theorem hogsheadlaw09_CellLasts.bits15 : waitsOk hogsheadlaw09_CellLasts.T15.2 hogsheadlaw09_CellLasts.B15 = true := by kernel_rfl
set_option maxHeartbeats 40000000 in
set_option maxRecDepth 100000 in
theorem hogsheadlaw09_CellLasts.calls (k : Nat) (A0_0 : Option Addr) (c0_0 : Nat) (l0_0 : List ByteArray) (A0_1 : Option Addr) (c0_1 : Nat) (l0_1 : List (S77)) (a0_2 : Int) (a0_3 : Bool) (a0_4 : Int) (A0_5 : Option Addr) (c0_5 : Nat) (l0_5 : List ByteArray) (a0_6 : Int) (a0_7 : Int) (r : Bool) (w : World) (hr0_0 : Kd.C Kd.string w A0_0 l0_0.length l0_0) (hc0_0 : l0_0.length ≤ c0_0) (hr0_1 : Kd.C k77 w A0_1 l0_1.length l0_1) (hc0_1 : l0_1.length ≤ c0_1) (hr0_5 : Kd.C Kd.string w A0_5 l0_5.length l0_5) (hc0_5 : l0_5.length ≤ c0_5) (h : hogsheadlaw09_CellLasts.f k l0_0 l0_1 a0_2 a0_3 a0_4 l0_5 a0_6 a0_7 = some r) :
  Calls Try.prog 6 #[.agg #[.slice A0_0 l0_0.length c0_0, .slice A0_1 l0_1.length c0_1, .int .i64 a0_2, .bool a0_3, .int .i64 a0_4, .slice A0_5 l0_5.length c0_5, .int .i64 a0_6, .int .i64 a0_7]] w fun e w' => e = .returned (.bool r) ∧ Below w.heap.size w w' := by
 have hu50 := Try.underlying50
 have hu37 := Try.underlying37
 have HR0_0 := qM hr0_0
 have HC0_0 := qM hc0_0
 clear hr0_0 hc0_0
 have HR0_1 := qM hr0_1
 have HC0_1 := qM hc0_1
 clear hr0_1 hc0_1
 have HR0_5 := qM hr0_5
 have HC0_5 := qM hc0_5
 clear hr0_5 hc0_5
 have HB := qM (Below.refl w.heap.size w)
 have H : ((hogsheadlaw09_shown.f k).bind fun t401 => ((hogsheadref08_Flush.f k l0_0 l0_1 a0_2 a0_3).bind fun bt402 => ((cell_Read.f k bt402.1 bt402.2.1 bt402.2.2.1 bt402.2.2.2.1 a0_4).bind fun bt411 => (if bt402.2.2.2.2 = 0 then (if bt411.2.2 = 1 then (hogsheadlaw09_CellLasts.j0 k a0_4 l0_5 a0_6 a0_7 t401 bt411.1 bt411.2.2 true bt402.1 bt402.2.1 bt402.2.2.1 bt402.2.2.2.1) else (hogsheadlaw09_CellLasts.j0 k a0_4 l0_5 a0_6 a0_7 t401 bt411.1 bt411.2.2 (decide (bt411.2.1 > 4611686018427387904)) bt402.1 bt402.2.1 bt402.2.2.1 bt402.2.2.2.1)) else (hogsheadlaw09_CellLasts.j0 k a0_4 l0_5 a0_6 a0_7 t401 bt411.1 bt411.2.2 true bt402.1 bt402.2.1 bt402.2.2.1 bt402.2.2.2.1))))) = some r := h
 clear h
 replace H := Option.bind_eq_some_iff.mp H
 obtain ⟨t401, A20, H⟩ := H
 replace H : ((hogsheadref08_Flush.f k l0_0 l0_1 a0_2 a0_3).bind fun bt402 => ((cell_Read.f k bt402.1 bt402.2.1 bt402.2.2.1 bt402.2.2.2.1 a0_4).bind fun bt411 => (if bt402.2.2.2.2 = 0 then (if bt411.2.2 = 1 then (hogsheadlaw09_CellLasts.j0 k a0_4 l0_5 a0_6 a0_7 t401 bt411.1 bt411.2.2 true bt402.1 bt402.2.1 bt402.2.2.1 bt402.2.2.2.1) else (hogsheadlaw09_CellLasts.j0 k a0_4 l0_5 a0_6 a0_7 t401 bt411.1 bt411.2.2 (decide (bt411.2.1 > 4611686018427387904)) bt402.1 bt402.2.1 bt402.2.2.1 bt402.2.2.2.1)) else (hogsheadlaw09_CellLasts.j0 k a0_4 l0_5 a0_6 a0_7 t401 bt411.1 bt411.2.2 true bt402.1 bt402.2.1 bt402.2.2.1 bt402.2.2.2.1)))) = some r := H
 have A2 := qM A20
 clear A20
 replace H := Option.bind_eq_some_iff.mp H
 obtain ⟨⟨t402, t405, t408, t409, t410⟩, A30, H⟩ := H
 replace H : ((cell_Read.f k t402 t405 t408 t409 a0_4).bind fun bt411 => (if t410 = 0 then (if bt411.2.2 = 1 then (hogsheadlaw09_CellLasts.j0 k a0_4 l0_5 a0_6 a0_7 t401 bt411.1 bt411.2.2 true t402 t405 t408 t409) else (hogsheadlaw09_CellLasts.j0 k a0_4 l0_5 a0_6 a0_7 t401 bt411.1 bt411.2.2 (decide (bt411.2.1 > 4611686018427387904)) t402 t405 t408 t409)) else (hogsheadlaw09_CellLasts.j0 k a0_4 l0_5 a0_6 a0_7 t401 bt411.1 bt411.2.2 true t402 t405 t408 t409))) = some r := H
 have A3 := qM A30
 clear A30
 replace H := Option.bind_eq_some_iff.mp H
 obtain ⟨⟨t411, t412, t413⟩, A40, H⟩ := H
 replace H : (if t410 = 0 then (if t413 = 1 then (hogsheadlaw09_CellLasts.j0 k a0_4 l0_5 a0_6 a0_7 t401 t411 t413 true t402 t405 t408 t409) else (hogsheadlaw09_CellLasts.j0 k a0_4 l0_5 a0_6 a0_7 t401 t411 t413 (decide (t412 > 4611686018427387904)) t402 t405 t408 t409)) else (hogsheadlaw09_CellLasts.j0 k a0_4 l0_5 a0_6 a0_7 t401 t411 t413 true t402 t405 t408 t409)) = some r := H
 have A4 := qM A40
 clear A40
 have HC5 := qM H
 clear H
 go_enter Try.func6, Try.ntmps6
 go_upto_region 9 with (first | ((with_reducible refine gate_dst (N := 1) rfl ?_); refine box_event ?hg (N := 1) ?hd (cs := #[.slice A0_0 l0_0.length c0_0, .slice A0_1 l0_1.length c0_1, .int .i64 a0_2, .bool a0_3, .int .i64 a0_4, .slice A0_5 l0_5.length c0_5, .int .i64 a0_6, .int .i64 a0_7]) (t := 50) ?hr ?_; (case hd => rfl); (case hg => rfl); (case hr => first | (go_simp; done) | (go_simp; rfl)); intro g399 hg w6 hbox hb; have n0_ := qM (eT (by repeat (first | (with_reducible first | exact HB.out | apply eA | apply eN | apply eD) | exact HB.out)) hb); have n1_ := qM (hbox); have n2_ := qM ((by rw [hg]; exact (eZ (by repeat (first | (with_reducible first | exact HB.out | apply eA | apply eN | apply eD) | exact HB.out))) : w.heap.size ≤ g399)); have n3_ := n2_; clear HB; have HB := n0_; have B399 := n1_; have GW399 := n2_; have GE399 := n3_; clear n0_ n1_ n2_ n3_; clear hb hbox hg; obtain ⟨z7_0, z7_1, z7_2, z7_3, z7_4, z7_5, z7_6, z7_7, f7_0, f7_1, f7_2, f7_3, f7_4, f7_5, f7_6, f7_7⟩ := cells8 B399.out) | ((with_reducible refine gate_dst (N := 3) rfl ?_); refine box_event ?hg (N := 3) ?hd (cs := #[.slice none 0 0, .slice none 0 0, .int .i64 0, .bool false]) (t := 37) ?hr ?_; (case hd => rfl); (case hg => rfl); (case hr => first | (go_simp; done) | (go_simp; rfl)); intro g400 hg w8 hbox hb; have n0_ := qM (qB (g := g399) (by (with_reducible repeat first | refine qN ?_ _ | refine qD ?_ | refine qA ?_ _); exact B399.out) hb); have n1_ := qM (eT (by repeat (first | (with_reducible first | exact HB.out | apply eA | apply eN | apply eD | refine eS ?_ GE399.out) | exact HB.out)) hb); have n2_ := qM (hbox); have n3_ := qM ((by rw [hg]; exact (eZ (by repeat (first | (with_reducible first | exact HB.out | apply eA | apply eN | apply eD | refine eS ?_ GE399.out) | exact HB.out))) : w.heap.size ≤ g400)); have n4_ := n3_; have n5_ := qM ((by rw [hg]; exact Nat.ne_of_lt (qL (g := g399) (by (with_reducible repeat first | refine qN ?_ _ | refine qD ?_ | refine qA ?_ _); exact B399.out)) : g399 ≠ g400)); have n6_ := qM (Ne.symm n5_.out); clear B399; clear HB; have B399 := n0_; have HB := n1_; have B400 := n2_; have GW400 := n3_; have GE400 := n4_; have NB399_400 := n5_; have NB400_399 := n6_; clear n0_ n1_ n2_ n3_ n4_ n5_ n6_; clear hb hbox hg; have hnb9 := NB400_399.out; have hnc9 := NB399_400.out; obtain ⟨z10_0, z10_1, z10_2, z10_3, f10_0, f10_1, f10_2, f10_3⟩ := cells4 B400.out; obtain ⟨z11_0, z11_1, z11_2, z11_3, z11_4, z11_5, z11_6, z11_7, f11_0, f11_1, f11_2, f11_3, f11_4, f11_5, f11_6, f11_7⟩ := cells8 B399.out) | ((with_reducible refine gate_callee (f := 10) rfl ?_); refine goesL_ (some 32) rfl rfl Try.func10 (by kernel_rfl) rfl #[] rfl (by (try simp only [List.map_toArray, List.map_cons, List.map_nil]); first | done | rfl | (simp only [List.length_drop, List.length_take]; rfl)) ?_; (with_reducible refine (hogsheadlaw09_shown.calls k  t401 _ A2.out).mono ?_); rintro e w12 ⟨rfl, hb⟩; refine ⟨_, rfl, ?_⟩; have n0_ := qM (qB (g := g399) (o := .cells #[.slice A0_0 l0_0.length c0_0, .slice A0_1 l0_1.length c0_1, .int .i64 a0_2, .bool a0_3, .int .i64 a0_4, .slice A0_5 l0_5.length c0_5, .int .i64 a0_6, .int .i64 a0_7] 50 (0, 0)) (by (with_reducible repeat first | refine qN ?_ _ | refine qD ?_ | refine qA ?_ _); (iterate 4 (refine qR ?_ NB399_400.out _; (with_reducible repeat first | refine qN ?_ _ | refine qD ?_ | refine qA ?_ _))); exact B399.out) hb); have n1_ := qM (qB (g := g400) (by (with_reducible repeat first | refine qN ?_ _ | refine qD ?_ | refine qA ?_ _); apply puts4; (with_reducible repeat first | refine qN ?_ _ | refine qD ?_ | refine qA ?_ _); exact B400.out) hb); have n2_ := qM (eT (by repeat (first | (with_reducible first | exact HB.out | apply eA | apply eN | apply eD | refine eS ?_ GE399.out | refine eS ?_ GE400.out) | exact HB.out)) hb); clear B399; clear B400; clear HB; have B399 := n0_; have B400 := n1_; have HB := n2_; clear n0_ n1_ n2_; (try clear hb); (try clear hb2); (try clear hk); (try clear hi); obtain ⟨z13_0, z13_1, z13_2, z13_3, f13_0, f13_1, f13_2, f13_3⟩ := cells4 B400.out) | ((with_reducible refine gate_callee (f := 20) rfl ?_); refine goesL_ (some 35) rfl rfl Try.func20 (by kernel_rfl) rfl #[.agg #[.slice A0_0 l0_0.length c0_0, .slice A0_1 l0_1.length c0_1, .int .i64 a0_2, .bool a0_3]] rfl (by (try simp only [List.map_toArray, List.map_cons, List.map_nil]); first | done | rfl | (simp only [List.length_drop, List.length_take]; rfl)) ?_; (with_reducible refine (hogsheadref08_Flush.calls k (fun k_ => k_ < w.heap.size) _ _ l0_0 (fun k_ => k_ < w.heap.size) _ _ l0_1 a0_2 a0_3 t402 t405 t408 t409 t410 _ ?side1 ?side2 A3.out).mono ?_); (case side1 => exact Kd.V_mk HC0_0.out (Kd.F_below (Kd.C_F Kd.heap_string HR0_0.out) (by repeat (first | (with_reducible first | exact HB.out | apply eA | apply eN | apply eD | refine eS ?_ GE399.out | refine eS ?_ GE400.out) | exact HB.out)))); (case side2 => exact Kd.V_mk HC0_1.out (Kd.F_below (Kd.C_F k77_heap HR0_1.out) (by repeat (first | (with_reducible first | exact HB.out | apply eA | apply eN | apply eD | refine eS ?_ GE399.out | refine eS ?_ GE400.out) | exact HB.out)))); rintro e w14 ⟨v403, v406, rfl, ho0, ho1, hb⟩; refine ⟨_, rfl, ?_⟩; have n0_ := qM (Vl (Vm (ok' := fun k_ => k_ ≠ g399 ∧ k_ ≠ g400) ho0 (fun k_ hk_ => ⟨Or.elim hk_ (fun hs_ => Or.elim hs_ (fun hs_ => fun e_ => Nat.not_le.2 hs_ (by rw [e_]; exact GW399.out)) (fun hs_ => fun e_ => Nat.not_le.2 hs_ (by rw [e_]; exact GW399.out))) (fun hn_ => (Fb (g := g399) (by (with_reducible repeat first | refine qN ?_ _ | refine qD ?_ | refine qA ?_ _); exact B399.out) k_ hn_)), Or.elim hk_ (fun hs_ => Or.elim hs_ (fun hs_ => fun e_ => Nat.not_le.2 hs_ (by rw [e_]; exact GW400.out)) (fun hs_ => fun e_ => Nat.not_le.2 hs_ (by rw [e_]; exact GW400.out))) (fun hn_ => (Fb (g := g400) (by (with_reducible repeat first | refine qN ?_ _ | refine qD ?_ | refine qA ?_ _); exact B400.out) k_ hn_))⟩)) (eZ (by repeat (first | (with_reducible first | exact HB.out | apply eA | apply eN | apply eD | refine eS ?_ GE399.out | refine eS ?_ GE400.out) | exact HB.out)))); have n1_ := qM (Vl (Vm (ok' := fun k_ => k_ ≠ g399 ∧ k_ ≠ g400) ho1 (fun k_ hk_ => ⟨Or.elim hk_ (fun hs_ => Or.elim hs_ (fun hs_ => fun e_ => Nat.not_le.2 hs_ (by rw [e_]; exact GW399.out)) (fun hs_ => fun e_ => Nat.not_le.2 hs_ (by rw [e_]; exact GW399.out))) (fun hn_ => (Fb (g := g399) (by (with_reducible repeat first | refine qN ?_ _ | refine qD ?_ | refine qA ?_ _); exact B399.out) k_ hn_)), Or.elim hk_ (fun hs_ => Or.elim hs_ (fun hs_ => fun e_ => Nat.not_le.2 hs_ (by rw [e_]; exact GW400.out)) (fun hs_ => fun e_ => Nat.not_le.2 hs_ (by rw [e_]; exact GW400.out))) (fun hn_ => (Fb (g := g400) (by (with_reducible repeat first | refine qN ?_ _ | refine qD ?_ | refine qA ?_ _); exact B400.out) k_ hn_))⟩)) (eZ (by repeat (first | (with_reducible first | exact HB.out | apply eA | apply eN | apply eD | refine eS ?_ GE399.out | refine eS ?_ GE400.out) | exact HB.out)))); have n2_ := qM (qB (g := g399) (by (with_reducible repeat first | refine qN ?_ _ | refine qD ?_ | refine qA ?_ _); exact B399.out) hb); have n3_ := qM (qB (g := g400) (by (with_reducible repeat first | refine qN ?_ _ | refine qD ?_ | refine qA ?_ _); exact B400.out) hb); have n4_ := qM (eT (by repeat (first | (with_reducible first | exact HB.out | apply eA | apply eN | apply eD | refine eS ?_ GE399.out | refine eS ?_ GE400.out) | exact HB.out)) hb); clear B399; clear B400; clear HB; have HO404 := n0_; have HO407 := n1_; have B399 := n2_; have B400 := n3_; have HB := n4_; clear n0_ n1_ n2_ n3_ n4_; (try clear hb); (try clear hb2); (try clear hk); (try clear hi); (try clear ho0); (try clear ho1); obtain ⟨Ao15, co15, eo15⟩ := Kd.V_slice HO404.out; subst eo15; obtain ⟨z16_0, z16_1, z16_2, z16_3, f16_0, f16_1, f16_2, f16_3⟩ := cells4 B400.out; obtain ⟨Ao17, co17, eo17⟩ := Kd.V_slice HO407.out; subst eo17) | ((with_reducible refine gate_callee (f := 15) rfl ?_); refine goesL_ (some 41) rfl rfl Try.func15 (by kernel_rfl) rfl #[.agg #[.slice Ao15 t402.length co15, .slice Ao17 t405.length co17, .int .i64 t408, .bool t409], .int .i64 a0_4] rfl (by (try simp only [List.map_toArray, List.map_cons, List.map_nil]); first | done | rfl | (simp only [List.length_drop, List.length_take]; rfl)) ?_; (with_reducible refine (cell_Read.calls k _ _ t402 _ _ t405 t408 t409 a0_4 t411 t412 t413 _ ?side1 ?side2 ?side3 ?side4 A4.out).mono ?_); (case side1 => refine (Kd.V_reads' (e := 9) (base := w.heap.size) (ok := fun k_ => (k_ ≠ g399 ∧ k_ ≠ g400)) (n := t402.length) (c := co15) ?_).2.2; exact (by (with_reducible repeat first | apply VA | apply VN | apply VD); exact (Vm (Vf (p := ⟨g400, 3, none⟩) (Vf (p := ⟨g400, 2, none⟩) (Vf (p := ⟨g400, 1, none⟩) (Vf (p := ⟨g400, 0, none⟩) (Vm HO404.out (fun k_ hk => (⟨hk, hk.2⟩ : _ ∧ k_ ≠ g400))) (fun _ hk => hk.2) (.slice Ao15 t402.length co15)) (fun _ hk => hk.2) (.slice Ao17 t405.length co17)) (fun _ hk => hk.2) (.int .i64 t408)) (fun _ hk => hk.2) (.bool t409)) (fun _ h_ => h_.1)))); (case side2 => exact (Kd.V_reads' HO404.out).2.1); (case side3 => refine (Kd.V_reads' (e := 77) (base := w.heap.size) (ok := fun k_ => (k_ ≠ g399 ∧ k_ ≠ g400)) (n := t405.length) (c := co17) ?_).2.2; exact (by (with_reducible repeat first | apply VA | apply VN | apply VD); exact (Vm (Vf (p := ⟨g400, 3, none⟩) (Vf (p := ⟨g400, 2, none⟩) (Vf (p := ⟨g400, 1, none⟩) (Vf (p := ⟨g400, 0, none⟩) (Vm HO407.out (fun k_ hk => (⟨hk, hk.2⟩ : _ ∧ k_ ≠ g400))) (fun _ hk => hk.2) (.slice Ao15 t402.length co15)) (fun _ hk => hk.2) (.slice Ao17 t405.length co17)) (fun _ hk => hk.2) (.int .i64 t408)) (fun _ hk => hk.2) (.bool t409)) (fun _ h_ => h_.1)))); (case side4 => exact (Kd.V_reads' HO407.out).2.1); rintro e w18 ⟨rfl, hb⟩; refine ⟨_, rfl, ?_⟩; have n0_ := qM (Vb (by (with_reducible repeat first | apply VA | apply VN | apply VD); exact (Vm (Vf (p := ⟨g400, 3, none⟩) (Vf (p := ⟨g400, 2, none⟩) (Vf (p := ⟨g400, 1, none⟩) (Vf (p := ⟨g400, 0, none⟩) (Vm HO404.out (fun k_ hk => (⟨hk, hk.2⟩ : _ ∧ k_ ≠ g400))) (fun _ hk => hk.2) (.slice Ao15 t402.length co15)) (fun _ hk => hk.2) (.slice Ao17 t405.length co17)) (fun _ hk => hk.2) (.int .i64 t408)) (fun _ hk => hk.2) (.bool t409)) (fun _ h_ => h_.1))) hb); have n1_ := qM (Vb (by (with_reducible repeat first | apply VA | apply VN | apply VD); exact (Vm (Vf (p := ⟨g400, 3, none⟩) (Vf (p := ⟨g400, 2, none⟩) (Vf (p := ⟨g400, 1, none⟩) (Vf (p := ⟨g400, 0, none⟩) (Vm HO407.out (fun k_ hk => (⟨hk, hk.2⟩ : _ ∧ k_ ≠ g400))) (fun _ hk => hk.2) (.slice Ao15 t402.length co15)) (fun _ hk => hk.2) (.slice Ao17 t405.length co17)) (fun _ hk => hk.2) (.int .i64 t408)) (fun _ hk => hk.2) (.bool t409)) (fun _ h_ => h_.1))) hb); have n2_ := qM (qB (g := g399) (o := .cells #[.slice A0_0 l0_0.length c0_0, .slice A0_1 l0_1.length c0_1, .int .i64 a0_2, .bool a0_3, .int .i64 a0_4, .slice A0_5 l0_5.length c0_5, .int .i64 a0_6, .int .i64 a0_7] 50 (0, 0)) (by (with_reducible repeat first | refine qN ?_ _ | refine qD ?_ | refine qA ?_ _); (iterate 4 (refine qR ?_ NB399_400.out _; (with_reducible repeat first | refine qN ?_ _ | refine qD ?_ | refine qA ?_ _))); exact B399.out) hb); have n3_ := qM (qB (g := g400) (by (with_reducible repeat first | refine qN ?_ _ | refine qD ?_ | refine qA ?_ _); apply puts4; (with_reducible repeat first | refine qN ?_ _ | refine qD ?_ | refine qA ?_ _); exact B400.out) hb); have n4_ := qM (eT (by repeat (first | (with_reducible first | exact HB.out | apply eA | apply eN | apply eD | refine eS ?_ GE399.out | refine eS ?_ GE400.out) | exact HB.out)) hb); clear HO404; clear HO407; clear B399; clear B400; clear HB; have HO404 := n0_; have HO407 := n1_; have B399 := n2_; have B400 := n3_; have HB := n4_; clear n0_ n1_ n2_ n3_ n4_; (try clear hb); (try clear hb2); (try clear hk); (try clear hi)))
 (try simp only [Act.put, List.setIfInBounds_toArray, List.set_cons_zero, List.set_cons_succ])
 go_cut [54] (fun v54 wc => ∃ (kq : Nat) (x54_4 : Bool), v54 = .bool x54_4 ∧ Aside0 (hogsheadlaw09_CellLasts.j0 kq a0_4 l0_5 a0_6 a0_7 t401 t411 t413 x54_4 t402 t405 t408 t409 = some r) ∧ Aside0 (kq ≤ k) ∧ Aside0 (Kd.V Kd.string 9 wc w.heap.size (fun k_ => k_ ≠ g399 ∧ k_ ≠ g400) (.slice Ao15 t402.length co15) t402) ∧ Aside0 (Kd.V k77 77 wc w.heap.size (fun k_ => k_ ≠ g399 ∧ k_ ≠ g400) (.slice Ao17 t405.length co17) t405) ∧ Aside0 (wc.heap[g399]? = some (.cells #[(.slice A0_0 l0_0.length c0_0), (.slice A0_1 l0_1.length c0_1), .int .i64 a0_2, .bool a0_3, .int .i64 a0_4, (.slice A0_5 l0_5.length c0_5), .int .i64 a0_6, .int .i64 a0_7] 50 (0, 0))) ∧ Aside0 (wc.heap[g400]? = some (.cells #[(.slice Ao15 t402.length co15), (.slice Ao17 t405.length co17), .int .i64 t408, .bool t409] 37 (0, 0))) ∧ Aside0 (Below w.heap.size w wc))
 case first =>
  have H := HC5.out
  clear HC5
  by_cases c19 : t410 = 0
  ·rw [if_pos c19] at H
   have c19b0 : (t410 == 0) = true := beq_iff_eq.mpr c19
   have c19b1 : (t410 != 0) = false := bne_eq_false_iff_eq.mpr c19
   clear c19
   (first | rw [c19b0] | (simp only [i64_w, i32_w]; rw [c19b0]) | skip)
   by_cases c20 : t413 = 1
   ·rw [if_pos c20] at H
    have c20b0 : (t413 == 1) = true := beq_iff_eq.mpr c20
    have c20b1 : (t413 != 1) = false := bne_eq_false_iff_eq.mpr c20
    clear c20
    have H' := qM H
    clear H
    go_wp2
    go_meet
    case rel => exact ⟨_, (true), (by first | rfl | (simp; done) | (simp [*]; done)), H', ⟨by first | omega | exact Nat.le_refl _⟩, ⟨by (with_reducible repeat first | apply VA | apply VN | apply VD); exact HO404.out⟩, ⟨by (with_reducible repeat first | apply VA | apply VN | apply VD); exact HO407.out⟩, ⟨by (with_reducible repeat first | refine qN ?_ _ | refine qD ?_ | refine qA ?_ _); exact B399.out⟩, ⟨by (with_reducible repeat first | refine qN ?_ _ | refine qD ?_ | refine qA ?_ _); exact B400.out⟩, ⟨by repeat (first | (with_reducible first | exact HB.out | apply eA | apply eN | apply eD | refine eS ?_ GE399.out | refine eS ?_ GE400.out) | exact HB.out)⟩⟩
   ·rw [if_neg c20] at H
    have c20b0 : (t413 == 1) = false := beq_eq_false_iff_ne.mpr c20
    have c20b1 : (t413 != 1) = true := bne_iff_ne.mpr c20
    have H' := qM H
    clear H
    go_wp2
    go_meet
    case rel => exact ⟨_, (decide (t412 > 4611686018427387904)), (by first | rfl | (simp; done) | (simp [*]; done)), H', ⟨by first | omega | exact Nat.le_refl _⟩, ⟨by (with_reducible repeat first | apply VA | apply VN | apply VD); exact HO404.out⟩, ⟨by (with_reducible repeat first | apply VA | apply VN | apply VD); exact HO407.out⟩, ⟨by (with_reducible repeat first | refine qN ?_ _ | refine qD ?_ | refine qA ?_ _); exact B399.out⟩, ⟨by (with_reducible repeat first | refine qN ?_ _ | refine qD ?_ | refine qA ?_ _); exact B400.out⟩, ⟨by repeat (first | (with_reducible first | exact HB.out | apply eA | apply eN | apply eD | refine eS ?_ GE399.out | refine eS ?_ GE400.out) | exact HB.out)⟩⟩
  ·rw [if_neg c19] at H
   have c19b0 : (t410 == 0) = false := beq_eq_false_iff_ne.mpr c19
   have c19b1 : (t410 != 0) = true := bne_iff_ne.mpr c19
   (first | rw [c19b0] | (simp only [i64_w, i32_w]; rw [c19b0]) | skip)
   have H' := qM H
   clear H
   go_wp2
   go_meet
   case rel => exact ⟨_, (true), (by first | rfl | (simp; done) | (simp [*]; done)), H', ⟨by first | omega | exact Nat.le_refl _⟩, ⟨by (with_reducible repeat first | apply VA | apply VN | apply VD); exact HO404.out⟩, ⟨by (with_reducible repeat first | apply VA | apply VN | apply VD); exact HO407.out⟩, ⟨by (with_reducible repeat first | refine qN ?_ _ | refine qD ?_ | refine qA ?_ _); exact B399.out⟩, ⟨by (with_reducible repeat first | refine qN ?_ _ | refine qD ?_ | refine qA ?_ _); exact B400.out⟩, ⟨by repeat (first | (with_reducible first | exact HB.out | apply eA | apply eN | apply eD | refine eS ?_ GE399.out | refine eS ?_ GE400.out) | exact HB.out)⟩⟩
 case rest =>
  clear HC5
  try clear c1
  try clear c2
  try clear p2
  try clear c6
  try clear c9
  try clear c10
  try clear c15
  try clear c19
  try clear c19b0
  try clear c19b1
  try clear c20
  try clear c20b0
  try clear c20b1
  try clear z10_0
  try clear z10_1
  try clear z10_2
  try clear z10_3
  try clear z11_0
  try clear z11_1
  try clear z11_2
  try clear z11_3
  try clear z11_4
  try clear z11_5
  try clear z11_6
  try clear z11_7
  try clear z13_0
  try clear z13_1
  try clear z13_2
  try clear z13_3
  try clear z16_0
  try clear z16_1
  try clear z16_2
  try clear z16_3
  try clear z7_0
  try clear z7_1
  try clear z7_2
  try clear z7_3
  try clear z7_4
  try clear z7_5
  try clear z7_6
  try clear z7_7
  try clear f10_0
  try clear f10_1
  try clear f10_2
  try clear f10_3
  try clear f11_0
  try clear f11_1
  try clear f11_2
  try clear f11_3
  try clear f11_4
  try clear f11_5
  try clear f11_6
  try clear f11_7
  try clear f13_0
  try clear f13_1
  try clear f13_2
  try clear f13_3
  try clear f16_0
  try clear f16_1
  try clear f16_2
  try clear f16_3
  try clear f7_0
  try clear f7_1
  try clear f7_2
  try clear f7_3
  try clear f7_4
  try clear f7_5
  try clear f7_6
  try clear f7_7
  obtain ⟨kq, x54_4, rfl, HA, HJ4, HO_401000, HO_401001, B399, B400, HB⟩ := hcut
  cases kq with
  | zero => exact absurd HA.out (by simp [hogsheadlaw09_CellLasts.j0])
  | succ kj4 =>
   have H := HA.out
   clear HA
   simp only [hogsheadlaw09_CellLasts.j0] at H
   by_cases c21 : x54_4 = true
   ·subst c21
    have H1 : (some t401) = some r := by rw [if_pos rfl] at H; exact H
    clear H
    have H := H1
    clear H1
    obtain rfl := Option.some.inj H
    go_wp2
    go_ret
    exact ⟨by first | rfl | (simp [errW_none, errW_some] <;> rfl) | (simp [*, errW_none, errW_some] <;> rfl), by repeat (first | (with_reducible first | exact HB.out | apply eA | apply eN | apply eD | refine eS ?_ GE399.out | refine eS ?_ GE400.out) | exact HB.out)⟩
   ·replace c21 := Bool.eq_false_iff.mpr c21
    subst c21
    have H1 : (hogsheadlaw09_CellLasts.l0 kj4 a0_4 l0_5 a0_6 a0_7 t401 t413 (([t411] : List ByteArray)) 0 t402 t405 t408 t409) = some r := by rw [if_neg (show ¬ (false = true) by decide)] at H; exact H
    clear H
    have H := H1
    clear H1
    obtain ⟨y414, hy414⟩ : ∃ y_ : List ByteArray, y_ = (([t411] : List ByteArray)) := ⟨_, rfl⟩
    replace H : (hogsheadlaw09_CellLasts.l0 kj4 a0_4 l0_5 a0_6 a0_7 t401 t413 y414 0 t402 t405 t408 t409) = some r := by first | (rw [hy414]; with_reducible exact H) | (have H2_ := (Option.bind_some _ _).symm.trans H; rw [hy414]; with_reducible exact H2_) | (have H2_ := (Option.bind_some _ _).symm.trans H; with_reducible exact H2_) | with_reducible exact H | (rw [hy414]; exact H) | exact H
    have Ny414 := qM hy414
    clear hy414
    have H' := qM H
    clear H
    go_wp2_with (first | ((with_reducible refine gate_dst (N := 57) rfl ?_); refine Kd.R_lit Kd.string _ 9 ?hg (N := 57) ?hd (xs := ([t411] : List ByteArray)) (inner := [.string t411]) (ok := fun _ => True) (okp := fun _ => True) ?hr ?hp (fun _ hk => hk) trivial (Below.refl _ _) (Nat.le_refl _) (by simp) ?_; (case hd => rfl); (case hg => rfl); (case hr => first | (go_simp; done) | (go_simp; rfl)); (case hp => exact (Reps.one (show Kd.M Kd.string _ _ _ t411 [.string t411] from rfl) (Reps.none _ _))); intro v415 w22 ho23 hb hg_ hnew_; clear hg_ hnew_; (first | rw [← Ny414.out] at ho23 | (simp only [Int.reduceToNat] at ho23; rw [← Ny414.out] at ho23)); have n0_ := qM (Kd.V_elder' (by (with_reducible repeat first | apply VA | apply VN | apply VD); exact HO_401000.out) (Kd.R_base ho23) hb); have n1_ := qM (Kd.V_elder' (by (with_reducible repeat first | apply VA | apply VN | apply VD); exact HO_401001.out) (Kd.R_base ho23) hb); have n2_ := qM (Kd.R_lower ho23 (eZ (by repeat (first | (with_reducible first | exact HB.out | apply eA | apply eN | apply eD | refine eS ?_ GE399.out | refine eS ?_ GE400.out) | exact HB.out)))); have n3_ := qM (qB (g := g399) (by (with_reducible repeat first | refine qN ?_ _ | refine qD ?_ | refine qA ?_ _); exact B399.out) hb); have n4_ := qM (qB (g := g400) (by (with_reducible repeat first | refine qN ?_ _ | refine qD ?_ | refine qA ?_ _); exact B400.out) hb); have n5_ := qM (eT (by repeat (first | (with_reducible first | exact HB.out | apply eA | apply eN | apply eD | refine eS ?_ GE399.out | refine eS ?_ GE400.out) | exact HB.out)) hb); clear HO_401000; clear HO_401001; clear B399; clear B400; clear HB; have HO_401000 := n0_; have HO_401001 := n1_; have HO416 := n2_; have B399 := n3_; have B400 := n4_; have HB := n5_; clear n0_ n1_ n2_ n3_ n4_ n5_; clear hb ho23))
    go_loopg [13, 14] kj4 (fun kq v13 v14 w' => ∃ (x13_2 : List ByteArray) (x14_2 : Int) (x401000_2 : List ByteArray) (x401001_2 : List (S77)) (x401002_2 : Int) (x401003_2 : Bool) (u401000 : Value) (u401001 : Value), v14 = .int .i64 x14_2 ∧ Aside0 (hogsheadlaw09_CellLasts.l0 kq a0_4 l0_5 a0_6 a0_7 t401 t413 x13_2 x14_2 x401000_2 x401001_2 x401002_2 x401003_2 = some r) ∧ Aside0 (kq ≤ kj4) ∧ Aside0 (Kd.R Kd.string 9 w' w.heap.size (fun _ => True) v13 x13_2) ∧ Aside0 (Kd.V Kd.string 9 w' w.heap.size (fun k_ => some k_ ≠ (v13 : Value).ownBlock ∧ k_ ≠ g399 ∧ k_ ≠ g400) u401000 x401000_2) ∧ Aside0 (Kd.V k77 77 w' w.heap.size (fun k_ => some k_ ≠ (v13 : Value).ownBlock ∧ k_ ≠ g399 ∧ k_ ≠ g400) u401001 x401001_2) ∧ Aside0 (w'.heap[g399]? = some (.cells #[(.slice A0_0 l0_0.length c0_0), (.slice A0_1 l0_1.length c0_1), .int .i64 a0_2, .bool a0_3, .int .i64 a0_4, (.slice A0_5 l0_5.length c0_5), .int .i64 a0_6, .int .i64 a0_7] 50 (0, 0))) ∧ Aside0 (w'.heap[g400]? = some (.cells #[u401000, u401001, .int .i64 x401002_2, .bool x401003_2] 37 (0, 0))) ∧ Aside0 (Below w.heap.size w w'))
    case atStart => exact ⟨(y414), (0), (t402), (t405), (t408), (t409), (.slice Ao15 t402.length co15), (.slice Ao17 t405.length co17), (by first | rfl | (simp; done) | (simp [*]; done)), H', ⟨Nat.le_refl _⟩, ⟨by (with_reducible repeat first | apply RA | apply RN | apply RD); exact HO416.out⟩, ⟨by (with_reducible repeat first | apply VA | apply VN | apply VD); exact Vm HO_401000.out (fun _ hk => ⟨hk.2, ⟨hk.1.1, hk.1.2⟩⟩)⟩, ⟨by (with_reducible repeat first | apply VA | apply VN | apply VD); exact Vm HO_401001.out (fun _ hk => ⟨hk.2, ⟨hk.1.1, hk.1.2⟩⟩)⟩, ⟨by (with_reducible repeat first | refine qN ?_ _ | refine qD ?_ | refine qA ?_ _); exact B399.out⟩, ⟨by (with_reducible repeat first | refine qN ?_ _ | refine qD ?_ | refine qA ?_ _); exact B400.out⟩, ⟨by repeat (first | (with_reducible first | exact HB.out | apply eA | apply eN | apply eD | refine eS ?_ GE399.out | refine eS ?_ GE400.out) | exact HB.out)⟩⟩
    case round =>
     clear H'
     try clear c1
     try clear c2
     try clear p2
     try clear c6
     try clear c9
     try clear c10
     try clear c15
     try clear c19
     try clear c19b0
     try clear c19b1
     try clear c20
     try clear c20b0
     try clear c20b1
     try clear c21
     try clear z10_0
     try clear z10_1
     try clear z10_2
     try clear z10_3
     try clear z11_0
     try clear z11_1
     try clear z11_2
     try clear z11_3
     try clear z11_4
     try clear z11_5
     try clear z11_6
     try clear z11_7
     try clear z13_0
     try clear z13_1
     try clear z13_2
     try clear z13_3
     try clear z16_0
     try clear z16_1
     try clear z16_2
     try clear z16_3
     try clear z7_0
     try clear z7_1
     try clear z7_2
     try clear z7_3
     try clear z7_4
     try clear z7_5
     try clear z7_6
     try clear z7_7
     try clear f10_0
     try clear f10_1
     try clear f10_2
     try clear f10_3
     try clear f11_0
     try clear f11_1
     try clear f11_2
     try clear f11_3
     try clear f11_4
     try clear f11_5
     try clear f11_6
     try clear f11_7
     try clear f13_0
     try clear f13_1
     try clear f13_2
     try clear f13_3
     try clear f16_0
     try clear f16_1
     try clear f16_2
     try clear f16_3
     try clear f7_0
     try clear f7_1
     try clear f7_2
     try clear f7_3
     try clear f7_4
     try clear f7_5
     try clear f7_6
     try clear f7_7
     try clear p2
     obtain ⟨x13_2, x14_2, x401000_2, x401001_2, x401002_2, x401003_2, u401000, u401001, rfl, HA, HK2, HO_13, HO_401000, HO_401001, B399, B400, HB⟩ := hrel
     cases gk with
     | zero => exact absurd HA.out (by simp [hogsheadlaw09_CellLasts.l0])
     | succ k2 =>
      have H := HA.out
      clear HA
      simp only [hogsheadlaw09_CellLasts.l0] at H
      have HC24 := qM H
      clear H
      go_upto_region 13 with (fail)
      go_cut [65] (fun v65 wc => ∃ (kq : Nat) (x65_23 : Bool), v65 = .bool x65_23 ∧ Aside0 (hogsheadlaw09_CellLasts.j2 kq a0_4 l0_5 a0_6 a0_7 t401 t413 x13_2 x14_2 x65_23 x401000_2 x401001_2 x401002_2 x401003_2 = some r) ∧ Aside0 (kq ≤ k2) ∧ Aside0 (Kd.R Kd.string 9 wc w.heap.size (fun _ => True) u13 x13_2) ∧ Aside0 (Kd.V Kd.string 9 wc w.heap.size (fun k_ => some k_ ≠ (u13 : Value).ownBlock ∧ k_ ≠ g399 ∧ k_ ≠ g400) u401000 x401000_2) ∧ Aside0 (Kd.V k77 77 wc w.heap.size (fun k_ => some k_ ≠ (u13 : Value).ownBlock ∧ k_ ≠ g399 ∧ k_ ≠ g400) u401001 x401001_2) ∧ Aside0 (wc.heap[g399]? = some (.cells #[(.slice A0_0 l0_0.length c0_0), (.slice A0_1 l0_1.length c0_1), .int .i64 a0_2, .bool a0_3, .int .i64 a0_4, (.slice A0_5 l0_5.length c0_5), .int .i64 a0_6, .int .i64 a0_7] 50 (0, 0))) ∧ Aside0 (wc.heap[g400]? = some (.cells #[u401000, u401001, .int .i64 x401002_2, .bool x401003_2] 37 (0, 0))) ∧ Aside0 (Below w.heap.size w wc))
      case first =>
       have H := HC24.out
       clear HC24
       by_cases c25 : x14_2 < (l0_5.length : Int)
       ·rw [if_pos c25] at H
        have c25b0 : decide (x14_2 < (l0_5.length : Int)) = true := decide_eq_true c25
        clear c25
        (first | rw [c25b0] | (simp only [i64_w, i32_w]; rw [c25b0]) | skip)
        have H' := qM H
        clear H
        go_wp2
        go_meet
        case rel => exact ⟨_, (decide (x14_2 < 100)), (by first | rfl | (simp; done) | (simp [*]; done)), H', ⟨by have := HJ4.out; have := HK2.out; first | omega | exact Nat.le_refl _⟩, ⟨by (with_reducible repeat first | apply RA | apply RN | apply RD); exact HO_13.out⟩, ⟨by (with_reducible repeat first | apply VA | apply VN | apply VD); exact HO_401000.out⟩, ⟨by (with_reducible repeat first | apply VA | apply VN | apply VD); exact HO_401001.out⟩, ⟨by (with_reducible repeat first | refine qN ?_ _ | refine qD ?_ | refine qA ?_ _); exact B399.out⟩, ⟨by (with_reducible repeat first | refine qN ?_ _ | refine qD ?_ | refine qA ?_ _); exact B400.out⟩, ⟨by repeat (first | (with_reducible first | exact HB.out | apply eA | apply eN | apply eD | refine eS ?_ GE399.out | refine eS ?_ GE400.out) | exact HB.out)⟩⟩
       ·rw [if_neg c25] at H
        have c25b0 : decide (x14_2 < (l0_5.length : Int)) = false := decide_eq_false c25
        clear c25
        (first | rw [c25b0] | (simp only [i64_w, i32_w]; rw [c25b0]) | skip)
        have H' := qM H
        clear H
        go_wp2
        go_meet
        case rel => exact ⟨_, (false), (by first | rfl | (simp; done) | (simp [*]; done)), H', ⟨by have := HJ4.out; have := HK2.out; first | omega | exact Nat.le_refl _⟩, ⟨by (with_reducible repeat first | apply RA | apply RN | apply RD); exact HO_13.out⟩, ⟨by (with_reducible repeat first | apply VA | apply VN | apply VD); exact HO_401000.out⟩, ⟨by (with_reducible repeat first | apply VA | apply VN | apply VD); exact HO_401001.out⟩, ⟨by (with_reducible repeat first | refine qN ?_ _ | refine qD ?_ | refine qA ?_ _); exact B399.out⟩, ⟨by (with_reducible repeat first | refine qN ?_ _ | refine qD ?_ | refine qA ?_ _); exact B400.out⟩, ⟨by repeat (first | (with_reducible first | exact HB.out | apply eA | apply eN | apply eD | refine eS ?_ GE399.out | refine eS ?_ GE400.out) | exact HB.out)⟩⟩
      case rest =>
       clear HC24
       try clear c1
       try clear c2
       try clear p2
       try clear c6
       try clear c9
       try clear c10
       try clear c15
       try clear c19
       try clear c19b0
       try clear c19b1
       try clear c20
       try clear c20b0
       try clear c20b1
       try clear c21
       try clear c25
       try clear c25b0
       try clear z10_0
       try clear z10_1
       try clear z10_2
       try clear z10_3
       try clear z11_0
       try clear z11_1
       try clear z11_2
       try clear z11_3
       try clear z11_4
       try clear z11_5
       try clear z11_6
       try clear z11_7
       try clear z13_0
       try clear z13_1
       try clear z13_2
       try clear z13_3
       try clear z16_0
       try clear z16_1
       try clear z16_2
       try clear z16_3
       try clear z7_0
       try clear z7_1
       try clear z7_2
       try clear z7_3
       try clear z7_4
       try clear z7_5
       try clear z7_6
       try clear z7_7
       try clear f10_0
       try clear f10_1
       try clear f10_2
       try clear f10_3
       try clear f11_0
       try clear f11_1
       try clear f11_2
       try clear f11_3
       try clear f11_4
       try clear f11_5
       try clear f11_6
       try clear f11_7
       try clear f13_0
       try clear f13_1
       try clear f13_2
       try clear f13_3
       try clear f16_0
       try clear f16_1
       try clear f16_2
       try clear f16_3
       try clear f7_0
       try clear f7_1
       try clear f7_2
       try clear f7_3
       try clear f7_4
       try clear f7_5
       try clear f7_6
       try clear f7_7
       try clear p2
       obtain ⟨kq, x65_23, rfl, HA, HJ23, HO_13, HO_401000, HO_401001, B399, B400, HB⟩ := hcut
       cases kq with
       | zero => exact absurd HA.out (by simp [hogsheadlaw09_CellLasts.j2])
       | succ kj23 =>
        have H := HA.out
        clear HA
        simp only [hogsheadlaw09_CellLasts.j2] at H
        by_cases c26 : x65_23 = true
        ·subst c26
         have H1 : (if 0 ≤ x14_2 then (if x14_2 < (l0_5.length : Int) then ((cell_Write.f kj23 x401000_2 x401001_2 x401002_2 x401003_2 a0_4 (rdOf ByteArray.empty l0_5 x14_2)).bind fun bt418 => (if bt418.2.2.2.2 = 0 then (hogsheadlaw09_CellLasts.j3 kj23 a0_4 l0_5 a0_6 a0_7 t401 t413 x13_2 x14_2 true bt418.1 bt418.2.1 bt418.2.2.1 bt418.2.2.2.1) else (hogsheadlaw09_CellLasts.j3 kj23 a0_4 l0_5 a0_6 a0_7 t401 t413 x13_2 x14_2 (bt418.2.2.2.2 == 6) bt418.1 bt418.2.1 bt418.2.2.1 bt418.2.2.2.1))) else (none)) else (none)) = some r := by rw [if_pos rfl] at H; exact H
         clear H
         have H := H1
         clear H1
         by_cases c27 : 0 ≤ x14_2
         ·rw [if_pos c27] at H
          have c27b0 : decide (0 ≤ x14_2) = true := decide_eq_true c27
          clear c27
          by_cases c28 : x14_2 < (l0_5.length : Int)
          ·rw [if_pos c28] at H
           have c28b0 : decide (x14_2 < (l0_5.length : Int)) = true := decide_eq_true c28
           clear c28
           replace H := Option.bind_eq_some_iff.mp H
           obtain ⟨⟨t418, t421, t424, t425, t426⟩, A290, H⟩ := H
           replace H : (if t426 = 0 then (hogsheadlaw09_CellLasts.j3 kj23 a0_4 l0_5 a0_6 a0_7 t401 t413 x13_2 x14_2 true t418 t421 t424 t425) else (hogsheadlaw09_CellLasts.j3 kj23 a0_4 l0_5 a0_6 a0_7 t401 t413 x13_2 x14_2 (t426 == 6) t418 t421 t424 t425)) = some r := H
           have A29 := qM A290
           clear A290
           have HC30 := qM H
           clear H
           obtain ⟨Ao31, co31, eo31⟩ := Kd.V_slice HO_401000.out
           subst eo31
           obtain ⟨Ao32, co32, eo32⟩ := Kd.V_slice HO_401001.out
           subst eo32
           try go_wp2
           have n0_ := qM (Kd.R_drew HO_13.out)
           have n1_ := qM (Kd.V_drew HO_401000.out)
           have n2_ := qM (Kd.V_drew HO_401001.out)
           have n3_ := qM (blk_drew B399.out)
           have n4_ := qM (blk_drew B400.out)
           have n5_ := qM (below_drew1 HB.out)
           clear HO_13
           clear HO_401000
           clear HO_401001
           clear B399
           clear B400
           clear HB
           have HO_13 := n0_
           have HO_401000 := n1_
           have HO_401001 := n2_
           have B399 := n3_
           have B400 := n4_
           have HB := n5_
           clear n0_ n1_ n2_ n3_ n4_ n5_
           have p417 : 0 ≤ (x14_2 : Int) := of_decide_eq_true (by first | (with_reducible assumption) | assumption)
           have q417 : x14_2 < (l0_5.length : Int) := of_decide_eq_true (by first | (with_reducible assumption) | assumption)
           obtain ⟨ad417, e417, hx417_0⟩ := Kd.at_string HR0_5.out x14_2 p417 q417
           have hw417_0 := hx417_0
           cases e417
           replace hx417_0 := (HB.out.cell (World.block_lt_of_cell? w _ hx417_0)).trans hx417_0
           replace p417 := eq_true p417
           replace q417 := eq_true q417
           refine start_ (n := 13) (S := fun w' => w'.cell? ⟨g400, 0, none⟩ = some (.slice Ao31 x401000_2.length co31) ∧ w'.cell? ⟨g400, 1, none⟩ = some (.slice Ao32 x401001_2.length co32) ∧ w'.cell? ⟨g400, 2, none⟩ = some (.int .i64 x401002_2) ∧ w'.cell? ⟨g400, 3, none⟩ = some (.bool x401003_2) ∧ w'.cell? (ad417.add (x14_2).toNat) = some (.string (rdOf ByteArray.empty l0_5 x14_2))) (ds := []) #[false, false, false, false, false, false, false, false, false, false, false, false, false] (by kernel_rfl) rfl rfl ⟨(qC B400.out 0).trans rfl, (qC B400.out 1).trans rfl, (qC B400.out 2).trans rfl, (qC B400.out 3).trans rfl, ((HB.out.cell (World.block_lt_of_cell? w _ hw417_0)).trans hw417_0)⟩ (fun hHeld => ?_); refine with_tabW hogsheadlaw09_CellLasts.tab15 hogsheadlaw09_CellLasts.bits15 (fun HT_ HW_ => ?_)
           generalize wc.drew = w33 at HO_13 HO_401000 HO_401001 B399 B400 HB hx417_0 hHeld ⊢
           refine pure_ (i := 1) (N := some 70) (v := ?_) (a' := ?_) #[false, true, false, false, false, false, false, false, false, false, false, false, false] rfl rfl (any_of HT_.out (by kernel_rfl)) (fun _ _ _ h => h) (Or.inl ⟨by rfl, ?_⟩) ?_ ?_
           rotate_left
           ·intro w'; go_simp; with_reducible rfl
           rotate_left
           ·simp only [Act.put, xA, xZ, xS, i64_w, i32_w]; rfl
           refine pure_ (i := 2) (N := some 71) (v := ?_) (a' := ?_) #[false, true, true, false, false, false, false, false, false, false, false, false, false] rfl rfl (any_of HT_.out (by kernel_rfl)) (fun _ _ _ h => h) (Or.inl ⟨by rfl, ?_⟩) ?_ ?_
           rotate_left
           ·intro w'; go_simp; with_reducible rfl
           rotate_left
           ·simp only [Act.put, xA, xZ, xS, i64_w, i32_w]; rfl
           refine pure_ (i := 3) (N := some 72) (v := ?_) (a' := ?_) #[false, true, true, true, false, false, false, false, false, false, false, false, false] rfl rfl (any_of HT_.out (by kernel_rfl)) (fun _ _ _ h => h) (Or.inl ⟨by rfl, ?_⟩) ?_ ?_
           rotate_left
           ·intro w'; go_simp; with_reducible rfl
           rotate_left
           ·simp only [Act.put, xA, xZ, xS, i64_w, i32_w]; rfl
           refine pure_ (i := 4) (N := some 73) (v := ?_) (a' := ?_) #[false, true, true, true, true, false, false, false, false, false, false, false, false] rfl rfl (any_of HT_.out (by kernel_rfl)) (fun _ _ _ h => h) (Or.inl ⟨by rfl, ?_⟩) ?_ ?_
           rotate_left
           ·intro w'; go_simp; with_reducible rfl
           rotate_left
           ·simp only [Act.put, xA, xZ, xS, i64_w, i32_w]; rfl
           refine take_ (i := 0) (N := some 69) (v := ?_) (a' := ?_) #[true, true, true, true, true, false, false, false, false, false, false, false, false] rfl rfl (take_ofW HT_.out HW_.out (by kernel_rfl)) (fun _ _ _ h => h) (Or.inl ⟨by rfl, ?_⟩) hHeld ?_ ?_
           rotate_left
           ·rintro w' ⟨s0, s1, s2, s3, s4⟩; go_simp; with_reducible rfl
           rotate_left
           ·simp only [Act.put, xA, xZ, xS, i64_w, i32_w]; rfl
           refine take_ (i := 5) (N := some 74) (v := ?_) (a' := ?_) #[true, true, true, true, true, true, false, false, false, false, false, false, false] rfl rfl (take_ofW HT_.out HW_.out (by kernel_rfl)) (fun _ _ _ h => h) (Or.inl ⟨by rfl, ?_⟩) hHeld ?_ ?_
           rotate_left
           ·rintro w' ⟨s0, s1, s2, s3, s4⟩; go_simp; with_reducible rfl
           rotate_left
           ·simp only [Act.put, xA, xZ, xS, i64_w, i32_w]; rfl
           refine join_ (σ := Value × Value × Nat) 2 #[true, true, true, true, true, true, true, true, true, true, true, false, false] (fun s_ => [(75, .tuple #[.agg #[s_.1, s_.2.1, .int .i64 t424, .bool t425], .int .i64 t426]), (15, .pointer (some ⟨s_.2.2, 0, none⟩)), (68, .tuple #[.agg #[s_.1, s_.2.1, .int .i64 t424, .bool t425], .int .i64 t426]), (76, .agg #[s_.1, s_.2.1, .int .i64 t424, .bool t425]), (77, .int .i64 t426)]) (fun s_ w' => (w'.cell? ⟨g400, 0, none⟩ = some (.slice Ao31 x401000_2.length co31) ∧ w'.cell? ⟨g400, 1, none⟩ = some (.slice Ao32 x401001_2.length co32) ∧ w'.cell? ⟨g400, 2, none⟩ = some (.int .i64 x401002_2) ∧ w'.cell? ⟨g400, 3, none⟩ = some (.bool x401003_2) ∧ w'.cell? (ad417.add (x14_2).toNat) = some (.string (rdOf ByteArray.empty l0_5 x14_2))) ∧ (Kd.V Kd.string 9 w' w.heap.size (fun k_ => some k_ ≠ (u13 : Value).ownBlock ∧ k_ ≠ g399 ∧ k_ ≠ g400 ∧ k_ ≠ s_.2.2) s_.1 t418) ∧ (Kd.V k77 77 w' w.heap.size (fun k_ => some k_ ≠ (u13 : Value).ownBlock ∧ k_ ≠ g399 ∧ k_ ≠ g400 ∧ k_ ≠ s_.2.2) s_.2.1 t421) ∧ (Kd.R Kd.string 9 w' w.heap.size (fun _ => True) u13 x13_2) ∧ (Kd.V Kd.string 9 w' w.heap.size (fun k_ => some k_ ≠ (u13 : Value).ownBlock ∧ k_ ≠ g399 ∧ k_ ≠ g400 ∧ k_ ≠ s_.2.2) (.slice Ao31 x401000_2.length co31) x401000_2) ∧ (Kd.V k77 77 w' w.heap.size (fun k_ => some k_ ≠ (u13 : Value).ownBlock ∧ k_ ≠ g399 ∧ k_ ≠ g400 ∧ k_ ≠ s_.2.2) (.slice Ao32 x401001_2.length co32) x401001_2) ∧ (w'.heap[g399]? = some (.cells #[.slice A0_0 l0_0.length c0_0, .slice A0_1 l0_1.length c0_1, .int .i64 a0_2, .bool a0_3, .int .i64 a0_4, .slice (some ad417) l0_5.length c0_5, .int .i64 a0_6, .int .i64 a0_7] 50 (0, 0))) ∧ (w'.heap[g400]? = some (.cells #[.slice Ao31 x401000_2.length co31, .slice Ao32 x401001_2.length co32, .int .i64 x401002_2, .bool x401003_2] 37 (0, 0))) ∧ (w'.heap[s_.2.2]? = some (.cells #[.slice none 0 0, .slice none 0 0, .int .i64 0, .bool false] 37 (0, 0))) ∧ (w.heap.size ≤ s_.2.2) ∧ (w.heap.size ≤ s_.2.2) ∧ (g399 ≠ s_.2.2) ∧ (s_.2.2 ≠ g399) ∧ (g400 ≠ s_.2.2) ∧ (s_.2.2 ≠ g400) ∧ (Below w.heap.size w w')) ?_ ?_
           rotate_left
           ·intro hCont
            refine two_ (i := 6) (j := 10) (Ni := some 75) (Nj := some 15) #[true, true, true, true, true, true, true, false, false, false, false, false, false] #[true, true, true, true, true, true, false, false, false, false, true, false, false] rfl rfl rfl rfl (two_of HT_.out (by kernel_rfl)) (by decide) (by decide) (fun K hK => ?_) (fun K hK => ?_)
            ·skip
             refine goes_ Try.func17 (by kernel_rfl) rfl #[.agg #[.slice Ao31 x401000_2.length co31, .slice Ao32 x401001_2.length co32, .int .i64 x401002_2, .bool x401003_2], .int .i64 a0_4, .string (rdOf ByteArray.empty l0_5 x14_2)] (by rfl) rfl rfl (by (try simp only [List.map_toArray, List.map_cons, List.map_nil]); first | done | rfl | (simp only [List.length_drop, List.length_take]; rfl)) ?_
             with_reducible refine (cell_Write.calls kj23 (fun k_ => (some k_ ≠ (u13 : Value).ownBlock ∧ (k_ ≠ g399 ∧ k_ ≠ g400))) _ _ x401000_2 (fun k_ => (some k_ ≠ (u13 : Value).ownBlock ∧ (k_ ≠ g399 ∧ k_ ≠ g400))) _ _ x401001_2 x401002_2 x401003_2 a0_4 (rdOf ByteArray.empty l0_5 x14_2) t418 t421 t424 t425 t426 _ ?side1 ?side2 A29.out).mono ?_
             (case side1 => exact HO_401000.out)
             (case side2 => exact HO_401001.out)
             rintro e w34 ⟨v419, v422, rfl, ho0, ho1, hb⟩
             refine ⟨_, rfl, ?_⟩
             have n0_ := qM (Kd.R_below (by (with_reducible repeat first | apply RA | apply RN | apply RD); exact HO_13.out) hb)
             have n1_ := qM (Vb (by (with_reducible repeat first | apply VA | apply VN | apply VD); exact HO_401000.out) hb)
             have n2_ := qM (Vb (by (with_reducible repeat first | apply VA | apply VN | apply VD); exact HO_401001.out) hb)
             have n3_ := qM (Vl (Vm (ok' := fun k_ => some k_ ≠ (u13 : Value).ownBlock ∧ k_ ≠ g399 ∧ k_ ≠ g400) ho0 (fun k_ hk_ => ⟨Or.elim hk_ (fun hs_ => Or.elim hs_ (fun hs_ => hs_.1) (fun hs_ => hs_.1)) (fun hn_ => (Kd.fresh' (Kd.R_lt (by (with_reducible repeat first | apply RA | apply RN | apply RD); exact HO_13.out)) k_ hn_)), Or.elim hk_ (fun hs_ => Or.elim hs_ (fun hs_ => hs_.2.1) (fun hs_ => hs_.2.1)) (fun hn_ => (Fb (g := g399) (by (with_reducible repeat first | refine qN ?_ _ | refine qD ?_ | refine qA ?_ _); exact B399.out) k_ hn_)), Or.elim hk_ (fun hs_ => Or.elim hs_ (fun hs_ => hs_.2.2) (fun hs_ => hs_.2.2)) (fun hn_ => (Fb (g := g400) (by (with_reducible repeat first | refine qN ?_ _ | refine qD ?_ | refine qA ?_ _); exact B400.out) k_ hn_))⟩)) (eZ (by repeat (first | (with_reducible first | exact HB.out | apply eA | apply eN | apply eD | refine eS ?_ GE399.out | refine eS ?_ GE400.out) | exact HB.out))))
             have n4_ := qM (Vl (Vm (ok' := fun k_ => some k_ ≠ (u13 : Value).ownBlock ∧ k_ ≠ g399 ∧ k_ ≠ g400) ho1 (fun k_ hk_ => ⟨Or.elim hk_ (fun hs_ => Or.elim hs_ (fun hs_ => hs_.1) (fun hs_ => hs_.1)) (fun hn_ => (Kd.fresh' (Kd.R_lt (by (with_reducible repeat first | apply RA | apply RN | apply RD); exact HO_13.out)) k_ hn_)), Or.elim hk_ (fun hs_ => Or.elim hs_ (fun hs_ => hs_.2.1) (fun hs_ => hs_.2.1)) (fun hn_ => (Fb (g := g399) (by (with_reducible repeat first | refine qN ?_ _ | refine qD ?_ | refine qA ?_ _); exact B399.out) k_ hn_)), Or.elim hk_ (fun hs_ => Or.elim hs_ (fun hs_ => hs_.2.2) (fun hs_ => hs_.2.2)) (fun hn_ => (Fb (g := g400) (by (with_reducible repeat first | refine qN ?_ _ | refine qD ?_ | refine qA ?_ _); exact B400.out) k_ hn_))⟩)) (eZ (by repeat (first | (with_reducible first | exact HB.out | apply eA | apply eN | apply eD | refine eS ?_ GE399.out | refine eS ?_ GE400.out) | exact HB.out))))
             have n5_ := qM (qB (g := g399) (by (with_reducible repeat first | refine qN ?_ _ | refine qD ?_ | refine qA ?_ _); exact B399.out) hb)
             have n6_ := qM (qB (g := g400) (by (with_reducible repeat first | refine qN ?_ _ | refine qD ?_ | refine qA ?_ _); exact B400.out) hb)
             have n7_ := qM (eT (by repeat (first | (with_reducible first | exact HB.out | apply eA | apply eN | apply eD | refine eS ?_ GE399.out | refine eS ?_ GE400.out) | exact HB.out)) hb)
             clear HO_13
             clear HO_401000
             clear HO_401001
             clear B399
             clear B400
             clear HB
             have HO_13 := n0_
             have HO_401000 := n1_
             have HO_401001 := n2_
             have HO420 := n3_
             have HO423 := n4_
             have B399 := n5_
             have B400 := n6_
             have HB := n7_
             clear n0_ n1_ n2_ n3_ n4_ n5_ n6_ n7_
             (try clear hb)
             (try clear hb2)
             (try clear hk)
             (try clear hi)
             (try clear ho0)
             (try clear ho1)
             refine hK.out _ _ ⟨(qC B400.out 0).trans rfl, (qC B400.out 1).trans rfl, (qC B400.out 2).trans rfl, (qC B400.out 3).trans rfl, ((HB.out.cell (World.block_lt_of_cell? w _ hw417_0)).trans hw417_0)⟩ (fun hHeld => ?_)
             clear hK K
             refine norm_ (a' := ?_) ?_ ?_
             rotate_left
             ·show Act.put _ (some 75) _ = _
              simp only [Act.put, xA, xZ, xS, i64_w, i32_w]
              rfl
             refine pure_ (i := 7) (N := some 68) (v := ?_) (a' := ?_) #[true, true, true, true, true, true, true, true, false, false, false, false, false] rfl rfl (any_of HT_.out (by kernel_rfl)) (fun _ _ _ h => h) (Or.inl ⟨by rfl, ?_⟩) ?_ ?_
             rotate_left
             ·intro w'; go_simp; with_reducible rfl
             rotate_left
             ·simp only [Act.put, xA, xZ, xS, i64_w, i32_w]; rfl
             refine pure_ (i := 8) (N := some 76) (v := ?_) (a' := ?_) #[true, true, true, true, true, true, true, true, true, false, false, false, false] rfl rfl (any_of HT_.out (by kernel_rfl)) (fun _ _ _ h => h) (Or.inl ⟨by rfl, ?_⟩) ?_ ?_
             rotate_left
             ·intro w'; go_simp; with_reducible rfl
             rotate_left
             ·simp only [Act.put, xA, xZ, xS, i64_w, i32_w]; rfl
             refine pure_ (i := 9) (N := some 77) (v := ?_) (a' := ?_) #[true, true, true, true, true, true, true, true, true, true, false, false, false] rfl rfl (any_of HT_.out (by kernel_rfl)) (fun _ _ _ h => h) (Or.inl ⟨by rfl, ?_⟩) ?_ ?_
             rotate_left
             ·intro w'; go_simp; with_reducible rfl
             rotate_left
             ·simp only [Act.put, xA, xZ, xS, i64_w, i32_w]; rfl
             refine one_ (i := 10) (N := some 15) #[true, true, true, true, true, true, true, true, true, true, true, false, false] rfl rfl (one_of HT_.out (by kernel_rfl)) (by decide) (fun K hK => ?_)
             refine box_step ?hg (N := 15) ?hd (cs := #[.slice none 0 0, .slice none 0 0, .int .i64 0, .bool false]) (t := 37) ?hr ?_; (case hd => rfl); (case hg => rfl); (case hr => first | (go_simp; done) | (go_simp; rfl))
             intro g427 hg w35 hbox hb
             have n0_ := qM (Kd.R_below (by (with_reducible repeat first | apply RA | apply RN | apply RD); exact HO_13.out) hb)
             have n1_ := qM (Vb (Kd.V_elderB (by (with_reducible repeat first | apply VA | apply VN | apply VD); exact HO_401000.out) g427 (Nat.le_of_eq hg.symm)) hb)
             have n2_ := qM (Vb (Kd.V_elderB (by (with_reducible repeat first | apply VA | apply VN | apply VD); exact HO_401001.out) g427 (Nat.le_of_eq hg.symm)) hb)
             have n3_ := qM (Vb (Kd.V_elderB (by (with_reducible repeat first | apply VA | apply VN | apply VD); exact HO420.out) g427 (Nat.le_of_eq hg.symm)) hb)
             have n4_ := qM (Vb (Kd.V_elderB (by (with_reducible repeat first | apply VA | apply VN | apply VD); exact HO423.out) g427 (Nat.le_of_eq hg.symm)) hb)
             have n5_ := qM (qB (g := g399) (by (with_reducible repeat first | refine qN ?_ _ | refine qD ?_ | refine qA ?_ _); exact B399.out) hb)
             have n6_ := qM (qB (g := g400) (by (with_reducible repeat first | refine qN ?_ _ | refine qD ?_ | refine qA ?_ _); exact B400.out) hb)
             have n7_ := qM (eT (by repeat (first | (with_reducible first | exact HB.out | apply eA | apply eN | apply eD | refine eS ?_ GE399.out | refine eS ?_ GE400.out) | exact HB.out)) hb)
             have n8_ := qM (hbox)
             have n9_ := qM ((by rw [hg]; exact (eZ (by repeat (first | (with_reducible first | exact HB.out | apply eA | apply eN | apply eD | refine eS ?_ GE399.out | refine eS ?_ GE400.out) | exact HB.out))) : w.heap.size ≤ g427))
             have n10_ := qM ((by rw [hg]; exact (eZ (by repeat (first | (with_reducible first | exact HB.out | apply eA | apply eN | apply eD | refine eS ?_ GE399.out | refine eS ?_ GE400.out) | exact HB.out))) : w.heap.size ≤ g427))
             have n11_ := qM ((by rw [hg]; exact Nat.ne_of_lt (qL (g := g399) (by (with_reducible repeat first | refine qN ?_ _ | refine qD ?_ | refine qA ?_ _); exact B399.out)) : g399 ≠ g427))
             have n12_ := qM ((by rw [hg]; exact Nat.ne_of_gt (qL (g := g399) (by (with_reducible repeat first | refine qN ?_ _ | refine qD ?_ | refine qA ?_ _); exact B399.out)) : g427 ≠ g399))
             have n13_ := qM ((by rw [hg]; exact Nat.ne_of_lt (qL (g := g400) (by (with_reducible repeat first | refine qN ?_ _ | refine qD ?_ | refine qA ?_ _); exact B400.out)) : g400 ≠ g427))
             have n14_ := qM ((by rw [hg]; exact Nat.ne_of_gt (qL (g := g400) (by (with_reducible repeat first | refine qN ?_ _ | refine qD ?_ | refine qA ?_ _); exact B400.out)) : g427 ≠ g400))
             clear HO_13
             clear HO_401000
             clear HO_401001
             clear HO420
             clear HO423
             clear B399
             clear B400
             clear HB
             have HO_13 := n0_
             have HO_401000 := n1_
             have HO_401001 := n2_
             have HO420 := n3_
             have HO423 := n4_
             have B399 := n5_
             have B400 := n6_
             have HB := n7_
             have B427 := n8_
             have GW427 := n9_
             have GE427 := n10_
             have NB399_427 := n11_
             have NB427_399 := n12_
             have NB400_427 := n13_
             have NB427_400 := n14_
             clear n0_ n1_ n2_ n3_ n4_ n5_ n6_ n7_ n8_ n9_ n10_ n11_ n12_ n13_ n14_
             clear hb hbox hg
             refine hK.out _ _ ⟨(qC B400.out 0).trans rfl, (qC B400.out 1).trans rfl, (qC B400.out 2).trans rfl, (qC B400.out 3).trans rfl, ((HB.out.cell (World.block_lt_of_cell? w _ hw417_0)).trans hw417_0)⟩ (fun hHeld => ?_)
             clear hK K
             refine norm_ (a' := ?_) ?_ ?_
             rotate_left
             ·show Act.put _ (some 15) _ = _
              simp only [Act.put, xA, xZ, xS, i64_w, i32_w]
              rfl
             exact norm_ (by simp only [putAll, Act.put, List.setIfInBounds_toArray, List.set_cons_zero, List.set_cons_succ]) (hCont (v419, v422, g427) _ ⟨hHeld, (by (with_reducible repeat first | apply VA | apply VN | apply VD); exact Vm HO420.out (fun _ hk => ⟨hk.1.1, ⟨hk.1.2.1, ⟨hk.1.2.2, hk.2⟩⟩⟩)), (by (with_reducible repeat first | apply VA | apply VN | apply VD); exact Vm HO423.out (fun _ hk => ⟨hk.1.1, ⟨hk.1.2.1, ⟨hk.1.2.2, hk.2⟩⟩⟩)), (by (with_reducible repeat first | apply RA | apply RN | apply RD); exact HO_13.out), (by (with_reducible repeat first | apply VA | apply VN | apply VD); exact Vm HO_401000.out (fun _ hk => ⟨hk.1.1, ⟨hk.1.2.1, ⟨hk.1.2.2, hk.2⟩⟩⟩)), (by (with_reducible repeat first | apply VA | apply VN | apply VD); exact Vm HO_401001.out (fun _ hk => ⟨hk.1.1, ⟨hk.1.2.1, ⟨hk.1.2.2, hk.2⟩⟩⟩)), (by (with_reducible repeat first | refine qN ?_ _ | refine qD ?_ | refine qA ?_ _); exact B399.out), (by (with_reducible repeat first | refine qN ?_ _ | refine qD ?_ | refine qA ?_ _); exact B400.out), (by (with_reducible repeat first | refine qN ?_ _ | refine qD ?_ | refine qA ?_ _); exact B427.out), GW427.out, GE427.out, NB399_427.out, NB427_399.out, NB400_427.out, NB427_400.out, (by repeat (first | (with_reducible first | exact HB.out | apply eA | apply eN | apply eD | refine eS ?_ GE399.out | refine eS ?_ GE400.out | refine eS ?_ GE427.out) | exact HB.out))⟩)
            ·skip
             refine box_step ?hg (N := 15) ?hd (cs := #[.slice none 0 0, .slice none 0 0, .int .i64 0, .bool false]) (t := 37) ?hr ?_; (case hd => rfl); (case hg => rfl); (case hr => first | (go_simp; done) | (go_simp; rfl))
             intro g427 hg w34 hbox hb
             have n0_ := qM (Kd.R_below (by (with_reducible repeat first | apply RA | apply RN | apply RD); exact HO_13.out) hb)
             have n1_ := qM (Vb (Kd.V_elderB (by (with_reducible repeat first | apply VA | apply VN | apply VD); exact HO_401000.out) g427 (Nat.le_of_eq hg.symm)) hb)
             have n2_ := qM (Vb (Kd.V_elderB (by (with_reducible repeat first | apply VA | apply VN | apply VD); exact HO_401001.out) g427 (Nat.le_of_eq hg.symm)) hb)
             have n3_ := qM (qB (g := g399) (by (with_reducible repeat first | refine qN ?_ _ | refine qD ?_ | refine qA ?_ _); exact B399.out) hb)
             have n4_ := qM (qB (g := g400) (by (with_reducible repeat first | refine qN ?_ _ | refine qD ?_ | refine qA ?_ _); exact B400.out) hb)
             have n5_ := qM (eT (by repeat (first | (with_reducible first | exact HB.out | apply eA | apply eN | apply eD | refine eS ?_ GE399.out | refine eS ?_ GE400.out) | exact HB.out)) hb)
             have n6_ := qM (hbox)
             have n7_ := qM ((by rw [hg]; exact (eZ (by repeat (first | (with_reducible first | exact HB.out | apply eA | apply eN | apply eD | refine eS ?_ GE399.out | refine eS ?_ GE400.out) | exact HB.out))) : w.heap.size ≤ g427))
             have n8_ := qM ((by rw [hg]; exact (eZ (by repeat (first | (with_reducible first | exact HB.out | apply eA | apply eN | apply eD | refine eS ?_ GE399.out | refine eS ?_ GE400.out) | exact HB.out))) : w.heap.size ≤ g427))
             have n9_ := qM ((by rw [hg]; exact Nat.ne_of_lt (qL (g := g399) (by (with_reducible repeat first | refine qN ?_ _ | refine qD ?_ | refine qA ?_ _); exact B399.out)) : g399 ≠ g427))
             have n10_ := qM ((by rw [hg]; exact Nat.ne_of_gt (qL (g := g399) (by (with_reducible repeat first | refine qN ?_ _ | refine qD ?_ | refine qA ?_ _); exact B399.out)) : g427 ≠ g399))
             have n11_ := qM ((by rw [hg]; exact Nat.ne_of_lt (qL (g := g400) (by (with_reducible repeat first | refine qN ?_ _ | refine qD ?_ | refine qA ?_ _); exact B400.out)) : g400 ≠ g427))
             have n12_ := qM ((by rw [hg]; exact Nat.ne_of_gt (qL (g := g400) (by (with_reducible repeat first | refine qN ?_ _ | refine qD ?_ | refine qA ?_ _); exact B400.out)) : g427 ≠ g400))
             clear HO_13
             clear HO_401000
             clear HO_401001
             clear B399
             clear B400
             clear HB
             have HO_13 := n0_
             have HO_401000 := n1_
             have HO_401001 := n2_
             have B399 := n3_
             have B400 := n4_
             have HB := n5_
             have B427 := n6_
             have GW427 := n7_
             have GE427 := n8_
             have NB399_427 := n9_
             have NB427_399 := n10_
             have NB400_427 := n11_
             have NB427_400 := n12_
             clear n0_ n1_ n2_ n3_ n4_ n5_ n6_ n7_ n8_ n9_ n10_ n11_ n12_
             clear hb hbox hg
             refine hK.out _ _ ⟨(qC B400.out 0).trans rfl, (qC B400.out 1).trans rfl, (qC B400.out 2).trans rfl, (qC B400.out 3).trans rfl, ((HB.out.cell (World.block_lt_of_cell? w _ hw417_0)).trans hw417_0)⟩ (fun hHeld => ?_)
             clear hK K
             refine norm_ (a' := ?_) ?_ ?_
             rotate_left
             ·show Act.put _ (some 15) _ = _
              simp only [Act.put, xA, xZ, xS, i64_w, i32_w]
              rfl
             refine one_ (i := 6) (N := some 75) #[true, true, true, true, true, true, true, false, false, false, true, false, false] rfl rfl (one_of HT_.out (by kernel_rfl)) (by decide) (fun K hK => ?_)
             refine goes_ Try.func17 (by kernel_rfl) rfl #[.agg #[.slice Ao31 x401000_2.length co31, .slice Ao32 x401001_2.length co32, .int .i64 x401002_2, .bool x401003_2], .int .i64 a0_4, .string (rdOf ByteArray.empty l0_5 x14_2)] (by rfl) rfl rfl (by (try simp only [List.map_toArray, List.map_cons, List.map_nil]); first | done | rfl | (simp only [List.length_drop, List.length_take]; rfl)) ?_
             with_reducible refine (cell_Write.calls kj23 (fun k_ => ((some k_ ≠ (u13 : Value).ownBlock ∧ (k_ ≠ g399 ∧ k_ ≠ g400)) ∧ k_ ≠ g427)) _ _ x401000_2 (fun k_ => ((some k_ ≠ (u13 : Value).ownBlock ∧ (k_ ≠ g399 ∧ k_ ≠ g400)) ∧ k_ ≠ g427)) _ _ x401001_2 x401002_2 x401003_2 a0_4 (rdOf ByteArray.empty l0_5 x14_2) t418 t421 t424 t425 t426 _ ?side1 ?side2 A29.out).mono ?_
             (case side1 => exact HO_401000.out)
             (case side2 => exact HO_401001.out)
             rintro e w35 ⟨v419, v422, rfl, ho0, ho1, hb⟩
             refine ⟨_, rfl, ?_⟩
             have n0_ := qM (Kd.R_below (by (with_reducible repeat first | apply RA | apply RN | apply RD); exact HO_13.out) hb)
             have n1_ := qM (Vb (by (with_reducible repeat first | apply VA | apply VN | apply VD); exact HO_401000.out) hb)
             have n2_ := qM (Vb (by (with_reducible repeat first | apply VA | apply VN | apply VD); exact HO_401001.out) hb)
             have n3_ := qM (Vl (Vm (ok' := fun k_ => some k_ ≠ (u13 : Value).ownBlock ∧ k_ ≠ g399 ∧ k_ ≠ g400 ∧ k_ ≠ g427) ho0 (fun k_ hk_ => ⟨Or.elim hk_ (fun hs_ => Or.elim hs_ (fun hs_ => hs_.1.1) (fun hs_ => hs_.1.1)) (fun hn_ => (Kd.fresh' (Kd.R_lt (by (with_reducible repeat first | apply RA | apply RN | apply RD); exact HO_13.out)) k_ hn_)), Or.elim hk_ (fun hs_ => Or.elim hs_ (fun hs_ => hs_.1.2.1) (fun hs_ => hs_.1.2.1)) (fun hn_ => (Fb (g := g399) (by (with_reducible repeat first | refine qN ?_ _ | refine qD ?_ | refine qA ?_ _); exact B399.out) k_ hn_)), Or.elim hk_ (fun hs_ => Or.elim hs_ (fun hs_ => hs_.1.2.2) (fun hs_ => hs_.1.2.2)) (fun hn_ => (Fb (g := g400) (by (with_reducible repeat first | refine qN ?_ _ | refine qD ?_ | refine qA ?_ _); exact B400.out) k_ hn_)), Or.elim hk_ (fun hs_ => Or.elim hs_ (fun hs_ => hs_.2) (fun hs_ => hs_.2)) (fun hn_ => (Fb (g := g427) (by (with_reducible repeat first | refine qN ?_ _ | refine qD ?_ | refine qA ?_ _); exact B427.out) k_ hn_))⟩)) (eZ (by repeat (first | (with_reducible first | exact HB.out | apply eA | apply eN | apply eD | refine eS ?_ GE399.out | refine eS ?_ GE400.out | refine eS ?_ GE427.out) | exact HB.out))))
             have n4_ := qM (Vl (Vm (ok' := fun k_ => some k_ ≠ (u13 : Value).ownBlock ∧ k_ ≠ g399 ∧ k_ ≠ g400 ∧ k_ ≠ g427) ho1 (fun k_ hk_ => ⟨Or.elim hk_ (fun hs_ => Or.elim hs_ (fun hs_ => hs_.1.1) (fun hs_ => hs_.1.1)) (fun hn_ => (Kd.fresh' (Kd.R_lt (by (with_reducible repeat first | apply RA | apply RN | apply RD); exact HO_13.out)) k_ hn_)), Or.elim hk_ (fun hs_ => Or.elim hs_ (fun hs_ => hs_.1.2.1) (fun hs_ => hs_.1.2.1)) (fun hn_ => (Fb (g := g399) (by (with_reducible repeat first | refine qN ?_ _ | refine qD ?_ | refine qA ?_ _); exact B399.out) k_ hn_)), Or.elim hk_ (fun hs_ => Or.elim hs_ (fun hs_ => hs_.1.2.2) (fun hs_ => hs_.1.2.2)) (fun hn_ => (Fb (g := g400) (by (with_reducible repeat first | refine qN ?_ _ | refine qD ?_ | refine qA ?_ _); exact B400.out) k_ hn_)), Or.elim hk_ (fun hs_ => Or.elim hs_ (fun hs_ => hs_.2) (fun hs_ => hs_.2)) (fun hn_ => (Fb (g := g427) (by (with_reducible repeat first | refine qN ?_ _ | refine qD ?_ | refine qA ?_ _); exact B427.out) k_ hn_))⟩)) (eZ (by repeat (first | (with_reducible first | exact HB.out | apply eA | apply eN | apply eD | refine eS ?_ GE399.out | refine eS ?_ GE400.out | refine eS ?_ GE427.out) | exact HB.out))))
             have n5_ := qM (qB (g := g399) (by (with_reducible repeat first | refine qN ?_ _ | refine qD ?_ | refine qA ?_ _); exact B399.out) hb)
             have n6_ := qM (qB (g := g400) (by (with_reducible repeat first | refine qN ?_ _ | refine qD ?_ | refine qA ?_ _); exact B400.out) hb)
             have n7_ := qM (qB (g := g427) (by (with_reducible repeat first | refine qN ?_ _ | refine qD ?_ | refine qA ?_ _); exact B427.out) hb)
             have n8_ := qM (eT (by repeat (first | (with_reducible first | exact HB.out | apply eA | apply eN | apply eD | refine eS ?_ GE399.out | refine eS ?_ GE400.out | refine eS ?_ GE427.out) | exact HB.out)) hb)
             clear HO_13
             clear HO_401000
             clear HO_401001
             clear B399
             clear B400
             clear B427
             clear HB
             have HO_13 := n0_
             have HO_401000 := n1_
             have HO_401001 := n2_
             have HO420 := n3_
             have HO423 := n4_
             have B399 := n5_
             have B400 := n6_
             have B427 := n7_
             have HB := n8_
             clear n0_ n1_ n2_ n3_ n4_ n5_ n6_ n7_ n8_
             (try clear hb)
             (try clear hb2)
             (try clear hk)
             (try clear hi)
             (try clear ho0)
             (try clear ho1)
             refine hK.out _ _ ⟨(qC B400.out 0).trans rfl, (qC B400.out 1).trans rfl, (qC B400.out 2).trans rfl, (qC B400.out 3).trans rfl, ((HB.out.cell (World.block_lt_of_cell? w _ hw417_0)).trans hw417_0)⟩ (fun hHeld => ?_)
             clear hK K
             refine norm_ (a' := ?_) ?_ ?_
             rotate_left
             ·show Act.put _ (some 75) _ = _
              simp only [Act.put, xA, xZ, xS, i64_w, i32_w]
              rfl
             refine pure_ (i := 7) (N := some 68) (v := ?_) (a' := ?_) #[true, true, true, true, true, true, true, true, false, false, true, false, false] rfl rfl (any_of HT_.out (by kernel_rfl)) (fun _ _ _ h => h) (Or.inl ⟨by rfl, ?_⟩) ?_ ?_
             rotate_left
             ·intro w'; go_simp; with_reducible rfl
             rotate_left
             ·simp only [Act.put, xA, xZ, xS, i64_w, i32_w]; rfl
             refine pure_ (i := 8) (N := some 76) (v := ?_) (a' := ?_) #[true, true, true, true, true, true, true, true, true, false, true, false, false] rfl rfl (any_of HT_.out (by kernel_rfl)) (fun _ _ _ h => h) (Or.inl ⟨by rfl, ?_⟩) ?_ ?_
             rotate_left
             ·intro w'; go_simp; with_reducible rfl
             rotate_left
             ·simp only [Act.put, xA, xZ, xS, i64_w, i32_w]; rfl
             refine pure_ (i := 9) (N := some 77) (v := ?_) (a' := ?_) #[true, true, true, true, true, true, true, true, true, true, true, false, false] rfl rfl (any_of HT_.out (by kernel_rfl)) (fun _ _ _ h => h) (Or.inl ⟨by rfl, ?_⟩) ?_ ?_
             rotate_left
             ·intro w'; go_simp; with_reducible rfl
             rotate_left
             ·simp only [Act.put, xA, xZ, xS, i64_w, i32_w]; rfl
             exact norm_ (by simp only [putAll, Act.put, List.setIfInBounds_toArray, List.set_cons_zero, List.set_cons_succ]) (hCont (v419, v422, g427) _ ⟨hHeld, (by (with_reducible repeat first | apply VA | apply VN | apply VD); exact HO420.out), (by (with_reducible repeat first | apply VA | apply VN | apply VD); exact HO423.out), (by (with_reducible repeat first | apply RA | apply RN | apply RD); exact HO_13.out), (by (with_reducible repeat first | apply VA | apply VN | apply VD); exact Vm HO_401000.out (fun _ hk => ⟨hk.1.1, ⟨hk.1.2.1, ⟨hk.1.2.2, hk.2⟩⟩⟩)), (by (with_reducible repeat first | apply VA | apply VN | apply VD); exact Vm HO_401001.out (fun _ hk => ⟨hk.1.1, ⟨hk.1.2.1, ⟨hk.1.2.2, hk.2⟩⟩⟩)), (by (with_reducible repeat first | refine qN ?_ _ | refine qD ?_ | refine qA ?_ _); exact B399.out), (by (with_reducible repeat first | refine qN ?_ _ | refine qD ?_ | refine qA ?_ _); exact B400.out), (by (with_reducible repeat first | refine qN ?_ _ | refine qD ?_ | refine qA ?_ _); exact B427.out), GW427.out, GE427.out, NB399_427.out, NB427_399.out, NB400_427.out, NB427_400.out, (by repeat (first | (with_reducible first | exact HB.out | apply eA | apply eN | apply eD | refine eS ?_ GE399.out | refine eS ?_ GE400.out | refine eS ?_ GE427.out) | exact HB.out))⟩)
           rintro ⟨v419, v422, g427⟩ w36 ⟨hS_, h0_, h1_, h2_, h3_, h4_, h5_, h6_, h7_, h8_, h9_, h10_, h11_, h12_, h13_, h14_⟩
           have n0_ : Aside0 (Kd.V Kd.string 9 w36 w.heap.size (fun k_ => some k_ ≠ (u13 : Value).ownBlock ∧ k_ ≠ g399 ∧ k_ ≠ g400 ∧ k_ ≠ g427) v419 t418) := ⟨h0_⟩
           have n1_ : Aside0 (Kd.V k77 77 w36 w.heap.size (fun k_ => some k_ ≠ (u13 : Value).ownBlock ∧ k_ ≠ g399 ∧ k_ ≠ g400 ∧ k_ ≠ g427) v422 t421) := ⟨h1_⟩
           have n2_ : Aside0 (Kd.R Kd.string 9 w36 w.heap.size (fun _ => True) u13 x13_2) := ⟨h2_⟩
           have n3_ : Aside0 (Kd.V Kd.string 9 w36 w.heap.size (fun k_ => some k_ ≠ (u13 : Value).ownBlock ∧ k_ ≠ g399 ∧ k_ ≠ g400 ∧ k_ ≠ g427) (.slice Ao31 x401000_2.length co31) x401000_2) := ⟨h3_⟩
           have n4_ : Aside0 (Kd.V k77 77 w36 w.heap.size (fun k_ => some k_ ≠ (u13 : Value).ownBlock ∧ k_ ≠ g399 ∧ k_ ≠ g400 ∧ k_ ≠ g427) (.slice Ao32 x401001_2.length co32) x401001_2) := ⟨h4_⟩
           have n5_ : Aside0 (w36.heap[g399]? = some (.cells #[.slice A0_0 l0_0.length c0_0, .slice A0_1 l0_1.length c0_1, .int .i64 a0_2, .bool a0_3, .int .i64 a0_4, .slice (some ad417) l0_5.length c0_5, .int .i64 a0_6, .int .i64 a0_7] 50 (0, 0))) := ⟨h5_⟩
           have n6_ : Aside0 (w36.heap[g400]? = some (.cells #[.slice Ao31 x401000_2.length co31, .slice Ao32 x401001_2.length co32, .int .i64 x401002_2, .bool x401003_2] 37 (0, 0))) := ⟨h6_⟩
           have n7_ : Aside0 (w36.heap[g427]? = some (.cells #[.slice none 0 0, .slice none 0 0, .int .i64 0, .bool false] 37 (0, 0))) := ⟨h7_⟩
           have n8_ : Aside0 (w.heap.size ≤ g427) := ⟨h8_⟩
           have n9_ : Aside0 (w.heap.size ≤ g427) := ⟨h9_⟩
           have n10_ : Aside0 (g399 ≠ g427) := ⟨h10_⟩
           have n11_ : Aside0 (g427 ≠ g399) := ⟨h11_⟩
           have n12_ : Aside0 (g400 ≠ g427) := ⟨h12_⟩
           have n13_ : Aside0 (g427 ≠ g400) := ⟨h13_⟩
           have n14_ : Aside0 (Below w.heap.size w w36) := ⟨h14_⟩
           clear HO_13
           clear HO_401000
           clear HO_401001
           clear B399
           clear B400
           clear HB
           clear h0_ h1_ h2_ h3_ h4_ h5_ h6_ h7_ h8_ h9_ h10_ h11_ h12_ h13_ h14_
           have HO420 := n0_
           have HO423 := n1_
           have HO_13 := n2_
           have HO_401000 := n3_
           have HO_401001 := n4_
           have B399 := n5_
           have B400 := n6_
           have B427 := n7_
           have GW427 := n8_
           have GE427 := n9_
           have NB399_427 := n10_
           have NB427_399 := n11_
           have NB400_427 := n12_
           have NB427_400 := n13_
           have HB := n14_
           clear n0_ n1_ n2_ n3_ n4_ n5_ n6_ n7_ n8_ n9_ n10_ n11_ n12_ n13_ n14_
           have hHeld : w36.cell? ⟨g400, 0, none⟩ = some (.slice Ao31 x401000_2.length co31) ∧ w36.cell? ⟨g400, 1, none⟩ = some (.slice Ao32 x401001_2.length co32) ∧ w36.cell? ⟨g400, 2, none⟩ = some (.int .i64 x401002_2) ∧ w36.cell? ⟨g400, 3, none⟩ = some (.bool x401003_2) ∧ w36.cell? (ad417.add (x14_2).toNat) = some (.string (rdOf ByteArray.empty l0_5 x14_2)) := hS_
           obtain ⟨Ao37, co37, eo37⟩ := Kd.V_slice HO420.out
           (first | subst eo37 | (injection eo37 with f1_ f2_ f3_; have f4_ := f1_.symm; have f5_ := f3_.symm; clear f1_ f2_ f3_; subst f4_; subst f5_))
           obtain ⟨Ao39, co39, eo39⟩ := Kd.V_slice HO423.out
           (first | subst eo39 | (injection eo39 with f1_ f2_ f3_; have f4_ := f1_.symm; have f5_ := f3_.symm; clear f1_ f2_ f3_; subst f4_; subst f5_))
           refine norm_ (a' := ?_) ?_ ?_
           rotate_left
           ·simp only [putAll, Act.put, List.setIfInBounds_toArray, List.set_cons_zero, List.set_cons_succ]; rfl
           refine one_ (i := 11) (N := none) #[true, true, true, true, true, true, true, true, true, true, true, true, false] rfl rfl (one_of HT_.out (by kernel_rfl)) (by decide) (fun K hK => ?_)
           have hs38 : w36.cell? ⟨g427, 0, none⟩ = some (.slice none 0 0) := (qC B427.out 0).trans rfl
           have hfs38 := qF B427.out 0
           have hns38_0 := NB399_427.out
           have hns38_1 := NB400_427.out
           have hms38_0 := NB427_399.out
           have hms38_1 := NB427_400.out
           have hs40 : w36.cell? ⟨g427, 1, none⟩ = some (.slice none 0 0) := (qC B427.out 1).trans rfl
           have hfs40 := qF B427.out 1
           have hns40_0 := NB399_427.out
           have hns40_1 := NB400_427.out
           have hms40_0 := NB427_399.out
           have hms40_1 := NB427_400.out
           have hs41 : w36.cell? ⟨g427, 2, none⟩ = some (.int .i64 0) := (qC B427.out 2).trans rfl
           have hfs41 := qF B427.out 2
           have hns41_0 := NB399_427.out
           have hns41_1 := NB400_427.out
           have hms41_0 := NB427_399.out
           have hms41_1 := NB427_400.out
           have hs42 : w36.cell? ⟨g427, 3, none⟩ = some (.bool false) := (qC B427.out 3).trans rfl
           have hfs42 := qF B427.out 3
           have hns42_0 := NB399_427.out
           have hns42_1 := NB400_427.out
           have hms42_0 := NB427_399.out
           have hms42_1 := NB427_400.out
           refine skip_ (w1 := ?_) (by rfl) rfl ?_ ?_
           rotate_left
           ·go_simp; rfl
           refine hK.out _ _ ⟨((far4 (g := g427) NB400_427.out).trans (hHeld.1)), ((far4 (g := g427) NB400_427.out).trans (hHeld.2.1)), ((far4 (g := g427) NB400_427.out).trans (hHeld.2.2.1)), ((far4 (g := g427) NB400_427.out).trans (hHeld.2.2.2.1)), ((far4 (g := g427) (by first | exact Nat.ne_of_lt (Nat.lt_of_lt_of_le (by have := World.block_lt_of_cell? _ _ hw417_0; first | rwa [add_block] at this | exact this) GW427.out) | (rw [add_block]; exact Nat.ne_of_lt (Nat.lt_of_lt_of_le (by have := World.block_lt_of_cell? _ _ hw417_0; first | rwa [add_block] at this | exact this) GW427.out)) | (show (Addr.add _ _).block ≠ _; rw [add_block]; exact Nat.ne_of_lt (Nat.lt_of_lt_of_le (by have := World.block_lt_of_cell? _ _ hw417_0; first | rwa [add_block] at this | exact this) GW427.out)) | (dsimp only; exact Nat.ne_of_lt (Nat.lt_of_lt_of_le (by have := World.block_lt_of_cell? _ _ hw417_0; first | rwa [add_block] at this | exact this) GW427.out)))).trans (hHeld.2.2.2.2))⟩ (fun hHeld => ?_)
           clear hK K
           refine pure_ (i := 12) (N := some 16) (v := ?_) (a' := ?_) #[true, true, true, true, true, true, true, true, true, true, true, true, true] rfl rfl (any_of HT_.out (by kernel_rfl)) (fun _ _ _ h => h) (Or.inl ⟨by rfl, ?_⟩) ?_ ?_
           rotate_left
           ·intro w'; go_simp; with_reducible rfl
           rotate_left
           ·simp only [Act.put, xA, xZ, xS, i64_w, i32_w]; rfl
           refine done_ (done_of HT_.out (by kernel_rfl)) ?_
           have hnb43 := NB427_399.out
           have hnc43 := NB399_427.out
           have hnb44 := NB427_400.out
           have hnc44 := NB400_427.out
           obtain ⟨z45_0, z45_1, z45_2, z45_3, f45_0, f45_1, f45_2, f45_3⟩ := cells4 B427.out
           have hnb46 := NB400_399.out
           have hnc46 := NB399_400.out
           obtain ⟨z47_0, z47_1, z47_2, z47_3, f47_0, f47_1, f47_2, f47_3⟩ := cells4 B400.out
           go_upto_region 17 with (fail)
           go_cut [84] (fun v84 wc => ∃ (kq : Nat) (x84_29 : Bool), v84 = .bool x84_29 ∧ Aside0 (hogsheadlaw09_CellLasts.j3 kq a0_4 l0_5 a0_6 a0_7 t401 t413 x13_2 x14_2 x84_29 t418 t421 t424 t425 = some r) ∧ Aside0 (kq ≤ kj23) ∧ Aside0 (Kd.R Kd.string 9 wc w.heap.size (fun _ => True) u13 x13_2) ∧ Aside0 (Kd.V Kd.string 9 wc w.heap.size (fun k_ => some k_ ≠ (u13 : Value).ownBlock ∧ k_ ≠ g399 ∧ k_ ≠ g400 ∧ k_ ≠ g427) (.slice Ao37 t418.length co37) t418) ∧ Aside0 (Kd.V k77 77 wc w.heap.size (fun k_ => some k_ ≠ (u13 : Value).ownBlock ∧ k_ ≠ g399 ∧ k_ ≠ g400 ∧ k_ ≠ g427) (.slice Ao39 t421.length co39) t421) ∧ Aside0 (Kd.V Kd.string 9 wc w.heap.size (fun k_ => some k_ ≠ (u13 : Value).ownBlock ∧ k_ ≠ g399 ∧ k_ ≠ g400 ∧ k_ ≠ g427) (.slice Ao37 t418.length co37) t418) ∧ Aside0 (Kd.V k77 77 wc w.heap.size (fun k_ => some k_ ≠ (u13 : Value).ownBlock ∧ k_ ≠ g399 ∧ k_ ≠ g400 ∧ k_ ≠ g427) (.slice Ao39 t421.length co39) t421) ∧ Aside0 (wc.heap[g399]? = some (.cells #[(.slice A0_0 l0_0.length c0_0), (.slice A0_1 l0_1.length c0_1), .int .i64 a0_2, .bool a0_3, .int .i64 a0_4, (.slice (some ad417) l0_5.length c0_5), .int .i64 a0_6, .int .i64 a0_7] 50 (0, 0))) ∧ Aside0 (wc.heap[g400]? = some (.cells #[(.slice Ao37 t418.length co37), (.slice Ao39 t421.length co39), .int .i64 t424, .bool t425] 37 (0, 0))) ∧ Aside0 (wc.heap[g427]? = some (.cells #[(.slice Ao37 t418.length co37), (.slice Ao39 t421.length co39), .int .i64 t424, .bool t425] 37 (0, 0))) ∧ Aside0 (Below w.heap.size w wc))
           case first =>
            have H := HC30.out
            clear HC30
            by_cases c48 : t426 = 0
            ·rw [if_pos c48] at H
             have c48b0 : (t426 == 0) = true := beq_iff_eq.mpr c48
             have c48b1 : (t426 != 0) = false := bne_eq_false_iff_eq.mpr c48
             clear c48
             (first | rw [c48b0] | (simp only [i64_w, i32_w]; rw [c48b0]) | skip)
             have H' := qM H
             clear H
             go_wp2
             go_meet
             case rel => exact ⟨_, (true), (by first | rfl | (simp; done) | (simp [*]; done)), H', ⟨by have := HJ4.out; have := HK2.out; have := HJ23.out; first | omega | exact Nat.le_refl _⟩, ⟨by (with_reducible repeat first | apply RA | apply RN | apply RD); exact Kd.R_mono (Kd.R_far (p := ⟨g400, 3, none⟩) (Kd.R_far (p := ⟨g400, 2, none⟩) (Kd.R_far (p := ⟨g400, 1, none⟩) (Kd.R_far (p := ⟨g400, 0, none⟩) (Kd.R_far (p := ⟨g427, 3, none⟩) (Kd.R_far (p := ⟨g427, 2, none⟩) (Kd.R_far (p := ⟨g427, 1, none⟩) (Kd.R_far (p := ⟨g427, 0, none⟩) (Kd.R_types (Kd.R_types HO_13.out B427.out (by decide)) B400.out (by decide)) (fun _ hk => hk.1.2) (.slice Ao37 t418.length co37)) (fun _ hk => hk.1.2) (.slice Ao39 t421.length co39)) (fun _ hk => hk.1.2) (.int .i64 t424)) (fun _ hk => hk.1.2) (.bool t425)) (fun _ hk => hk.2) (.slice Ao37 t418.length co37)) (fun _ hk => hk.2) (.slice Ao39 t421.length co39)) (fun _ hk => hk.2) (.int .i64 t424)) (fun _ hk => hk.2) (.bool t425)) (fun _ hk => trivial)⟩, ⟨by (with_reducible repeat first | apply VA | apply VN | apply VD); exact Vm (Vf (p := ⟨g400, 3, none⟩) (Vf (p := ⟨g400, 2, none⟩) (Vf (p := ⟨g400, 1, none⟩) (Vf (p := ⟨g400, 0, none⟩) (Vf (p := ⟨g427, 3, none⟩) (Vf (p := ⟨g427, 2, none⟩) (Vf (p := ⟨g427, 1, none⟩) (Vf (p := ⟨g427, 0, none⟩) (Vm (Vm HO420.out (fun k_ hk => (⟨hk, hk.2.2.2⟩ : _ ∧ k_ ≠ g427))) (fun k_ hk => (⟨hk, hk.1.2.2.1⟩ : _ ∧ k_ ≠ g400))) (fun _ hk => hk.1.2) (.slice Ao37 t418.length co37)) (fun _ hk => hk.1.2) (.slice Ao39 t421.length co39)) (fun _ hk => hk.1.2) (.int .i64 t424)) (fun _ hk => hk.1.2) (.bool t425)) (fun _ hk => hk.2) (.slice Ao37 t418.length co37)) (fun _ hk => hk.2) (.slice Ao39 t421.length co39)) (fun _ hk => hk.2) (.int .i64 t424)) (fun _ hk => hk.2) (.bool t425)) (fun _ hk => ⟨hk.1.1.1, ⟨hk.1.1.2.1, ⟨hk.1.1.2.2.1, hk.1.1.2.2.2⟩⟩⟩)⟩, ⟨by (with_reducible repeat first | apply VA | apply VN | apply VD); exact Vm (Vf (p := ⟨g400, 3, none⟩) (Vf (p := ⟨g400, 2, none⟩) (Vf (p := ⟨g400, 1, none⟩) (Vf (p := ⟨g400, 0, none⟩) (Vf (p := ⟨g427, 3, none⟩) (Vf (p := ⟨g427, 2, none⟩) (Vf (p := ⟨g427, 1, none⟩) (Vf (p := ⟨g427, 0, none⟩) (Vm (Vm HO423.out (fun k_ hk => (⟨hk, hk.2.2.2⟩ : _ ∧ k_ ≠ g427))) (fun k_ hk => (⟨hk, hk.1.2.2.1⟩ : _ ∧ k_ ≠ g400))) (fun _ hk => hk.1.2) (.slice Ao37 t418.length co37)) (fun _ hk => hk.1.2) (.slice Ao39 t421.length co39)) (fun _ hk => hk.1.2) (.int .i64 t424)) (fun _ hk => hk.1.2) (.bool t425)) (fun _ hk => hk.2) (.slice Ao37 t418.length co37)) (fun _ hk => hk.2) (.slice Ao39 t421.length co39)) (fun _ hk => hk.2) (.int .i64 t424)) (fun _ hk => hk.2) (.bool t425)) (fun _ hk => ⟨hk.1.1.1, ⟨hk.1.1.2.1, ⟨hk.1.1.2.2.1, hk.1.1.2.2.2⟩⟩⟩)⟩, ⟨by (with_reducible repeat first | apply VA | apply VN | apply VD); exact Vm (Vf (p := ⟨g400, 3, none⟩) (Vf (p := ⟨g400, 2, none⟩) (Vf (p := ⟨g400, 1, none⟩) (Vf (p := ⟨g400, 0, none⟩) (Vf (p := ⟨g427, 3, none⟩) (Vf (p := ⟨g427, 2, none⟩) (Vf (p := ⟨g427, 1, none⟩) (Vf (p := ⟨g427, 0, none⟩) (Vm (Vm HO420.out (fun k_ hk => (⟨hk, hk.2.2.2⟩ : _ ∧ k_ ≠ g427))) (fun k_ hk => (⟨hk, hk.1.2.2.1⟩ : _ ∧ k_ ≠ g400))) (fun _ hk => hk.1.2) (.slice Ao37 t418.length co37)) (fun _ hk => hk.1.2) (.slice Ao39 t421.length co39)) (fun _ hk => hk.1.2) (.int .i64 t424)) (fun _ hk => hk.1.2) (.bool t425)) (fun _ hk => hk.2) (.slice Ao37 t418.length co37)) (fun _ hk => hk.2) (.slice Ao39 t421.length co39)) (fun _ hk => hk.2) (.int .i64 t424)) (fun _ hk => hk.2) (.bool t425)) (fun _ hk => ⟨hk.1.1.1, ⟨hk.1.1.2.1, ⟨hk.1.1.2.2.1, hk.1.1.2.2.2⟩⟩⟩)⟩, ⟨by (with_reducible repeat first | apply VA | apply VN | apply VD); exact Vm (Vf (p := ⟨g400, 3, none⟩) (Vf (p := ⟨g400, 2, none⟩) (Vf (p := ⟨g400, 1, none⟩) (Vf (p := ⟨g400, 0, none⟩) (Vf (p := ⟨g427, 3, none⟩) (Vf (p := ⟨g427, 2, none⟩) (Vf (p := ⟨g427, 1, none⟩) (Vf (p := ⟨g427, 0, none⟩) (Vm (Vm HO423.out (fun k_ hk => (⟨hk, hk.2.2.2⟩ : _ ∧ k_ ≠ g427))) (fun k_ hk => (⟨hk, hk.1.2.2.1⟩ : _ ∧ k_ ≠ g400))) (fun _ hk => hk.1.2) (.slice Ao37 t418.length co37)) (fun _ hk => hk.1.2) (.slice Ao39 t421.length co39)) (fun _ hk => hk.1.2) (.int .i64 t424)) (fun _ hk => hk.1.2) (.bool t425)) (fun _ hk => hk.2) (.slice Ao37 t418.length co37)) (fun _ hk => hk.2) (.slice Ao39 t421.length co39)) (fun _ hk => hk.2) (.int .i64 t424)) (fun _ hk => hk.2) (.bool t425)) (fun _ hk => ⟨hk.1.1.1, ⟨hk.1.1.2.1, ⟨hk.1.1.2.2.1, hk.1.1.2.2.2⟩⟩⟩)⟩, ⟨by (with_reducible repeat first | refine qN ?_ _ | refine qD ?_ | refine qA ?_ _); (iterate 4 (refine qR ?_ NB399_400.out _; (with_reducible repeat first | refine qN ?_ _ | refine qD ?_ | refine qA ?_ _))); (iterate 4 (refine qR ?_ NB399_427.out _; (with_reducible repeat first | refine qN ?_ _ | refine qD ?_ | refine qA ?_ _))); exact B399.out⟩, ⟨by (with_reducible repeat first | refine qN ?_ _ | refine qD ?_ | refine qA ?_ _); apply puts4; (with_reducible repeat first | refine qN ?_ _ | refine qD ?_ | refine qA ?_ _); (iterate 4 (refine qR ?_ NB400_427.out _; (with_reducible repeat first | refine qN ?_ _ | refine qD ?_ | refine qA ?_ _))); exact B400.out⟩, ⟨by (with_reducible repeat first | refine qN ?_ _ | refine qD ?_ | refine qA ?_ _); (iterate 4 (refine qR ?_ NB427_400.out _; (with_reducible repeat first | refine qN ?_ _ | refine qD ?_ | refine qA ?_ _))); apply puts4; (with_reducible repeat first | refine qN ?_ _ | refine qD ?_ | refine qA ?_ _); exact B427.out⟩, ⟨by repeat (first | (with_reducible first | exact HB.out | apply eA | apply eN | apply eD | refine eS ?_ GE399.out | refine eS ?_ GE400.out | refine eS ?_ GE427.out) | exact HB.out)⟩⟩
            ·rw [if_neg c48] at H
             have c48b0 : (t426 == 0) = false := beq_eq_false_iff_ne.mpr c48
             have c48b1 : (t426 != 0) = true := bne_iff_ne.mpr c48
             (first | rw [c48b0] | (simp only [i64_w, i32_w]; rw [c48b0]) | skip)
             have H' := qM H
             clear H
             go_wp2
             go_meet
             case rel => exact ⟨_, ((t426 == 6)), (by first | rfl | (simp; done) | (simp [*]; done)), H', ⟨by have := HJ4.out; have := HK2.out; have := HJ23.out; first | omega | exact Nat.le_refl _⟩, ⟨by (with_reducible repeat first | apply RA | apply RN | apply RD); exact Kd.R_mono (Kd.R_far (p := ⟨g400, 3, none⟩) (Kd.R_far (p := ⟨g400, 2, none⟩) (Kd.R_far (p := ⟨g400, 1, none⟩) (Kd.R_far (p := ⟨g400, 0, none⟩) (Kd.R_far (p := ⟨g427, 3, none⟩) (Kd.R_far (p := ⟨g427, 2, none⟩) (Kd.R_far (p := ⟨g427, 1, none⟩) (Kd.R_far (p := ⟨g427, 0, none⟩) (Kd.R_types (Kd.R_types HO_13.out B427.out (by decide)) B400.out (by decide)) (fun _ hk => hk.1.2) (.slice Ao37 t418.length co37)) (fun _ hk => hk.1.2) (.slice Ao39 t421.length co39)) (fun _ hk => hk.1.2) (.int .i64 t424)) (fun _ hk => hk.1.2) (.bool t425)) (fun _ hk => hk.2) (.slice Ao37 t418.length co37)) (fun _ hk => hk.2) (.slice Ao39 t421.length co39)) (fun _ hk => hk.2) (.int .i64 t424)) (fun _ hk => hk.2) (.bool t425)) (fun _ hk => trivial)⟩, ⟨by (with_reducible repeat first | apply VA | apply VN | apply VD); exact Vm (Vf (p := ⟨g400, 3, none⟩) (Vf (p := ⟨g400, 2, none⟩) (Vf (p := ⟨g400, 1, none⟩) (Vf (p := ⟨g400, 0, none⟩) (Vf (p := ⟨g427, 3, none⟩) (Vf (p := ⟨g427, 2, none⟩) (Vf (p := ⟨g427, 1, none⟩) (Vf (p := ⟨g427, 0, none⟩) (Vm (Vm HO420.out (fun k_ hk => (⟨hk, hk.2.2.2⟩ : _ ∧ k_ ≠ g427))) (fun k_ hk => (⟨hk, hk.1.2.2.1⟩ : _ ∧ k_ ≠ g400))) (fun _ hk => hk.1.2) (.slice Ao37 t418.length co37)) (fun _ hk => hk.1.2) (.slice Ao39 t421.length co39)) (fun _ hk => hk.1.2) (.int .i64 t424)) (fun _ hk => hk.1.2) (.bool t425)) (fun _ hk => hk.2) (.slice Ao37 t418.length co37)) (fun _ hk => hk.2) (.slice Ao39 t421.length co39)) (fun _ hk => hk.2) (.int .i64 t424)) (fun _ hk => hk.2) (.bool t425)) (fun _ hk => ⟨hk.1.1.1, ⟨hk.1.1.2.1, ⟨hk.1.1.2.2.1, hk.1.1.2.2.2⟩⟩⟩)⟩, ⟨by (with_reducible repeat first | apply VA | apply VN | apply VD); exact Vm (Vf (p := ⟨g400, 3, none⟩) (Vf (p := ⟨g400, 2, none⟩) (Vf (p := ⟨g400, 1, none⟩) (Vf (p := ⟨g400, 0, none⟩) (Vf (p := ⟨g427, 3, none⟩) (Vf (p := ⟨g427, 2, none⟩) (Vf (p := ⟨g427, 1, none⟩) (Vf (p := ⟨g427, 0, none⟩) (Vm (Vm HO423.out (fun k_ hk => (⟨hk, hk.2.2.2⟩ : _ ∧ k_ ≠ g427))) (fun k_ hk => (⟨hk, hk.1.2.2.1⟩ : _ ∧ k_ ≠ g400))) (fun _ hk => hk.1.2) (.slice Ao37 t418.length co37)) (fun _ hk => hk.1.2) (.slice Ao39 t421.length co39)) (fun _ hk => hk.1.2) (.int .i64 t424)) (fun _ hk => hk.1.2) (.bool t425)) (fun _ hk => hk.2) (.slice Ao37 t418.length co37)) (fun _ hk => hk.2) (.slice Ao39 t421.length co39)) (fun _ hk => hk.2) (.int .i64 t424)) (fun _ hk => hk.2) (.bool t425)) (fun _ hk => ⟨hk.1.1.1, ⟨hk.1.1.2.1, ⟨hk.1.1.2.2.1, hk.1.1.2.2.2⟩⟩⟩)⟩, ⟨by (with_reducible repeat first | apply VA | apply VN | apply VD); exact Vm (Vf (p := ⟨g400, 3, none⟩) (Vf (p := ⟨g400, 2, none⟩) (Vf (p := ⟨g400, 1, none⟩) (Vf (p := ⟨g400, 0, none⟩) (Vf (p := ⟨g427, 3, none⟩) (Vf (p := ⟨g427, 2, none⟩) (Vf (p := ⟨g427, 1, none⟩) (Vf (p := ⟨g427, 0, none⟩) (Vm (Vm HO420.out (fun k_ hk => (⟨hk, hk.2.2.2⟩ : _ ∧ k_ ≠ g427))) (fun k_ hk => (⟨hk, hk.1.2.2.1⟩ : _ ∧ k_ ≠ g400))) (fun _ hk => hk.1.2) (.slice Ao37 t418.length co37)) (fun _ hk => hk.1.2) (.slice Ao39 t421.length co39)) (fun _ hk => hk.1.2) (.int .i64 t424)) (fun _ hk => hk.1.2) (.bool t425)) (fun _ hk => hk.2) (.slice Ao37 t418.length co37)) (fun _ hk => hk.2) (.slice Ao39 t421.length co39)) (fun _ hk => hk.2) (.int .i64 t424)) (fun _ hk => hk.2) (.bool t425)) (fun _ hk => ⟨hk.1.1.1, ⟨hk.1.1.2.1, ⟨hk.1.1.2.2.1, hk.1.1.2.2.2⟩⟩⟩)⟩, ⟨by (with_reducible repeat first | apply VA | apply VN | apply VD); exact Vm (Vf (p := ⟨g400, 3, none⟩) (Vf (p := ⟨g400, 2, none⟩) (Vf (p := ⟨g400, 1, none⟩) (Vf (p := ⟨g400, 0, none⟩) (Vf (p := ⟨g427, 3, none⟩) (Vf (p := ⟨g427, 2, none⟩) (Vf (p := ⟨g427, 1, none⟩) (Vf (p := ⟨g427, 0, none⟩) (Vm (Vm HO423.out (fun k_ hk => (⟨hk, hk.2.2.2⟩ : _ ∧ k_ ≠ g427))) (fun k_ hk => (⟨hk, hk.1.2.2.1⟩ : _ ∧ k_ ≠ g400))) (fun _ hk => hk.1.2) (.slice Ao37 t418.length co37)) (fun _ hk => hk.1.2) (.slice Ao39 t421.length co39)) (fun _ hk => hk.1.2) (.int .i64 t424)) (fun _ hk => hk.1.2) (.bool t425)) (fun _ hk => hk.2) (.slice Ao37 t418.length co37)) (fun _ hk => hk.2) (.slice Ao39 t421.length co39)) (fun _ hk => hk.2) (.int .i64 t424)) (fun _ hk => hk.2) (.bool t425)) (fun _ hk => ⟨hk.1.1.1, ⟨hk.1.1.2.1, ⟨hk.1.1.2.2.1, hk.1.1.2.2.2⟩⟩⟩)⟩, ⟨by (with_reducible repeat first | refine qN ?_ _ | refine qD ?_ | refine qA ?_ _); (iterate 4 (refine qR ?_ NB399_400.out _; (with_reducible repeat first | refine qN ?_ _ | refine qD ?_ | refine qA ?_ _))); (iterate 4 (refine qR ?_ NB399_427.out _; (with_reducible repeat first | refine qN ?_ _ | refine qD ?_ | refine qA ?_ _))); exact B399.out⟩, ⟨by (with_reducible repeat first | refine qN ?_ _ | refine qD ?_ | refine qA ?_ _); apply puts4; (with_reducible repeat first | refine qN ?_ _ | refine qD ?_ | refine qA ?_ _); (iterate 4 (refine qR ?_ NB400_427.out _; (with_reducible repeat first | refine qN ?_ _ | refine qD ?_ | refine qA ?_ _))); exact B400.out⟩, ⟨by (with_reducible repeat first | refine qN ?_ _ | refine qD ?_ | refine qA ?_ _); (iterate 4 (refine qR ?_ NB427_400.out _; (with_reducible repeat first | refine qN ?_ _ | refine qD ?_ | refine qA ?_ _))); apply puts4; (with_reducible repeat first | refine qN ?_ _ | refine qD ?_ | refine qA ?_ _); exact B427.out⟩, ⟨by repeat (first | (with_reducible first | exact HB.out | apply eA | apply eN | apply eD | refine eS ?_ GE399.out | refine eS ?_ GE400.out | refine eS ?_ GE427.out) | exact HB.out)⟩⟩
           case rest =>
            clear HC30
            try clear c1
            try clear c2
            try clear p2
            try clear c4
            try clear p4
            try clear q4
            try clear hx4
            try clear c6
            try clear c9
            try clear c10
            try clear c15
            try clear c17
            try clear c19
            try clear c19b0
            try clear c19b1
            try clear c20
            try clear c20b0
            try clear c20b1
            try clear c21
            try clear c25
            try clear c25b0
            try clear c26
            try clear c27
            try clear c27b0
            try clear c28
            try clear c28b0
            try clear p41
            try clear q41
            try clear hx41
            try clear c43
            try clear c44
            try clear c46
            try clear c48
            try clear c48b0
            try clear c48b1
            try clear z10_0
            try clear z10_1
            try clear z10_2
            try clear z10_3
            try clear z11_0
            try clear z11_1
            try clear z11_2
            try clear z11_3
            try clear z11_4
            try clear z11_5
            try clear z11_6
            try clear z11_7
            try clear z13_0
            try clear z13_1
            try clear z13_2
            try clear z13_3
            try clear z16_0
            try clear z16_1
            try clear z16_2
            try clear z16_3
            try clear z45_0
            try clear z45_1
            try clear z45_2
            try clear z45_3
            try clear z47_0
            try clear z47_1
            try clear z47_2
            try clear z47_3
            try clear z7_0
            try clear z7_1
            try clear z7_2
            try clear z7_3
            try clear z7_4
            try clear z7_5
            try clear z7_6
            try clear z7_7
            try clear f10_0
            try clear f10_1
            try clear f10_2
            try clear f10_3
            try clear f11_0
            try clear f11_1
            try clear f11_2
            try clear f11_3
            try clear f11_4
            try clear f11_5
            try clear f11_6
            try clear f11_7
            try clear f13_0
            try clear f13_1
            try clear f13_2
            try clear f13_3
            try clear f16_0
            try clear f16_1
            try clear f16_2
            try clear f16_3
            try clear f45_0
            try clear f45_1
            try clear f45_2
            try clear f45_3
            try clear f47_0
            try clear f47_1
            try clear f47_2
            try clear f47_3
            try clear f7_0
            try clear f7_1
            try clear f7_2
            try clear f7_3
            try clear f7_4
            try clear f7_5
            try clear f7_6
            try clear f7_7
            try clear hx417_0
            try clear p2
            try clear p417
            try clear q417
            obtain ⟨kq, x84_29, rfl, HA, HJ29, HO_13, HO_401000, HO_401001, HO_428000, HO_428001, B399, B400, B427, HB⟩ := hcut
            cases kq with
            | zero => exact absurd HA.out (by simp [hogsheadlaw09_CellLasts.j3])
            | succ kj29 =>
             have H := HA.out
             clear HA
             simp only [hogsheadlaw09_CellLasts.j3] at H
             by_cases c49 : x84_29 = true
             ·subst c49
              have H1 : (if 0 ≤ x14_2 then (if x14_2 < (l0_5.length : Int) then (if x13_2.length < 8796093022208 then (hogsheadlaw09_CellLasts.l0 kj29 a0_4 l0_5 a0_6 a0_7 t401 t413 (x13_2 ++ [rdOf ByteArray.empty l0_5 x14_2]) (wrap64 (x14_2 + 1)) t418 t421 t424 t425) else (none)) else (none)) else (none)) = some r := by rw [if_pos rfl] at H; exact H
              clear H
              have H := H1
              clear H1
              by_cases c50 : 0 ≤ x14_2
              ·rw [if_pos c50] at H
               have c50b0 : decide (0 ≤ x14_2) = true := decide_eq_true c50
               clear c50
               by_cases c51 : x14_2 < (l0_5.length : Int)
               ·rw [if_pos c51] at H
                have c51b0 : decide (x14_2 < (l0_5.length : Int)) = true := decide_eq_true c51
                clear c51
                by_cases c52 : x13_2.length < 8796093022208
                ·rw [if_pos c52] at H
                 have LMc52 := qM c52
                 clear c52
                 obtain ⟨y429, hy429⟩ : ∃ y_ : List ByteArray, y_ = (x13_2 ++ [rdOf ByteArray.empty l0_5 x14_2]) := ⟨_, rfl⟩
                 replace H : (hogsheadlaw09_CellLasts.l0 kj29 a0_4 l0_5 a0_6 a0_7 t401 t413 y429 (wrap64 (x14_2 + 1)) t418 t421 t424 t425) = some r := by first | (rw [hy429]; with_reducible exact H) | (have H2_ := (Option.bind_some _ _).symm.trans H; rw [hy429]; with_reducible exact H2_) | (have H2_ := (Option.bind_some _ _).symm.trans H; with_reducible exact H2_) | with_reducible exact H | (rw [hy429]; exact H) | exact H
                 have Ny429 := qM hy429
                 clear hy429
                 have H' := qM H
                 clear H
                 have p428 : 0 ≤ (x14_2 : Int) := of_decide_eq_true (by first | (with_reducible assumption) | assumption)
                 have q428 : x14_2 < (l0_5.length : Int) := of_decide_eq_true (by first | (with_reducible assumption) | assumption)
                 obtain ⟨ad428, e428, hx428_0⟩ := Kd.at_string HR0_5.out x14_2 p428 q428
                 obtain rfl : ad417 = ad428 := (by injection e428)
                 replace hx428_0 := (HB.out.cell (World.block_lt_of_cell? w _ hx428_0)).trans hx428_0
                 replace p428 := eq_true p428
                 replace q428 := eq_true q428
                 go_wp2_with (first | ((with_reducible refine gate_builtin (b := .append) (xs := #[.tmp 85, .tmp 90]) rfl ?_); at_builtin; refine Kd.R_append Kd.string (w0 := w) w.heap.size rfl (.tmp 85) (.tmp 90) 34 9 (.string ⟨#[]⟩) 16 rfl Try.underlying34 info9 rfl (by decide) (by omega) u13 x13_2 (rdOf ByteArray.empty l0_5 x14_2) [.string (rdOf ByteArray.empty l0_5 x14_2)] (fun _ => True) (fun _ => False) rfl rfl ?aP (fun _ hk => hk.elim) ?aF ?aO ?aB ?aS ?aL ?_; (case aP => exact rfl); (case aB => exact (by repeat (first | (with_reducible first | exact HB.out | apply eA | apply eN | apply eD | refine eS ?_ GE399.out | refine eS ?_ GE400.out | refine eS ?_ GE427.out) | exact HB.out))); (case aF => exact (fun _ _ => trivial)); (case aO => exact (by (with_reducible repeat first | apply RA | apply RN | apply RD); exact HO_13.out)); (case aS => exact (eZ (by repeat (first | (with_reducible first | exact HB.out | apply eA | apply eN | apply eD | refine eS ?_ GE399.out | refine eS ?_ GE400.out | refine eS ?_ GE427.out) | exact HB.out)))); (case aL => have := LMc52.out; omega); intro v430 w53 ho hb hg hat; rw [← Ny429.out] at ho; have n0_ := qM (Kd.V_afterv (ok := (fun k_ => k_ ≠ g399 ∧ k_ ≠ g400 ∧ k_ ≠ g427)) (by (with_reducible repeat first | apply VA | apply VN | apply VD); exact Vm HO_401000.out (fun _ hk => ⟨⟨hk.2.1, ⟨hk.2.2.1, hk.2.2.2⟩⟩, hk.1⟩)) hg hat); have n1_ := qM (Kd.V_afterv (ok := (fun k_ => k_ ≠ g399 ∧ k_ ≠ g400 ∧ k_ ≠ g427)) (by (with_reducible repeat first | apply VA | apply VN | apply VD); exact Vm HO_401001.out (fun _ hk => ⟨⟨hk.2.1, ⟨hk.2.2.1, hk.2.2.2⟩⟩, hk.1⟩)) hg hat); have n2_ := qM (Kd.V_afterv (ok := (fun k_ => k_ ≠ g399 ∧ k_ ≠ g400 ∧ k_ ≠ g427)) (by (with_reducible repeat first | apply VA | apply VN | apply VD); exact Vm HO_428000.out (fun _ hk => ⟨⟨hk.2.1, ⟨hk.2.2.1, hk.2.2.2⟩⟩, hk.1⟩)) hg hat); have n3_ := qM (Kd.V_afterv (ok := (fun k_ => k_ ≠ g399 ∧ k_ ≠ g400 ∧ k_ ≠ g427)) (by (with_reducible repeat first | apply VA | apply VN | apply VD); exact Vm HO_428001.out (fun _ hk => ⟨⟨hk.2.1, ⟨hk.2.2.1, hk.2.2.2⟩⟩, hk.1⟩)) hg hat); have n4_ := qM (blk_grown (g := g399) (o := .cells #[.slice A0_0 l0_0.length c0_0, .slice A0_1 l0_1.length c0_1, .int .i64 a0_2, .bool a0_3, .int .i64 a0_4, .slice (some ad417) l0_5.length c0_5, .int .i64 a0_6, .int .i64 a0_7] 50 (0, 0)) (by (with_reducible repeat first | refine qN ?_ _ | refine qD ?_ | refine qA ?_ _); exact B399.out) hg (Kd.R_ne HO_13.out B399.out (by decide))); have n5_ := qM (blk_grown (g := g400) (o := .cells #[.slice Ao37 t418.length co37, .slice Ao39 t421.length co39, .int .i64 t424, .bool t425] 37 (0, 0)) (by (with_reducible repeat first | refine qN ?_ _ | refine qD ?_ | refine qA ?_ _); exact B400.out) hg (Kd.R_ne HO_13.out B400.out (by decide))); have n6_ := qM (blk_grown (g := g427) (o := .cells #[.slice Ao37 t418.length co37, .slice Ao39 t421.length co39, .int .i64 t424, .bool t425] 37 (0, 0)) (by (with_reducible repeat first | refine qN ?_ _ | refine qD ?_ | refine qA ?_ _); exact B427.out) hg (Kd.R_ne HO_13.out B427.out (by decide))); have n7_ := qM (hb); have n8_ := qM (ho); clear HO_401000; clear HO_401001; clear HO_428000; clear HO_428001; clear B399; clear B400; clear B427; clear HB; clear HO_13; have HO_401000 := n0_; have HO_401001 := n1_; have HO_428000 := n2_; have HO_428001 := n3_; have B399 := n4_; have B400 := n5_; have B427 := n6_; have HB := n7_; have HO431 := n8_; clear n0_ n1_ n2_ n3_ n4_ n5_ n6_ n7_ n8_; clear ho hb hg hat))
                 go_roundg kj29
                 case measure => have := HJ4.out; have := HK2.out; have := HJ23.out; have := HJ29.out; omega
                 case rel => exact ⟨(y429), (wrap64 (x14_2 + 1)), (t418), (t421), (t424), (t425), (.slice Ao37 t418.length co37), (.slice Ao39 t421.length co39), (by first | rfl | (simp; done) | (simp [*]; done)), H', ⟨by have := HJ4.out; have := HK2.out; have := HJ23.out; have := HJ29.out; omega⟩, ⟨by (with_reducible repeat first | apply RA | apply RN | apply RD); exact HO431.out⟩, ⟨by (with_reducible repeat first | apply VA | apply VN | apply VD); exact Vm HO_401000.out (fun _ hk => ⟨hk.2, ⟨hk.1.1, hk.1.2.1⟩⟩)⟩, ⟨by (with_reducible repeat first | apply VA | apply VN | apply VD); exact Vm HO_401001.out (fun _ hk => ⟨hk.2, ⟨hk.1.1, hk.1.2.1⟩⟩)⟩, ⟨by (with_reducible repeat first | refine qN ?_ _ | refine qD ?_ | refine qA ?_ _); exact B399.out⟩, ⟨by (with_reducible repeat first | refine qN ?_ _ | refine qD ?_ | refine qA ?_ _); exact B400.out⟩, ⟨by repeat (first | (with_reducible first | exact HB.out | apply eA | apply eN | apply eD | refine eS ?_ GE399.out | refine eS ?_ GE400.out | refine eS ?_ GE427.out) | exact HB.out)⟩⟩
                ·rw [if_neg c52] at H
                 exact absurd H (by simp)
               ·rw [if_neg c51] at H
                exact absurd H (by simp)
              ·rw [if_neg c50] at H
               exact absurd H (by simp)
             ·replace c49 := Bool.eq_false_iff.mpr c49
              subst c49
              have H1 : (hogsheadlaw09_CellLasts.l0 kj29 a0_4 l0_5 a0_6 a0_7 t401 t413 x13_2 (wrap64 (x14_2 + 1)) t418 t421 t424 t425) = some r := by rw [if_neg (show ¬ (false = true) by decide)] at H; exact H
              clear H
              have H := H1
              clear H1
              have H' := qM H
              clear H
              go_wp2
              go_roundg kj29
              case measure => have := HJ4.out; have := HK2.out; have := HJ23.out; have := HJ29.out; omega
              case rel => exact ⟨(x13_2), (wrap64 (x14_2 + 1)), (t418), (t421), (t424), (t425), (.slice Ao37 t418.length co37), (.slice Ao39 t421.length co39), (by first | rfl | (simp; done) | (simp [*]; done)), H', ⟨by have := HJ4.out; have := HK2.out; have := HJ23.out; have := HJ29.out; omega⟩, ⟨by (with_reducible repeat first | apply RA | apply RN | apply RD); exact HO_13.out⟩, ⟨by (with_reducible repeat first | apply VA | apply VN | apply VD); exact Vm HO_401000.out (fun _ hk => ⟨hk.1, ⟨hk.2.1, hk.2.2.1⟩⟩)⟩, ⟨by (with_reducible repeat first | apply VA | apply VN | apply VD); exact Vm HO_401001.out (fun _ hk => ⟨hk.1, ⟨hk.2.1, hk.2.2.1⟩⟩)⟩, ⟨by (with_reducible repeat first | refine qN ?_ _ | refine qD ?_ | refine qA ?_ _); exact B399.out⟩, ⟨by (with_reducible repeat first | refine qN ?_ _ | refine qD ?_ | refine qA ?_ _); exact B400.out⟩, ⟨by repeat (first | (with_reducible first | exact HB.out | apply eA | apply eN | apply eD | refine eS ?_ GE399.out | refine eS ?_ GE400.out | refine eS ?_ GE427.out) | exact HB.out)⟩⟩
          ·rw [if_neg c28] at H
           exact absurd H (by simp)
         ·rw [if_neg c27] at H
          exact absurd H (by simp)
        ·replace c26 := Bool.eq_false_iff.mpr c26
         subst c26
         have H1 : ((hogsheadref08_Crash.f kj23 x401000_2 x401001_2 x401002_2 x401003_2 a0_6 a0_7).bind fun bt432 => ((cell_Read.f kj23 bt432.1 bt432.2.1 bt432.2.2.1 bt432.2.2.2 a0_4).bind fun bt440 => (if bt440.2.2 = 7 then (if t401 = true then (some (t413 == 7)) else (some false)) else (hogsheadlaw09_CellLasts.l1 kj23 t401 t413 x13_2 bt440.1 bt440.2.2 false 0)))) = some r := by rw [if_neg (show ¬ (false = true) by decide)] at H; exact H
         clear H
         have H := H1
         clear H1
         replace H := Option.bind_eq_some_iff.mp H
         obtain ⟨⟨t432, t435, t438, t439⟩, A540, H⟩ := H
         replace H : ((cell_Read.f kj23 t432 t435 t438 t439 a0_4).bind fun bt440 => (if bt440.2.2 = 7 then (if t401 = true then (some (t413 == 7)) else (some false)) else (hogsheadlaw09_CellLasts.l1 kj23 t401 t413 x13_2 bt440.1 bt440.2.2 false 0))) = some r := H
         have A54 := qM A540
         clear A540
         replace H := Option.bind_eq_some_iff.mp H
         obtain ⟨⟨t440, t441, t442⟩, A550, H⟩ := H
         replace H : (if t442 = 7 then (if t401 = true then (some (t413 == 7)) else (some false)) else (hogsheadlaw09_CellLasts.l1 kj23 t401 t413 x13_2 t440 t442 false 0)) = some r := H
         have A55 := qM A550
         clear A550
         by_cases c56 : t442 = 7
         ·rw [if_pos c56] at H
          have c56b0 : (t442 == 7) = true := beq_iff_eq.mpr c56
          have c56b1 : (t442 != 7) = false := bne_eq_false_iff_eq.mpr c56
          clear c56
          by_cases c57 : t401 = true
          ·subst c57
           have H1 : (some (t413 == 7)) = some r := by rw [if_pos rfl] at H; exact H
           clear H
           have H := H1
           clear H1
           obtain rfl := Option.some.inj H
           have hnb58 := NB400_399.out
           have hnc58 := NB399_400.out
           obtain ⟨z59_0, z59_1, z59_2, z59_3, f59_0, f59_1, f59_2, f59_3⟩ := cells4 B400.out
           obtain ⟨Ao60, co60, eo60⟩ := Kd.V_slice HO_401000.out
           subst eo60
           obtain ⟨Ao61, co61, eo61⟩ := Kd.V_slice HO_401001.out
           subst eo61
           go_wp2_with (first | ((with_reducible refine gate_callee (f := 21) rfl ?_); refine goesL_ (some 96) rfl rfl Try.func21 (by kernel_rfl) rfl #[.agg #[.slice Ao60 x401000_2.length co60, .slice Ao61 x401001_2.length co61, .int .i64 x401002_2, .bool x401003_2], .int .i64 a0_6, .int .i64 a0_7] rfl (by (try simp only [List.map_toArray, List.map_cons, List.map_nil]); first | done | rfl | (simp only [List.length_drop, List.length_take]; rfl)) ?_; (with_reducible refine (hogsheadref08_Crash.calls kj23 _ _ x401000_2 _ _ x401001_2 x401002_2 x401003_2 a0_6 a0_7 t432 t435 t438 t439 _ ?side1 ?side2 ?side3 ?side4 A54.out).mono ?_); (case side1 => repeat (first | exact (Kd.V_reads' HO_401000.out).2.2 | (with_reducible refine Kd.C_alloc ?_ _) | (with_reducible refine Kd.C_drewN ?_ _) | (with_reducible refine Kd.C_drew ?_))); (case side2 => exact (Kd.V_reads' HO_401000.out).2.1); (case side3 => repeat (first | exact (Kd.V_reads' HO_401001.out).2.2 | (with_reducible refine Kd.C_alloc ?_ _) | (with_reducible refine Kd.C_drewN ?_ _) | (with_reducible refine Kd.C_drew ?_))); (case side4 => exact (Kd.V_reads' HO_401001.out).2.1); rintro e w62 ⟨v433, v436, rfl, ho0, ho1, hb⟩; refine ⟨_, rfl, ?_⟩; have n0_ := qM (Kd.R_elder' (by (with_reducible repeat first | apply RA | apply RN | apply RD); exact HO_13.out) (Kd.R_base ho0) hb); have n1_ := qM (Vm (Kd.V_told (Kd.V_told (Kd.V_old (by (with_reducible repeat first | apply VA | apply VN | apply VD); exact HO_401000.out) hb) (Kd.R_base ho0)) (Kd.R_base ho1)) (fun _ h_ => h_.1)); have n2_ := qM (Vm (Kd.V_told (Kd.V_told (Kd.V_old (by (with_reducible repeat first | apply VA | apply VN | apply VD); exact HO_401001.out) hb) (Kd.R_base ho0)) (Kd.R_base ho1)) (fun _ h_ => h_.1)); have n3_ := qM (Kd.R_lower (Kd.R_new' ho0 (Kd.R_lt (by (with_reducible repeat first | apply RA | apply RN | apply RD); exact HO_13.out))) (eZ (by repeat (first | (with_reducible first | exact HB.out | apply eA | apply eN | apply eD | refine eS ?_ GE399.out | refine eS ?_ GE400.out) | exact HB.out)))); have n4_ := qM (Kd.R_lower ho1 (eZ (by repeat (first | (with_reducible first | exact HB.out | apply eA | apply eN | apply eD | refine eS ?_ GE399.out | refine eS ?_ GE400.out) | exact HB.out)))); have n5_ := qM (qB (g := g399) (by (with_reducible repeat first | refine qN ?_ _ | refine qD ?_ | refine qA ?_ _); exact B399.out) hb); have n6_ := qM (qB (g := g400) (by (with_reducible repeat first | refine qN ?_ _ | refine qD ?_ | refine qA ?_ _); exact B400.out) hb); have n7_ := qM (eT (by repeat (first | (with_reducible first | exact HB.out | apply eA | apply eN | apply eD | refine eS ?_ GE399.out | refine eS ?_ GE400.out) | exact HB.out)) hb); clear HO_13; clear HO_401000; clear HO_401001; clear B399; clear B400; clear HB; have HO_13 := n0_; have HO_401000 := n1_; have HO_401001 := n2_; have HO434 := n3_; have HO437 := n4_; have B399 := n5_; have B400 := n6_; have HB := n7_; clear n0_ n1_ n2_ n3_ n4_ n5_ n6_ n7_; (try clear hb); (try clear hb2); (try clear hk); (try clear hi); (try clear ho0); (try clear ho1); obtain ⟨Ao63, co63, eo63⟩ := Kd.R_slice HO434.out; subst eo63; obtain ⟨Ao64, co64, eo64⟩ := Kd.R_slice HO437.out; subst eo64) | ((with_reducible refine gate_callee (f := 15) rfl ?_); refine goesL_ (some 98) rfl rfl Try.func15 (by kernel_rfl) rfl #[.agg #[.slice Ao63 t432.length co63, .slice Ao64 t435.length co64, .int .i64 t438, .bool t439], .int .i64 a0_4] rfl (by (try simp only [List.map_toArray, List.map_cons, List.map_nil]); first | done | rfl | (simp only [List.length_drop, List.length_take]; rfl)) ?_; (with_reducible refine (cell_Read.calls kj23 _ _ t432 _ _ t435 t438 t439 a0_4 t440 t441 t442 _ ?side1 ?side2 ?side3 ?side4 A55.out).mono ?_); (case side1 => repeat (first | exact (Kd.R_reads' HO434.out).2.2 | (with_reducible refine Kd.C_alloc ?_ _) | (with_reducible refine Kd.C_drewN ?_ _) | (with_reducible refine Kd.C_drew ?_))); (case side2 => exact (Kd.R_reads' HO434.out).2.1); (case side3 => repeat (first | exact (Kd.R_reads' HO437.out).2.2 | (with_reducible refine Kd.C_alloc ?_ _) | (with_reducible refine Kd.C_drewN ?_ _) | (with_reducible refine Kd.C_drew ?_))); (case side4 => exact (Kd.R_reads' HO437.out).2.1); rintro e w65 ⟨rfl, hb⟩; refine ⟨_, rfl, ?_⟩; have n0_ := qM (Kd.R_below (by (with_reducible repeat first | apply RA | apply RN | apply RD); exact HO_13.out) hb); have n1_ := qM (Vb (by (with_reducible repeat first | apply VA | apply VN | apply VD); exact HO_401000.out) hb); have n2_ := qM (Vb (by (with_reducible repeat first | apply VA | apply VN | apply VD); exact HO_401001.out) hb); have n3_ := qM (Kd.R_below (by (with_reducible repeat first | apply RA | apply RN | apply RD); exact HO434.out) hb); have n4_ := qM (Kd.R_below (by (with_reducible repeat first | apply RA | apply RN | apply RD); exact HO437.out) hb); have n5_ := qM (qB (g := g399) (by (with_reducible repeat first | refine qN ?_ _ | refine qD ?_ | refine qA ?_ _); exact B399.out) hb); have n6_ := qM (qB (g := g400) (by (with_reducible repeat first | refine qN ?_ _ | refine qD ?_ | refine qA ?_ _); exact B400.out) hb); have n7_ := qM (eT (by repeat (first | (with_reducible first | exact HB.out | apply eA | apply eN | apply eD | refine eS ?_ GE399.out | refine eS ?_ GE400.out) | exact HB.out)) hb); clear HO_13; clear HO_401000; clear HO_401001; clear HO434; clear HO437; clear B399; clear B400; clear HB; have HO_13 := n0_; have HO_401000 := n1_; have HO_401001 := n2_; have HO434 := n3_; have HO437 := n4_; have B399 := n5_; have B400 := n6_; have HB := n7_; clear n0_ n1_ n2_ n3_ n4_ n5_ n6_ n7_; (try clear hb); (try clear hb2); (try clear hk); (try clear hi)))
           go_ret
           exact ⟨by first | rfl | (simp [errW_none, errW_some] <;> rfl) | (simp [*, errW_none, errW_some] <;> rfl), by repeat (first | (with_reducible first | exact HB.out | apply eA | apply eN | apply eD | refine eS ?_ GE399.out | refine eS ?_ GE400.out) | exact HB.out)⟩
          ·replace c57 := Bool.eq_false_iff.mpr c57
           subst c57
           have H1 : (some false) = some r := by rw [if_neg (show ¬ (false = true) by decide)] at H; exact H
           clear H
           have H := H1
           clear H1
           obtain rfl := Option.some.inj H
           have hnb66 := NB400_399.out
           have hnc66 := NB399_400.out
           obtain ⟨z67_0, z67_1, z67_2, z67_3, f67_0, f67_1, f67_2, f67_3⟩ := cells4 B400.out
           obtain ⟨Ao68, co68, eo68⟩ := Kd.V_slice HO_401000.out
           subst eo68
           obtain ⟨Ao69, co69, eo69⟩ := Kd.V_slice HO_401001.out
           subst eo69
           go_wp2_with (first | ((with_reducible refine gate_callee (f := 21) rfl ?_); refine goesL_ (some 96) rfl rfl Try.func21 (by kernel_rfl) rfl #[.agg #[.slice Ao68 x401000_2.length co68, .slice Ao69 x401001_2.length co69, .int .i64 x401002_2, .bool x401003_2], .int .i64 a0_6, .int .i64 a0_7] rfl (by (try simp only [List.map_toArray, List.map_cons, List.map_nil]); first | done | rfl | (simp only [List.length_drop, List.length_take]; rfl)) ?_; (with_reducible refine (hogsheadref08_Crash.calls kj23 _ _ x401000_2 _ _ x401001_2 x401002_2 x401003_2 a0_6 a0_7 t432 t435 t438 t439 _ ?side1 ?side2 ?side3 ?side4 A54.out).mono ?_); (case side1 => repeat (first | exact (Kd.V_reads' HO_401000.out).2.2 | (with_reducible refine Kd.C_alloc ?_ _) | (with_reducible refine Kd.C_drewN ?_ _) | (with_reducible refine Kd.C_drew ?_))); (case side2 => exact (Kd.V_reads' HO_401000.out).2.1); (case side3 => repeat (first | exact (Kd.V_reads' HO_401001.out).2.2 | (with_reducible refine Kd.C_alloc ?_ _) | (with_reducible refine Kd.C_drewN ?_ _) | (with_reducible refine Kd.C_drew ?_))); (case side4 => exact (Kd.V_reads' HO_401001.out).2.1); rintro e w70 ⟨v433, v436, rfl, ho0, ho1, hb⟩; refine ⟨_, rfl, ?_⟩; have n0_ := qM (Kd.R_elder' (by (with_reducible repeat first | apply RA | apply RN | apply RD); exact HO_13.out) (Kd.R_base ho0) hb); have n1_ := qM (Vm (Kd.V_told (Kd.V_told (Kd.V_old (by (with_reducible repeat first | apply VA | apply VN | apply VD); exact HO_401000.out) hb) (Kd.R_base ho0)) (Kd.R_base ho1)) (fun _ h_ => h_.1)); have n2_ := qM (Vm (Kd.V_told (Kd.V_told (Kd.V_old (by (with_reducible repeat first | apply VA | apply VN | apply VD); exact HO_401001.out) hb) (Kd.R_base ho0)) (Kd.R_base ho1)) (fun _ h_ => h_.1)); have n3_ := qM (Kd.R_lower (Kd.R_new' ho0 (Kd.R_lt (by (with_reducible repeat first | apply RA | apply RN | apply RD); exact HO_13.out))) (eZ (by repeat (first | (with_reducible first | exact HB.out | apply eA | apply eN | apply eD | refine eS ?_ GE399.out | refine eS ?_ GE400.out) | exact HB.out)))); have n4_ := qM (Kd.R_lower ho1 (eZ (by repeat (first | (with_reducible first | exact HB.out | apply eA | apply eN | apply eD | refine eS ?_ GE399.out | refine eS ?_ GE400.out) | exact HB.out)))); have n5_ := qM (qB (g := g399) (by (with_reducible repeat first | refine qN ?_ _ | refine qD ?_ | refine qA ?_ _); exact B399.out) hb); have n6_ := qM (qB (g := g400) (by (with_reducible repeat first | refine qN ?_ _ | refine qD ?_ | refine qA ?_ _); exact B400.out) hb); have n7_ := qM (eT (by repeat (first | (with_reducible first | exact HB.out | apply eA | apply eN | apply eD | refine eS ?_ GE399.out | refine eS ?_ GE400.out) | exact HB.out)) hb); clear HO_13; clear HO_401000; clear HO_401001; clear B399; clear B400; clear HB; have HO_13 := n0_; have HO_401000 := n1_; have HO_401001 := n2_; have HO434 := n3_; have HO437 := n4_; have B399 := n5_; have B400 := n6_; have HB := n7_; clear n0_ n1_ n2_ n3_ n4_ n5_ n6_ n7_; (try clear hb); (try clear hb2); (try clear hk); (try clear hi); (try clear ho0); (try clear ho1); obtain ⟨Ao71, co71, eo71⟩ := Kd.R_slice HO434.out; subst eo71; obtain ⟨Ao72, co72, eo72⟩ := Kd.R_slice HO437.out; subst eo72) | ((with_reducible refine gate_callee (f := 15) rfl ?_); refine goesL_ (some 98) rfl rfl Try.func15 (by kernel_rfl) rfl #[.agg #[.slice Ao71 t432.length co71, .slice Ao72 t435.length co72, .int .i64 t438, .bool t439], .int .i64 a0_4] rfl (by (try simp only [List.map_toArray, List.map_cons, List.map_nil]); first | done | rfl | (simp only [List.length_drop, List.length_take]; rfl)) ?_; (with_reducible refine (cell_Read.calls kj23 _ _ t432 _ _ t435 t438 t439 a0_4 t440 t441 t442 _ ?side1 ?side2 ?side3 ?side4 A55.out).mono ?_); (case side1 => repeat (first | exact (Kd.R_reads' HO434.out).2.2 | (with_reducible refine Kd.C_alloc ?_ _) | (with_reducible refine Kd.C_drewN ?_ _) | (with_reducible refine Kd.C_drew ?_))); (case side2 => exact (Kd.R_reads' HO434.out).2.1); (case side3 => repeat (first | exact (Kd.R_reads' HO437.out).2.2 | (with_reducible refine Kd.C_alloc ?_ _) | (with_reducible refine Kd.C_drewN ?_ _) | (with_reducible refine Kd.C_drew ?_))); (case side4 => exact (Kd.R_reads' HO437.out).2.1); rintro e w73 ⟨rfl, hb⟩; refine ⟨_, rfl, ?_⟩; have n0_ := qM (Kd.R_below (by (with_reducible repeat first | apply RA | apply RN | apply RD); exact HO_13.out) hb); have n1_ := qM (Vb (by (with_reducible repeat first | apply VA | apply VN | apply VD); exact HO_401000.out) hb); have n2_ := qM (Vb (by (with_reducible repeat first | apply VA | apply VN | apply VD); exact HO_401001.out) hb); have n3_ := qM (Kd.R_below (by (with_reducible repeat first | apply RA | apply RN | apply RD); exact HO434.out) hb); have n4_ := qM (Kd.R_below (by (with_reducible repeat first | apply RA | apply RN | apply RD); exact HO437.out) hb); have n5_ := qM (qB (g := g399) (by (with_reducible repeat first | refine qN ?_ _ | refine qD ?_ | refine qA ?_ _); exact B399.out) hb); have n6_ := qM (qB (g := g400) (by (with_reducible repeat first | refine qN ?_ _ | refine qD ?_ | refine qA ?_ _); exact B400.out) hb); have n7_ := qM (eT (by repeat (first | (with_reducible first | exact HB.out | apply eA | apply eN | apply eD | refine eS ?_ GE399.out | refine eS ?_ GE400.out) | exact HB.out)) hb); clear HO_13; clear HO_401000; clear HO_401001; clear HO434; clear HO437; clear B399; clear B400; clear HB; have HO_13 := n0_; have HO_401000 := n1_; have HO_401001 := n2_; have HO434 := n3_; have HO437 := n4_; have B399 := n5_; have B400 := n6_; have HB := n7_; clear n0_ n1_ n2_ n3_ n4_ n5_ n6_ n7_; (try clear hb); (try clear hb2); (try clear hk); (try clear hi)))
           go_ret
           exact ⟨by first | rfl | (simp [errW_none, errW_some] <;> rfl) | (simp [*, errW_none, errW_some] <;> rfl), by repeat (first | (with_reducible first | exact HB.out | apply eA | apply eN | apply eD | refine eS ?_ GE399.out | refine eS ?_ GE400.out) | exact HB.out)⟩
         ·rw [if_neg c56] at H
          have c56b0 : (t442 == 7) = false := beq_eq_false_iff_ne.mpr c56
          have c56b1 : (t442 != 7) = true := bne_iff_ne.mpr c56
          have H' := qM H
          clear H
          have hnb74 := NB400_399.out
          have hnc74 := NB399_400.out
          obtain ⟨z75_0, z75_1, z75_2, z75_3, f75_0, f75_1, f75_2, f75_3⟩ := cells4 B400.out
          obtain ⟨Ao76, co76, eo76⟩ := Kd.V_slice HO_401000.out
          subst eo76
          obtain ⟨Ao77, co77, eo77⟩ := Kd.V_slice HO_401001.out
          subst eo77
          go_wp2_with (first | ((with_reducible refine gate_callee (f := 21) rfl ?_); refine goesL_ (some 96) rfl rfl Try.func21 (by kernel_rfl) rfl #[.agg #[.slice Ao76 x401000_2.length co76, .slice Ao77 x401001_2.length co77, .int .i64 x401002_2, .bool x401003_2], .int .i64 a0_6, .int .i64 a0_7] rfl (by (try simp only [List.map_toArray, List.map_cons, List.map_nil]); first | done | rfl | (simp only [List.length_drop, List.length_take]; rfl)) ?_; (with_reducible refine (hogsheadref08_Crash.calls kj23 _ _ x401000_2 _ _ x401001_2 x401002_2 x401003_2 a0_6 a0_7 t432 t435 t438 t439 _ ?side1 ?side2 ?side3 ?side4 A54.out).mono ?_); (case side1 => repeat (first | exact (Kd.V_reads' HO_401000.out).2.2 | (with_reducible refine Kd.C_alloc ?_ _) | (with_reducible refine Kd.C_drewN ?_ _) | (with_reducible refine Kd.C_drew ?_))); (case side2 => exact (Kd.V_reads' HO_401000.out).2.1); (case side3 => repeat (first | exact (Kd.V_reads' HO_401001.out).2.2 | (with_reducible refine Kd.C_alloc ?_ _) | (with_reducible refine Kd.C_drewN ?_ _) | (with_reducible refine Kd.C_drew ?_))); (case side4 => exact (Kd.V_reads' HO_401001.out).2.1); rintro e w78 ⟨v433, v436, rfl, ho0, ho1, hb⟩; refine ⟨_, rfl, ?_⟩; have n0_ := qM (Kd.R_elder' (by (with_reducible repeat first | apply RA | apply RN | apply RD); exact HO_13.out) (Kd.R_base ho0) hb); have n1_ := qM (Vm (Kd.V_told (Kd.V_told (Kd.V_old (by (with_reducible repeat first | apply VA | apply VN | apply VD); exact HO_401000.out) hb) (Kd.R_base ho0)) (Kd.R_base ho1)) (fun _ h_ => h_.1)); have n2_ := qM (Vm (Kd.V_told (Kd.V_told (Kd.V_old (by (with_reducible repeat first | apply VA | apply VN | apply VD); exact HO_401001.out) hb) (Kd.R_base ho0)) (Kd.R_base ho1)) (fun _ h_ => h_.1)); have n3_ := qM (Kd.R_lower (Kd.R_new' ho0 (Kd.R_lt (by (with_reducible repeat first | apply RA | apply RN | apply RD); exact HO_13.out))) (eZ (by repeat (first | (with_reducible first | exact HB.out | apply eA | apply eN | apply eD | refine eS ?_ GE399.out | refine eS ?_ GE400.out) | exact HB.out)))); have n4_ := qM (Kd.R_lower ho1 (eZ (by repeat (first | (with_reducible first | exact HB.out | apply eA | apply eN | apply eD | refine eS ?_ GE399.out | refine eS ?_ GE400.out) | exact HB.out)))); have n5_ := qM (qB (g := g399) (by (with_reducible repeat first | refine qN ?_ _ | refine qD ?_ | refine qA ?_ _); exact B399.out) hb); have n6_ := qM (qB (g := g400) (by (with_reducible repeat first | refine qN ?_ _ | refine qD ?_ | refine qA ?_ _); exact B400.out) hb); have n7_ := qM (eT (by repeat (first | (with_reducible first | exact HB.out | apply eA | apply eN | apply eD | refine eS ?_ GE399.out | refine eS ?_ GE400.out) | exact HB.out)) hb); clear HO_13; clear HO_401000; clear HO_401001; clear B399; clear B400; clear HB; have HO_13 := n0_; have HO_401000 := n1_; have HO_401001 := n2_; have HO434 := n3_; have HO437 := n4_; have B399 := n5_; have B400 := n6_; have HB := n7_; clear n0_ n1_ n2_ n3_ n4_ n5_ n6_ n7_; (try clear hb); (try clear hb2); (try clear hk); (try clear hi); (try clear ho0); (try clear ho1); obtain ⟨Ao79, co79, eo79⟩ := Kd.R_slice HO434.out; subst eo79; obtain ⟨Ao80, co80, eo80⟩ := Kd.R_slice HO437.out; subst eo80) | ((with_reducible refine gate_callee (f := 15) rfl ?_); refine goesL_ (some 98) rfl rfl Try.func15 (by kernel_rfl) rfl #[.agg #[.slice Ao79 t432.length co79, .slice Ao80 t435.length co80, .int .i64 t438, .bool t439], .int .i64 a0_4] rfl (by (try simp only [List.map_toArray, List.map_cons, List.map_nil]); first | done | rfl | (simp only [List.length_drop, List.length_take]; rfl)) ?_; (with_reducible refine (cell_Read.calls kj23 _ _ t432 _ _ t435 t438 t439 a0_4 t440 t441 t442 _ ?side1 ?side2 ?side3 ?side4 A55.out).mono ?_); (case side1 => repeat (first | exact (Kd.R_reads' HO434.out).2.2 | (with_reducible refine Kd.C_alloc ?_ _) | (with_reducible refine Kd.C_drewN ?_ _) | (with_reducible refine Kd.C_drew ?_))); (case side2 => exact (Kd.R_reads' HO434.out).2.1); (case side3 => repeat (first | exact (Kd.R_reads' HO437.out).2.2 | (with_reducible refine Kd.C_alloc ?_ _) | (with_reducible refine Kd.C_drewN ?_ _) | (with_reducible refine Kd.C_drew ?_))); (case side4 => exact (Kd.R_reads' HO437.out).2.1); rintro e w81 ⟨rfl, hb⟩; refine ⟨_, rfl, ?_⟩; have n0_ := qM (Kd.R_below (by (with_reducible repeat first | apply RA | apply RN | apply RD); exact HO_13.out) hb); have n1_ := qM (Vb (by (with_reducible repeat first | apply VA | apply VN | apply VD); exact HO_401000.out) hb); have n2_ := qM (Vb (by (with_reducible repeat first | apply VA | apply VN | apply VD); exact HO_401001.out) hb); have n3_ := qM (Kd.R_below (by (with_reducible repeat first | apply RA | apply RN | apply RD); exact HO434.out) hb); have n4_ := qM (Kd.R_below (by (with_reducible repeat first | apply RA | apply RN | apply RD); exact HO437.out) hb); have n5_ := qM (qB (g := g399) (by (with_reducible repeat first | refine qN ?_ _ | refine qD ?_ | refine qA ?_ _); exact B399.out) hb); have n6_ := qM (qB (g := g400) (by (with_reducible repeat first | refine qN ?_ _ | refine qD ?_ | refine qA ?_ _); exact B400.out) hb); have n7_ := qM (eT (by repeat (first | (with_reducible first | exact HB.out | apply eA | apply eN | apply eD | refine eS ?_ GE399.out | refine eS ?_ GE400.out) | exact HB.out)) hb); clear HO_13; clear HO_401000; clear HO_401001; clear HO434; clear HO437; clear B399; clear B400; clear HB; have HO_13 := n0_; have HO_401000 := n1_; have HO_401001 := n2_; have HO434 := n3_; have HO437 := n4_; have B399 := n5_; have B400 := n6_; have HB := n7_; clear n0_ n1_ n2_ n3_ n4_ n5_ n6_ n7_; (try clear hb); (try clear hb2); (try clear hk); (try clear hi)))
          go_loopg [20, 21] kj23 (fun kq v20 v21 w' => ∃ (x20_4 : Bool) (x21_4 : Int), v20 = .bool x20_4 ∧ v21 = .int .i64 x21_4 ∧ Aside0 (hogsheadlaw09_CellLasts.l1 kq t401 t413 x13_2 t440 t442 x20_4 x21_4 = some r) ∧ Aside0 (kq ≤ kj23) ∧ Aside0 (Kd.R Kd.string 9 w' w.heap.size (fun _ => True) u13 x13_2) ∧ Aside0 (Kd.V Kd.string 9 w' w.heap.size (fun k_ => some k_ ≠ (u13 : Value).ownBlock ∧ k_ ≠ g399 ∧ k_ ≠ g400) (.slice Ao76 x401000_2.length co76) x401000_2) ∧ Aside0 (Kd.V k77 77 w' w.heap.size (fun k_ => some k_ ≠ (u13 : Value).ownBlock ∧ k_ ≠ g399 ∧ k_ ≠ g400) (.slice Ao77 x401001_2.length co77) x401001_2) ∧ Aside0 (w'.heap[g399]? = some (.cells #[(.slice A0_0 l0_0.length c0_0), (.slice A0_1 l0_1.length c0_1), .int .i64 a0_2, .bool a0_3, .int .i64 a0_4, (.slice A0_5 l0_5.length c0_5), .int .i64 a0_6, .int .i64 a0_7] 50 (0, 0))) ∧ Aside0 (w'.heap[g400]? = some (.cells #[(.slice Ao76 x401000_2.length co76), (.slice Ao77 x401001_2.length co77), .int .i64 x401002_2, .bool x401003_2] 37 (0, 0))) ∧ Aside0 (Below w.heap.size w w'))
          case atStart => exact ⟨(false), (0), (by first | rfl | (simp; done) | (simp [*]; done)), (by first | rfl | (simp; done) | (simp [*]; done)), H', ⟨Nat.le_refl _⟩, ⟨by (with_reducible repeat first | apply RA | apply RN | apply RD); exact Kd.R_mono HO_13.out (fun _ hk => trivial)⟩, ⟨by (with_reducible repeat first | apply VA | apply VN | apply VD); exact Vm HO_401000.out (fun _ hk => ⟨hk.1.1.1, ⟨hk.1.1.2.1, hk.1.1.2.2⟩⟩)⟩, ⟨by (with_reducible repeat first | apply VA | apply VN | apply VD); exact Vm HO_401001.out (fun _ hk => ⟨hk.1.1.1, ⟨hk.1.1.2.1, hk.1.1.2.2⟩⟩)⟩, ⟨by (with_reducible repeat first | refine qN ?_ _ | refine qD ?_ | refine qA ?_ _); exact B399.out⟩, ⟨by (with_reducible repeat first | refine qN ?_ _ | refine qD ?_ | refine qA ?_ _); exact B400.out⟩, ⟨by repeat (first | (with_reducible first | exact HB.out | apply eA | apply eN | apply eD | refine eS ?_ GE399.out | refine eS ?_ GE400.out) | exact HB.out)⟩⟩
          case round =>
           clear H'
           try clear c1
           try clear c2
           try clear p2
           try clear c4
           try clear p4
           try clear q4
           try clear hx4
           try clear c5
           try clear c6
           try clear p6
           try clear c7
           try clear c9
           try clear c10
           try clear c15
           try clear c17
           try clear c19
           try clear c19b0
           try clear c19b1
           try clear c20
           try clear c20b0
           try clear c20b1
           try clear c21
           try clear c25
           try clear c25b0
           try clear c26
           try clear c27
           try clear c27b0
           try clear c28
           try clear c28b0
           try clear p41
           try clear q41
           try clear hx41
           try clear p42
           try clear q42
           try clear hx42
           try clear c43
           try clear c44
           try clear c46
           try clear c48
           try clear c48b0
           try clear c48b1
           try clear c49
           try clear c50
           try clear c50b0
           try clear c51
           try clear c51b0
           try clear c52
           try clear c56
           try clear c56b0
           try clear c56b1
           try clear c57
           try clear c58
           try clear p64
           try clear c66
           try clear c74
           try clear z10_0
           try clear z10_1
           try clear z10_2
           try clear z10_3
           try clear z11_0
           try clear z11_1
           try clear z11_2
           try clear z11_3
           try clear z11_4
           try clear z11_5
           try clear z11_6
           try clear z11_7
           try clear z13_0
           try clear z13_1
           try clear z13_2
           try clear z13_3
           try clear z16_0
           try clear z16_1
           try clear z16_2
           try clear z16_3
           try clear z45_0
           try clear z45_1
           try clear z45_2
           try clear z45_3
           try clear z47_0
           try clear z47_1
           try clear z47_2
           try clear z47_3
           try clear z59_0
           try clear z59_1
           try clear z59_2
           try clear z59_3
           try clear z67_0
           try clear z67_1
           try clear z67_2
           try clear z67_3
           try clear z75_0
           try clear z75_1
           try clear z75_2
           try clear z75_3
           try clear z7_0
           try clear z7_1
           try clear z7_2
           try clear z7_3
           try clear z7_4
           try clear z7_5
           try clear z7_6
           try clear z7_7
           try clear f10_0
           try clear f10_1
           try clear f10_2
           try clear f10_3
           try clear f11_0
           try clear f11_1
           try clear f11_2
           try clear f11_3
           try clear f11_4
           try clear f11_5
           try clear f11_6
           try clear f11_7
           try clear f13_0
           try clear f13_1
           try clear f13_2
           try clear f13_3
           try clear f16_0
           try clear f16_1
           try clear f16_2
           try clear f16_3
           try clear f45_0
           try clear f45_1
           try clear f45_2
           try clear f45_3
           try clear f47_0
           try clear f47_1
           try clear f47_2
           try clear f47_3
           try clear f59_0
           try clear f59_1
           try clear f59_2
           try clear f59_3
           try clear f67_0
           try clear f67_1
           try clear f67_2
           try clear f67_3
           try clear f75_0
           try clear f75_1
           try clear f75_2
           try clear f75_3
           try clear f7_0
           try clear f7_1
           try clear f7_2
           try clear f7_3
           try clear f7_4
           try clear f7_5
           try clear f7_6
           try clear f7_7
           try clear hx417_0
           try clear hx428_0
           try clear p2
           try clear p4
           try clear p41
           try clear p417
           try clear p428
           try clear q4
           try clear q41
           try clear q417
           try clear q428
           obtain ⟨x20_4, x21_4, rfl, rfl, HA, HK4, HO_13, HO_401000, HO_401001, B399, B400, HB⟩ := hrel
           cases gk with
           | zero => exact absurd HA.out (by simp [hogsheadlaw09_CellLasts.l1])
           | succ k4 =>
            have H := HA.out
            clear HA
            simp only [hogsheadlaw09_CellLasts.l1] at H
            by_cases c82 : x21_4 < (x13_2.length : Int)
            ·rw [if_pos c82] at H
             have c82b0 : decide (x21_4 < (x13_2.length : Int)) = true := decide_eq_true c82
             clear c82
             by_cases c83 : x20_4 = true
             ·subst c83
              have H1 : (hogsheadlaw09_CellLasts.l1 k4 t401 t413 x13_2 t440 t442 true (wrap64 (x21_4 + 1))) = some r := by rw [if_pos rfl] at H; exact H
              clear H
              have H := H1
              clear H1
              have H' := qM H
              clear H
              obtain ⟨Ao84, co84, eo84⟩ := Kd.R_slice HO_13.out
              subst eo84
              go_wp2
              go_roundg k4
              case measure => have := HJ4.out; have := HK2.out; have := HJ23.out; have := HK4.out; omega
              case rel => exact ⟨(true), (wrap64 (x21_4 + 1)), (by first | rfl | (simp; done) | (simp [*]; done)), (by first | rfl | (simp; done) | (simp [*]; done)), H', ⟨by have := HJ4.out; have := HK2.out; have := HJ23.out; have := HK4.out; omega⟩, ⟨by (with_reducible repeat first | apply RA | apply RN | apply RD); exact HO_13.out⟩, ⟨by (with_reducible repeat first | apply VA | apply VN | apply VD); exact HO_401000.out⟩, ⟨by (with_reducible repeat first | apply VA | apply VN | apply VD); exact HO_401001.out⟩, ⟨by (with_reducible repeat first | refine qN ?_ _ | refine qD ?_ | refine qA ?_ _); exact B399.out⟩, ⟨by (with_reducible repeat first | refine qN ?_ _ | refine qD ?_ | refine qA ?_ _); exact B400.out⟩, ⟨by repeat (first | (with_reducible first | exact HB.out | apply eA | apply eN | apply eD | refine eS ?_ GE399.out | refine eS ?_ GE400.out) | exact HB.out)⟩⟩
             ·replace c83 := Bool.eq_false_iff.mpr c83
              subst c83
              have H1 : (if 0 ≤ x21_4 then (if (rdOf ByteArray.empty x13_2 x21_4).toList = t440.toList then (if x21_4 > 0 then (hogsheadlaw09_CellLasts.l1 k4 t401 t413 x13_2 t440 t442 true (wrap64 (x21_4 + 1))) else (hogsheadlaw09_CellLasts.l1 k4 t401 t413 x13_2 t440 t442 (t413 == 0) (wrap64 (x21_4 + 1)))) else (hogsheadlaw09_CellLasts.l1 k4 t401 t413 x13_2 t440 t442 false (wrap64 (x21_4 + 1)))) else (none)) = some r := by rw [if_neg (show ¬ (false = true) by decide)] at H; exact H
              clear H
              have H := H1
              clear H1
              by_cases c85 : 0 ≤ x21_4
              ·rw [if_pos c85] at H
               have c85b0 : decide (0 ≤ x21_4) = true := decide_eq_true c85
               clear c85
               by_cases c86 : (rdOf ByteArray.empty x13_2 x21_4).toList = t440.toList
               ·rw [if_pos c86] at H
                have c86b0 : ((rdOf ByteArray.empty x13_2 x21_4).toList == t440.toList) = true := beq_iff_eq.mpr c86
                have c86b1 : ((rdOf ByteArray.empty x13_2 x21_4).toList != t440.toList) = false := bne_eq_false_iff_eq.mpr c86
                clear c86
                by_cases c87 : x21_4 > 0
                ·rw [if_pos c87] at H
                 have c87b0 : decide (0 < x21_4) = true := decide_eq_true c87
                 clear c87
                 have H' := qM H
                 clear H
                 obtain ⟨Ao88, co88, eo88⟩ := Kd.R_slice HO_13.out
                 subst eo88
                 have p443 : 0 ≤ (x21_4 : Int) := of_decide_eq_true (by first | (with_reducible assumption) | assumption)
                 have q443 : x21_4 < (x13_2.length : Int) := of_decide_eq_true (by first | (with_reducible assumption) | assumption)
                 obtain ⟨ad443, e443, hx443_0⟩ := Kd.at_string (Kd.R_reads' HO_13.out).2.2 x21_4 p443 q443
                 cases e443
                 replace p443 := eq_true p443
                 replace q443 := eq_true q443
                 go_wp2
                 go_roundg k4
                 case measure => have := HJ4.out; have := HK2.out; have := HJ23.out; have := HK4.out; omega
                 case rel => exact ⟨(true), (wrap64 (x21_4 + 1)), (by first | rfl | (simp; done) | (simp [*]; done)), (by first | rfl | (simp; done) | (simp [*]; done)), H', ⟨by have := HJ4.out; have := HK2.out; have := HJ23.out; have := HK4.out; omega⟩, ⟨by (with_reducible repeat first | apply RA | apply RN | apply RD); exact HO_13.out⟩, ⟨by (with_reducible repeat first | apply VA | apply VN | apply VD); exact HO_401000.out⟩, ⟨by (with_reducible repeat first | apply VA | apply VN | apply VD); exact HO_401001.out⟩, ⟨by (with_reducible repeat first | refine qN ?_ _ | refine qD ?_ | refine qA ?_ _); exact B399.out⟩, ⟨by (with_reducible repeat first | refine qN ?_ _ | refine qD ?_ | refine qA ?_ _); exact B400.out⟩, ⟨by repeat (first | (with_reducible first | exact HB.out | apply eA | apply eN | apply eD | refine eS ?_ GE399.out | refine eS ?_ GE400.out) | exact HB.out)⟩⟩
                ·rw [if_neg c87] at H
                 have c87b0 : decide (0 < x21_4) = false := decide_eq_false c87
                 clear c87
                 have H' := qM H
                 clear H
                 obtain ⟨Ao89, co89, eo89⟩ := Kd.R_slice HO_13.out
                 subst eo89
                 have p443 : 0 ≤ (x21_4 : Int) := of_decide_eq_true (by first | (with_reducible assumption) | assumption)
                 have q443 : x21_4 < (x13_2.length : Int) := of_decide_eq_true (by first | (with_reducible assumption) | assumption)
                 obtain ⟨ad443, e443, hx443_0⟩ := Kd.at_string (Kd.R_reads' HO_13.out).2.2 x21_4 p443 q443
                 cases e443
                 replace p443 := eq_true p443
                 replace q443 := eq_true q443
                 go_wp2
                 go_roundg k4
                 case measure => have := HJ4.out; have := HK2.out; have := HJ23.out; have := HK4.out; omega
                 case rel => exact ⟨((t413 == 0)), (wrap64 (x21_4 + 1)), (by first | rfl | (simp; done) | (simp [*]; done)), (by first | rfl | (simp; done) | (simp [*]; done)), H', ⟨by have := HJ4.out; have := HK2.out; have := HJ23.out; have := HK4.out; omega⟩, ⟨by (with_reducible repeat first | apply RA | apply RN | apply RD); exact HO_13.out⟩, ⟨by (with_reducible repeat first | apply VA | apply VN | apply VD); exact HO_401000.out⟩, ⟨by (with_reducible repeat first | apply VA | apply VN | apply VD); exact HO_401001.out⟩, ⟨by (with_reducible repeat first | refine qN ?_ _ | refine qD ?_ | refine qA ?_ _); exact B399.out⟩, ⟨by (with_reducible repeat first | refine qN ?_ _ | refine qD ?_ | refine qA ?_ _); exact B400.out⟩, ⟨by repeat (first | (with_reducible first | exact HB.out | apply eA | apply eN | apply eD | refine eS ?_ GE399.out | refine eS ?_ GE400.out) | exact HB.out)⟩⟩
               ·rw [if_neg c86] at H
                have c86b0 : ((rdOf ByteArray.empty x13_2 x21_4).toList == t440.toList) = false := beq_eq_false_iff_ne.mpr c86
                have c86b1 : ((rdOf ByteArray.empty x13_2 x21_4).toList != t440.toList) = true := bne_iff_ne.mpr c86
                have H' := qM H
                clear H
                obtain ⟨Ao90, co90, eo90⟩ := Kd.R_slice HO_13.out
                subst eo90
                have p443 : 0 ≤ (x21_4 : Int) := of_decide_eq_true (by first | (with_reducible assumption) | assumption)
                have q443 : x21_4 < (x13_2.length : Int) := of_decide_eq_true (by first | (with_reducible assumption) | assumption)
                obtain ⟨ad443, e443, hx443_0⟩ := Kd.at_string (Kd.R_reads' HO_13.out).2.2 x21_4 p443 q443
                cases e443
                replace p443 := eq_true p443
                replace q443 := eq_true q443
                go_wp2
                go_roundg k4
                case measure => have := HJ4.out; have := HK2.out; have := HJ23.out; have := HK4.out; omega
                case rel => exact ⟨(false), (wrap64 (x21_4 + 1)), (by first | rfl | (simp; done) | (simp [*]; done)), (by first | rfl | (simp; done) | (simp [*]; done)), H', ⟨by have := HJ4.out; have := HK2.out; have := HJ23.out; have := HK4.out; omega⟩, ⟨by (with_reducible repeat first | apply RA | apply RN | apply RD); exact HO_13.out⟩, ⟨by (with_reducible repeat first | apply VA | apply VN | apply VD); exact HO_401000.out⟩, ⟨by (with_reducible repeat first | apply VA | apply VN | apply VD); exact HO_401001.out⟩, ⟨by (with_reducible repeat first | refine qN ?_ _ | refine qD ?_ | refine qA ?_ _); exact B399.out⟩, ⟨by (with_reducible repeat first | refine qN ?_ _ | refine qD ?_ | refine qA ?_ _); exact B400.out⟩, ⟨by repeat (first | (with_reducible first | exact HB.out | apply eA | apply eN | apply eD | refine eS ?_ GE399.out | refine eS ?_ GE400.out) | exact HB.out)⟩⟩
              ·rw [if_neg c85] at H
               exact absurd H (by simp)
            ·rw [if_neg c82] at H
             have c82b0 : decide (x21_4 < (x13_2.length : Int)) = false := decide_eq_false c82
             clear c82
             by_cases c91 : t401 = true
             ·subst c91
              have H1 : (if t442 = 0 then (some x20_4) else (some false)) = some r := by rw [if_pos rfl] at H; exact H
              clear H
              have H := H1
              clear H1
              by_cases c92 : t442 = 0
              ·rw [if_pos c92] at H
               have c92b0 : (t442 == 0) = true := beq_iff_eq.mpr c92
               have c92b1 : (t442 != 0) = false := bne_eq_false_iff_eq.mpr c92
               clear c92
               obtain rfl := Option.some.inj H
               obtain ⟨Ao93, co93, eo93⟩ := Kd.R_slice HO_13.out
               subst eo93
               go_wp2
               go_ret
               exact ⟨by first | rfl | (simp [errW_none, errW_some] <;> rfl) | (simp [*, errW_none, errW_some] <;> rfl), by repeat (first | (with_reducible first | exact HB.out | apply eA | apply eN | apply eD | refine eS ?_ GE399.out | refine eS ?_ GE400.out) | exact HB.out)⟩
              ·rw [if_neg c92] at H
               have c92b0 : (t442 == 0) = false := beq_eq_false_iff_ne.mpr c92
               have c92b1 : (t442 != 0) = true := bne_iff_ne.mpr c92
               obtain rfl := Option.some.inj H
               obtain ⟨Ao94, co94, eo94⟩ := Kd.R_slice HO_13.out
               subst eo94
               go_wp2
               go_ret
               exact ⟨by first | rfl | (simp [errW_none, errW_some] <;> rfl) | (simp [*, errW_none, errW_some] <;> rfl), by repeat (first | (with_reducible first | exact HB.out | apply eA | apply eN | apply eD | refine eS ?_ GE399.out | refine eS ?_ GE400.out) | exact HB.out)⟩
             ·replace c91 := Bool.eq_false_iff.mpr c91
              subst c91
              have H1 : (some false) = some r := by rw [if_neg (show ¬ (false = true) by decide)] at H; exact H
              clear H
              have H := H1
              clear H1
              obtain rfl := Option.some.inj H
              obtain ⟨Ao95, co95, eo95⟩ := Kd.R_slice HO_13.out
              subst eo95
              go_wp2
              go_ret
              exact ⟨by first | rfl | (simp [errW_none, errW_some] <;> rfl) | (simp [*, errW_none, errW_some] <;> rfl), by repeat (first | (with_reducible first | exact HB.out | apply eA | apply eN | apply eD | refine eS ?_ GE399.out | refine eS ?_ GE400.out) | exact HB.out)⟩

end Go.Proofs.Ythnhfmmiaknhgaa.PAll
