/- Functions of the program as plain Lean functions, and that each call comes to what they say. Laid by a program of this session (hprint.py); Lean checks it. -/
import Derived.Test.YtmaojfeikbdkhaaPAllx0
import Derived.Test.YtmaojfeikbdkhaaPAllx2
import Derived.Test.YtmaojfeikbdkhaaPAllx3
namespace Go.Proofs.Ytmaojfeikbdkhaa.PAll
open Go.RowKit Go.Proofs.YtmaojfeikbdkhaaW.PrintWords Go.Proofs.YtmaojfeikbdkhaaW.PrintLast Go.Proofs.YtmaojfeikbdkhaaW.PrintMore
attribute [local go_sem] max2_int min2_int max_two min_two max_three min_three max_four min_four   -- for this text's walks alone
set_option linter.unusedVariables false
set_option linter.unusedSimpArgs false

/-! ### hogsheadlaw08_DiskTorn: function 6 -/
mutual
def hogsheadlaw08_DiskTorn.j0 : Nat → Int → ByteArray → Int → Bool → Bool → List ByteArray → List (S47) → Int → Bool → List ByteArray → List (S47) → Int → Bool → Option (Bool)
  | 0, _, _, _, _, _, _, _, _, _, _, _, _, _ => none
  | k + 1, x4, x5, x6, x7, x45, x364000, x364001, x364002, x364003, x384000, x384001, x384002, x384003 => if x45 = true then (some x7) else ((disk_Crash.f k x384000 x384001 x384002 x384003 0 x6).bind fun bt384 => ((disk_Get.f bt384.1 bt384.2.1 bt384.2.2.1 bt384.2.2.2 x4).bind fun bt393 => (if bt393.2 = 0 then (hogsheadlaw08_DiskTorn.j1 k x4 x5 x6 x7 bt393.1 ((bt384.1.length : Int) != (x364000.length : Int)) x364000 x364001 x364002 x364003 bt384.1 bt384.2.1 bt384.2.2.1 bt384.2.2.2) else (hogsheadlaw08_DiskTorn.j1 k x4 x5 x6 x7 bt393.1 true x364000 x364001 x364002 x364003 bt384.1 bt384.2.1 bt384.2.2.1 bt384.2.2.2))))
def hogsheadlaw08_DiskTorn.j1 : Nat → Int → ByteArray → Int → Bool → ByteArray → Bool → List ByteArray → List (S47) → Int → Bool → List ByteArray → List (S47) → Int → Bool → Option (Bool)
  | 0, _, _, _, _, _, _, _, _, _, _, _, _, _, _ => none
  | k + 1, x4, x5, x6, x7, x12, x66, x364000, x364001, x364002, x364003, x393000, x393001, x393002, x393003 => if x66 = true then (some false) else (if (x12.size : Int) > (x5.size : Int) then (hogsheadlaw08_DiskTorn.j2 k x4 x7 true x364000 x364001 x364002 x364003 x393000 x393001 x393002 x393003) else (if 0 ≤ (x12.size : Int) then (if (x12.size : Int) ≤ (x5.size : Int) then (if (x5.extract 0 ((x12.size : Int) : Int).toNat).toList = x12.toList then (if (x12.size : Int) < (x5.size : Int) then (hogsheadlaw08_DiskTorn.j2 k x4 x7 ((x12.size : Int) != x6) x364000 x364001 x364002 x364003 x393000 x393001 x393002 x393003) else (hogsheadlaw08_DiskTorn.j2 k x4 x7 false x364000 x364001 x364002 x364003 x393000 x393001 x393002 x393003)) else (hogsheadlaw08_DiskTorn.j2 k x4 x7 true x364000 x364001 x364002 x364003 x393000 x393001 x393002 x393003)) else (none)) else (none)))
def hogsheadlaw08_DiskTorn.j2 : Nat → Int → Bool → Bool → List ByteArray → List (S47) → Int → Bool → List ByteArray → List (S47) → Int → Bool → Option (Bool)
  | 0, _, _, _, _, _, _, _, _, _, _, _ => none
  | k + 1, x4, x7, x92, x364000, x364001, x364002, x364003, x393000, x393001, x393002, x393003 => if x92 = true then (some false) else (hogsheadlaw08_DiskTorn.l0 k x4 x7 0 x364000 x364001 x364002 x364003 x393000 x393001 x393002 x393003)
def hogsheadlaw08_DiskTorn.l0 : Nat → Int → Bool → Int → List ByteArray → List (S47) → Int → Bool → List ByteArray → List (S47) → Int → Bool → Option (Bool)
  | 0, _, _, _, _, _, _, _, _, _, _, _ => none
  | k + 1, x4, x7, x14, x364000, x364001, x364002, x364003, x393000, x393001, x393002, x393003 => if x14 < (x364000.length : Int) then (if x14 = x4 then (hogsheadlaw08_DiskTorn.j4 k x4 x7 x14 false x364000 x364001 x364002 x364003 x393000 x393001 x393002 x393003) else (if 0 ≤ x14 then (if x14 < (x393000.length : Int) then (hogsheadlaw08_DiskTorn.j4 k x4 x7 x14 ((rdOf ByteArray.empty x393000 x14).toList != (rdOf ByteArray.empty x364000 x14).toList) x364000 x364001 x364002 x364003 x393000 x393001 x393002 x393003) else (none)) else (none))) else (some x7)
def hogsheadlaw08_DiskTorn.j4 : Nat → Int → Bool → Int → Bool → List ByteArray → List (S47) → Int → Bool → List ByteArray → List (S47) → Int → Bool → Option (Bool)
  | 0, _, _, _, _, _, _, _, _, _, _, _, _ => none
  | k + 1, x4, x7, x14, x115, x364000, x364001, x364002, x364003, x393000, x393001, x393002, x393003 => if x115 = true then (some false) else (hogsheadlaw08_DiskTorn.l0 k x4 x7 (wrap64 (x14 + 1)) x364000 x364001 x364002 x364003 x393000 x393001 x393002 x393003)
end
def hogsheadlaw08_DiskTorn.f (k : Nat) (l0_0 : List ByteArray) (l0_1 : List (S47)) (a0_2 : Int) (a0_3 : Bool) (a0_4 : Int) (a0_5 : ByteArray) (a0_6 : Int) : Option (Bool) := (hogsheadlaw08_shown.f k).bind fun t364 => ((disk_Flush.f k l0_0 l0_1 a0_2 a0_3).bind fun bt365 => ((disk_Put.f bt365.1 bt365.2.1 bt365.2.2.1 bt365.2.2.2.1 a0_4 a0_5).bind fun bt374 => (if bt365.2.2.2.2 = 0 then (if bt374.2.2.2.2 = 0 then (hogsheadlaw08_DiskTorn.j0 k a0_4 a0_5 a0_6 t364 (decide (a0_6 < 0)) bt365.1 bt365.2.1 bt365.2.2.1 bt365.2.2.2.1 bt374.1 bt374.2.1 bt374.2.2.1 bt374.2.2.2.1) else (hogsheadlaw08_DiskTorn.j0 k a0_4 a0_5 a0_6 t364 true bt365.1 bt365.2.1 bt365.2.2.1 bt365.2.2.2.1 bt374.1 bt374.2.1 bt374.2.2.1 bt374.2.2.2.1)) else (hogsheadlaw08_DiskTorn.j0 k a0_4 a0_5 a0_6 t364 true bt365.1 bt365.2.1 bt365.2.2.1 bt365.2.2.2.1 bt374.1 bt374.2.1 bt374.2.2.1 bt374.2.2.2.1))))
theorem hogsheadlaw08_DiskTorn.mono_l : ∀ k, (∀ y0 y1 y2 y3 y4 y5 y6 y7 y8 y9 y10 y11 y12, LeO (hogsheadlaw08_DiskTorn.j0 k y0 y1 y2 y3 y4 y5 y6 y7 y8 y9 y10 y11 y12) (hogsheadlaw08_DiskTorn.j0 (k + 1) y0 y1 y2 y3 y4 y5 y6 y7 y8 y9 y10 y11 y12)) ∧ (∀ y0 y1 y2 y3 y4 y5 y6 y7 y8 y9 y10 y11 y12 y13, LeO (hogsheadlaw08_DiskTorn.j1 k y0 y1 y2 y3 y4 y5 y6 y7 y8 y9 y10 y11 y12 y13) (hogsheadlaw08_DiskTorn.j1 (k + 1) y0 y1 y2 y3 y4 y5 y6 y7 y8 y9 y10 y11 y12 y13)) ∧ (∀ y0 y1 y2 y3 y4 y5 y6 y7 y8 y9 y10, LeO (hogsheadlaw08_DiskTorn.j2 k y0 y1 y2 y3 y4 y5 y6 y7 y8 y9 y10) (hogsheadlaw08_DiskTorn.j2 (k + 1) y0 y1 y2 y3 y4 y5 y6 y7 y8 y9 y10)) ∧ (∀ y0 y1 y2 y3 y4 y5 y6 y7 y8 y9 y10, LeO (hogsheadlaw08_DiskTorn.l0 k y0 y1 y2 y3 y4 y5 y6 y7 y8 y9 y10) (hogsheadlaw08_DiskTorn.l0 (k + 1) y0 y1 y2 y3 y4 y5 y6 y7 y8 y9 y10)) ∧ (∀ y0 y1 y2 y3 y4 y5 y6 y7 y8 y9 y10 y11, LeO (hogsheadlaw08_DiskTorn.j4 k y0 y1 y2 y3 y4 y5 y6 y7 y8 y9 y10 y11) (hogsheadlaw08_DiskTorn.j4 (k + 1) y0 y1 y2 y3 y4 y5 y6 y7 y8 y9 y10 y11))
  | 0 => ⟨fun _ _ _ _ _ _ _ _ _ _ _ _ _ r h => by simp [hogsheadlaw08_DiskTorn.j0] at h, fun _ _ _ _ _ _ _ _ _ _ _ _ _ _ r h => by simp [hogsheadlaw08_DiskTorn.j1] at h, fun _ _ _ _ _ _ _ _ _ _ _ r h => by simp [hogsheadlaw08_DiskTorn.j2] at h, fun _ _ _ _ _ _ _ _ _ _ _ r h => by simp [hogsheadlaw08_DiskTorn.l0] at h, fun _ _ _ _ _ _ _ _ _ _ _ _ r h => by simp [hogsheadlaw08_DiskTorn.j4] at h⟩
  | k + 1 => by
    obtain ⟨ih0, ih1, ih2, ih3, ih4⟩ := hogsheadlaw08_DiskTorn.mono_l k
    refine ⟨?_, ?_, ?_, ?_, ?_⟩
    · intro y0 y1 y2 y3 y4 y5 y6 y7 y8 y9 y10 y11 y12
      unfold hogsheadlaw08_DiskTorn.j0
      repeat' first
      | (with_reducible exact ih0 _ _ _ _ _ _ _ _ _ _ _ _ _)
      | (with_reducible exact ih1 _ _ _ _ _ _ _ _ _ _ _ _ _ _)
      | (with_reducible exact ih2 _ _ _ _ _ _ _ _ _ _ _)
      | (with_reducible exact ih3 _ _ _ _ _ _ _ _ _ _ _)
      | (with_reducible exact ih4 _ _ _ _ _ _ _ _ _ _ _ _)
      | (with_reducible exact disk_Crash.mono _ _ _ _ _ _ _)
      | (with_reducible exact disk_Flush.mono _ _ _ _ _)
      | (with_reducible exact hogsheadlaw08_shown.mono _)
      | (with_reducible exact LeO.refl _)
      | (with_reducible exact LeO.none _)
      | (with_reducible refine LeO.ite ?_ ?_)
      | (with_reducible refine LeO.bind ?_ (fun _ => ?_))
      | exact ih0 _ _ _ _ _ _ _ _ _ _ _ _ _
      | exact ih1 _ _ _ _ _ _ _ _ _ _ _ _ _ _
      | exact ih2 _ _ _ _ _ _ _ _ _ _ _
      | exact ih3 _ _ _ _ _ _ _ _ _ _ _
      | exact ih4 _ _ _ _ _ _ _ _ _ _ _ _
      | exact disk_Crash.mono _ _ _ _ _ _ _
      | exact disk_Flush.mono _ _ _ _ _
      | exact hogsheadlaw08_shown.mono _
      | exact LeO.none _
      | refine LeO.ite ?_ ?_
      | refine LeO.bind ?_ (fun _ => ?_)
    · intro y0 y1 y2 y3 y4 y5 y6 y7 y8 y9 y10 y11 y12 y13
      unfold hogsheadlaw08_DiskTorn.j1
      repeat' first
      | (with_reducible exact ih0 _ _ _ _ _ _ _ _ _ _ _ _ _)
      | (with_reducible exact ih1 _ _ _ _ _ _ _ _ _ _ _ _ _ _)
      | (with_reducible exact ih2 _ _ _ _ _ _ _ _ _ _ _)
      | (with_reducible exact ih3 _ _ _ _ _ _ _ _ _ _ _)
      | (with_reducible exact ih4 _ _ _ _ _ _ _ _ _ _ _ _)
      | (with_reducible exact disk_Crash.mono _ _ _ _ _ _ _)
      | (with_reducible exact disk_Flush.mono _ _ _ _ _)
      | (with_reducible exact hogsheadlaw08_shown.mono _)
      | (with_reducible exact LeO.refl _)
      | (with_reducible exact LeO.none _)
      | (with_reducible refine LeO.ite ?_ ?_)
      | (with_reducible refine LeO.bind ?_ (fun _ => ?_))
      | exact ih0 _ _ _ _ _ _ _ _ _ _ _ _ _
      | exact ih1 _ _ _ _ _ _ _ _ _ _ _ _ _ _
      | exact ih2 _ _ _ _ _ _ _ _ _ _ _
      | exact ih3 _ _ _ _ _ _ _ _ _ _ _
      | exact ih4 _ _ _ _ _ _ _ _ _ _ _ _
      | exact disk_Crash.mono _ _ _ _ _ _ _
      | exact disk_Flush.mono _ _ _ _ _
      | exact hogsheadlaw08_shown.mono _
      | exact LeO.none _
      | refine LeO.ite ?_ ?_
      | refine LeO.bind ?_ (fun _ => ?_)
    · intro y0 y1 y2 y3 y4 y5 y6 y7 y8 y9 y10
      unfold hogsheadlaw08_DiskTorn.j2
      repeat' first
      | (with_reducible exact ih0 _ _ _ _ _ _ _ _ _ _ _ _ _)
      | (with_reducible exact ih1 _ _ _ _ _ _ _ _ _ _ _ _ _ _)
      | (with_reducible exact ih2 _ _ _ _ _ _ _ _ _ _ _)
      | (with_reducible exact ih3 _ _ _ _ _ _ _ _ _ _ _)
      | (with_reducible exact ih4 _ _ _ _ _ _ _ _ _ _ _ _)
      | (with_reducible exact disk_Crash.mono _ _ _ _ _ _ _)
      | (with_reducible exact disk_Flush.mono _ _ _ _ _)
      | (with_reducible exact hogsheadlaw08_shown.mono _)
      | (with_reducible exact LeO.refl _)
      | (with_reducible exact LeO.none _)
      | (with_reducible refine LeO.ite ?_ ?_)
      | (with_reducible refine LeO.bind ?_ (fun _ => ?_))
      | exact ih0 _ _ _ _ _ _ _ _ _ _ _ _ _
      | exact ih1 _ _ _ _ _ _ _ _ _ _ _ _ _ _
      | exact ih2 _ _ _ _ _ _ _ _ _ _ _
      | exact ih3 _ _ _ _ _ _ _ _ _ _ _
      | exact ih4 _ _ _ _ _ _ _ _ _ _ _ _
      | exact disk_Crash.mono _ _ _ _ _ _ _
      | exact disk_Flush.mono _ _ _ _ _
      | exact hogsheadlaw08_shown.mono _
      | exact LeO.none _
      | refine LeO.ite ?_ ?_
      | refine LeO.bind ?_ (fun _ => ?_)
    · intro y0 y1 y2 y3 y4 y5 y6 y7 y8 y9 y10
      unfold hogsheadlaw08_DiskTorn.l0
      repeat' first
      | (with_reducible exact ih0 _ _ _ _ _ _ _ _ _ _ _ _ _)
      | (with_reducible exact ih1 _ _ _ _ _ _ _ _ _ _ _ _ _ _)
      | (with_reducible exact ih2 _ _ _ _ _ _ _ _ _ _ _)
      | (with_reducible exact ih3 _ _ _ _ _ _ _ _ _ _ _)
      | (with_reducible exact ih4 _ _ _ _ _ _ _ _ _ _ _ _)
      | (with_reducible exact disk_Crash.mono _ _ _ _ _ _ _)
      | (with_reducible exact disk_Flush.mono _ _ _ _ _)
      | (with_reducible exact hogsheadlaw08_shown.mono _)
      | (with_reducible exact LeO.refl _)
      | (with_reducible exact LeO.none _)
      | (with_reducible refine LeO.ite ?_ ?_)
      | (with_reducible refine LeO.bind ?_ (fun _ => ?_))
      | exact ih0 _ _ _ _ _ _ _ _ _ _ _ _ _
      | exact ih1 _ _ _ _ _ _ _ _ _ _ _ _ _ _
      | exact ih2 _ _ _ _ _ _ _ _ _ _ _
      | exact ih3 _ _ _ _ _ _ _ _ _ _ _
      | exact ih4 _ _ _ _ _ _ _ _ _ _ _ _
      | exact disk_Crash.mono _ _ _ _ _ _ _
      | exact disk_Flush.mono _ _ _ _ _
      | exact hogsheadlaw08_shown.mono _
      | exact LeO.none _
      | refine LeO.ite ?_ ?_
      | refine LeO.bind ?_ (fun _ => ?_)
    · intro y0 y1 y2 y3 y4 y5 y6 y7 y8 y9 y10 y11
      unfold hogsheadlaw08_DiskTorn.j4
      repeat' first
      | (with_reducible exact ih0 _ _ _ _ _ _ _ _ _ _ _ _ _)
      | (with_reducible exact ih1 _ _ _ _ _ _ _ _ _ _ _ _ _ _)
      | (with_reducible exact ih2 _ _ _ _ _ _ _ _ _ _ _)
      | (with_reducible exact ih3 _ _ _ _ _ _ _ _ _ _ _)
      | (with_reducible exact ih4 _ _ _ _ _ _ _ _ _ _ _ _)
      | (with_reducible exact disk_Crash.mono _ _ _ _ _ _ _)
      | (with_reducible exact disk_Flush.mono _ _ _ _ _)
      | (with_reducible exact hogsheadlaw08_shown.mono _)
      | (with_reducible exact LeO.refl _)
      | (with_reducible exact LeO.none _)
      | (with_reducible refine LeO.ite ?_ ?_)
      | (with_reducible refine LeO.bind ?_ (fun _ => ?_))
      | exact ih0 _ _ _ _ _ _ _ _ _ _ _ _ _
      | exact ih1 _ _ _ _ _ _ _ _ _ _ _ _ _ _
      | exact ih2 _ _ _ _ _ _ _ _ _ _ _
      | exact ih3 _ _ _ _ _ _ _ _ _ _ _
      | exact ih4 _ _ _ _ _ _ _ _ _ _ _ _
      | exact disk_Crash.mono _ _ _ _ _ _ _
      | exact disk_Flush.mono _ _ _ _ _
      | exact hogsheadlaw08_shown.mono _
      | exact LeO.none _
      | refine LeO.ite ?_ ?_
      | refine LeO.bind ?_ (fun _ => ?_)
theorem hogsheadlaw08_DiskTorn.mono : ∀ a0 a1 a2 a3 a4 a5 a6 k, LeO (hogsheadlaw08_DiskTorn.f k a0 a1 a2 a3 a4 a5 a6) (hogsheadlaw08_DiskTorn.f (k + 1) a0 a1 a2 a3 a4 a5 a6) := by
  intro a0 a1 a2 a3 a4 a5 a6 k
  obtain ⟨ih0, ih1, ih2, ih3, ih4⟩ := hogsheadlaw08_DiskTorn.mono_l k
  unfold hogsheadlaw08_DiskTorn.f
  repeat' first
      | (with_reducible exact ih0 _ _ _ _ _ _ _ _ _ _ _ _ _)
      | (with_reducible exact ih1 _ _ _ _ _ _ _ _ _ _ _ _ _ _)
      | (with_reducible exact ih2 _ _ _ _ _ _ _ _ _ _ _)
      | (with_reducible exact ih3 _ _ _ _ _ _ _ _ _ _ _)
      | (with_reducible exact ih4 _ _ _ _ _ _ _ _ _ _ _ _)
      | (with_reducible exact disk_Crash.mono _ _ _ _ _ _ _)
      | (with_reducible exact disk_Flush.mono _ _ _ _ _)
      | (with_reducible exact hogsheadlaw08_shown.mono _)
      | (with_reducible exact LeO.refl _)
      | (with_reducible exact LeO.none _)
      | (with_reducible refine LeO.ite ?_ ?_)
      | (with_reducible refine LeO.bind ?_ (fun _ => ?_))
      | exact ih0 _ _ _ _ _ _ _ _ _ _ _ _ _
      | exact ih1 _ _ _ _ _ _ _ _ _ _ _ _ _ _
      | exact ih2 _ _ _ _ _ _ _ _ _ _ _
      | exact ih3 _ _ _ _ _ _ _ _ _ _ _
      | exact ih4 _ _ _ _ _ _ _ _ _ _ _ _
      | exact disk_Crash.mono _ _ _ _ _ _ _
      | exact disk_Flush.mono _ _ _ _ _
      | exact hogsheadlaw08_shown.mono _
      | exact LeO.none _
      | refine LeO.ite ?_ ?_
      | refine LeO.bind ?_ (fun _ => ?_)
set_option maxHeartbeats 8000000 in
set_option maxRecDepth 100000 in
theorem hogsheadlaw08_DiskTorn.calls (k : Nat) (A0_0 : Option Addr) (c0_0 : Nat) (l0_0 : List ByteArray) (A0_1 : Option Addr) (c0_1 : Nat) (l0_1 : List (S47)) (a0_2 : Int) (a0_3 : Bool) (a0_4 : Int) (a0_5 : ByteArray) (a0_6 : Int) (r : Bool) (w : World) (hr0_0 : Kd.C Kd.string w A0_0 l0_0.length l0_0) (hc0_0 : l0_0.length ≤ c0_0) (hr0_1 : Kd.C k47 w A0_1 l0_1.length l0_1) (hc0_1 : l0_1.length ≤ c0_1) (h : hogsheadlaw08_DiskTorn.f k l0_0 l0_1 a0_2 a0_3 a0_4 a0_5 a0_6 = some r) :
    Calls Try.prog 6 #[.agg #[.slice A0_0 l0_0.length c0_0, .slice A0_1 l0_1.length c0_1, .int .i64 a0_2, .bool a0_3, .int .i64 a0_4, .string a0_5, .int .i64 a0_6]] w fun e w' => e = .returned (.bool r) ∧ Below w.heap.size w w' := by
  have hu54 := Try.underlying54
  have hu25 := Try.underlying25
  have HR0_0 := Aside0.mk hr0_0
  have HC0_0 := Aside0.mk hc0_0
  clear hr0_0 hc0_0
  have HR0_1 := Aside0.mk hr0_1
  have HC0_1 := Aside0.mk hc0_1
  clear hr0_1 hc0_1
  have HB := Aside0.mk (Below.refl w.heap.size w)
  have H : ((hogsheadlaw08_shown.f k).bind fun t364 => ((disk_Flush.f k l0_0 l0_1 a0_2 a0_3).bind fun bt365 => ((disk_Put.f bt365.1 bt365.2.1 bt365.2.2.1 bt365.2.2.2.1 a0_4 a0_5).bind fun bt374 => (if bt365.2.2.2.2 = 0 then (if bt374.2.2.2.2 = 0 then (hogsheadlaw08_DiskTorn.j0 k a0_4 a0_5 a0_6 t364 (decide (a0_6 < 0)) bt365.1 bt365.2.1 bt365.2.2.1 bt365.2.2.2.1 bt374.1 bt374.2.1 bt374.2.2.1 bt374.2.2.2.1) else (hogsheadlaw08_DiskTorn.j0 k a0_4 a0_5 a0_6 t364 true bt365.1 bt365.2.1 bt365.2.2.1 bt365.2.2.2.1 bt374.1 bt374.2.1 bt374.2.2.1 bt374.2.2.2.1)) else (hogsheadlaw08_DiskTorn.j0 k a0_4 a0_5 a0_6 t364 true bt365.1 bt365.2.1 bt365.2.2.1 bt365.2.2.2.1 bt374.1 bt374.2.1 bt374.2.2.1 bt374.2.2.2.1))))) = some r := h
  clear h
  replace H := Option.bind_eq_some_iff.mp H
  obtain ⟨t364, A20, H⟩ := H
  replace H : ((disk_Flush.f k l0_0 l0_1 a0_2 a0_3).bind fun bt365 => ((disk_Put.f bt365.1 bt365.2.1 bt365.2.2.1 bt365.2.2.2.1 a0_4 a0_5).bind fun bt374 => (if bt365.2.2.2.2 = 0 then (if bt374.2.2.2.2 = 0 then (hogsheadlaw08_DiskTorn.j0 k a0_4 a0_5 a0_6 t364 (decide (a0_6 < 0)) bt365.1 bt365.2.1 bt365.2.2.1 bt365.2.2.2.1 bt374.1 bt374.2.1 bt374.2.2.1 bt374.2.2.2.1) else (hogsheadlaw08_DiskTorn.j0 k a0_4 a0_5 a0_6 t364 true bt365.1 bt365.2.1 bt365.2.2.1 bt365.2.2.2.1 bt374.1 bt374.2.1 bt374.2.2.1 bt374.2.2.2.1)) else (hogsheadlaw08_DiskTorn.j0 k a0_4 a0_5 a0_6 t364 true bt365.1 bt365.2.1 bt365.2.2.1 bt365.2.2.2.1 bt374.1 bt374.2.1 bt374.2.2.1 bt374.2.2.2.1)))) = some r := H
  have A2 := Aside0.mk A20
  clear A20
  replace H := Option.bind_eq_some_iff.mp H
  obtain ⟨⟨t365, t368, t371, t372, t373⟩, A30, H⟩ := H
  replace H : ((disk_Put.f t365 t368 t371 t372 a0_4 a0_5).bind fun bt374 => (if t373 = 0 then (if bt374.2.2.2.2 = 0 then (hogsheadlaw08_DiskTorn.j0 k a0_4 a0_5 a0_6 t364 (decide (a0_6 < 0)) t365 t368 t371 t372 bt374.1 bt374.2.1 bt374.2.2.1 bt374.2.2.2.1) else (hogsheadlaw08_DiskTorn.j0 k a0_4 a0_5 a0_6 t364 true t365 t368 t371 t372 bt374.1 bt374.2.1 bt374.2.2.1 bt374.2.2.2.1)) else (hogsheadlaw08_DiskTorn.j0 k a0_4 a0_5 a0_6 t364 true t365 t368 t371 t372 bt374.1 bt374.2.1 bt374.2.2.1 bt374.2.2.2.1))) = some r := H
  have A3 := Aside0.mk A30
  clear A30
  replace H := Option.bind_eq_some_iff.mp H
  obtain ⟨⟨t374, t377, t380, t381, t382⟩, A40, H⟩ := H
  replace H : (if t373 = 0 then (if t382 = 0 then (hogsheadlaw08_DiskTorn.j0 k a0_4 a0_5 a0_6 t364 (decide (a0_6 < 0)) t365 t368 t371 t372 t374 t377 t380 t381) else (hogsheadlaw08_DiskTorn.j0 k a0_4 a0_5 a0_6 t364 true t365 t368 t371 t372 t374 t377 t380 t381)) else (hogsheadlaw08_DiskTorn.j0 k a0_4 a0_5 a0_6 t364 true t365 t368 t371 t372 t374 t377 t380 t381)) = some r := H
  have A4 := Aside0.mk A40
  clear A40
  have HC5 := Aside0.mk H
  clear H
  go_enter Try.func6, Try.ntmps6
  go_upto_region 8 with (first | ((with_reducible refine gate_dst (N := 1) rfl ?_); (try (refine gate_guard (by rfl) ?_; dsimp only)); refine box_event ?hg (N := 1) ?hd (cs := #[.slice A0_0 l0_0.length c0_0, .slice A0_1 l0_1.length c0_1, .int .i64 a0_2, .bool a0_3, .int .i64 a0_4, .string a0_5, .int .i64 a0_6]) (t := 54) ?hr ?_; (case hd => rfl); (case hg => rfl); (case hr => first | (go_simp; done) | (go_simp; rfl)); intro gb362 hg w6 hbox hb; have n0_ := Aside0.mk (below_step (by repeat (first | (with_reducible first | exact HB.out | apply below_alloc | apply pw_below_drewN | apply below_drew1) | exact HB.out)) hb); have n1_ := Aside0.mk (hbox); have n2_ := Aside0.mk ((by rw [hg]; exact (below_size (by repeat (first | (with_reducible first | exact HB.out | apply below_alloc | apply pw_below_drewN | apply below_drew1) | exact HB.out))) : w.heap.size ≤ gb362)); have n3_ := Aside0.mk ((by rw [hg]; exact (below_size (by repeat (first | (with_reducible first | exact HB.out | apply below_alloc | apply pw_below_drewN | apply below_drew1) | exact HB.out))) : w.heap.size ≤ gb362)); clear HB; have HB := n0_; have BK362 := n1_; have GW362 := n2_; have GE362 := n3_; clear n0_ n1_ n2_ n3_; clear hb hbox hg; have hcz7_0 : w6.cell? ⟨gb362, 0, none⟩ = some (.slice A0_0 l0_0.length c0_0) := (blk_cell BK362.out 0).trans rfl; have hcz7_1 : w6.cell? ⟨gb362, 1, none⟩ = some (.slice A0_1 l0_1.length c0_1) := (blk_cell BK362.out 1).trans rfl; have hcz7_2 : w6.cell? ⟨gb362, 2, none⟩ = some (.int .i64 a0_2) := (blk_cell BK362.out 2).trans rfl; have hcz7_3 : w6.cell? ⟨gb362, 3, none⟩ = some (.bool a0_3) := (blk_cell BK362.out 3).trans rfl; have hcz7_4 : w6.cell? ⟨gb362, 4, none⟩ = some (.int .i64 a0_4) := (blk_cell BK362.out 4).trans rfl; have hcz7_5 : w6.cell? ⟨gb362, 5, none⟩ = some (.string a0_5) := (blk_cell BK362.out 5).trans rfl; have hcz7_6 : w6.cell? ⟨gb362, 6, none⟩ = some (.int .i64 a0_6) := (blk_cell BK362.out 6).trans rfl; have hfz7_0 := blk_frozen BK362.out 0; have hfz7_1 := blk_frozen BK362.out 1; have hfz7_2 := blk_frozen BK362.out 2; have hfz7_3 := blk_frozen BK362.out 3; have hfz7_4 := blk_frozen BK362.out 4; have hfz7_5 := blk_frozen BK362.out 5; have hfz7_6 := blk_frozen BK362.out 6) | ((with_reducible refine gate_dst (N := 3) rfl ?_); (try (refine gate_guard (by rfl) ?_; dsimp only)); refine box_event ?hg (N := 3) ?hd (cs := #[.slice none 0 0, .slice none 0 0, .int .i64 0, .bool false]) (t := 25) ?hr ?_; (case hd => rfl); (case hg => rfl); (case hr => first | (go_simp; done) | (go_simp; rfl)); intro gb363 hg w8 hbox hb; have n0_ := Aside0.mk (blk_below (g := gb362) (o := .cells #[.slice A0_0 l0_0.length c0_0, .slice A0_1 l0_1.length c0_1, .int .i64 a0_2, .bool a0_3, .int .i64 a0_4, .string a0_5, .int .i64 a0_6] 54 (0, 0)) (by (with_reducible repeat (first | refine blk_drewN ?_ _ | refine blk_drew ?_ | refine blk_alloc ?_ _)); exact BK362.out) hb); have n1_ := Aside0.mk (below_step (by repeat (first | (with_reducible first | exact HB.out | apply below_alloc | apply pw_below_drewN | apply below_drew1 | refine below_set ?_ GE362.out) | exact HB.out)) hb); have n2_ := Aside0.mk (hbox); have n3_ := Aside0.mk ((by rw [hg]; exact (below_size (by repeat (first | (with_reducible first | exact HB.out | apply below_alloc | apply pw_below_drewN | apply below_drew1 | refine below_set ?_ GE362.out) | exact HB.out))) : w.heap.size ≤ gb363)); have n4_ := Aside0.mk ((by rw [hg]; exact (below_size (by repeat (first | (with_reducible first | exact HB.out | apply below_alloc | apply pw_below_drewN | apply below_drew1 | refine below_set ?_ GE362.out) | exact HB.out))) : w.heap.size ≤ gb363)); have n5_ := Aside0.mk ((by rw [hg]; exact Nat.ne_of_lt (blk_lt (g := gb362) (o := .cells #[.slice A0_0 l0_0.length c0_0, .slice A0_1 l0_1.length c0_1, .int .i64 a0_2, .bool a0_3, .int .i64 a0_4, .string a0_5, .int .i64 a0_6] 54 (0, 0)) (by (with_reducible repeat (first | refine blk_drewN ?_ _ | refine blk_drew ?_ | refine blk_alloc ?_ _)); exact BK362.out)) : gb362 ≠ gb363)); have n6_ := Aside0.mk ((by rw [hg]; exact Nat.ne_of_gt (blk_lt (g := gb362) (o := .cells #[.slice A0_0 l0_0.length c0_0, .slice A0_1 l0_1.length c0_1, .int .i64 a0_2, .bool a0_3, .int .i64 a0_4, .string a0_5, .int .i64 a0_6] 54 (0, 0)) (by (with_reducible repeat (first | refine blk_drewN ?_ _ | refine blk_drew ?_ | refine blk_alloc ?_ _)); exact BK362.out)) : gb363 ≠ gb362)); clear BK362; clear HB; have BK362 := n0_; have HB := n1_; have BK363 := n2_; have GW363 := n3_; have GE363 := n4_; have NB362_363 := n5_; have NB363_362 := n6_; clear n0_ n1_ n2_ n3_ n4_ n5_ n6_; clear hb hbox hg; have hnb9 := NB363_362.out; have hnc9 := NB362_363.out; have hcz10_0 : w8.cell? ⟨gb363, 0, none⟩ = some (.slice none 0 0) := (blk_cell BK363.out 0).trans rfl; have hcz10_1 : w8.cell? ⟨gb363, 1, none⟩ = some (.slice none 0 0) := (blk_cell BK363.out 1).trans rfl; have hcz10_2 : w8.cell? ⟨gb363, 2, none⟩ = some (.int .i64 0) := (blk_cell BK363.out 2).trans rfl; have hcz10_3 : w8.cell? ⟨gb363, 3, none⟩ = some (.bool false) := (blk_cell BK363.out 3).trans rfl; have hfz10_0 := blk_frozen BK363.out 0; have hfz10_1 := blk_frozen BK363.out 1; have hfz10_2 := blk_frozen BK363.out 2; have hfz10_3 := blk_frozen BK363.out 3; have hcz11_0 : w8.cell? ⟨gb362, 0, none⟩ = some (.slice A0_0 l0_0.length c0_0) := (blk_cell BK362.out 0).trans rfl; have hcz11_1 : w8.cell? ⟨gb362, 1, none⟩ = some (.slice A0_1 l0_1.length c0_1) := (blk_cell BK362.out 1).trans rfl; have hcz11_2 : w8.cell? ⟨gb362, 2, none⟩ = some (.int .i64 a0_2) := (blk_cell BK362.out 2).trans rfl; have hcz11_3 : w8.cell? ⟨gb362, 3, none⟩ = some (.bool a0_3) := (blk_cell BK362.out 3).trans rfl; have hcz11_4 : w8.cell? ⟨gb362, 4, none⟩ = some (.int .i64 a0_4) := (blk_cell BK362.out 4).trans rfl; have hcz11_5 : w8.cell? ⟨gb362, 5, none⟩ = some (.string a0_5) := (blk_cell BK362.out 5).trans rfl; have hcz11_6 : w8.cell? ⟨gb362, 6, none⟩ = some (.int .i64 a0_6) := (blk_cell BK362.out 6).trans rfl; have hfz11_0 := blk_frozen BK362.out 0; have hfz11_1 := blk_frozen BK362.out 1; have hfz11_2 := blk_frozen BK362.out 2; have hfz11_3 := blk_frozen BK362.out 3; have hfz11_4 := blk_frozen BK362.out 4; have hfz11_5 := blk_frozen BK362.out 5; have hfz11_6 := blk_frozen BK362.out 6) | (go_at_call 10; (with_reducible refine (hogsheadlaw08_shown.calls k  t364 _ A2.out).mono ?_); rintro e w12 ⟨rfl, hb⟩; have n0_ := Aside0.mk (blk_below (g := gb362) (o := .cells #[.slice A0_0 l0_0.length c0_0, .slice A0_1 l0_1.length c0_1, .int .i64 a0_2, .bool a0_3, .int .i64 a0_4, .string a0_5, .int .i64 a0_6] 54 (0, 0)) (by (with_reducible repeat (first | refine blk_drewN ?_ _ | refine blk_drew ?_ | refine blk_alloc ?_ _)); refine blk_far ?_ NB362_363.out _; (with_reducible repeat (first | refine blk_drewN ?_ _ | refine blk_drew ?_ | refine blk_alloc ?_ _)); refine blk_far ?_ NB362_363.out _; (with_reducible repeat (first | refine blk_drewN ?_ _ | refine blk_drew ?_ | refine blk_alloc ?_ _)); refine blk_far ?_ NB362_363.out _; (with_reducible repeat (first | refine blk_drewN ?_ _ | refine blk_drew ?_ | refine blk_alloc ?_ _)); refine blk_far ?_ NB362_363.out _; (with_reducible repeat (first | refine blk_drewN ?_ _ | refine blk_drew ?_ | refine blk_alloc ?_ _)); exact BK362.out) hb); have n1_ := Aside0.mk (blk_below (g := gb363) (o := .cells #[.slice A0_0 l0_0.length c0_0, .slice A0_1 l0_1.length c0_1, .int .i64 a0_2, .bool a0_3] 25 (0, 0)) (by (with_reducible repeat (first | refine blk_drewN ?_ _ | refine blk_drew ?_ | refine blk_alloc ?_ _)); refine blk_put (cs := #[.slice A0_0 l0_0.length c0_0, .slice A0_1 l0_1.length c0_1, .int .i64 a0_2, .bool false]) ?_ 3 _ rfl; (with_reducible repeat (first | refine blk_drewN ?_ _ | refine blk_drew ?_ | refine blk_alloc ?_ _)); refine blk_put (cs := #[.slice A0_0 l0_0.length c0_0, .slice A0_1 l0_1.length c0_1, .int .i64 0, .bool false]) ?_ 2 _ rfl; (with_reducible repeat (first | refine blk_drewN ?_ _ | refine blk_drew ?_ | refine blk_alloc ?_ _)); refine blk_put (cs := #[.slice A0_0 l0_0.length c0_0, .slice none 0 0, .int .i64 0, .bool false]) ?_ 1 _ rfl; (with_reducible repeat (first | refine blk_drewN ?_ _ | refine blk_drew ?_ | refine blk_alloc ?_ _)); refine blk_put (cs := #[.slice none 0 0, .slice none 0 0, .int .i64 0, .bool false]) ?_ 0 _ rfl; (with_reducible repeat (first | refine blk_drewN ?_ _ | refine blk_drew ?_ | refine blk_alloc ?_ _)); exact BK363.out) hb); have n2_ := Aside0.mk (below_step (by repeat (first | (with_reducible first | exact HB.out | apply below_alloc | apply pw_below_drewN | apply below_drew1 | refine below_set ?_ GE362.out | refine below_set ?_ GE363.out) | exact HB.out)) hb); clear BK362; clear BK363; clear HB; have BK362 := n0_; have BK363 := n1_; have HB := n2_; clear n0_ n1_ n2_; (try clear hb); (try clear hb2); (try clear hk); (try clear hi); have hcz13_0 : w12.cell? ⟨gb363, 0, none⟩ = some (.slice A0_0 l0_0.length c0_0) := (blk_cell BK363.out 0).trans rfl; have hcz13_1 : w12.cell? ⟨gb363, 1, none⟩ = some (.slice A0_1 l0_1.length c0_1) := (blk_cell BK363.out 1).trans rfl; have hcz13_2 : w12.cell? ⟨gb363, 2, none⟩ = some (.int .i64 a0_2) := (blk_cell BK363.out 2).trans rfl; have hcz13_3 : w12.cell? ⟨gb363, 3, none⟩ = some (.bool a0_3) := (blk_cell BK363.out 3).trans rfl; have hfz13_0 := blk_frozen BK363.out 0; have hfz13_1 := blk_frozen BK363.out 1; have hfz13_2 := blk_frozen BK363.out 2; have hfz13_3 := blk_frozen BK363.out 3) | (go_at_call 15; (with_reducible refine (disk_Flush.calls k (fun k_ => k_ < w.heap.size) _ _ l0_0 (fun k_ => k_ < w.heap.size) _ _ l0_1 a0_2 a0_3 t365 t368 t371 t372 t373 _ ?side1 ?side2 A3.out).mono ?_); (case side1 => exact Kd.V_mk HC0_0.out (Kd.F_below (Kd.C_F Kd.heap_string HR0_0.out) (by repeat (first | (with_reducible first | exact HB.out | apply below_alloc | apply pw_below_drewN | apply below_drew1 | refine below_set ?_ GE362.out | refine below_set ?_ GE363.out) | exact HB.out)))); (case side2 => exact Kd.V_mk HC0_1.out (Kd.F_below (Kd.C_F k47_heap HR0_1.out) (by repeat (first | (with_reducible first | exact HB.out | apply below_alloc | apply pw_below_drewN | apply below_drew1 | refine below_set ?_ GE362.out | refine below_set ?_ GE363.out) | exact HB.out)))); rintro e w14 ⟨v366, v369, rfl, ho0, ho1, hb⟩; have n0_ := Aside0.mk (Kd.V_lower (Kd.V_mono (ok' := fun k_ => k_ ≠ gb362 ∧ k_ ≠ gb363) ho0 (fun k_ hk_ => ⟨Or.elim hk_ (fun hs_ => Or.elim hs_ (fun hs_ => fun e_ => Nat.not_le.2 hs_ (by rw [e_]; exact GW362.out)) (fun hs_ => fun e_ => Nat.not_le.2 hs_ (by rw [e_]; exact GW362.out))) (fun hn_ => (Kd.freshB (g := gb362) (o := .cells #[.slice A0_0 l0_0.length c0_0, .slice A0_1 l0_1.length c0_1, .int .i64 a0_2, .bool a0_3, .int .i64 a0_4, .string a0_5, .int .i64 a0_6] 54 (0, 0)) (by (with_reducible repeat (first | refine blk_drewN ?_ _ | refine blk_drew ?_ | refine blk_alloc ?_ _)); exact BK362.out) k_ hn_)), Or.elim hk_ (fun hs_ => Or.elim hs_ (fun hs_ => fun e_ => Nat.not_le.2 hs_ (by rw [e_]; exact GW363.out)) (fun hs_ => fun e_ => Nat.not_le.2 hs_ (by rw [e_]; exact GW363.out))) (fun hn_ => (Kd.freshB (g := gb363) (o := .cells #[.slice A0_0 l0_0.length c0_0, .slice A0_1 l0_1.length c0_1, .int .i64 a0_2, .bool a0_3] 25 (0, 0)) (by (with_reducible repeat (first | refine blk_drewN ?_ _ | refine blk_drew ?_ | refine blk_alloc ?_ _)); exact BK363.out) k_ hn_))⟩)) (below_size (by repeat (first | (with_reducible first | exact HB.out | apply below_alloc | apply pw_below_drewN | apply below_drew1 | refine below_set ?_ GE362.out | refine below_set ?_ GE363.out) | exact HB.out)))); have n1_ := Aside0.mk (Kd.V_lower (Kd.V_mono (ok' := fun k_ => k_ ≠ gb362 ∧ k_ ≠ gb363) ho1 (fun k_ hk_ => ⟨Or.elim hk_ (fun hs_ => Or.elim hs_ (fun hs_ => fun e_ => Nat.not_le.2 hs_ (by rw [e_]; exact GW362.out)) (fun hs_ => fun e_ => Nat.not_le.2 hs_ (by rw [e_]; exact GW362.out))) (fun hn_ => (Kd.freshB (g := gb362) (o := .cells #[.slice A0_0 l0_0.length c0_0, .slice A0_1 l0_1.length c0_1, .int .i64 a0_2, .bool a0_3, .int .i64 a0_4, .string a0_5, .int .i64 a0_6] 54 (0, 0)) (by (with_reducible repeat (first | refine blk_drewN ?_ _ | refine blk_drew ?_ | refine blk_alloc ?_ _)); exact BK362.out) k_ hn_)), Or.elim hk_ (fun hs_ => Or.elim hs_ (fun hs_ => fun e_ => Nat.not_le.2 hs_ (by rw [e_]; exact GW363.out)) (fun hs_ => fun e_ => Nat.not_le.2 hs_ (by rw [e_]; exact GW363.out))) (fun hn_ => (Kd.freshB (g := gb363) (o := .cells #[.slice A0_0 l0_0.length c0_0, .slice A0_1 l0_1.length c0_1, .int .i64 a0_2, .bool a0_3] 25 (0, 0)) (by (with_reducible repeat (first | refine blk_drewN ?_ _ | refine blk_drew ?_ | refine blk_alloc ?_ _)); exact BK363.out) k_ hn_))⟩)) (below_size (by repeat (first | (with_reducible first | exact HB.out | apply below_alloc | apply pw_below_drewN | apply below_drew1 | refine below_set ?_ GE362.out | refine below_set ?_ GE363.out) | exact HB.out)))); have n2_ := Aside0.mk (blk_below (g := gb362) (o := .cells #[.slice A0_0 l0_0.length c0_0, .slice A0_1 l0_1.length c0_1, .int .i64 a0_2, .bool a0_3, .int .i64 a0_4, .string a0_5, .int .i64 a0_6] 54 (0, 0)) (by (with_reducible repeat (first | refine blk_drewN ?_ _ | refine blk_drew ?_ | refine blk_alloc ?_ _)); exact BK362.out) hb); have n3_ := Aside0.mk (blk_below (g := gb363) (o := .cells #[.slice A0_0 l0_0.length c0_0, .slice A0_1 l0_1.length c0_1, .int .i64 a0_2, .bool a0_3] 25 (0, 0)) (by (with_reducible repeat (first | refine blk_drewN ?_ _ | refine blk_drew ?_ | refine blk_alloc ?_ _)); exact BK363.out) hb); have n4_ := Aside0.mk (below_step (by repeat (first | (with_reducible first | exact HB.out | apply below_alloc | apply pw_below_drewN | apply below_drew1 | refine below_set ?_ GE362.out | refine below_set ?_ GE363.out) | exact HB.out)) hb); clear BK362; clear BK363; clear HB; have HO367 := n0_; have HO370 := n1_; have BK362 := n2_; have BK363 := n3_; have HB := n4_; clear n0_ n1_ n2_ n3_ n4_; (try clear hb); (try clear hb2); (try clear hk); (try clear hi); (try clear ho0); (try clear ho1); obtain ⟨Ao15, co15, eo15⟩ := Kd.V_slice HO367.out; subst eo15; have hcz16_0 : w14.cell? ⟨gb363, 0, none⟩ = some (.slice A0_0 l0_0.length c0_0) := (blk_cell BK363.out 0).trans rfl; have hcz16_1 : w14.cell? ⟨gb363, 1, none⟩ = some (.slice A0_1 l0_1.length c0_1) := (blk_cell BK363.out 1).trans rfl; have hcz16_2 : w14.cell? ⟨gb363, 2, none⟩ = some (.int .i64 a0_2) := (blk_cell BK363.out 2).trans rfl; have hcz16_3 : w14.cell? ⟨gb363, 3, none⟩ = some (.bool a0_3) := (blk_cell BK363.out 3).trans rfl; have hfz16_0 := blk_frozen BK363.out 0; have hfz16_1 := blk_frozen BK363.out 1; have hfz16_2 := blk_frozen BK363.out 2; have hfz16_3 := blk_frozen BK363.out 3; obtain ⟨Ao17, co17, eo17⟩ := Kd.V_slice HO370.out; subst eo17) | ((with_reducible refine gate_store (t := 25) (p := 3) rfl ?_); (try (rw [drewN_self w14]; generalize hq_ : World.drewN w14 _ = w14; have n0_ := Aside0.mk (Kd.V_at hq_ HO367.out); have n1_ := Aside0.mk (Kd.V_at hq_ HO370.out); have n2_ := Aside0.mk (blk_at hq_ BK362.out); have n3_ := Aside0.mk (blk_at hq_ BK363.out); have n4_ := Aside0.mk (below_at hq_ HB.out); clear hq_ HO367 HO370 BK362 BK363 HB; have HO367 := n0_; have HO370 := n1_; have BK362 := n2_; have BK363 := n3_; have HB := n4_; clear n0_ n1_ n2_ n3_ n4_)); refine store_event (t := 25) (p := 3) (v := ?vo_w18) (w1 := ((((w14.setCell ⟨gb363, 0, none⟩ (.slice Ao15 t365.length co15)).setCell ⟨gb363, 1, none⟩ (.slice Ao17 t368.length co17)).setCell ⟨gb363, 2, none⟩ (.int .i64 t371)).setCell ⟨gb363, 3, none⟩ (.bool t372))) ?hg ?ho ?hn ?hr ?_; (case ho => rfl); (case hg => rfl); (case hn => rfl); (case hr => first | (go_simp; done) | (go_simp; rfl)); intro w18 hw; have n0_ : Aside0 (Kd.V Kd.string 9 w18 w.heap.size (fun k_ => k_ ≠ gb362 ∧ k_ ≠ gb363) (.slice Ao15 t365.length co15) t365) := ⟨(by rw [hw]; exact (by (with_reducible repeat (first | apply Kd.V_alloc | apply Kd.V_drewN | apply Kd.V_drew)); exact Kd.V_mono (Kd.V_far (p := ⟨gb363, 3, none⟩) (Kd.V_far (p := ⟨gb363, 2, none⟩) (Kd.V_far (p := ⟨gb363, 1, none⟩) (Kd.V_far (p := ⟨gb363, 0, none⟩) (Kd.V_mono HO367.out (fun k_ hk => (⟨hk, hk.2⟩ : _ ∧ k_ ≠ gb363))) (fun _ hk => hk.2) (.slice Ao15 t365.length co15)) (fun _ hk => hk.2) (.slice Ao17 t368.length co17)) (fun _ hk => hk.2) (.int .i64 t371)) (fun _ hk => hk.2) (.bool t372)) (fun _ hk => ⟨hk.1.1, hk.1.2⟩)))⟩; have n1_ : Aside0 (Kd.V k47 47 w18 w.heap.size (fun k_ => k_ ≠ gb362 ∧ k_ ≠ gb363) (.slice Ao17 t368.length co17) t368) := ⟨(by rw [hw]; exact (by (with_reducible repeat (first | apply Kd.V_alloc | apply Kd.V_drewN | apply Kd.V_drew)); exact Kd.V_mono (Kd.V_far (p := ⟨gb363, 3, none⟩) (Kd.V_far (p := ⟨gb363, 2, none⟩) (Kd.V_far (p := ⟨gb363, 1, none⟩) (Kd.V_far (p := ⟨gb363, 0, none⟩) (Kd.V_mono HO370.out (fun k_ hk => (⟨hk, hk.2⟩ : _ ∧ k_ ≠ gb363))) (fun _ hk => hk.2) (.slice Ao15 t365.length co15)) (fun _ hk => hk.2) (.slice Ao17 t368.length co17)) (fun _ hk => hk.2) (.int .i64 t371)) (fun _ hk => hk.2) (.bool t372)) (fun _ hk => ⟨hk.1.1, hk.1.2⟩)))⟩; have n2_ : Aside0 (w18.heap[gb362]? = some (.cells #[.slice A0_0 l0_0.length c0_0, .slice A0_1 l0_1.length c0_1, .int .i64 a0_2, .bool a0_3, .int .i64 a0_4, .string a0_5, .int .i64 a0_6] 54 (0, 0))) := ⟨(by rw [hw]; exact (by (with_reducible repeat (first | refine blk_drewN ?_ _ | refine blk_drew ?_ | refine blk_alloc ?_ _)); refine blk_far ?_ NB362_363.out _; (with_reducible repeat (first | refine blk_drewN ?_ _ | refine blk_drew ?_ | refine blk_alloc ?_ _)); refine blk_far ?_ NB362_363.out _; (with_reducible repeat (first | refine blk_drewN ?_ _ | refine blk_drew ?_ | refine blk_alloc ?_ _)); refine blk_far ?_ NB362_363.out _; (with_reducible repeat (first | refine blk_drewN ?_ _ | refine blk_drew ?_ | refine blk_alloc ?_ _)); refine blk_far ?_ NB362_363.out _; (with_reducible repeat (first | refine blk_drewN ?_ _ | refine blk_drew ?_ | refine blk_alloc ?_ _)); exact BK362.out))⟩; have n3_ : Aside0 (w18.heap[gb363]? = some (.cells #[.slice Ao15 t365.length co15, .slice Ao17 t368.length co17, .int .i64 t371, .bool t372] 25 (0, 0))) := ⟨(by rw [hw]; exact (by (with_reducible repeat (first | refine blk_drewN ?_ _ | refine blk_drew ?_ | refine blk_alloc ?_ _)); refine blk_put (cs := #[.slice Ao15 t365.length co15, .slice Ao17 t368.length co17, .int .i64 t371, .bool a0_3]) ?_ 3 _ rfl; (with_reducible repeat (first | refine blk_drewN ?_ _ | refine blk_drew ?_ | refine blk_alloc ?_ _)); refine blk_put (cs := #[.slice Ao15 t365.length co15, .slice Ao17 t368.length co17, .int .i64 a0_2, .bool a0_3]) ?_ 2 _ rfl; (with_reducible repeat (first | refine blk_drewN ?_ _ | refine blk_drew ?_ | refine blk_alloc ?_ _)); refine blk_put (cs := #[.slice Ao15 t365.length co15, .slice A0_1 l0_1.length c0_1, .int .i64 a0_2, .bool a0_3]) ?_ 1 _ rfl; (with_reducible repeat (first | refine blk_drewN ?_ _ | refine blk_drew ?_ | refine blk_alloc ?_ _)); refine blk_put (cs := #[.slice A0_0 l0_0.length c0_0, .slice A0_1 l0_1.length c0_1, .int .i64 a0_2, .bool a0_3]) ?_ 0 _ rfl; (with_reducible repeat (first | refine blk_drewN ?_ _ | refine blk_drew ?_ | refine blk_alloc ?_ _)); exact BK363.out))⟩; have n4_ : Aside0 (Below w.heap.size w w18) := ⟨(by rw [hw]; exact (by repeat (first | (with_reducible first | exact HB.out | apply below_alloc | apply pw_below_drewN | apply below_drew1 | refine below_set ?_ GE362.out | refine below_set ?_ GE363.out) | exact HB.out)))⟩; clear hw; clear HO367; clear HO370; clear BK362; clear BK363; clear HB; have HO367 := n0_; have HO370 := n1_; have BK362 := n2_; have BK363 := n3_; have HB := n4_; clear n0_ n1_ n2_ n3_ n4_; have hcz19_0 : w18.cell? ⟨gb363, 0, none⟩ = some (.slice Ao15 t365.length co15) := (blk_cell BK363.out 0).trans rfl; have hcz19_1 : w18.cell? ⟨gb363, 1, none⟩ = some (.slice Ao17 t368.length co17) := (blk_cell BK363.out 1).trans rfl; have hcz19_2 : w18.cell? ⟨gb363, 2, none⟩ = some (.int .i64 t371) := (blk_cell BK363.out 2).trans rfl; have hcz19_3 : w18.cell? ⟨gb363, 3, none⟩ = some (.bool t372) := (blk_cell BK363.out 3).trans rfl; have hfz19_0 := blk_frozen BK363.out 0; have hfz19_1 := blk_frozen BK363.out 1; have hfz19_2 := blk_frozen BK363.out 2; have hfz19_3 := blk_frozen BK363.out 3) | (go_at_call 11; (with_reducible refine (disk_Put.calls (fun k_ => (k_ ≠ gb362 ∧ k_ ≠ gb363)) _ _ t365 (fun k_ => (k_ ≠ gb362 ∧ k_ ≠ gb363)) _ _ t368 t371 t372 a0_4 a0_5 t374 t377 t380 t381 t382 _ ?side1 ?side2 A4.out).mono ?_); (case side1 => exact HO367.out); (case side2 => exact HO370.out); rintro e w20 ⟨v375, v378, rfl, ho0, ho1, hb⟩; have n0_ := Aside0.mk (Kd.V_below (by (with_reducible repeat (first | apply Kd.V_alloc | apply Kd.V_drewN | apply Kd.V_drew)); exact HO367.out) hb); have n1_ := Aside0.mk (Kd.V_below (by (with_reducible repeat (first | apply Kd.V_alloc | apply Kd.V_drewN | apply Kd.V_drew)); exact HO370.out) hb); have n2_ := Aside0.mk (Kd.V_lower (Kd.V_mono (ok' := fun k_ => k_ ≠ gb362 ∧ k_ ≠ gb363) ho0 (fun k_ hk_ => ⟨Or.elim hk_ (fun hs_ => Or.elim hs_ (fun hs_ => hs_.1) (fun hs_ => hs_.1)) (fun hn_ => (Kd.freshB (g := gb362) (o := .cells #[.slice A0_0 l0_0.length c0_0, .slice A0_1 l0_1.length c0_1, .int .i64 a0_2, .bool a0_3, .int .i64 a0_4, .string a0_5, .int .i64 a0_6] 54 (0, 0)) (by (with_reducible repeat (first | refine blk_drewN ?_ _ | refine blk_drew ?_ | refine blk_alloc ?_ _)); exact BK362.out) k_ hn_)), Or.elim hk_ (fun hs_ => Or.elim hs_ (fun hs_ => hs_.2) (fun hs_ => hs_.2)) (fun hn_ => (Kd.freshB (g := gb363) (o := .cells #[.slice Ao15 t365.length co15, .slice Ao17 t368.length co17, .int .i64 t371, .bool t372] 25 (0, 0)) (by (with_reducible repeat (first | refine blk_drewN ?_ _ | refine blk_drew ?_ | refine blk_alloc ?_ _)); exact BK363.out) k_ hn_))⟩)) (below_size (by repeat (first | (with_reducible first | exact HB.out | apply below_alloc | apply pw_below_drewN | apply below_drew1 | refine below_set ?_ GE362.out | refine below_set ?_ GE363.out) | exact HB.out)))); have n3_ := Aside0.mk (Kd.V_lower (Kd.V_mono (ok' := fun k_ => k_ ≠ gb362 ∧ k_ ≠ gb363) ho1 (fun k_ hk_ => ⟨Or.elim hk_ (fun hs_ => Or.elim hs_ (fun hs_ => hs_.1) (fun hs_ => hs_.1)) (fun hn_ => (Kd.freshB (g := gb362) (o := .cells #[.slice A0_0 l0_0.length c0_0, .slice A0_1 l0_1.length c0_1, .int .i64 a0_2, .bool a0_3, .int .i64 a0_4, .string a0_5, .int .i64 a0_6] 54 (0, 0)) (by (with_reducible repeat (first | refine blk_drewN ?_ _ | refine blk_drew ?_ | refine blk_alloc ?_ _)); exact BK362.out) k_ hn_)), Or.elim hk_ (fun hs_ => Or.elim hs_ (fun hs_ => hs_.2) (fun hs_ => hs_.2)) (fun hn_ => (Kd.freshB (g := gb363) (o := .cells #[.slice Ao15 t365.length co15, .slice Ao17 t368.length co17, .int .i64 t371, .bool t372] 25 (0, 0)) (by (with_reducible repeat (first | refine blk_drewN ?_ _ | refine blk_drew ?_ | refine blk_alloc ?_ _)); exact BK363.out) k_ hn_))⟩)) (below_size (by repeat (first | (with_reducible first | exact HB.out | apply below_alloc | apply pw_below_drewN | apply below_drew1 | refine below_set ?_ GE362.out | refine below_set ?_ GE363.out) | exact HB.out)))); have n4_ := Aside0.mk (blk_below (g := gb362) (o := .cells #[.slice A0_0 l0_0.length c0_0, .slice A0_1 l0_1.length c0_1, .int .i64 a0_2, .bool a0_3, .int .i64 a0_4, .string a0_5, .int .i64 a0_6] 54 (0, 0)) (by (with_reducible repeat (first | refine blk_drewN ?_ _ | refine blk_drew ?_ | refine blk_alloc ?_ _)); exact BK362.out) hb); have n5_ := Aside0.mk (blk_below (g := gb363) (o := .cells #[.slice Ao15 t365.length co15, .slice Ao17 t368.length co17, .int .i64 t371, .bool t372] 25 (0, 0)) (by (with_reducible repeat (first | refine blk_drewN ?_ _ | refine blk_drew ?_ | refine blk_alloc ?_ _)); exact BK363.out) hb); have n6_ := Aside0.mk (below_step (by repeat (first | (with_reducible first | exact HB.out | apply below_alloc | apply pw_below_drewN | apply below_drew1 | refine below_set ?_ GE362.out | refine below_set ?_ GE363.out) | exact HB.out)) hb); clear HO367; clear HO370; clear BK362; clear BK363; clear HB; have HO367 := n0_; have HO370 := n1_; have HO376 := n2_; have HO379 := n3_; have BK362 := n4_; have BK363 := n5_; have HB := n6_; clear n0_ n1_ n2_ n3_ n4_ n5_ n6_; (try clear hb); (try clear hb2); (try clear hk); (try clear hi); (try clear ho0); (try clear ho1)) | ((with_reducible refine gate_dst (N := 9) rfl ?_); (try (refine gate_guard (by rfl) ?_; dsimp only)); refine box_event ?hg (N := 9) ?hd (cs := #[.slice none 0 0, .slice none 0 0, .int .i64 0, .bool false]) (t := 25) ?hr ?_; (case hd => rfl); (case hg => rfl); (case hr => first | (go_simp; done) | (go_simp; rfl)); intro gb383 hg w21 hbox hb; have n0_ := Aside0.mk (Kd.V_below (Kd.V_elderB (by (with_reducible repeat (first | apply Kd.V_alloc | apply Kd.V_drewN | apply Kd.V_drew)); exact HO367.out) gb383 (Nat.le_of_eq hg.symm)) hb); have n1_ := Aside0.mk (Kd.V_below (Kd.V_elderB (by (with_reducible repeat (first | apply Kd.V_alloc | apply Kd.V_drewN | apply Kd.V_drew)); exact HO370.out) gb383 (Nat.le_of_eq hg.symm)) hb); have n2_ := Aside0.mk (Kd.V_below (Kd.V_elderB (by (with_reducible repeat (first | apply Kd.V_alloc | apply Kd.V_drewN | apply Kd.V_drew)); exact HO376.out) gb383 (Nat.le_of_eq hg.symm)) hb); have n3_ := Aside0.mk (Kd.V_below (Kd.V_elderB (by (with_reducible repeat (first | apply Kd.V_alloc | apply Kd.V_drewN | apply Kd.V_drew)); exact HO379.out) gb383 (Nat.le_of_eq hg.symm)) hb); have n4_ := Aside0.mk (blk_below (g := gb362) (o := .cells #[.slice A0_0 l0_0.length c0_0, .slice A0_1 l0_1.length c0_1, .int .i64 a0_2, .bool a0_3, .int .i64 a0_4, .string a0_5, .int .i64 a0_6] 54 (0, 0)) (by (with_reducible repeat (first | refine blk_drewN ?_ _ | refine blk_drew ?_ | refine blk_alloc ?_ _)); exact BK362.out) hb); have n5_ := Aside0.mk (blk_below (g := gb363) (o := .cells #[.slice Ao15 t365.length co15, .slice Ao17 t368.length co17, .int .i64 t371, .bool t372] 25 (0, 0)) (by (with_reducible repeat (first | refine blk_drewN ?_ _ | refine blk_drew ?_ | refine blk_alloc ?_ _)); exact BK363.out) hb); have n6_ := Aside0.mk (below_step (by repeat (first | (with_reducible first | exact HB.out | apply below_alloc | apply pw_below_drewN | apply below_drew1 | refine below_set ?_ GE362.out | refine below_set ?_ GE363.out) | exact HB.out)) hb); have n7_ := Aside0.mk (hbox); have n8_ := Aside0.mk ((by rw [hg]; exact (below_size (by repeat (first | (with_reducible first | exact HB.out | apply below_alloc | apply pw_below_drewN | apply below_drew1 | refine below_set ?_ GE362.out | refine below_set ?_ GE363.out) | exact HB.out))) : w.heap.size ≤ gb383)); have n9_ := Aside0.mk ((by rw [hg]; exact (below_size (by repeat (first | (with_reducible first | exact HB.out | apply below_alloc | apply pw_below_drewN | apply below_drew1 | refine below_set ?_ GE362.out | refine below_set ?_ GE363.out) | exact HB.out))) : w.heap.size ≤ gb383)); have n10_ := Aside0.mk ((by rw [hg]; exact Nat.ne_of_lt (blk_lt (g := gb362) (o := .cells #[.slice A0_0 l0_0.length c0_0, .slice A0_1 l0_1.length c0_1, .int .i64 a0_2, .bool a0_3, .int .i64 a0_4, .string a0_5, .int .i64 a0_6] 54 (0, 0)) (by (with_reducible repeat (first | refine blk_drewN ?_ _ | refine blk_drew ?_ | refine blk_alloc ?_ _)); exact BK362.out)) : gb362 ≠ gb383)); have n11_ := Aside0.mk ((by rw [hg]; exact Nat.ne_of_gt (blk_lt (g := gb362) (o := .cells #[.slice A0_0 l0_0.length c0_0, .slice A0_1 l0_1.length c0_1, .int .i64 a0_2, .bool a0_3, .int .i64 a0_4, .string a0_5, .int .i64 a0_6] 54 (0, 0)) (by (with_reducible repeat (first | refine blk_drewN ?_ _ | refine blk_drew ?_ | refine blk_alloc ?_ _)); exact BK362.out)) : gb383 ≠ gb362)); have n12_ := Aside0.mk ((by rw [hg]; exact Nat.ne_of_lt (blk_lt (g := gb363) (o := .cells #[.slice Ao15 t365.length co15, .slice Ao17 t368.length co17, .int .i64 t371, .bool t372] 25 (0, 0)) (by (with_reducible repeat (first | refine blk_drewN ?_ _ | refine blk_drew ?_ | refine blk_alloc ?_ _)); exact BK363.out)) : gb363 ≠ gb383)); have n13_ := Aside0.mk ((by rw [hg]; exact Nat.ne_of_gt (blk_lt (g := gb363) (o := .cells #[.slice Ao15 t365.length co15, .slice Ao17 t368.length co17, .int .i64 t371, .bool t372] 25 (0, 0)) (by (with_reducible repeat (first | refine blk_drewN ?_ _ | refine blk_drew ?_ | refine blk_alloc ?_ _)); exact BK363.out)) : gb383 ≠ gb363)); clear HO367; clear HO370; clear HO376; clear HO379; clear BK362; clear BK363; clear HB; have HO367 := n0_; have HO370 := n1_; have HO376 := n2_; have HO379 := n3_; have BK362 := n4_; have BK363 := n5_; have HB := n6_; have BK383 := n7_; have GW383 := n8_; have GE383 := n9_; have NB362_383 := n10_; have NB383_362 := n11_; have NB363_383 := n12_; have NB383_363 := n13_; clear n0_ n1_ n2_ n3_ n4_ n5_ n6_ n7_ n8_ n9_ n10_ n11_ n12_ n13_; clear hb hbox hg; obtain ⟨Ao22, co22, eo22⟩ := Kd.V_slice HO376.out; subst eo22; have hnb23 := NB383_362.out; have hnc23 := NB362_383.out; have hnb24 := NB383_363.out; have hnc24 := NB363_383.out; have hcz25_0 : w21.cell? ⟨gb383, 0, none⟩ = some (.slice none 0 0) := (blk_cell BK383.out 0).trans rfl; have hcz25_1 : w21.cell? ⟨gb383, 1, none⟩ = some (.slice none 0 0) := (blk_cell BK383.out 1).trans rfl; have hcz25_2 : w21.cell? ⟨gb383, 2, none⟩ = some (.int .i64 0) := (blk_cell BK383.out 2).trans rfl; have hcz25_3 : w21.cell? ⟨gb383, 3, none⟩ = some (.bool false) := (blk_cell BK383.out 3).trans rfl; have hfz25_0 := blk_frozen BK383.out 0; have hfz25_1 := blk_frozen BK383.out 1; have hfz25_2 := blk_frozen BK383.out 2; have hfz25_3 := blk_frozen BK383.out 3; obtain ⟨Ao26, co26, eo26⟩ := Kd.V_slice HO379.out; subst eo26))
  repeat (go_quiet (first | ((with_reducible refine gate_dst (N := 1) rfl ?_); (try (refine gate_guard (by rfl) ?_; dsimp only)); refine box_event ?hg (N := 1) ?hd (cs := #[.slice A0_0 l0_0.length c0_0, .slice A0_1 l0_1.length c0_1, .int .i64 a0_2, .bool a0_3, .int .i64 a0_4, .string a0_5, .int .i64 a0_6]) (t := 54) ?hr ?_; (case hd => rfl); (case hg => rfl); (case hr => first | (go_simp; done) | (go_simp; rfl)); intro gb362 hg w6 hbox hb; have n0_ := Aside0.mk (below_step (by repeat (first | (with_reducible first | exact HB.out | apply below_alloc | apply pw_below_drewN | apply below_drew1) | exact HB.out)) hb); have n1_ := Aside0.mk (hbox); have n2_ := Aside0.mk ((by rw [hg]; exact (below_size (by repeat (first | (with_reducible first | exact HB.out | apply below_alloc | apply pw_below_drewN | apply below_drew1) | exact HB.out))) : w.heap.size ≤ gb362)); have n3_ := Aside0.mk ((by rw [hg]; exact (below_size (by repeat (first | (with_reducible first | exact HB.out | apply below_alloc | apply pw_below_drewN | apply below_drew1) | exact HB.out))) : w.heap.size ≤ gb362)); clear HB; have HB := n0_; have BK362 := n1_; have GW362 := n2_; have GE362 := n3_; clear n0_ n1_ n2_ n3_; clear hb hbox hg; have hcz7_0 : w6.cell? ⟨gb362, 0, none⟩ = some (.slice A0_0 l0_0.length c0_0) := (blk_cell BK362.out 0).trans rfl; have hcz7_1 : w6.cell? ⟨gb362, 1, none⟩ = some (.slice A0_1 l0_1.length c0_1) := (blk_cell BK362.out 1).trans rfl; have hcz7_2 : w6.cell? ⟨gb362, 2, none⟩ = some (.int .i64 a0_2) := (blk_cell BK362.out 2).trans rfl; have hcz7_3 : w6.cell? ⟨gb362, 3, none⟩ = some (.bool a0_3) := (blk_cell BK362.out 3).trans rfl; have hcz7_4 : w6.cell? ⟨gb362, 4, none⟩ = some (.int .i64 a0_4) := (blk_cell BK362.out 4).trans rfl; have hcz7_5 : w6.cell? ⟨gb362, 5, none⟩ = some (.string a0_5) := (blk_cell BK362.out 5).trans rfl; have hcz7_6 : w6.cell? ⟨gb362, 6, none⟩ = some (.int .i64 a0_6) := (blk_cell BK362.out 6).trans rfl; have hfz7_0 := blk_frozen BK362.out 0; have hfz7_1 := blk_frozen BK362.out 1; have hfz7_2 := blk_frozen BK362.out 2; have hfz7_3 := blk_frozen BK362.out 3; have hfz7_4 := blk_frozen BK362.out 4; have hfz7_5 := blk_frozen BK362.out 5; have hfz7_6 := blk_frozen BK362.out 6) | ((with_reducible refine gate_dst (N := 3) rfl ?_); (try (refine gate_guard (by rfl) ?_; dsimp only)); refine box_event ?hg (N := 3) ?hd (cs := #[.slice none 0 0, .slice none 0 0, .int .i64 0, .bool false]) (t := 25) ?hr ?_; (case hd => rfl); (case hg => rfl); (case hr => first | (go_simp; done) | (go_simp; rfl)); intro gb363 hg w8 hbox hb; have n0_ := Aside0.mk (blk_below (g := gb362) (o := .cells #[.slice A0_0 l0_0.length c0_0, .slice A0_1 l0_1.length c0_1, .int .i64 a0_2, .bool a0_3, .int .i64 a0_4, .string a0_5, .int .i64 a0_6] 54 (0, 0)) (by (with_reducible repeat (first | refine blk_drewN ?_ _ | refine blk_drew ?_ | refine blk_alloc ?_ _)); exact BK362.out) hb); have n1_ := Aside0.mk (below_step (by repeat (first | (with_reducible first | exact HB.out | apply below_alloc | apply pw_below_drewN | apply below_drew1 | refine below_set ?_ GE362.out) | exact HB.out)) hb); have n2_ := Aside0.mk (hbox); have n3_ := Aside0.mk ((by rw [hg]; exact (below_size (by repeat (first | (with_reducible first | exact HB.out | apply below_alloc | apply pw_below_drewN | apply below_drew1 | refine below_set ?_ GE362.out) | exact HB.out))) : w.heap.size ≤ gb363)); have n4_ := Aside0.mk ((by rw [hg]; exact (below_size (by repeat (first | (with_reducible first | exact HB.out | apply below_alloc | apply pw_below_drewN | apply below_drew1 | refine below_set ?_ GE362.out) | exact HB.out))) : w.heap.size ≤ gb363)); have n5_ := Aside0.mk ((by rw [hg]; exact Nat.ne_of_lt (blk_lt (g := gb362) (o := .cells #[.slice A0_0 l0_0.length c0_0, .slice A0_1 l0_1.length c0_1, .int .i64 a0_2, .bool a0_3, .int .i64 a0_4, .string a0_5, .int .i64 a0_6] 54 (0, 0)) (by (with_reducible repeat (first | refine blk_drewN ?_ _ | refine blk_drew ?_ | refine blk_alloc ?_ _)); exact BK362.out)) : gb362 ≠ gb363)); have n6_ := Aside0.mk ((by rw [hg]; exact Nat.ne_of_gt (blk_lt (g := gb362) (o := .cells #[.slice A0_0 l0_0.length c0_0, .slice A0_1 l0_1.length c0_1, .int .i64 a0_2, .bool a0_3, .int .i64 a0_4, .string a0_5, .int .i64 a0_6] 54 (0, 0)) (by (with_reducible repeat (first | refine blk_drewN ?_ _ | refine blk_drew ?_ | refine blk_alloc ?_ _)); exact BK362.out)) : gb363 ≠ gb362)); clear BK362; clear HB; have BK362 := n0_; have HB := n1_; have BK363 := n2_; have GW363 := n3_; have GE363 := n4_; have NB362_363 := n5_; have NB363_362 := n6_; clear n0_ n1_ n2_ n3_ n4_ n5_ n6_; clear hb hbox hg; have hnb9 := NB363_362.out; have hnc9 := NB362_363.out; have hcz10_0 : w8.cell? ⟨gb363, 0, none⟩ = some (.slice none 0 0) := (blk_cell BK363.out 0).trans rfl; have hcz10_1 : w8.cell? ⟨gb363, 1, none⟩ = some (.slice none 0 0) := (blk_cell BK363.out 1).trans rfl; have hcz10_2 : w8.cell? ⟨gb363, 2, none⟩ = some (.int .i64 0) := (blk_cell BK363.out 2).trans rfl; have hcz10_3 : w8.cell? ⟨gb363, 3, none⟩ = some (.bool false) := (blk_cell BK363.out 3).trans rfl; have hfz10_0 := blk_frozen BK363.out 0; have hfz10_1 := blk_frozen BK363.out 1; have hfz10_2 := blk_frozen BK363.out 2; have hfz10_3 := blk_frozen BK363.out 3; have hcz11_0 : w8.cell? ⟨gb362, 0, none⟩ = some (.slice A0_0 l0_0.length c0_0) := (blk_cell BK362.out 0).trans rfl; have hcz11_1 : w8.cell? ⟨gb362, 1, none⟩ = some (.slice A0_1 l0_1.length c0_1) := (blk_cell BK362.out 1).trans rfl; have hcz11_2 : w8.cell? ⟨gb362, 2, none⟩ = some (.int .i64 a0_2) := (blk_cell BK362.out 2).trans rfl; have hcz11_3 : w8.cell? ⟨gb362, 3, none⟩ = some (.bool a0_3) := (blk_cell BK362.out 3).trans rfl; have hcz11_4 : w8.cell? ⟨gb362, 4, none⟩ = some (.int .i64 a0_4) := (blk_cell BK362.out 4).trans rfl; have hcz11_5 : w8.cell? ⟨gb362, 5, none⟩ = some (.string a0_5) := (blk_cell BK362.out 5).trans rfl; have hcz11_6 : w8.cell? ⟨gb362, 6, none⟩ = some (.int .i64 a0_6) := (blk_cell BK362.out 6).trans rfl; have hfz11_0 := blk_frozen BK362.out 0; have hfz11_1 := blk_frozen BK362.out 1; have hfz11_2 := blk_frozen BK362.out 2; have hfz11_3 := blk_frozen BK362.out 3; have hfz11_4 := blk_frozen BK362.out 4; have hfz11_5 := blk_frozen BK362.out 5; have hfz11_6 := blk_frozen BK362.out 6) | (go_at_call 10; (with_reducible refine (hogsheadlaw08_shown.calls k  t364 _ A2.out).mono ?_); rintro e w12 ⟨rfl, hb⟩; have n0_ := Aside0.mk (blk_below (g := gb362) (o := .cells #[.slice A0_0 l0_0.length c0_0, .slice A0_1 l0_1.length c0_1, .int .i64 a0_2, .bool a0_3, .int .i64 a0_4, .string a0_5, .int .i64 a0_6] 54 (0, 0)) (by (with_reducible repeat (first | refine blk_drewN ?_ _ | refine blk_drew ?_ | refine blk_alloc ?_ _)); refine blk_far ?_ NB362_363.out _; (with_reducible repeat (first | refine blk_drewN ?_ _ | refine blk_drew ?_ | refine blk_alloc ?_ _)); refine blk_far ?_ NB362_363.out _; (with_reducible repeat (first | refine blk_drewN ?_ _ | refine blk_drew ?_ | refine blk_alloc ?_ _)); refine blk_far ?_ NB362_363.out _; (with_reducible repeat (first | refine blk_drewN ?_ _ | refine blk_drew ?_ | refine blk_alloc ?_ _)); refine blk_far ?_ NB362_363.out _; (with_reducible repeat (first | refine blk_drewN ?_ _ | refine blk_drew ?_ | refine blk_alloc ?_ _)); exact BK362.out) hb); have n1_ := Aside0.mk (blk_below (g := gb363) (o := .cells #[.slice A0_0 l0_0.length c0_0, .slice A0_1 l0_1.length c0_1, .int .i64 a0_2, .bool a0_3] 25 (0, 0)) (by (with_reducible repeat (first | refine blk_drewN ?_ _ | refine blk_drew ?_ | refine blk_alloc ?_ _)); refine blk_put (cs := #[.slice A0_0 l0_0.length c0_0, .slice A0_1 l0_1.length c0_1, .int .i64 a0_2, .bool false]) ?_ 3 _ rfl; (with_reducible repeat (first | refine blk_drewN ?_ _ | refine blk_drew ?_ | refine blk_alloc ?_ _)); refine blk_put (cs := #[.slice A0_0 l0_0.length c0_0, .slice A0_1 l0_1.length c0_1, .int .i64 0, .bool false]) ?_ 2 _ rfl; (with_reducible repeat (first | refine blk_drewN ?_ _ | refine blk_drew ?_ | refine blk_alloc ?_ _)); refine blk_put (cs := #[.slice A0_0 l0_0.length c0_0, .slice none 0 0, .int .i64 0, .bool false]) ?_ 1 _ rfl; (with_reducible repeat (first | refine blk_drewN ?_ _ | refine blk_drew ?_ | refine blk_alloc ?_ _)); refine blk_put (cs := #[.slice none 0 0, .slice none 0 0, .int .i64 0, .bool false]) ?_ 0 _ rfl; (with_reducible repeat (first | refine blk_drewN ?_ _ | refine blk_drew ?_ | refine blk_alloc ?_ _)); exact BK363.out) hb); have n2_ := Aside0.mk (below_step (by repeat (first | (with_reducible first | exact HB.out | apply below_alloc | apply pw_below_drewN | apply below_drew1 | refine below_set ?_ GE362.out | refine below_set ?_ GE363.out) | exact HB.out)) hb); clear BK362; clear BK363; clear HB; have BK362 := n0_; have BK363 := n1_; have HB := n2_; clear n0_ n1_ n2_; (try clear hb); (try clear hb2); (try clear hk); (try clear hi); have hcz13_0 : w12.cell? ⟨gb363, 0, none⟩ = some (.slice A0_0 l0_0.length c0_0) := (blk_cell BK363.out 0).trans rfl; have hcz13_1 : w12.cell? ⟨gb363, 1, none⟩ = some (.slice A0_1 l0_1.length c0_1) := (blk_cell BK363.out 1).trans rfl; have hcz13_2 : w12.cell? ⟨gb363, 2, none⟩ = some (.int .i64 a0_2) := (blk_cell BK363.out 2).trans rfl; have hcz13_3 : w12.cell? ⟨gb363, 3, none⟩ = some (.bool a0_3) := (blk_cell BK363.out 3).trans rfl; have hfz13_0 := blk_frozen BK363.out 0; have hfz13_1 := blk_frozen BK363.out 1; have hfz13_2 := blk_frozen BK363.out 2; have hfz13_3 := blk_frozen BK363.out 3) | (go_at_call 15; (with_reducible refine (disk_Flush.calls k (fun k_ => k_ < w.heap.size) _ _ l0_0 (fun k_ => k_ < w.heap.size) _ _ l0_1 a0_2 a0_3 t365 t368 t371 t372 t373 _ ?side1 ?side2 A3.out).mono ?_); (case side1 => exact Kd.V_mk HC0_0.out (Kd.F_below (Kd.C_F Kd.heap_string HR0_0.out) (by repeat (first | (with_reducible first | exact HB.out | apply below_alloc | apply pw_below_drewN | apply below_drew1 | refine below_set ?_ GE362.out | refine below_set ?_ GE363.out) | exact HB.out)))); (case side2 => exact Kd.V_mk HC0_1.out (Kd.F_below (Kd.C_F k47_heap HR0_1.out) (by repeat (first | (with_reducible first | exact HB.out | apply below_alloc | apply pw_below_drewN | apply below_drew1 | refine below_set ?_ GE362.out | refine below_set ?_ GE363.out) | exact HB.out)))); rintro e w14 ⟨v366, v369, rfl, ho0, ho1, hb⟩; have n0_ := Aside0.mk (Kd.V_lower (Kd.V_mono (ok' := fun k_ => k_ ≠ gb362 ∧ k_ ≠ gb363) ho0 (fun k_ hk_ => ⟨Or.elim hk_ (fun hs_ => Or.elim hs_ (fun hs_ => fun e_ => Nat.not_le.2 hs_ (by rw [e_]; exact GW362.out)) (fun hs_ => fun e_ => Nat.not_le.2 hs_ (by rw [e_]; exact GW362.out))) (fun hn_ => (Kd.freshB (g := gb362) (o := .cells #[.slice A0_0 l0_0.length c0_0, .slice A0_1 l0_1.length c0_1, .int .i64 a0_2, .bool a0_3, .int .i64 a0_4, .string a0_5, .int .i64 a0_6] 54 (0, 0)) (by (with_reducible repeat (first | refine blk_drewN ?_ _ | refine blk_drew ?_ | refine blk_alloc ?_ _)); exact BK362.out) k_ hn_)), Or.elim hk_ (fun hs_ => Or.elim hs_ (fun hs_ => fun e_ => Nat.not_le.2 hs_ (by rw [e_]; exact GW363.out)) (fun hs_ => fun e_ => Nat.not_le.2 hs_ (by rw [e_]; exact GW363.out))) (fun hn_ => (Kd.freshB (g := gb363) (o := .cells #[.slice A0_0 l0_0.length c0_0, .slice A0_1 l0_1.length c0_1, .int .i64 a0_2, .bool a0_3] 25 (0, 0)) (by (with_reducible repeat (first | refine blk_drewN ?_ _ | refine blk_drew ?_ | refine blk_alloc ?_ _)); exact BK363.out) k_ hn_))⟩)) (below_size (by repeat (first | (with_reducible first | exact HB.out | apply below_alloc | apply pw_below_drewN | apply below_drew1 | refine below_set ?_ GE362.out | refine below_set ?_ GE363.out) | exact HB.out)))); have n1_ := Aside0.mk (Kd.V_lower (Kd.V_mono (ok' := fun k_ => k_ ≠ gb362 ∧ k_ ≠ gb363) ho1 (fun k_ hk_ => ⟨Or.elim hk_ (fun hs_ => Or.elim hs_ (fun hs_ => fun e_ => Nat.not_le.2 hs_ (by rw [e_]; exact GW362.out)) (fun hs_ => fun e_ => Nat.not_le.2 hs_ (by rw [e_]; exact GW362.out))) (fun hn_ => (Kd.freshB (g := gb362) (o := .cells #[.slice A0_0 l0_0.length c0_0, .slice A0_1 l0_1.length c0_1, .int .i64 a0_2, .bool a0_3, .int .i64 a0_4, .string a0_5, .int .i64 a0_6] 54 (0, 0)) (by (with_reducible repeat (first | refine blk_drewN ?_ _ | refine blk_drew ?_ | refine blk_alloc ?_ _)); exact BK362.out) k_ hn_)), Or.elim hk_ (fun hs_ => Or.elim hs_ (fun hs_ => fun e_ => Nat.not_le.2 hs_ (by rw [e_]; exact GW363.out)) (fun hs_ => fun e_ => Nat.not_le.2 hs_ (by rw [e_]; exact GW363.out))) (fun hn_ => (Kd.freshB (g := gb363) (o := .cells #[.slice A0_0 l0_0.length c0_0, .slice A0_1 l0_1.length c0_1, .int .i64 a0_2, .bool a0_3] 25 (0, 0)) (by (with_reducible repeat (first | refine blk_drewN ?_ _ | refine blk_drew ?_ | refine blk_alloc ?_ _)); exact BK363.out) k_ hn_))⟩)) (below_size (by repeat (first | (with_reducible first | exact HB.out | apply below_alloc | apply pw_below_drewN | apply below_drew1 | refine below_set ?_ GE362.out | refine below_set ?_ GE363.out) | exact HB.out)))); have n2_ := Aside0.mk (blk_below (g := gb362) (o := .cells #[.slice A0_0 l0_0.length c0_0, .slice A0_1 l0_1.length c0_1, .int .i64 a0_2, .bool a0_3, .int .i64 a0_4, .string a0_5, .int .i64 a0_6] 54 (0, 0)) (by (with_reducible repeat (first | refine blk_drewN ?_ _ | refine blk_drew ?_ | refine blk_alloc ?_ _)); exact BK362.out) hb); have n3_ := Aside0.mk (blk_below (g := gb363) (o := .cells #[.slice A0_0 l0_0.length c0_0, .slice A0_1 l0_1.length c0_1, .int .i64 a0_2, .bool a0_3] 25 (0, 0)) (by (with_reducible repeat (first | refine blk_drewN ?_ _ | refine blk_drew ?_ | refine blk_alloc ?_ _)); exact BK363.out) hb); have n4_ := Aside0.mk (below_step (by repeat (first | (with_reducible first | exact HB.out | apply below_alloc | apply pw_below_drewN | apply below_drew1 | refine below_set ?_ GE362.out | refine below_set ?_ GE363.out) | exact HB.out)) hb); clear BK362; clear BK363; clear HB; have HO367 := n0_; have HO370 := n1_; have BK362 := n2_; have BK363 := n3_; have HB := n4_; clear n0_ n1_ n2_ n3_ n4_; (try clear hb); (try clear hb2); (try clear hk); (try clear hi); (try clear ho0); (try clear ho1); obtain ⟨Ao15, co15, eo15⟩ := Kd.V_slice HO367.out; subst eo15; have hcz16_0 : w14.cell? ⟨gb363, 0, none⟩ = some (.slice A0_0 l0_0.length c0_0) := (blk_cell BK363.out 0).trans rfl; have hcz16_1 : w14.cell? ⟨gb363, 1, none⟩ = some (.slice A0_1 l0_1.length c0_1) := (blk_cell BK363.out 1).trans rfl; have hcz16_2 : w14.cell? ⟨gb363, 2, none⟩ = some (.int .i64 a0_2) := (blk_cell BK363.out 2).trans rfl; have hcz16_3 : w14.cell? ⟨gb363, 3, none⟩ = some (.bool a0_3) := (blk_cell BK363.out 3).trans rfl; have hfz16_0 := blk_frozen BK363.out 0; have hfz16_1 := blk_frozen BK363.out 1; have hfz16_2 := blk_frozen BK363.out 2; have hfz16_3 := blk_frozen BK363.out 3; obtain ⟨Ao17, co17, eo17⟩ := Kd.V_slice HO370.out; subst eo17) | ((with_reducible refine gate_store (t := 25) (p := 3) rfl ?_); (try (rw [drewN_self w14]; generalize hq_ : World.drewN w14 _ = w14; have n0_ := Aside0.mk (Kd.V_at hq_ HO367.out); have n1_ := Aside0.mk (Kd.V_at hq_ HO370.out); have n2_ := Aside0.mk (blk_at hq_ BK362.out); have n3_ := Aside0.mk (blk_at hq_ BK363.out); have n4_ := Aside0.mk (below_at hq_ HB.out); clear hq_ HO367 HO370 BK362 BK363 HB; have HO367 := n0_; have HO370 := n1_; have BK362 := n2_; have BK363 := n3_; have HB := n4_; clear n0_ n1_ n2_ n3_ n4_)); refine store_event (t := 25) (p := 3) (v := ?vo_w18) (w1 := ((((w14.setCell ⟨gb363, 0, none⟩ (.slice Ao15 t365.length co15)).setCell ⟨gb363, 1, none⟩ (.slice Ao17 t368.length co17)).setCell ⟨gb363, 2, none⟩ (.int .i64 t371)).setCell ⟨gb363, 3, none⟩ (.bool t372))) ?hg ?ho ?hn ?hr ?_; (case ho => rfl); (case hg => rfl); (case hn => rfl); (case hr => first | (go_simp; done) | (go_simp; rfl)); intro w18 hw; have n0_ : Aside0 (Kd.V Kd.string 9 w18 w.heap.size (fun k_ => k_ ≠ gb362 ∧ k_ ≠ gb363) (.slice Ao15 t365.length co15) t365) := ⟨(by rw [hw]; exact (by (with_reducible repeat (first | apply Kd.V_alloc | apply Kd.V_drewN | apply Kd.V_drew)); exact Kd.V_mono (Kd.V_far (p := ⟨gb363, 3, none⟩) (Kd.V_far (p := ⟨gb363, 2, none⟩) (Kd.V_far (p := ⟨gb363, 1, none⟩) (Kd.V_far (p := ⟨gb363, 0, none⟩) (Kd.V_mono HO367.out (fun k_ hk => (⟨hk, hk.2⟩ : _ ∧ k_ ≠ gb363))) (fun _ hk => hk.2) (.slice Ao15 t365.length co15)) (fun _ hk => hk.2) (.slice Ao17 t368.length co17)) (fun _ hk => hk.2) (.int .i64 t371)) (fun _ hk => hk.2) (.bool t372)) (fun _ hk => ⟨hk.1.1, hk.1.2⟩)))⟩; have n1_ : Aside0 (Kd.V k47 47 w18 w.heap.size (fun k_ => k_ ≠ gb362 ∧ k_ ≠ gb363) (.slice Ao17 t368.length co17) t368) := ⟨(by rw [hw]; exact (by (with_reducible repeat (first | apply Kd.V_alloc | apply Kd.V_drewN | apply Kd.V_drew)); exact Kd.V_mono (Kd.V_far (p := ⟨gb363, 3, none⟩) (Kd.V_far (p := ⟨gb363, 2, none⟩) (Kd.V_far (p := ⟨gb363, 1, none⟩) (Kd.V_far (p := ⟨gb363, 0, none⟩) (Kd.V_mono HO370.out (fun k_ hk => (⟨hk, hk.2⟩ : _ ∧ k_ ≠ gb363))) (fun _ hk => hk.2) (.slice Ao15 t365.length co15)) (fun _ hk => hk.2) (.slice Ao17 t368.length co17)) (fun _ hk => hk.2) (.int .i64 t371)) (fun _ hk => hk.2) (.bool t372)) (fun _ hk => ⟨hk.1.1, hk.1.2⟩)))⟩; have n2_ : Aside0 (w18.heap[gb362]? = some (.cells #[.slice A0_0 l0_0.length c0_0, .slice A0_1 l0_1.length c0_1, .int .i64 a0_2, .bool a0_3, .int .i64 a0_4, .string a0_5, .int .i64 a0_6] 54 (0, 0))) := ⟨(by rw [hw]; exact (by (with_reducible repeat (first | refine blk_drewN ?_ _ | refine blk_drew ?_ | refine blk_alloc ?_ _)); refine blk_far ?_ NB362_363.out _; (with_reducible repeat (first | refine blk_drewN ?_ _ | refine blk_drew ?_ | refine blk_alloc ?_ _)); refine blk_far ?_ NB362_363.out _; (with_reducible repeat (first | refine blk_drewN ?_ _ | refine blk_drew ?_ | refine blk_alloc ?_ _)); refine blk_far ?_ NB362_363.out _; (with_reducible repeat (first | refine blk_drewN ?_ _ | refine blk_drew ?_ | refine blk_alloc ?_ _)); refine blk_far ?_ NB362_363.out _; (with_reducible repeat (first | refine blk_drewN ?_ _ | refine blk_drew ?_ | refine blk_alloc ?_ _)); exact BK362.out))⟩; have n3_ : Aside0 (w18.heap[gb363]? = some (.cells #[.slice Ao15 t365.length co15, .slice Ao17 t368.length co17, .int .i64 t371, .bool t372] 25 (0, 0))) := ⟨(by rw [hw]; exact (by (with_reducible repeat (first | refine blk_drewN ?_ _ | refine blk_drew ?_ | refine blk_alloc ?_ _)); refine blk_put (cs := #[.slice Ao15 t365.length co15, .slice Ao17 t368.length co17, .int .i64 t371, .bool a0_3]) ?_ 3 _ rfl; (with_reducible repeat (first | refine blk_drewN ?_ _ | refine blk_drew ?_ | refine blk_alloc ?_ _)); refine blk_put (cs := #[.slice Ao15 t365.length co15, .slice Ao17 t368.length co17, .int .i64 a0_2, .bool a0_3]) ?_ 2 _ rfl; (with_reducible repeat (first | refine blk_drewN ?_ _ | refine blk_drew ?_ | refine blk_alloc ?_ _)); refine blk_put (cs := #[.slice Ao15 t365.length co15, .slice A0_1 l0_1.length c0_1, .int .i64 a0_2, .bool a0_3]) ?_ 1 _ rfl; (with_reducible repeat (first | refine blk_drewN ?_ _ | refine blk_drew ?_ | refine blk_alloc ?_ _)); refine blk_put (cs := #[.slice A0_0 l0_0.length c0_0, .slice A0_1 l0_1.length c0_1, .int .i64 a0_2, .bool a0_3]) ?_ 0 _ rfl; (with_reducible repeat (first | refine blk_drewN ?_ _ | refine blk_drew ?_ | refine blk_alloc ?_ _)); exact BK363.out))⟩; have n4_ : Aside0 (Below w.heap.size w w18) := ⟨(by rw [hw]; exact (by repeat (first | (with_reducible first | exact HB.out | apply below_alloc | apply pw_below_drewN | apply below_drew1 | refine below_set ?_ GE362.out | refine below_set ?_ GE363.out) | exact HB.out)))⟩; clear hw; clear HO367; clear HO370; clear BK362; clear BK363; clear HB; have HO367 := n0_; have HO370 := n1_; have BK362 := n2_; have BK363 := n3_; have HB := n4_; clear n0_ n1_ n2_ n3_ n4_; have hcz19_0 : w18.cell? ⟨gb363, 0, none⟩ = some (.slice Ao15 t365.length co15) := (blk_cell BK363.out 0).trans rfl; have hcz19_1 : w18.cell? ⟨gb363, 1, none⟩ = some (.slice Ao17 t368.length co17) := (blk_cell BK363.out 1).trans rfl; have hcz19_2 : w18.cell? ⟨gb363, 2, none⟩ = some (.int .i64 t371) := (blk_cell BK363.out 2).trans rfl; have hcz19_3 : w18.cell? ⟨gb363, 3, none⟩ = some (.bool t372) := (blk_cell BK363.out 3).trans rfl; have hfz19_0 := blk_frozen BK363.out 0; have hfz19_1 := blk_frozen BK363.out 1; have hfz19_2 := blk_frozen BK363.out 2; have hfz19_3 := blk_frozen BK363.out 3) | (go_at_call 11; (with_reducible refine (disk_Put.calls (fun k_ => (k_ ≠ gb362 ∧ k_ ≠ gb363)) _ _ t365 (fun k_ => (k_ ≠ gb362 ∧ k_ ≠ gb363)) _ _ t368 t371 t372 a0_4 a0_5 t374 t377 t380 t381 t382 _ ?side1 ?side2 A4.out).mono ?_); (case side1 => exact HO367.out); (case side2 => exact HO370.out); rintro e w20 ⟨v375, v378, rfl, ho0, ho1, hb⟩; have n0_ := Aside0.mk (Kd.V_below (by (with_reducible repeat (first | apply Kd.V_alloc | apply Kd.V_drewN | apply Kd.V_drew)); exact HO367.out) hb); have n1_ := Aside0.mk (Kd.V_below (by (with_reducible repeat (first | apply Kd.V_alloc | apply Kd.V_drewN | apply Kd.V_drew)); exact HO370.out) hb); have n2_ := Aside0.mk (Kd.V_lower (Kd.V_mono (ok' := fun k_ => k_ ≠ gb362 ∧ k_ ≠ gb363) ho0 (fun k_ hk_ => ⟨Or.elim hk_ (fun hs_ => Or.elim hs_ (fun hs_ => hs_.1) (fun hs_ => hs_.1)) (fun hn_ => (Kd.freshB (g := gb362) (o := .cells #[.slice A0_0 l0_0.length c0_0, .slice A0_1 l0_1.length c0_1, .int .i64 a0_2, .bool a0_3, .int .i64 a0_4, .string a0_5, .int .i64 a0_6] 54 (0, 0)) (by (with_reducible repeat (first | refine blk_drewN ?_ _ | refine blk_drew ?_ | refine blk_alloc ?_ _)); exact BK362.out) k_ hn_)), Or.elim hk_ (fun hs_ => Or.elim hs_ (fun hs_ => hs_.2) (fun hs_ => hs_.2)) (fun hn_ => (Kd.freshB (g := gb363) (o := .cells #[.slice Ao15 t365.length co15, .slice Ao17 t368.length co17, .int .i64 t371, .bool t372] 25 (0, 0)) (by (with_reducible repeat (first | refine blk_drewN ?_ _ | refine blk_drew ?_ | refine blk_alloc ?_ _)); exact BK363.out) k_ hn_))⟩)) (below_size (by repeat (first | (with_reducible first | exact HB.out | apply below_alloc | apply pw_below_drewN | apply below_drew1 | refine below_set ?_ GE362.out | refine below_set ?_ GE363.out) | exact HB.out)))); have n3_ := Aside0.mk (Kd.V_lower (Kd.V_mono (ok' := fun k_ => k_ ≠ gb362 ∧ k_ ≠ gb363) ho1 (fun k_ hk_ => ⟨Or.elim hk_ (fun hs_ => Or.elim hs_ (fun hs_ => hs_.1) (fun hs_ => hs_.1)) (fun hn_ => (Kd.freshB (g := gb362) (o := .cells #[.slice A0_0 l0_0.length c0_0, .slice A0_1 l0_1.length c0_1, .int .i64 a0_2, .bool a0_3, .int .i64 a0_4, .string a0_5, .int .i64 a0_6] 54 (0, 0)) (by (with_reducible repeat (first | refine blk_drewN ?_ _ | refine blk_drew ?_ | refine blk_alloc ?_ _)); exact BK362.out) k_ hn_)), Or.elim hk_ (fun hs_ => Or.elim hs_ (fun hs_ => hs_.2) (fun hs_ => hs_.2)) (fun hn_ => (Kd.freshB (g := gb363) (o := .cells #[.slice Ao15 t365.length co15, .slice Ao17 t368.length co17, .int .i64 t371, .bool t372] 25 (0, 0)) (by (with_reducible repeat (first | refine blk_drewN ?_ _ | refine blk_drew ?_ | refine blk_alloc ?_ _)); exact BK363.out) k_ hn_))⟩)) (below_size (by repeat (first | (with_reducible first | exact HB.out | apply below_alloc | apply pw_below_drewN | apply below_drew1 | refine below_set ?_ GE362.out | refine below_set ?_ GE363.out) | exact HB.out)))); have n4_ := Aside0.mk (blk_below (g := gb362) (o := .cells #[.slice A0_0 l0_0.length c0_0, .slice A0_1 l0_1.length c0_1, .int .i64 a0_2, .bool a0_3, .int .i64 a0_4, .string a0_5, .int .i64 a0_6] 54 (0, 0)) (by (with_reducible repeat (first | refine blk_drewN ?_ _ | refine blk_drew ?_ | refine blk_alloc ?_ _)); exact BK362.out) hb); have n5_ := Aside0.mk (blk_below (g := gb363) (o := .cells #[.slice Ao15 t365.length co15, .slice Ao17 t368.length co17, .int .i64 t371, .bool t372] 25 (0, 0)) (by (with_reducible repeat (first | refine blk_drewN ?_ _ | refine blk_drew ?_ | refine blk_alloc ?_ _)); exact BK363.out) hb); have n6_ := Aside0.mk (below_step (by repeat (first | (with_reducible first | exact HB.out | apply below_alloc | apply pw_below_drewN | apply below_drew1 | refine below_set ?_ GE362.out | refine below_set ?_ GE363.out) | exact HB.out)) hb); clear HO367; clear HO370; clear BK362; clear BK363; clear HB; have HO367 := n0_; have HO370 := n1_; have HO376 := n2_; have HO379 := n3_; have BK362 := n4_; have BK363 := n5_; have HB := n6_; clear n0_ n1_ n2_ n3_ n4_ n5_ n6_; (try clear hb); (try clear hb2); (try clear hk); (try clear hi); (try clear ho0); (try clear ho1)) | ((with_reducible refine gate_dst (N := 9) rfl ?_); (try (refine gate_guard (by rfl) ?_; dsimp only)); refine box_event ?hg (N := 9) ?hd (cs := #[.slice none 0 0, .slice none 0 0, .int .i64 0, .bool false]) (t := 25) ?hr ?_; (case hd => rfl); (case hg => rfl); (case hr => first | (go_simp; done) | (go_simp; rfl)); intro gb383 hg w21 hbox hb; have n0_ := Aside0.mk (Kd.V_below (Kd.V_elderB (by (with_reducible repeat (first | apply Kd.V_alloc | apply Kd.V_drewN | apply Kd.V_drew)); exact HO367.out) gb383 (Nat.le_of_eq hg.symm)) hb); have n1_ := Aside0.mk (Kd.V_below (Kd.V_elderB (by (with_reducible repeat (first | apply Kd.V_alloc | apply Kd.V_drewN | apply Kd.V_drew)); exact HO370.out) gb383 (Nat.le_of_eq hg.symm)) hb); have n2_ := Aside0.mk (Kd.V_below (Kd.V_elderB (by (with_reducible repeat (first | apply Kd.V_alloc | apply Kd.V_drewN | apply Kd.V_drew)); exact HO376.out) gb383 (Nat.le_of_eq hg.symm)) hb); have n3_ := Aside0.mk (Kd.V_below (Kd.V_elderB (by (with_reducible repeat (first | apply Kd.V_alloc | apply Kd.V_drewN | apply Kd.V_drew)); exact HO379.out) gb383 (Nat.le_of_eq hg.symm)) hb); have n4_ := Aside0.mk (blk_below (g := gb362) (o := .cells #[.slice A0_0 l0_0.length c0_0, .slice A0_1 l0_1.length c0_1, .int .i64 a0_2, .bool a0_3, .int .i64 a0_4, .string a0_5, .int .i64 a0_6] 54 (0, 0)) (by (with_reducible repeat (first | refine blk_drewN ?_ _ | refine blk_drew ?_ | refine blk_alloc ?_ _)); exact BK362.out) hb); have n5_ := Aside0.mk (blk_below (g := gb363) (o := .cells #[.slice Ao15 t365.length co15, .slice Ao17 t368.length co17, .int .i64 t371, .bool t372] 25 (0, 0)) (by (with_reducible repeat (first | refine blk_drewN ?_ _ | refine blk_drew ?_ | refine blk_alloc ?_ _)); exact BK363.out) hb); have n6_ := Aside0.mk (below_step (by repeat (first | (with_reducible first | exact HB.out | apply below_alloc | apply pw_below_drewN | apply below_drew1 | refine below_set ?_ GE362.out | refine below_set ?_ GE363.out) | exact HB.out)) hb); have n7_ := Aside0.mk (hbox); have n8_ := Aside0.mk ((by rw [hg]; exact (below_size (by repeat (first | (with_reducible first | exact HB.out | apply below_alloc | apply pw_below_drewN | apply below_drew1 | refine below_set ?_ GE362.out | refine below_set ?_ GE363.out) | exact HB.out))) : w.heap.size ≤ gb383)); have n9_ := Aside0.mk ((by rw [hg]; exact (below_size (by repeat (first | (with_reducible first | exact HB.out | apply below_alloc | apply pw_below_drewN | apply below_drew1 | refine below_set ?_ GE362.out | refine below_set ?_ GE363.out) | exact HB.out))) : w.heap.size ≤ gb383)); have n10_ := Aside0.mk ((by rw [hg]; exact Nat.ne_of_lt (blk_lt (g := gb362) (o := .cells #[.slice A0_0 l0_0.length c0_0, .slice A0_1 l0_1.length c0_1, .int .i64 a0_2, .bool a0_3, .int .i64 a0_4, .string a0_5, .int .i64 a0_6] 54 (0, 0)) (by (with_reducible repeat (first | refine blk_drewN ?_ _ | refine blk_drew ?_ | refine blk_alloc ?_ _)); exact BK362.out)) : gb362 ≠ gb383)); have n11_ := Aside0.mk ((by rw [hg]; exact Nat.ne_of_gt (blk_lt (g := gb362) (o := .cells #[.slice A0_0 l0_0.length c0_0, .slice A0_1 l0_1.length c0_1, .int .i64 a0_2, .bool a0_3, .int .i64 a0_4, .string a0_5, .int .i64 a0_6] 54 (0, 0)) (by (with_reducible repeat (first | refine blk_drewN ?_ _ | refine blk_drew ?_ | refine blk_alloc ?_ _)); exact BK362.out)) : gb383 ≠ gb362)); have n12_ := Aside0.mk ((by rw [hg]; exact Nat.ne_of_lt (blk_lt (g := gb363) (o := .cells #[.slice Ao15 t365.length co15, .slice Ao17 t368.length co17, .int .i64 t371, .bool t372] 25 (0, 0)) (by (with_reducible repeat (first | refine blk_drewN ?_ _ | refine blk_drew ?_ | refine blk_alloc ?_ _)); exact BK363.out)) : gb363 ≠ gb383)); have n13_ := Aside0.mk ((by rw [hg]; exact Nat.ne_of_gt (blk_lt (g := gb363) (o := .cells #[.slice Ao15 t365.length co15, .slice Ao17 t368.length co17, .int .i64 t371, .bool t372] 25 (0, 0)) (by (with_reducible repeat (first | refine blk_drewN ?_ _ | refine blk_drew ?_ | refine blk_alloc ?_ _)); exact BK363.out)) : gb383 ≠ gb363)); clear HO367; clear HO370; clear HO376; clear HO379; clear BK362; clear BK363; clear HB; have HO367 := n0_; have HO370 := n1_; have HO376 := n2_; have HO379 := n3_; have BK362 := n4_; have BK363 := n5_; have HB := n6_; have BK383 := n7_; have GW383 := n8_; have GE383 := n9_; have NB362_383 := n10_; have NB383_362 := n11_; have NB363_383 := n12_; have NB383_363 := n13_; clear n0_ n1_ n2_ n3_ n4_ n5_ n6_ n7_ n8_ n9_ n10_ n11_ n12_ n13_; clear hb hbox hg; obtain ⟨Ao22, co22, eo22⟩ := Kd.V_slice HO376.out; subst eo22; have hnb23 := NB383_362.out; have hnc23 := NB362_383.out; have hnb24 := NB383_363.out; have hnc24 := NB363_383.out; have hcz25_0 : w21.cell? ⟨gb383, 0, none⟩ = some (.slice none 0 0) := (blk_cell BK383.out 0).trans rfl; have hcz25_1 : w21.cell? ⟨gb383, 1, none⟩ = some (.slice none 0 0) := (blk_cell BK383.out 1).trans rfl; have hcz25_2 : w21.cell? ⟨gb383, 2, none⟩ = some (.int .i64 0) := (blk_cell BK383.out 2).trans rfl; have hcz25_3 : w21.cell? ⟨gb383, 3, none⟩ = some (.bool false) := (blk_cell BK383.out 3).trans rfl; have hfz25_0 := blk_frozen BK383.out 0; have hfz25_1 := blk_frozen BK383.out 1; have hfz25_2 := blk_frozen BK383.out 2; have hfz25_3 := blk_frozen BK383.out 3; obtain ⟨Ao26, co26, eo26⟩ := Kd.V_slice HO379.out; subst eo26)); go_upto_region 8 with (first | ((with_reducible refine gate_dst (N := 1) rfl ?_); (try (refine gate_guard (by rfl) ?_; dsimp only)); refine box_event ?hg (N := 1) ?hd (cs := #[.slice A0_0 l0_0.length c0_0, .slice A0_1 l0_1.length c0_1, .int .i64 a0_2, .bool a0_3, .int .i64 a0_4, .string a0_5, .int .i64 a0_6]) (t := 54) ?hr ?_; (case hd => rfl); (case hg => rfl); (case hr => first | (go_simp; done) | (go_simp; rfl)); intro gb362 hg w6 hbox hb; have n0_ := Aside0.mk (below_step (by repeat (first | (with_reducible first | exact HB.out | apply below_alloc | apply pw_below_drewN | apply below_drew1) | exact HB.out)) hb); have n1_ := Aside0.mk (hbox); have n2_ := Aside0.mk ((by rw [hg]; exact (below_size (by repeat (first | (with_reducible first | exact HB.out | apply below_alloc | apply pw_below_drewN | apply below_drew1) | exact HB.out))) : w.heap.size ≤ gb362)); have n3_ := Aside0.mk ((by rw [hg]; exact (below_size (by repeat (first | (with_reducible first | exact HB.out | apply below_alloc | apply pw_below_drewN | apply below_drew1) | exact HB.out))) : w.heap.size ≤ gb362)); clear HB; have HB := n0_; have BK362 := n1_; have GW362 := n2_; have GE362 := n3_; clear n0_ n1_ n2_ n3_; clear hb hbox hg; have hcz7_0 : w6.cell? ⟨gb362, 0, none⟩ = some (.slice A0_0 l0_0.length c0_0) := (blk_cell BK362.out 0).trans rfl; have hcz7_1 : w6.cell? ⟨gb362, 1, none⟩ = some (.slice A0_1 l0_1.length c0_1) := (blk_cell BK362.out 1).trans rfl; have hcz7_2 : w6.cell? ⟨gb362, 2, none⟩ = some (.int .i64 a0_2) := (blk_cell BK362.out 2).trans rfl; have hcz7_3 : w6.cell? ⟨gb362, 3, none⟩ = some (.bool a0_3) := (blk_cell BK362.out 3).trans rfl; have hcz7_4 : w6.cell? ⟨gb362, 4, none⟩ = some (.int .i64 a0_4) := (blk_cell BK362.out 4).trans rfl; have hcz7_5 : w6.cell? ⟨gb362, 5, none⟩ = some (.string a0_5) := (blk_cell BK362.out 5).trans rfl; have hcz7_6 : w6.cell? ⟨gb362, 6, none⟩ = some (.int .i64 a0_6) := (blk_cell BK362.out 6).trans rfl; have hfz7_0 := blk_frozen BK362.out 0; have hfz7_1 := blk_frozen BK362.out 1; have hfz7_2 := blk_frozen BK362.out 2; have hfz7_3 := blk_frozen BK362.out 3; have hfz7_4 := blk_frozen BK362.out 4; have hfz7_5 := blk_frozen BK362.out 5; have hfz7_6 := blk_frozen BK362.out 6) | ((with_reducible refine gate_dst (N := 3) rfl ?_); (try (refine gate_guard (by rfl) ?_; dsimp only)); refine box_event ?hg (N := 3) ?hd (cs := #[.slice none 0 0, .slice none 0 0, .int .i64 0, .bool false]) (t := 25) ?hr ?_; (case hd => rfl); (case hg => rfl); (case hr => first | (go_simp; done) | (go_simp; rfl)); intro gb363 hg w8 hbox hb; have n0_ := Aside0.mk (blk_below (g := gb362) (o := .cells #[.slice A0_0 l0_0.length c0_0, .slice A0_1 l0_1.length c0_1, .int .i64 a0_2, .bool a0_3, .int .i64 a0_4, .string a0_5, .int .i64 a0_6] 54 (0, 0)) (by (with_reducible repeat (first | refine blk_drewN ?_ _ | refine blk_drew ?_ | refine blk_alloc ?_ _)); exact BK362.out) hb); have n1_ := Aside0.mk (below_step (by repeat (first | (with_reducible first | exact HB.out | apply below_alloc | apply pw_below_drewN | apply below_drew1 | refine below_set ?_ GE362.out) | exact HB.out)) hb); have n2_ := Aside0.mk (hbox); have n3_ := Aside0.mk ((by rw [hg]; exact (below_size (by repeat (first | (with_reducible first | exact HB.out | apply below_alloc | apply pw_below_drewN | apply below_drew1 | refine below_set ?_ GE362.out) | exact HB.out))) : w.heap.size ≤ gb363)); have n4_ := Aside0.mk ((by rw [hg]; exact (below_size (by repeat (first | (with_reducible first | exact HB.out | apply below_alloc | apply pw_below_drewN | apply below_drew1 | refine below_set ?_ GE362.out) | exact HB.out))) : w.heap.size ≤ gb363)); have n5_ := Aside0.mk ((by rw [hg]; exact Nat.ne_of_lt (blk_lt (g := gb362) (o := .cells #[.slice A0_0 l0_0.length c0_0, .slice A0_1 l0_1.length c0_1, .int .i64 a0_2, .bool a0_3, .int .i64 a0_4, .string a0_5, .int .i64 a0_6] 54 (0, 0)) (by (with_reducible repeat (first | refine blk_drewN ?_ _ | refine blk_drew ?_ | refine blk_alloc ?_ _)); exact BK362.out)) : gb362 ≠ gb363)); have n6_ := Aside0.mk ((by rw [hg]; exact Nat.ne_of_gt (blk_lt (g := gb362) (o := .cells #[.slice A0_0 l0_0.length c0_0, .slice A0_1 l0_1.length c0_1, .int .i64 a0_2, .bool a0_3, .int .i64 a0_4, .string a0_5, .int .i64 a0_6] 54 (0, 0)) (by (with_reducible repeat (first | refine blk_drewN ?_ _ | refine blk_drew ?_ | refine blk_alloc ?_ _)); exact BK362.out)) : gb363 ≠ gb362)); clear BK362; clear HB; have BK362 := n0_; have HB := n1_; have BK363 := n2_; have GW363 := n3_; have GE363 := n4_; have NB362_363 := n5_; have NB363_362 := n6_; clear n0_ n1_ n2_ n3_ n4_ n5_ n6_; clear hb hbox hg; have hnb9 := NB363_362.out; have hnc9 := NB362_363.out; have hcz10_0 : w8.cell? ⟨gb363, 0, none⟩ = some (.slice none 0 0) := (blk_cell BK363.out 0).trans rfl; have hcz10_1 : w8.cell? ⟨gb363, 1, none⟩ = some (.slice none 0 0) := (blk_cell BK363.out 1).trans rfl; have hcz10_2 : w8.cell? ⟨gb363, 2, none⟩ = some (.int .i64 0) := (blk_cell BK363.out 2).trans rfl; have hcz10_3 : w8.cell? ⟨gb363, 3, none⟩ = some (.bool false) := (blk_cell BK363.out 3).trans rfl; have hfz10_0 := blk_frozen BK363.out 0; have hfz10_1 := blk_frozen BK363.out 1; have hfz10_2 := blk_frozen BK363.out 2; have hfz10_3 := blk_frozen BK363.out 3; have hcz11_0 : w8.cell? ⟨gb362, 0, none⟩ = some (.slice A0_0 l0_0.length c0_0) := (blk_cell BK362.out 0).trans rfl; have hcz11_1 : w8.cell? ⟨gb362, 1, none⟩ = some (.slice A0_1 l0_1.length c0_1) := (blk_cell BK362.out 1).trans rfl; have hcz11_2 : w8.cell? ⟨gb362, 2, none⟩ = some (.int .i64 a0_2) := (blk_cell BK362.out 2).trans rfl; have hcz11_3 : w8.cell? ⟨gb362, 3, none⟩ = some (.bool a0_3) := (blk_cell BK362.out 3).trans rfl; have hcz11_4 : w8.cell? ⟨gb362, 4, none⟩ = some (.int .i64 a0_4) := (blk_cell BK362.out 4).trans rfl; have hcz11_5 : w8.cell? ⟨gb362, 5, none⟩ = some (.string a0_5) := (blk_cell BK362.out 5).trans rfl; have hcz11_6 : w8.cell? ⟨gb362, 6, none⟩ = some (.int .i64 a0_6) := (blk_cell BK362.out 6).trans rfl; have hfz11_0 := blk_frozen BK362.out 0; have hfz11_1 := blk_frozen BK362.out 1; have hfz11_2 := blk_frozen BK362.out 2; have hfz11_3 := blk_frozen BK362.out 3; have hfz11_4 := blk_frozen BK362.out 4; have hfz11_5 := blk_frozen BK362.out 5; have hfz11_6 := blk_frozen BK362.out 6) | (go_at_call 10; (with_reducible refine (hogsheadlaw08_shown.calls k  t364 _ A2.out).mono ?_); rintro e w12 ⟨rfl, hb⟩; have n0_ := Aside0.mk (blk_below (g := gb362) (o := .cells #[.slice A0_0 l0_0.length c0_0, .slice A0_1 l0_1.length c0_1, .int .i64 a0_2, .bool a0_3, .int .i64 a0_4, .string a0_5, .int .i64 a0_6] 54 (0, 0)) (by (with_reducible repeat (first | refine blk_drewN ?_ _ | refine blk_drew ?_ | refine blk_alloc ?_ _)); refine blk_far ?_ NB362_363.out _; (with_reducible repeat (first | refine blk_drewN ?_ _ | refine blk_drew ?_ | refine blk_alloc ?_ _)); refine blk_far ?_ NB362_363.out _; (with_reducible repeat (first | refine blk_drewN ?_ _ | refine blk_drew ?_ | refine blk_alloc ?_ _)); refine blk_far ?_ NB362_363.out _; (with_reducible repeat (first | refine blk_drewN ?_ _ | refine blk_drew ?_ | refine blk_alloc ?_ _)); refine blk_far ?_ NB362_363.out _; (with_reducible repeat (first | refine blk_drewN ?_ _ | refine blk_drew ?_ | refine blk_alloc ?_ _)); exact BK362.out) hb); have n1_ := Aside0.mk (blk_below (g := gb363) (o := .cells #[.slice A0_0 l0_0.length c0_0, .slice A0_1 l0_1.length c0_1, .int .i64 a0_2, .bool a0_3] 25 (0, 0)) (by (with_reducible repeat (first | refine blk_drewN ?_ _ | refine blk_drew ?_ | refine blk_alloc ?_ _)); refine blk_put (cs := #[.slice A0_0 l0_0.length c0_0, .slice A0_1 l0_1.length c0_1, .int .i64 a0_2, .bool false]) ?_ 3 _ rfl; (with_reducible repeat (first | refine blk_drewN ?_ _ | refine blk_drew ?_ | refine blk_alloc ?_ _)); refine blk_put (cs := #[.slice A0_0 l0_0.length c0_0, .slice A0_1 l0_1.length c0_1, .int .i64 0, .bool false]) ?_ 2 _ rfl; (with_reducible repeat (first | refine blk_drewN ?_ _ | refine blk_drew ?_ | refine blk_alloc ?_ _)); refine blk_put (cs := #[.slice A0_0 l0_0.length c0_0, .slice none 0 0, .int .i64 0, .bool false]) ?_ 1 _ rfl; (with_reducible repeat (first | refine blk_drewN ?_ _ | refine blk_drew ?_ | refine blk_alloc ?_ _)); refine blk_put (cs := #[.slice none 0 0, .slice none 0 0, .int .i64 0, .bool false]) ?_ 0 _ rfl; (with_reducible repeat (first | refine blk_drewN ?_ _ | refine blk_drew ?_ | refine blk_alloc ?_ _)); exact BK363.out) hb); have n2_ := Aside0.mk (below_step (by repeat (first | (with_reducible first | exact HB.out | apply below_alloc | apply pw_below_drewN | apply below_drew1 | refine below_set ?_ GE362.out | refine below_set ?_ GE363.out) | exact HB.out)) hb); clear BK362; clear BK363; clear HB; have BK362 := n0_; have BK363 := n1_; have HB := n2_; clear n0_ n1_ n2_; (try clear hb); (try clear hb2); (try clear hk); (try clear hi); have hcz13_0 : w12.cell? ⟨gb363, 0, none⟩ = some (.slice A0_0 l0_0.length c0_0) := (blk_cell BK363.out 0).trans rfl; have hcz13_1 : w12.cell? ⟨gb363, 1, none⟩ = some (.slice A0_1 l0_1.length c0_1) := (blk_cell BK363.out 1).trans rfl; have hcz13_2 : w12.cell? ⟨gb363, 2, none⟩ = some (.int .i64 a0_2) := (blk_cell BK363.out 2).trans rfl; have hcz13_3 : w12.cell? ⟨gb363, 3, none⟩ = some (.bool a0_3) := (blk_cell BK363.out 3).trans rfl; have hfz13_0 := blk_frozen BK363.out 0; have hfz13_1 := blk_frozen BK363.out 1; have hfz13_2 := blk_frozen BK363.out 2; have hfz13_3 := blk_frozen BK363.out 3) | (go_at_call 15; (with_reducible refine (disk_Flush.calls k (fun k_ => k_ < w.heap.size) _ _ l0_0 (fun k_ => k_ < w.heap.size) _ _ l0_1 a0_2 a0_3 t365 t368 t371 t372 t373 _ ?side1 ?side2 A3.out).mono ?_); (case side1 => exact Kd.V_mk HC0_0.out (Kd.F_below (Kd.C_F Kd.heap_string HR0_0.out) (by repeat (first | (with_reducible first | exact HB.out | apply below_alloc | apply pw_below_drewN | apply below_drew1 | refine below_set ?_ GE362.out | refine below_set ?_ GE363.out) | exact HB.out)))); (case side2 => exact Kd.V_mk HC0_1.out (Kd.F_below (Kd.C_F k47_heap HR0_1.out) (by repeat (first | (with_reducible first | exact HB.out | apply below_alloc | apply pw_below_drewN | apply below_drew1 | refine below_set ?_ GE362.out | refine below_set ?_ GE363.out) | exact HB.out)))); rintro e w14 ⟨v366, v369, rfl, ho0, ho1, hb⟩; have n0_ := Aside0.mk (Kd.V_lower (Kd.V_mono (ok' := fun k_ => k_ ≠ gb362 ∧ k_ ≠ gb363) ho0 (fun k_ hk_ => ⟨Or.elim hk_ (fun hs_ => Or.elim hs_ (fun hs_ => fun e_ => Nat.not_le.2 hs_ (by rw [e_]; exact GW362.out)) (fun hs_ => fun e_ => Nat.not_le.2 hs_ (by rw [e_]; exact GW362.out))) (fun hn_ => (Kd.freshB (g := gb362) (o := .cells #[.slice A0_0 l0_0.length c0_0, .slice A0_1 l0_1.length c0_1, .int .i64 a0_2, .bool a0_3, .int .i64 a0_4, .string a0_5, .int .i64 a0_6] 54 (0, 0)) (by (with_reducible repeat (first | refine blk_drewN ?_ _ | refine blk_drew ?_ | refine blk_alloc ?_ _)); exact BK362.out) k_ hn_)), Or.elim hk_ (fun hs_ => Or.elim hs_ (fun hs_ => fun e_ => Nat.not_le.2 hs_ (by rw [e_]; exact GW363.out)) (fun hs_ => fun e_ => Nat.not_le.2 hs_ (by rw [e_]; exact GW363.out))) (fun hn_ => (Kd.freshB (g := gb363) (o := .cells #[.slice A0_0 l0_0.length c0_0, .slice A0_1 l0_1.length c0_1, .int .i64 a0_2, .bool a0_3] 25 (0, 0)) (by (with_reducible repeat (first | refine blk_drewN ?_ _ | refine blk_drew ?_ | refine blk_alloc ?_ _)); exact BK363.out) k_ hn_))⟩)) (below_size (by repeat (first | (with_reducible first | exact HB.out | apply below_alloc | apply pw_below_drewN | apply below_drew1 | refine below_set ?_ GE362.out | refine below_set ?_ GE363.out) | exact HB.out)))); have n1_ := Aside0.mk (Kd.V_lower (Kd.V_mono (ok' := fun k_ => k_ ≠ gb362 ∧ k_ ≠ gb363) ho1 (fun k_ hk_ => ⟨Or.elim hk_ (fun hs_ => Or.elim hs_ (fun hs_ => fun e_ => Nat.not_le.2 hs_ (by rw [e_]; exact GW362.out)) (fun hs_ => fun e_ => Nat.not_le.2 hs_ (by rw [e_]; exact GW362.out))) (fun hn_ => (Kd.freshB (g := gb362) (o := .cells #[.slice A0_0 l0_0.length c0_0, .slice A0_1 l0_1.length c0_1, .int .i64 a0_2, .bool a0_3, .int .i64 a0_4, .string a0_5, .int .i64 a0_6] 54 (0, 0)) (by (with_reducible repeat (first | refine blk_drewN ?_ _ | refine blk_drew ?_ | refine blk_alloc ?_ _)); exact BK362.out) k_ hn_)), Or.elim hk_ (fun hs_ => Or.elim hs_ (fun hs_ => fun e_ => Nat.not_le.2 hs_ (by rw [e_]; exact GW363.out)) (fun hs_ => fun e_ => Nat.not_le.2 hs_ (by rw [e_]; exact GW363.out))) (fun hn_ => (Kd.freshB (g := gb363) (o := .cells #[.slice A0_0 l0_0.length c0_0, .slice A0_1 l0_1.length c0_1, .int .i64 a0_2, .bool a0_3] 25 (0, 0)) (by (with_reducible repeat (first | refine blk_drewN ?_ _ | refine blk_drew ?_ | refine blk_alloc ?_ _)); exact BK363.out) k_ hn_))⟩)) (below_size (by repeat (first | (with_reducible first | exact HB.out | apply below_alloc | apply pw_below_drewN | apply below_drew1 | refine below_set ?_ GE362.out | refine below_set ?_ GE363.out) | exact HB.out)))); have n2_ := Aside0.mk (blk_below (g := gb362) (o := .cells #[.slice A0_0 l0_0.length c0_0, .slice A0_1 l0_1.length c0_1, .int .i64 a0_2, .bool a0_3, .int .i64 a0_4, .string a0_5, .int .i64 a0_6] 54 (0, 0)) (by (with_reducible repeat (first | refine blk_drewN ?_ _ | refine blk_drew ?_ | refine blk_alloc ?_ _)); exact BK362.out) hb); have n3_ := Aside0.mk (blk_below (g := gb363) (o := .cells #[.slice A0_0 l0_0.length c0_0, .slice A0_1 l0_1.length c0_1, .int .i64 a0_2, .bool a0_3] 25 (0, 0)) (by (with_reducible repeat (first | refine blk_drewN ?_ _ | refine blk_drew ?_ | refine blk_alloc ?_ _)); exact BK363.out) hb); have n4_ := Aside0.mk (below_step (by repeat (first | (with_reducible first | exact HB.out | apply below_alloc | apply pw_below_drewN | apply below_drew1 | refine below_set ?_ GE362.out | refine below_set ?_ GE363.out) | exact HB.out)) hb); clear BK362; clear BK363; clear HB; have HO367 := n0_; have HO370 := n1_; have BK362 := n2_; have BK363 := n3_; have HB := n4_; clear n0_ n1_ n2_ n3_ n4_; (try clear hb); (try clear hb2); (try clear hk); (try clear hi); (try clear ho0); (try clear ho1); obtain ⟨Ao15, co15, eo15⟩ := Kd.V_slice HO367.out; subst eo15; have hcz16_0 : w14.cell? ⟨gb363, 0, none⟩ = some (.slice A0_0 l0_0.length c0_0) := (blk_cell BK363.out 0).trans rfl; have hcz16_1 : w14.cell? ⟨gb363, 1, none⟩ = some (.slice A0_1 l0_1.length c0_1) := (blk_cell BK363.out 1).trans rfl; have hcz16_2 : w14.cell? ⟨gb363, 2, none⟩ = some (.int .i64 a0_2) := (blk_cell BK363.out 2).trans rfl; have hcz16_3 : w14.cell? ⟨gb363, 3, none⟩ = some (.bool a0_3) := (blk_cell BK363.out 3).trans rfl; have hfz16_0 := blk_frozen BK363.out 0; have hfz16_1 := blk_frozen BK363.out 1; have hfz16_2 := blk_frozen BK363.out 2; have hfz16_3 := blk_frozen BK363.out 3; obtain ⟨Ao17, co17, eo17⟩ := Kd.V_slice HO370.out; subst eo17) | ((with_reducible refine gate_store (t := 25) (p := 3) rfl ?_); (try (rw [drewN_self w14]; generalize hq_ : World.drewN w14 _ = w14; have n0_ := Aside0.mk (Kd.V_at hq_ HO367.out); have n1_ := Aside0.mk (Kd.V_at hq_ HO370.out); have n2_ := Aside0.mk (blk_at hq_ BK362.out); have n3_ := Aside0.mk (blk_at hq_ BK363.out); have n4_ := Aside0.mk (below_at hq_ HB.out); clear hq_ HO367 HO370 BK362 BK363 HB; have HO367 := n0_; have HO370 := n1_; have BK362 := n2_; have BK363 := n3_; have HB := n4_; clear n0_ n1_ n2_ n3_ n4_)); refine store_event (t := 25) (p := 3) (v := ?vo_w18) (w1 := ((((w14.setCell ⟨gb363, 0, none⟩ (.slice Ao15 t365.length co15)).setCell ⟨gb363, 1, none⟩ (.slice Ao17 t368.length co17)).setCell ⟨gb363, 2, none⟩ (.int .i64 t371)).setCell ⟨gb363, 3, none⟩ (.bool t372))) ?hg ?ho ?hn ?hr ?_; (case ho => rfl); (case hg => rfl); (case hn => rfl); (case hr => first | (go_simp; done) | (go_simp; rfl)); intro w18 hw; have n0_ : Aside0 (Kd.V Kd.string 9 w18 w.heap.size (fun k_ => k_ ≠ gb362 ∧ k_ ≠ gb363) (.slice Ao15 t365.length co15) t365) := ⟨(by rw [hw]; exact (by (with_reducible repeat (first | apply Kd.V_alloc | apply Kd.V_drewN | apply Kd.V_drew)); exact Kd.V_mono (Kd.V_far (p := ⟨gb363, 3, none⟩) (Kd.V_far (p := ⟨gb363, 2, none⟩) (Kd.V_far (p := ⟨gb363, 1, none⟩) (Kd.V_far (p := ⟨gb363, 0, none⟩) (Kd.V_mono HO367.out (fun k_ hk => (⟨hk, hk.2⟩ : _ ∧ k_ ≠ gb363))) (fun _ hk => hk.2) (.slice Ao15 t365.length co15)) (fun _ hk => hk.2) (.slice Ao17 t368.length co17)) (fun _ hk => hk.2) (.int .i64 t371)) (fun _ hk => hk.2) (.bool t372)) (fun _ hk => ⟨hk.1.1, hk.1.2⟩)))⟩; have n1_ : Aside0 (Kd.V k47 47 w18 w.heap.size (fun k_ => k_ ≠ gb362 ∧ k_ ≠ gb363) (.slice Ao17 t368.length co17) t368) := ⟨(by rw [hw]; exact (by (with_reducible repeat (first | apply Kd.V_alloc | apply Kd.V_drewN | apply Kd.V_drew)); exact Kd.V_mono (Kd.V_far (p := ⟨gb363, 3, none⟩) (Kd.V_far (p := ⟨gb363, 2, none⟩) (Kd.V_far (p := ⟨gb363, 1, none⟩) (Kd.V_far (p := ⟨gb363, 0, none⟩) (Kd.V_mono HO370.out (fun k_ hk => (⟨hk, hk.2⟩ : _ ∧ k_ ≠ gb363))) (fun _ hk => hk.2) (.slice Ao15 t365.length co15)) (fun _ hk => hk.2) (.slice Ao17 t368.length co17)) (fun _ hk => hk.2) (.int .i64 t371)) (fun _ hk => hk.2) (.bool t372)) (fun _ hk => ⟨hk.1.1, hk.1.2⟩)))⟩; have n2_ : Aside0 (w18.heap[gb362]? = some (.cells #[.slice A0_0 l0_0.length c0_0, .slice A0_1 l0_1.length c0_1, .int .i64 a0_2, .bool a0_3, .int .i64 a0_4, .string a0_5, .int .i64 a0_6] 54 (0, 0))) := ⟨(by rw [hw]; exact (by (with_reducible repeat (first | refine blk_drewN ?_ _ | refine blk_drew ?_ | refine blk_alloc ?_ _)); refine blk_far ?_ NB362_363.out _; (with_reducible repeat (first | refine blk_drewN ?_ _ | refine blk_drew ?_ | refine blk_alloc ?_ _)); refine blk_far ?_ NB362_363.out _; (with_reducible repeat (first | refine blk_drewN ?_ _ | refine blk_drew ?_ | refine blk_alloc ?_ _)); refine blk_far ?_ NB362_363.out _; (with_reducible repeat (first | refine blk_drewN ?_ _ | refine blk_drew ?_ | refine blk_alloc ?_ _)); refine blk_far ?_ NB362_363.out _; (with_reducible repeat (first | refine blk_drewN ?_ _ | refine blk_drew ?_ | refine blk_alloc ?_ _)); exact BK362.out))⟩; have n3_ : Aside0 (w18.heap[gb363]? = some (.cells #[.slice Ao15 t365.length co15, .slice Ao17 t368.length co17, .int .i64 t371, .bool t372] 25 (0, 0))) := ⟨(by rw [hw]; exact (by (with_reducible repeat (first | refine blk_drewN ?_ _ | refine blk_drew ?_ | refine blk_alloc ?_ _)); refine blk_put (cs := #[.slice Ao15 t365.length co15, .slice Ao17 t368.length co17, .int .i64 t371, .bool a0_3]) ?_ 3 _ rfl; (with_reducible repeat (first | refine blk_drewN ?_ _ | refine blk_drew ?_ | refine blk_alloc ?_ _)); refine blk_put (cs := #[.slice Ao15 t365.length co15, .slice Ao17 t368.length co17, .int .i64 a0_2, .bool a0_3]) ?_ 2 _ rfl; (with_reducible repeat (first | refine blk_drewN ?_ _ | refine blk_drew ?_ | refine blk_alloc ?_ _)); refine blk_put (cs := #[.slice Ao15 t365.length co15, .slice A0_1 l0_1.length c0_1, .int .i64 a0_2, .bool a0_3]) ?_ 1 _ rfl; (with_reducible repeat (first | refine blk_drewN ?_ _ | refine blk_drew ?_ | refine blk_alloc ?_ _)); refine blk_put (cs := #[.slice A0_0 l0_0.length c0_0, .slice A0_1 l0_1.length c0_1, .int .i64 a0_2, .bool a0_3]) ?_ 0 _ rfl; (with_reducible repeat (first | refine blk_drewN ?_ _ | refine blk_drew ?_ | refine blk_alloc ?_ _)); exact BK363.out))⟩; have n4_ : Aside0 (Below w.heap.size w w18) := ⟨(by rw [hw]; exact (by repeat (first | (with_reducible first | exact HB.out | apply below_alloc | apply pw_below_drewN | apply below_drew1 | refine below_set ?_ GE362.out | refine below_set ?_ GE363.out) | exact HB.out)))⟩; clear hw; clear HO367; clear HO370; clear BK362; clear BK363; clear HB; have HO367 := n0_; have HO370 := n1_; have BK362 := n2_; have BK363 := n3_; have HB := n4_; clear n0_ n1_ n2_ n3_ n4_; have hcz19_0 : w18.cell? ⟨gb363, 0, none⟩ = some (.slice Ao15 t365.length co15) := (blk_cell BK363.out 0).trans rfl; have hcz19_1 : w18.cell? ⟨gb363, 1, none⟩ = some (.slice Ao17 t368.length co17) := (blk_cell BK363.out 1).trans rfl; have hcz19_2 : w18.cell? ⟨gb363, 2, none⟩ = some (.int .i64 t371) := (blk_cell BK363.out 2).trans rfl; have hcz19_3 : w18.cell? ⟨gb363, 3, none⟩ = some (.bool t372) := (blk_cell BK363.out 3).trans rfl; have hfz19_0 := blk_frozen BK363.out 0; have hfz19_1 := blk_frozen BK363.out 1; have hfz19_2 := blk_frozen BK363.out 2; have hfz19_3 := blk_frozen BK363.out 3) | (go_at_call 11; (with_reducible refine (disk_Put.calls (fun k_ => (k_ ≠ gb362 ∧ k_ ≠ gb363)) _ _ t365 (fun k_ => (k_ ≠ gb362 ∧ k_ ≠ gb363)) _ _ t368 t371 t372 a0_4 a0_5 t374 t377 t380 t381 t382 _ ?side1 ?side2 A4.out).mono ?_); (case side1 => exact HO367.out); (case side2 => exact HO370.out); rintro e w20 ⟨v375, v378, rfl, ho0, ho1, hb⟩; have n0_ := Aside0.mk (Kd.V_below (by (with_reducible repeat (first | apply Kd.V_alloc | apply Kd.V_drewN | apply Kd.V_drew)); exact HO367.out) hb); have n1_ := Aside0.mk (Kd.V_below (by (with_reducible repeat (first | apply Kd.V_alloc | apply Kd.V_drewN | apply Kd.V_drew)); exact HO370.out) hb); have n2_ := Aside0.mk (Kd.V_lower (Kd.V_mono (ok' := fun k_ => k_ ≠ gb362 ∧ k_ ≠ gb363) ho0 (fun k_ hk_ => ⟨Or.elim hk_ (fun hs_ => Or.elim hs_ (fun hs_ => hs_.1) (fun hs_ => hs_.1)) (fun hn_ => (Kd.freshB (g := gb362) (o := .cells #[.slice A0_0 l0_0.length c0_0, .slice A0_1 l0_1.length c0_1, .int .i64 a0_2, .bool a0_3, .int .i64 a0_4, .string a0_5, .int .i64 a0_6] 54 (0, 0)) (by (with_reducible repeat (first | refine blk_drewN ?_ _ | refine blk_drew ?_ | refine blk_alloc ?_ _)); exact BK362.out) k_ hn_)), Or.elim hk_ (fun hs_ => Or.elim hs_ (fun hs_ => hs_.2) (fun hs_ => hs_.2)) (fun hn_ => (Kd.freshB (g := gb363) (o := .cells #[.slice Ao15 t365.length co15, .slice Ao17 t368.length co17, .int .i64 t371, .bool t372] 25 (0, 0)) (by (with_reducible repeat (first | refine blk_drewN ?_ _ | refine blk_drew ?_ | refine blk_alloc ?_ _)); exact BK363.out) k_ hn_))⟩)) (below_size (by repeat (first | (with_reducible first | exact HB.out | apply below_alloc | apply pw_below_drewN | apply below_drew1 | refine below_set ?_ GE362.out | refine below_set ?_ GE363.out) | exact HB.out)))); have n3_ := Aside0.mk (Kd.V_lower (Kd.V_mono (ok' := fun k_ => k_ ≠ gb362 ∧ k_ ≠ gb363) ho1 (fun k_ hk_ => ⟨Or.elim hk_ (fun hs_ => Or.elim hs_ (fun hs_ => hs_.1) (fun hs_ => hs_.1)) (fun hn_ => (Kd.freshB (g := gb362) (o := .cells #[.slice A0_0 l0_0.length c0_0, .slice A0_1 l0_1.length c0_1, .int .i64 a0_2, .bool a0_3, .int .i64 a0_4, .string a0_5, .int .i64 a0_6] 54 (0, 0)) (by (with_reducible repeat (first | refine blk_drewN ?_ _ | refine blk_drew ?_ | refine blk_alloc ?_ _)); exact BK362.out) k_ hn_)), Or.elim hk_ (fun hs_ => Or.elim hs_ (fun hs_ => hs_.2) (fun hs_ => hs_.2)) (fun hn_ => (Kd.freshB (g := gb363) (o := .cells #[.slice Ao15 t365.length co15, .slice Ao17 t368.length co17, .int .i64 t371, .bool t372] 25 (0, 0)) (by (with_reducible repeat (first | refine blk_drewN ?_ _ | refine blk_drew ?_ | refine blk_alloc ?_ _)); exact BK363.out) k_ hn_))⟩)) (below_size (by repeat (first | (with_reducible first | exact HB.out | apply below_alloc | apply pw_below_drewN | apply below_drew1 | refine below_set ?_ GE362.out | refine below_set ?_ GE363.out) | exact HB.out)))); have n4_ := Aside0.mk (blk_below (g := gb362) (o := .cells #[.slice A0_0 l0_0.length c0_0, .slice A0_1 l0_1.length c0_1, .int .i64 a0_2, .bool a0_3, .int .i64 a0_4, .string a0_5, .int .i64 a0_6] 54 (0, 0)) (by (with_reducible repeat (first | refine blk_drewN ?_ _ | refine blk_drew ?_ | refine blk_alloc ?_ _)); exact BK362.out) hb); have n5_ := Aside0.mk (blk_below (g := gb363) (o := .cells #[.slice Ao15 t365.length co15, .slice Ao17 t368.length co17, .int .i64 t371, .bool t372] 25 (0, 0)) (by (with_reducible repeat (first | refine blk_drewN ?_ _ | refine blk_drew ?_ | refine blk_alloc ?_ _)); exact BK363.out) hb); have n6_ := Aside0.mk (below_step (by repeat (first | (with_reducible first | exact HB.out | apply below_alloc | apply pw_below_drewN | apply below_drew1 | refine below_set ?_ GE362.out | refine below_set ?_ GE363.out) | exact HB.out)) hb); clear HO367; clear HO370; clear BK362; clear BK363; clear HB; have HO367 := n0_; have HO370 := n1_; have HO376 := n2_; have HO379 := n3_; have BK362 := n4_; have BK363 := n5_; have HB := n6_; clear n0_ n1_ n2_ n3_ n4_ n5_ n6_; (try clear hb); (try clear hb2); (try clear hk); (try clear hi); (try clear ho0); (try clear ho1)) | ((with_reducible refine gate_dst (N := 9) rfl ?_); (try (refine gate_guard (by rfl) ?_; dsimp only)); refine box_event ?hg (N := 9) ?hd (cs := #[.slice none 0 0, .slice none 0 0, .int .i64 0, .bool false]) (t := 25) ?hr ?_; (case hd => rfl); (case hg => rfl); (case hr => first | (go_simp; done) | (go_simp; rfl)); intro gb383 hg w21 hbox hb; have n0_ := Aside0.mk (Kd.V_below (Kd.V_elderB (by (with_reducible repeat (first | apply Kd.V_alloc | apply Kd.V_drewN | apply Kd.V_drew)); exact HO367.out) gb383 (Nat.le_of_eq hg.symm)) hb); have n1_ := Aside0.mk (Kd.V_below (Kd.V_elderB (by (with_reducible repeat (first | apply Kd.V_alloc | apply Kd.V_drewN | apply Kd.V_drew)); exact HO370.out) gb383 (Nat.le_of_eq hg.symm)) hb); have n2_ := Aside0.mk (Kd.V_below (Kd.V_elderB (by (with_reducible repeat (first | apply Kd.V_alloc | apply Kd.V_drewN | apply Kd.V_drew)); exact HO376.out) gb383 (Nat.le_of_eq hg.symm)) hb); have n3_ := Aside0.mk (Kd.V_below (Kd.V_elderB (by (with_reducible repeat (first | apply Kd.V_alloc | apply Kd.V_drewN | apply Kd.V_drew)); exact HO379.out) gb383 (Nat.le_of_eq hg.symm)) hb); have n4_ := Aside0.mk (blk_below (g := gb362) (o := .cells #[.slice A0_0 l0_0.length c0_0, .slice A0_1 l0_1.length c0_1, .int .i64 a0_2, .bool a0_3, .int .i64 a0_4, .string a0_5, .int .i64 a0_6] 54 (0, 0)) (by (with_reducible repeat (first | refine blk_drewN ?_ _ | refine blk_drew ?_ | refine blk_alloc ?_ _)); exact BK362.out) hb); have n5_ := Aside0.mk (blk_below (g := gb363) (o := .cells #[.slice Ao15 t365.length co15, .slice Ao17 t368.length co17, .int .i64 t371, .bool t372] 25 (0, 0)) (by (with_reducible repeat (first | refine blk_drewN ?_ _ | refine blk_drew ?_ | refine blk_alloc ?_ _)); exact BK363.out) hb); have n6_ := Aside0.mk (below_step (by repeat (first | (with_reducible first | exact HB.out | apply below_alloc | apply pw_below_drewN | apply below_drew1 | refine below_set ?_ GE362.out | refine below_set ?_ GE363.out) | exact HB.out)) hb); have n7_ := Aside0.mk (hbox); have n8_ := Aside0.mk ((by rw [hg]; exact (below_size (by repeat (first | (with_reducible first | exact HB.out | apply below_alloc | apply pw_below_drewN | apply below_drew1 | refine below_set ?_ GE362.out | refine below_set ?_ GE363.out) | exact HB.out))) : w.heap.size ≤ gb383)); have n9_ := Aside0.mk ((by rw [hg]; exact (below_size (by repeat (first | (with_reducible first | exact HB.out | apply below_alloc | apply pw_below_drewN | apply below_drew1 | refine below_set ?_ GE362.out | refine below_set ?_ GE363.out) | exact HB.out))) : w.heap.size ≤ gb383)); have n10_ := Aside0.mk ((by rw [hg]; exact Nat.ne_of_lt (blk_lt (g := gb362) (o := .cells #[.slice A0_0 l0_0.length c0_0, .slice A0_1 l0_1.length c0_1, .int .i64 a0_2, .bool a0_3, .int .i64 a0_4, .string a0_5, .int .i64 a0_6] 54 (0, 0)) (by (with_reducible repeat (first | refine blk_drewN ?_ _ | refine blk_drew ?_ | refine blk_alloc ?_ _)); exact BK362.out)) : gb362 ≠ gb383)); have n11_ := Aside0.mk ((by rw [hg]; exact Nat.ne_of_gt (blk_lt (g := gb362) (o := .cells #[.slice A0_0 l0_0.length c0_0, .slice A0_1 l0_1.length c0_1, .int .i64 a0_2, .bool a0_3, .int .i64 a0_4, .string a0_5, .int .i64 a0_6] 54 (0, 0)) (by (with_reducible repeat (first | refine blk_drewN ?_ _ | refine blk_drew ?_ | refine blk_alloc ?_ _)); exact BK362.out)) : gb383 ≠ gb362)); have n12_ := Aside0.mk ((by rw [hg]; exact Nat.ne_of_lt (blk_lt (g := gb363) (o := .cells #[.slice Ao15 t365.length co15, .slice Ao17 t368.length co17, .int .i64 t371, .bool t372] 25 (0, 0)) (by (with_reducible repeat (first | refine blk_drewN ?_ _ | refine blk_drew ?_ | refine blk_alloc ?_ _)); exact BK363.out)) : gb363 ≠ gb383)); have n13_ := Aside0.mk ((by rw [hg]; exact Nat.ne_of_gt (blk_lt (g := gb363) (o := .cells #[.slice Ao15 t365.length co15, .slice Ao17 t368.length co17, .int .i64 t371, .bool t372] 25 (0, 0)) (by (with_reducible repeat (first | refine blk_drewN ?_ _ | refine blk_drew ?_ | refine blk_alloc ?_ _)); exact BK363.out)) : gb383 ≠ gb363)); clear HO367; clear HO370; clear HO376; clear HO379; clear BK362; clear BK363; clear HB; have HO367 := n0_; have HO370 := n1_; have HO376 := n2_; have HO379 := n3_; have BK362 := n4_; have BK363 := n5_; have HB := n6_; have BK383 := n7_; have GW383 := n8_; have GE383 := n9_; have NB362_383 := n10_; have NB383_362 := n11_; have NB363_383 := n12_; have NB383_363 := n13_; clear n0_ n1_ n2_ n3_ n4_ n5_ n6_ n7_ n8_ n9_ n10_ n11_ n12_ n13_; clear hb hbox hg; obtain ⟨Ao22, co22, eo22⟩ := Kd.V_slice HO376.out; subst eo22; have hnb23 := NB383_362.out; have hnc23 := NB362_383.out; have hnb24 := NB383_363.out; have hnc24 := NB363_383.out; have hcz25_0 : w21.cell? ⟨gb383, 0, none⟩ = some (.slice none 0 0) := (blk_cell BK383.out 0).trans rfl; have hcz25_1 : w21.cell? ⟨gb383, 1, none⟩ = some (.slice none 0 0) := (blk_cell BK383.out 1).trans rfl; have hcz25_2 : w21.cell? ⟨gb383, 2, none⟩ = some (.int .i64 0) := (blk_cell BK383.out 2).trans rfl; have hcz25_3 : w21.cell? ⟨gb383, 3, none⟩ = some (.bool false) := (blk_cell BK383.out 3).trans rfl; have hfz25_0 := blk_frozen BK383.out 0; have hfz25_1 := blk_frozen BK383.out 1; have hfz25_2 := blk_frozen BK383.out 2; have hfz25_3 := blk_frozen BK383.out 3; obtain ⟨Ao26, co26, eo26⟩ := Kd.V_slice HO379.out; subst eo26)))
  (try simp only [Act.put, List.setIfInBounds_toArray, List.set_cons_zero, List.set_cons_succ])
  go_cut [45] (fun v45 wc => ∃ (kq : Nat) (x45_4 : Bool), v45 = .bool x45_4 ∧ Aside0 (hogsheadlaw08_DiskTorn.j0 kq a0_4 a0_5 a0_6 t364 x45_4 t365 t368 t371 t372 t374 t377 t380 t381 = some r) ∧ Aside0 (kq ≤ k) ∧ Aside0 (Kd.V Kd.string 9 wc w.heap.size (fun k_ => k_ ≠ gb362 ∧ k_ ≠ gb363 ∧ k_ ≠ gb383) (.slice Ao15 t365.length co15) t365) ∧ Aside0 (Kd.V k47 47 wc w.heap.size (fun k_ => k_ ≠ gb362 ∧ k_ ≠ gb363 ∧ k_ ≠ gb383) (.slice Ao17 t368.length co17) t368) ∧ Aside0 (Kd.V Kd.string 9 wc w.heap.size (fun k_ => k_ ≠ gb362 ∧ k_ ≠ gb363 ∧ k_ ≠ gb383) (.slice Ao22 t374.length co22) t374) ∧ Aside0 (Kd.V k47 47 wc w.heap.size (fun k_ => k_ ≠ gb362 ∧ k_ ≠ gb363 ∧ k_ ≠ gb383) (.slice Ao26 t377.length co26) t377) ∧ Aside0 (wc.heap[gb362]? = some (.cells #[(.slice A0_0 l0_0.length c0_0), (.slice A0_1 l0_1.length c0_1), .int .i64 a0_2, .bool a0_3, .int .i64 a0_4, .string a0_5, .int .i64 a0_6] 54 (0, 0))) ∧ Aside0 (wc.heap[gb363]? = some (.cells #[(.slice Ao15 t365.length co15), (.slice Ao17 t368.length co17), .int .i64 t371, .bool t372] 25 (0, 0))) ∧ Aside0 (wc.heap[gb383]? = some (.cells #[(.slice Ao22 t374.length co22), (.slice Ao26 t377.length co26), .int .i64 t380, .bool t381] 25 (0, 0))) ∧ Aside0 (Below w.heap.size w wc))
  case first =>
    have H := HC5.out
    clear HC5
    by_cases c27 : t373 = 0
    · rw [if_pos c27] at H
      have c27b0 : (t373 == 0) = true := beq_iff_eq.mpr c27
      have c27b1 : (t373 != 0) = false := bne_eq_false_iff_eq.mpr c27
      clear c27
      (first | rw [c27b0] | (simp only [i64_w, i32_w]; rw [c27b0]) | skip)
      by_cases c28 : t382 = 0
      · rw [if_pos c28] at H
        have c28b0 : (t382 == 0) = true := beq_iff_eq.mpr c28
        have c28b1 : (t382 != 0) = false := bne_eq_false_iff_eq.mpr c28
        clear c28
        have H' := Aside0.mk H
        clear H
        go_wp2
        repeat (go_quiet (fail); try go_wp2)
        go_meet
        case rel => exact ⟨_, (decide (a0_6 < 0)), (by first | rfl | (simp; done) | (simp [*]; done)), H', ⟨by first | omega | exact Nat.le_refl _⟩, ⟨by (with_reducible repeat (first | apply Kd.V_alloc | apply Kd.V_drewN | apply Kd.V_drew)); exact Kd.V_mono (Kd.V_far (p := ⟨gb383, 3, none⟩) (Kd.V_far (p := ⟨gb383, 2, none⟩) (Kd.V_far (p := ⟨gb383, 1, none⟩) (Kd.V_far (p := ⟨gb383, 0, none⟩) (Kd.V_mono HO367.out (fun k_ hk => (⟨hk, hk.2⟩ : _ ∧ k_ ≠ gb383))) (fun _ hk => hk.2) (.slice Ao22 t374.length co22)) (fun _ hk => hk.2) (.slice Ao26 t377.length co26)) (fun _ hk => hk.2) (.int .i64 t380)) (fun _ hk => hk.2) (.bool t381)) (fun _ hk => ⟨hk.1.1.1, ⟨hk.1.1.2, hk.1.2⟩⟩)⟩, ⟨by (with_reducible repeat (first | apply Kd.V_alloc | apply Kd.V_drewN | apply Kd.V_drew)); exact Kd.V_mono (Kd.V_far (p := ⟨gb383, 3, none⟩) (Kd.V_far (p := ⟨gb383, 2, none⟩) (Kd.V_far (p := ⟨gb383, 1, none⟩) (Kd.V_far (p := ⟨gb383, 0, none⟩) (Kd.V_mono HO370.out (fun k_ hk => (⟨hk, hk.2⟩ : _ ∧ k_ ≠ gb383))) (fun _ hk => hk.2) (.slice Ao22 t374.length co22)) (fun _ hk => hk.2) (.slice Ao26 t377.length co26)) (fun _ hk => hk.2) (.int .i64 t380)) (fun _ hk => hk.2) (.bool t381)) (fun _ hk => ⟨hk.1.1.1, ⟨hk.1.1.2, hk.1.2⟩⟩)⟩, ⟨by (with_reducible repeat (first | apply Kd.V_alloc | apply Kd.V_drewN | apply Kd.V_drew)); exact Kd.V_mono (Kd.V_far (p := ⟨gb383, 3, none⟩) (Kd.V_far (p := ⟨gb383, 2, none⟩) (Kd.V_far (p := ⟨gb383, 1, none⟩) (Kd.V_far (p := ⟨gb383, 0, none⟩) (Kd.V_mono HO376.out (fun k_ hk => (⟨hk, hk.2⟩ : _ ∧ k_ ≠ gb383))) (fun _ hk => hk.2) (.slice Ao22 t374.length co22)) (fun _ hk => hk.2) (.slice Ao26 t377.length co26)) (fun _ hk => hk.2) (.int .i64 t380)) (fun _ hk => hk.2) (.bool t381)) (fun _ hk => ⟨hk.1.1.1, ⟨hk.1.1.2, hk.1.2⟩⟩)⟩, ⟨by (with_reducible repeat (first | apply Kd.V_alloc | apply Kd.V_drewN | apply Kd.V_drew)); exact Kd.V_mono (Kd.V_far (p := ⟨gb383, 3, none⟩) (Kd.V_far (p := ⟨gb383, 2, none⟩) (Kd.V_far (p := ⟨gb383, 1, none⟩) (Kd.V_far (p := ⟨gb383, 0, none⟩) (Kd.V_mono HO379.out (fun k_ hk => (⟨hk, hk.2⟩ : _ ∧ k_ ≠ gb383))) (fun _ hk => hk.2) (.slice Ao22 t374.length co22)) (fun _ hk => hk.2) (.slice Ao26 t377.length co26)) (fun _ hk => hk.2) (.int .i64 t380)) (fun _ hk => hk.2) (.bool t381)) (fun _ hk => ⟨hk.1.1.1, ⟨hk.1.1.2, hk.1.2⟩⟩)⟩, ⟨by (with_reducible repeat (first | refine blk_drewN ?_ _ | refine blk_drew ?_ | refine blk_alloc ?_ _)); refine blk_far ?_ NB362_383.out _; (with_reducible repeat (first | refine blk_drewN ?_ _ | refine blk_drew ?_ | refine blk_alloc ?_ _)); refine blk_far ?_ NB362_383.out _; (with_reducible repeat (first | refine blk_drewN ?_ _ | refine blk_drew ?_ | refine blk_alloc ?_ _)); refine blk_far ?_ NB362_383.out _; (with_reducible repeat (first | refine blk_drewN ?_ _ | refine blk_drew ?_ | refine blk_alloc ?_ _)); refine blk_far ?_ NB362_383.out _; (with_reducible repeat (first | refine blk_drewN ?_ _ | refine blk_drew ?_ | refine blk_alloc ?_ _)); exact BK362.out⟩, ⟨by (with_reducible repeat (first | refine blk_drewN ?_ _ | refine blk_drew ?_ | refine blk_alloc ?_ _)); refine blk_far ?_ NB363_383.out _; (with_reducible repeat (first | refine blk_drewN ?_ _ | refine blk_drew ?_ | refine blk_alloc ?_ _)); refine blk_far ?_ NB363_383.out _; (with_reducible repeat (first | refine blk_drewN ?_ _ | refine blk_drew ?_ | refine blk_alloc ?_ _)); refine blk_far ?_ NB363_383.out _; (with_reducible repeat (first | refine blk_drewN ?_ _ | refine blk_drew ?_ | refine blk_alloc ?_ _)); refine blk_far ?_ NB363_383.out _; (with_reducible repeat (first | refine blk_drewN ?_ _ | refine blk_drew ?_ | refine blk_alloc ?_ _)); exact BK363.out⟩, ⟨by (with_reducible repeat (first | refine blk_drewN ?_ _ | refine blk_drew ?_ | refine blk_alloc ?_ _)); refine blk_put (cs := #[.slice Ao22 t374.length co22, .slice Ao26 t377.length co26, .int .i64 t380, .bool false]) ?_ 3 _ rfl; (with_reducible repeat (first | refine blk_drewN ?_ _ | refine blk_drew ?_ | refine blk_alloc ?_ _)); refine blk_put (cs := #[.slice Ao22 t374.length co22, .slice Ao26 t377.length co26, .int .i64 0, .bool false]) ?_ 2 _ rfl; (with_reducible repeat (first | refine blk_drewN ?_ _ | refine blk_drew ?_ | refine blk_alloc ?_ _)); refine blk_put (cs := #[.slice Ao22 t374.length co22, .slice none 0 0, .int .i64 0, .bool false]) ?_ 1 _ rfl; (with_reducible repeat (first | refine blk_drewN ?_ _ | refine blk_drew ?_ | refine blk_alloc ?_ _)); refine blk_put (cs := #[.slice none 0 0, .slice none 0 0, .int .i64 0, .bool false]) ?_ 0 _ rfl; (with_reducible repeat (first | refine blk_drewN ?_ _ | refine blk_drew ?_ | refine blk_alloc ?_ _)); exact BK383.out⟩, ⟨by repeat (first | (with_reducible first | exact HB.out | apply below_alloc | apply pw_below_drewN | apply below_drew1 | refine below_set ?_ GE362.out | refine below_set ?_ GE363.out | refine below_set ?_ GE383.out) | exact HB.out)⟩⟩
      · rw [if_neg c28] at H
        have c28b0 : (t382 == 0) = false := beq_eq_false_iff_ne.mpr c28
        have c28b1 : (t382 != 0) = true := bne_iff_ne.mpr c28
        have H' := Aside0.mk H
        clear H
        go_wp2
        repeat (go_quiet (fail); try go_wp2)
        go_meet
        case rel => exact ⟨_, (true), (by first | rfl | (simp; done) | (simp [*]; done)), H', ⟨by first | omega | exact Nat.le_refl _⟩, ⟨by (with_reducible repeat (first | apply Kd.V_alloc | apply Kd.V_drewN | apply Kd.V_drew)); exact Kd.V_mono (Kd.V_far (p := ⟨gb383, 3, none⟩) (Kd.V_far (p := ⟨gb383, 2, none⟩) (Kd.V_far (p := ⟨gb383, 1, none⟩) (Kd.V_far (p := ⟨gb383, 0, none⟩) (Kd.V_mono HO367.out (fun k_ hk => (⟨hk, hk.2⟩ : _ ∧ k_ ≠ gb383))) (fun _ hk => hk.2) (.slice Ao22 t374.length co22)) (fun _ hk => hk.2) (.slice Ao26 t377.length co26)) (fun _ hk => hk.2) (.int .i64 t380)) (fun _ hk => hk.2) (.bool t381)) (fun _ hk => ⟨hk.1.1.1, ⟨hk.1.1.2, hk.1.2⟩⟩)⟩, ⟨by (with_reducible repeat (first | apply Kd.V_alloc | apply Kd.V_drewN | apply Kd.V_drew)); exact Kd.V_mono (Kd.V_far (p := ⟨gb383, 3, none⟩) (Kd.V_far (p := ⟨gb383, 2, none⟩) (Kd.V_far (p := ⟨gb383, 1, none⟩) (Kd.V_far (p := ⟨gb383, 0, none⟩) (Kd.V_mono HO370.out (fun k_ hk => (⟨hk, hk.2⟩ : _ ∧ k_ ≠ gb383))) (fun _ hk => hk.2) (.slice Ao22 t374.length co22)) (fun _ hk => hk.2) (.slice Ao26 t377.length co26)) (fun _ hk => hk.2) (.int .i64 t380)) (fun _ hk => hk.2) (.bool t381)) (fun _ hk => ⟨hk.1.1.1, ⟨hk.1.1.2, hk.1.2⟩⟩)⟩, ⟨by (with_reducible repeat (first | apply Kd.V_alloc | apply Kd.V_drewN | apply Kd.V_drew)); exact Kd.V_mono (Kd.V_far (p := ⟨gb383, 3, none⟩) (Kd.V_far (p := ⟨gb383, 2, none⟩) (Kd.V_far (p := ⟨gb383, 1, none⟩) (Kd.V_far (p := ⟨gb383, 0, none⟩) (Kd.V_mono HO376.out (fun k_ hk => (⟨hk, hk.2⟩ : _ ∧ k_ ≠ gb383))) (fun _ hk => hk.2) (.slice Ao22 t374.length co22)) (fun _ hk => hk.2) (.slice Ao26 t377.length co26)) (fun _ hk => hk.2) (.int .i64 t380)) (fun _ hk => hk.2) (.bool t381)) (fun _ hk => ⟨hk.1.1.1, ⟨hk.1.1.2, hk.1.2⟩⟩)⟩, ⟨by (with_reducible repeat (first | apply Kd.V_alloc | apply Kd.V_drewN | apply Kd.V_drew)); exact Kd.V_mono (Kd.V_far (p := ⟨gb383, 3, none⟩) (Kd.V_far (p := ⟨gb383, 2, none⟩) (Kd.V_far (p := ⟨gb383, 1, none⟩) (Kd.V_far (p := ⟨gb383, 0, none⟩) (Kd.V_mono HO379.out (fun k_ hk => (⟨hk, hk.2⟩ : _ ∧ k_ ≠ gb383))) (fun _ hk => hk.2) (.slice Ao22 t374.length co22)) (fun _ hk => hk.2) (.slice Ao26 t377.length co26)) (fun _ hk => hk.2) (.int .i64 t380)) (fun _ hk => hk.2) (.bool t381)) (fun _ hk => ⟨hk.1.1.1, ⟨hk.1.1.2, hk.1.2⟩⟩)⟩, ⟨by (with_reducible repeat (first | refine blk_drewN ?_ _ | refine blk_drew ?_ | refine blk_alloc ?_ _)); refine blk_far ?_ NB362_383.out _; (with_reducible repeat (first | refine blk_drewN ?_ _ | refine blk_drew ?_ | refine blk_alloc ?_ _)); refine blk_far ?_ NB362_383.out _; (with_reducible repeat (first | refine blk_drewN ?_ _ | refine blk_drew ?_ | refine blk_alloc ?_ _)); refine blk_far ?_ NB362_383.out _; (with_reducible repeat (first | refine blk_drewN ?_ _ | refine blk_drew ?_ | refine blk_alloc ?_ _)); refine blk_far ?_ NB362_383.out _; (with_reducible repeat (first | refine blk_drewN ?_ _ | refine blk_drew ?_ | refine blk_alloc ?_ _)); exact BK362.out⟩, ⟨by (with_reducible repeat (first | refine blk_drewN ?_ _ | refine blk_drew ?_ | refine blk_alloc ?_ _)); refine blk_far ?_ NB363_383.out _; (with_reducible repeat (first | refine blk_drewN ?_ _ | refine blk_drew ?_ | refine blk_alloc ?_ _)); refine blk_far ?_ NB363_383.out _; (with_reducible repeat (first | refine blk_drewN ?_ _ | refine blk_drew ?_ | refine blk_alloc ?_ _)); refine blk_far ?_ NB363_383.out _; (with_reducible repeat (first | refine blk_drewN ?_ _ | refine blk_drew ?_ | refine blk_alloc ?_ _)); refine blk_far ?_ NB363_383.out _; (with_reducible repeat (first | refine blk_drewN ?_ _ | refine blk_drew ?_ | refine blk_alloc ?_ _)); exact BK363.out⟩, ⟨by (with_reducible repeat (first | refine blk_drewN ?_ _ | refine blk_drew ?_ | refine blk_alloc ?_ _)); refine blk_put (cs := #[.slice Ao22 t374.length co22, .slice Ao26 t377.length co26, .int .i64 t380, .bool false]) ?_ 3 _ rfl; (with_reducible repeat (first | refine blk_drewN ?_ _ | refine blk_drew ?_ | refine blk_alloc ?_ _)); refine blk_put (cs := #[.slice Ao22 t374.length co22, .slice Ao26 t377.length co26, .int .i64 0, .bool false]) ?_ 2 _ rfl; (with_reducible repeat (first | refine blk_drewN ?_ _ | refine blk_drew ?_ | refine blk_alloc ?_ _)); refine blk_put (cs := #[.slice Ao22 t374.length co22, .slice none 0 0, .int .i64 0, .bool false]) ?_ 1 _ rfl; (with_reducible repeat (first | refine blk_drewN ?_ _ | refine blk_drew ?_ | refine blk_alloc ?_ _)); refine blk_put (cs := #[.slice none 0 0, .slice none 0 0, .int .i64 0, .bool false]) ?_ 0 _ rfl; (with_reducible repeat (first | refine blk_drewN ?_ _ | refine blk_drew ?_ | refine blk_alloc ?_ _)); exact BK383.out⟩, ⟨by repeat (first | (with_reducible first | exact HB.out | apply below_alloc | apply pw_below_drewN | apply below_drew1 | refine below_set ?_ GE362.out | refine below_set ?_ GE363.out | refine below_set ?_ GE383.out) | exact HB.out)⟩⟩
    · rw [if_neg c27] at H
      have c27b0 : (t373 == 0) = false := beq_eq_false_iff_ne.mpr c27
      have c27b1 : (t373 != 0) = true := bne_iff_ne.mpr c27
      (first | rw [c27b0] | (simp only [i64_w, i32_w]; rw [c27b0]) | skip)
      have H' := Aside0.mk H
      clear H
      go_wp2
      repeat (go_quiet (fail); try go_wp2)
      go_meet
      case rel => exact ⟨_, (true), (by first | rfl | (simp; done) | (simp [*]; done)), H', ⟨by first | omega | exact Nat.le_refl _⟩, ⟨by (with_reducible repeat (first | apply Kd.V_alloc | apply Kd.V_drewN | apply Kd.V_drew)); exact Kd.V_mono (Kd.V_far (p := ⟨gb383, 3, none⟩) (Kd.V_far (p := ⟨gb383, 2, none⟩) (Kd.V_far (p := ⟨gb383, 1, none⟩) (Kd.V_far (p := ⟨gb383, 0, none⟩) (Kd.V_mono HO367.out (fun k_ hk => (⟨hk, hk.2⟩ : _ ∧ k_ ≠ gb383))) (fun _ hk => hk.2) (.slice Ao22 t374.length co22)) (fun _ hk => hk.2) (.slice Ao26 t377.length co26)) (fun _ hk => hk.2) (.int .i64 t380)) (fun _ hk => hk.2) (.bool t381)) (fun _ hk => ⟨hk.1.1.1, ⟨hk.1.1.2, hk.1.2⟩⟩)⟩, ⟨by (with_reducible repeat (first | apply Kd.V_alloc | apply Kd.V_drewN | apply Kd.V_drew)); exact Kd.V_mono (Kd.V_far (p := ⟨gb383, 3, none⟩) (Kd.V_far (p := ⟨gb383, 2, none⟩) (Kd.V_far (p := ⟨gb383, 1, none⟩) (Kd.V_far (p := ⟨gb383, 0, none⟩) (Kd.V_mono HO370.out (fun k_ hk => (⟨hk, hk.2⟩ : _ ∧ k_ ≠ gb383))) (fun _ hk => hk.2) (.slice Ao22 t374.length co22)) (fun _ hk => hk.2) (.slice Ao26 t377.length co26)) (fun _ hk => hk.2) (.int .i64 t380)) (fun _ hk => hk.2) (.bool t381)) (fun _ hk => ⟨hk.1.1.1, ⟨hk.1.1.2, hk.1.2⟩⟩)⟩, ⟨by (with_reducible repeat (first | apply Kd.V_alloc | apply Kd.V_drewN | apply Kd.V_drew)); exact Kd.V_mono (Kd.V_far (p := ⟨gb383, 3, none⟩) (Kd.V_far (p := ⟨gb383, 2, none⟩) (Kd.V_far (p := ⟨gb383, 1, none⟩) (Kd.V_far (p := ⟨gb383, 0, none⟩) (Kd.V_mono HO376.out (fun k_ hk => (⟨hk, hk.2⟩ : _ ∧ k_ ≠ gb383))) (fun _ hk => hk.2) (.slice Ao22 t374.length co22)) (fun _ hk => hk.2) (.slice Ao26 t377.length co26)) (fun _ hk => hk.2) (.int .i64 t380)) (fun _ hk => hk.2) (.bool t381)) (fun _ hk => ⟨hk.1.1.1, ⟨hk.1.1.2, hk.1.2⟩⟩)⟩, ⟨by (with_reducible repeat (first | apply Kd.V_alloc | apply Kd.V_drewN | apply Kd.V_drew)); exact Kd.V_mono (Kd.V_far (p := ⟨gb383, 3, none⟩) (Kd.V_far (p := ⟨gb383, 2, none⟩) (Kd.V_far (p := ⟨gb383, 1, none⟩) (Kd.V_far (p := ⟨gb383, 0, none⟩) (Kd.V_mono HO379.out (fun k_ hk => (⟨hk, hk.2⟩ : _ ∧ k_ ≠ gb383))) (fun _ hk => hk.2) (.slice Ao22 t374.length co22)) (fun _ hk => hk.2) (.slice Ao26 t377.length co26)) (fun _ hk => hk.2) (.int .i64 t380)) (fun _ hk => hk.2) (.bool t381)) (fun _ hk => ⟨hk.1.1.1, ⟨hk.1.1.2, hk.1.2⟩⟩)⟩, ⟨by (with_reducible repeat (first | refine blk_drewN ?_ _ | refine blk_drew ?_ | refine blk_alloc ?_ _)); refine blk_far ?_ NB362_383.out _; (with_reducible repeat (first | refine blk_drewN ?_ _ | refine blk_drew ?_ | refine blk_alloc ?_ _)); refine blk_far ?_ NB362_383.out _; (with_reducible repeat (first | refine blk_drewN ?_ _ | refine blk_drew ?_ | refine blk_alloc ?_ _)); refine blk_far ?_ NB362_383.out _; (with_reducible repeat (first | refine blk_drewN ?_ _ | refine blk_drew ?_ | refine blk_alloc ?_ _)); refine blk_far ?_ NB362_383.out _; (with_reducible repeat (first | refine blk_drewN ?_ _ | refine blk_drew ?_ | refine blk_alloc ?_ _)); exact BK362.out⟩, ⟨by (with_reducible repeat (first | refine blk_drewN ?_ _ | refine blk_drew ?_ | refine blk_alloc ?_ _)); refine blk_far ?_ NB363_383.out _; (with_reducible repeat (first | refine blk_drewN ?_ _ | refine blk_drew ?_ | refine blk_alloc ?_ _)); refine blk_far ?_ NB363_383.out _; (with_reducible repeat (first | refine blk_drewN ?_ _ | refine blk_drew ?_ | refine blk_alloc ?_ _)); refine blk_far ?_ NB363_383.out _; (with_reducible repeat (first | refine blk_drewN ?_ _ | refine blk_drew ?_ | refine blk_alloc ?_ _)); refine blk_far ?_ NB363_383.out _; (with_reducible repeat (first | refine blk_drewN ?_ _ | refine blk_drew ?_ | refine blk_alloc ?_ _)); exact BK363.out⟩, ⟨by (with_reducible repeat (first | refine blk_drewN ?_ _ | refine blk_drew ?_ | refine blk_alloc ?_ _)); refine blk_put (cs := #[.slice Ao22 t374.length co22, .slice Ao26 t377.length co26, .int .i64 t380, .bool false]) ?_ 3 _ rfl; (with_reducible repeat (first | refine blk_drewN ?_ _ | refine blk_drew ?_ | refine blk_alloc ?_ _)); refine blk_put (cs := #[.slice Ao22 t374.length co22, .slice Ao26 t377.length co26, .int .i64 0, .bool false]) ?_ 2 _ rfl; (with_reducible repeat (first | refine blk_drewN ?_ _ | refine blk_drew ?_ | refine blk_alloc ?_ _)); refine blk_put (cs := #[.slice Ao22 t374.length co22, .slice none 0 0, .int .i64 0, .bool false]) ?_ 1 _ rfl; (with_reducible repeat (first | refine blk_drewN ?_ _ | refine blk_drew ?_ | refine blk_alloc ?_ _)); refine blk_put (cs := #[.slice none 0 0, .slice none 0 0, .int .i64 0, .bool false]) ?_ 0 _ rfl; (with_reducible repeat (first | refine blk_drewN ?_ _ | refine blk_drew ?_ | refine blk_alloc ?_ _)); exact BK383.out⟩, ⟨by repeat (first | (with_reducible first | exact HB.out | apply below_alloc | apply pw_below_drewN | apply below_drew1 | refine below_set ?_ GE362.out | refine below_set ?_ GE363.out | refine below_set ?_ GE383.out) | exact HB.out)⟩⟩
  case rest =>
    clear HC5
    try clear c2
    try clear p2
    try clear c6
    try clear c9
    try clear c23
    try clear c24
    try clear c27
    try clear c27b0
    try clear c27b1
    try clear c28
    try clear c28b0
    try clear c28b1
    try clear hcz10_0
    try clear hcz10_1
    try clear hcz10_2
    try clear hcz10_3
    try clear hcz11_0
    try clear hcz11_1
    try clear hcz11_2
    try clear hcz11_3
    try clear hcz11_4
    try clear hcz11_5
    try clear hcz11_6
    try clear hcz13_0
    try clear hcz13_1
    try clear hcz13_2
    try clear hcz13_3
    try clear hcz16_0
    try clear hcz16_1
    try clear hcz16_2
    try clear hcz16_3
    try clear hcz19_0
    try clear hcz19_1
    try clear hcz19_2
    try clear hcz19_3
    try clear hcz25_0
    try clear hcz25_1
    try clear hcz25_2
    try clear hcz25_3
    try clear hcz7_0
    try clear hcz7_1
    try clear hcz7_2
    try clear hcz7_3
    try clear hcz7_4
    try clear hcz7_5
    try clear hcz7_6
    try clear hfz10_0
    try clear hfz10_1
    try clear hfz10_2
    try clear hfz10_3
    try clear hfz11_0
    try clear hfz11_1
    try clear hfz11_2
    try clear hfz11_3
    try clear hfz11_4
    try clear hfz11_5
    try clear hfz11_6
    try clear hfz13_0
    try clear hfz13_1
    try clear hfz13_2
    try clear hfz13_3
    try clear hfz16_0
    try clear hfz16_1
    try clear hfz16_2
    try clear hfz16_3
    try clear hfz19_0
    try clear hfz19_1
    try clear hfz19_2
    try clear hfz19_3
    try clear hfz25_0
    try clear hfz25_1
    try clear hfz25_2
    try clear hfz25_3
    try clear hfz7_0
    try clear hfz7_1
    try clear hfz7_2
    try clear hfz7_3
    try clear hfz7_4
    try clear hfz7_5
    try clear hfz7_6
    obtain ⟨kq, x45_4, rfl, HA, HJ4, HO_364000, HO_364001, HO_384000, HO_384001, BK362, BK363, BK383, HB⟩ := hcut
    cases kq with
    | zero => exact absurd HA.out (by simp [hogsheadlaw08_DiskTorn.j0])
    | succ kj4 =>
      have H := HA.out
      clear HA
      simp only [hogsheadlaw08_DiskTorn.j0] at H
      by_cases c29 : x45_4 = true
      · subst c29
        have H1 : (some t364) = some r := by rw [if_pos rfl] at H; exact H
        clear H
        have H := H1
        clear H1
        obtain rfl := Option.some.inj H
        go_wp2
        repeat (go_quiet (fail); try go_wp2)
        go_ret
        exact ⟨by first | rfl | (simp [errW_none, errW_some] <;> rfl) | (simp [*, errW_none, errW_some] <;> rfl), by repeat (first | (with_reducible first | exact HB.out | apply below_alloc | apply pw_below_drewN | apply below_drew1 | refine below_set ?_ GE362.out | refine below_set ?_ GE363.out | refine below_set ?_ GE383.out) | exact HB.out)⟩
      · replace c29 := Bool.eq_false_iff.mpr c29
        subst c29
        have H1 : ((disk_Crash.f kj4 t374 t377 t380 t381 0 a0_6).bind fun bt384 => ((disk_Get.f bt384.1 bt384.2.1 bt384.2.2.1 bt384.2.2.2 a0_4).bind fun bt393 => (if bt393.2 = 0 then (hogsheadlaw08_DiskTorn.j1 kj4 a0_4 a0_5 a0_6 t364 bt393.1 ((bt384.1.length : Int) != (t365.length : Int)) t365 t368 t371 t372 bt384.1 bt384.2.1 bt384.2.2.1 bt384.2.2.2) else (hogsheadlaw08_DiskTorn.j1 kj4 a0_4 a0_5 a0_6 t364 bt393.1 true t365 t368 t371 t372 bt384.1 bt384.2.1 bt384.2.2.1 bt384.2.2.2)))) = some r := by rw [if_neg (show ¬ (false = true) by decide)] at H; exact H
        clear H
        have H := H1
        clear H1
        replace H := Option.bind_eq_some_iff.mp H
        obtain ⟨⟨t384, t387, t390, t391⟩, A300, H⟩ := H
        replace H : ((disk_Get.f t384 t387 t390 t391 a0_4).bind fun bt393 => (if bt393.2 = 0 then (hogsheadlaw08_DiskTorn.j1 kj4 a0_4 a0_5 a0_6 t364 bt393.1 ((t384.length : Int) != (t365.length : Int)) t365 t368 t371 t372 t384 t387 t390 t391) else (hogsheadlaw08_DiskTorn.j1 kj4 a0_4 a0_5 a0_6 t364 bt393.1 true t365 t368 t371 t372 t384 t387 t390 t391))) = some r := H
        have A30 := Aside0.mk A300
        clear A300
        replace H := Option.bind_eq_some_iff.mp H
        obtain ⟨⟨t393, t394⟩, A310, H⟩ := H
        replace H : (if t394 = 0 then (hogsheadlaw08_DiskTorn.j1 kj4 a0_4 a0_5 a0_6 t364 t393 ((t384.length : Int) != (t365.length : Int)) t365 t368 t371 t372 t384 t387 t390 t391) else (hogsheadlaw08_DiskTorn.j1 kj4 a0_4 a0_5 a0_6 t364 t393 true t365 t368 t371 t372 t384 t387 t390 t391)) = some r := H
        have A31 := Aside0.mk A310
        clear A310
        have HC32 := Aside0.mk H
        clear H
        have hnb33 := NB383_362.out
        have hnc33 := NB362_383.out
        have hnb34 := NB383_363.out
        have hnc34 := NB363_383.out
        have hcz35_0 : wc.cell? ⟨gb383, 0, none⟩ = some (.slice Ao22 t374.length co22) := (blk_cell BK383.out 0).trans rfl
        have hcz35_1 : wc.cell? ⟨gb383, 1, none⟩ = some (.slice Ao26 t377.length co26) := (blk_cell BK383.out 1).trans rfl
        have hcz35_2 : wc.cell? ⟨gb383, 2, none⟩ = some (.int .i64 t380) := (blk_cell BK383.out 2).trans rfl
        have hcz35_3 : wc.cell? ⟨gb383, 3, none⟩ = some (.bool t381) := (blk_cell BK383.out 3).trans rfl
        have hfz35_0 := blk_frozen BK383.out 0
        have hfz35_1 := blk_frozen BK383.out 1
        have hfz35_2 := blk_frozen BK383.out 2
        have hfz35_3 := blk_frozen BK383.out 3
        go_upto_region 12 with (first | (go_at_call 20; (with_reducible refine (disk_Crash.calls kj4 _ _ t374 _ _ t377 t380 t381 0 a0_6 t384 t387 t390 t391 _ ?side1 ?side2 ?side3 ?side4 A30.out).mono ?_); (case side1 => repeat (first | exact (Kd.V_reads' HO_384000.out).2.2 | (with_reducible refine Kd.C_alloc ?_ _) | (with_reducible refine Kd.C_drewN ?_ _) | (with_reducible refine Kd.C_drew ?_))); (case side2 => exact (Kd.V_reads' HO_384000.out).2.1); (case side3 => repeat (first | exact (Kd.V_reads' HO_384001.out).2.2 | (with_reducible refine Kd.C_alloc ?_ _) | (with_reducible refine Kd.C_drewN ?_ _) | (with_reducible refine Kd.C_drew ?_))); (case side4 => exact (Kd.V_reads' HO_384001.out).2.1); rintro e w36 ⟨v385, v388, rfl, ho0, ho1, hb⟩; have n0_ := Aside0.mk (Kd.V_mono (Kd.V_told (Kd.V_told (Kd.V_old (by (with_reducible repeat (first | apply Kd.V_alloc | apply Kd.V_drewN | apply Kd.V_drew)); exact HO_364000.out) hb) (Kd.R_base ho0)) (Kd.R_base ho1)) (fun _ h_ => h_.1)); have n1_ := Aside0.mk (Kd.V_mono (Kd.V_told (Kd.V_told (Kd.V_old (by (with_reducible repeat (first | apply Kd.V_alloc | apply Kd.V_drewN | apply Kd.V_drew)); exact HO_364001.out) hb) (Kd.R_base ho0)) (Kd.R_base ho1)) (fun _ h_ => h_.1)); have n2_ := Aside0.mk (Kd.V_mono (Kd.V_told (Kd.V_told (Kd.V_old (by (with_reducible repeat (first | apply Kd.V_alloc | apply Kd.V_drewN | apply Kd.V_drew)); exact HO_384000.out) hb) (Kd.R_base ho0)) (Kd.R_base ho1)) (fun _ h_ => h_.1)); have n3_ := Aside0.mk (Kd.V_mono (Kd.V_told (Kd.V_told (Kd.V_old (by (with_reducible repeat (first | apply Kd.V_alloc | apply Kd.V_drewN | apply Kd.V_drew)); exact HO_384001.out) hb) (Kd.R_base ho0)) (Kd.R_base ho1)) (fun _ h_ => h_.1)); have n4_ := Aside0.mk (Kd.R_lower ho0 (below_size (by repeat (first | (with_reducible first | exact HB.out | apply below_alloc | apply pw_below_drewN | apply below_drew1 | refine below_set ?_ GE362.out | refine below_set ?_ GE363.out | refine below_set ?_ GE383.out) | exact HB.out)))); have n5_ := Aside0.mk (Kd.R_lower ho1 (below_size (by repeat (first | (with_reducible first | exact HB.out | apply below_alloc | apply pw_below_drewN | apply below_drew1 | refine below_set ?_ GE362.out | refine below_set ?_ GE363.out | refine below_set ?_ GE383.out) | exact HB.out)))); have n6_ := Aside0.mk (blk_below (g := gb362) (o := .cells #[.slice A0_0 l0_0.length c0_0, .slice A0_1 l0_1.length c0_1, .int .i64 a0_2, .bool a0_3, .int .i64 a0_4, .string a0_5, .int .i64 a0_6] 54 (0, 0)) (by (with_reducible repeat (first | refine blk_drewN ?_ _ | refine blk_drew ?_ | refine blk_alloc ?_ _)); exact BK362.out) hb); have n7_ := Aside0.mk (blk_below (g := gb363) (o := .cells #[.slice Ao15 t365.length co15, .slice Ao17 t368.length co17, .int .i64 t371, .bool t372] 25 (0, 0)) (by (with_reducible repeat (first | refine blk_drewN ?_ _ | refine blk_drew ?_ | refine blk_alloc ?_ _)); exact BK363.out) hb); have n8_ := Aside0.mk (blk_below (g := gb383) (o := .cells #[.slice Ao22 t374.length co22, .slice Ao26 t377.length co26, .int .i64 t380, .bool t381] 25 (0, 0)) (by (with_reducible repeat (first | refine blk_drewN ?_ _ | refine blk_drew ?_ | refine blk_alloc ?_ _)); exact BK383.out) hb); have n9_ := Aside0.mk (below_step (by repeat (first | (with_reducible first | exact HB.out | apply below_alloc | apply pw_below_drewN | apply below_drew1 | refine below_set ?_ GE362.out | refine below_set ?_ GE363.out | refine below_set ?_ GE383.out) | exact HB.out)) hb); clear HO_364000; clear HO_364001; clear HO_384000; clear HO_384001; clear BK362; clear BK363; clear BK383; clear HB; have HO_364000 := n0_; have HO_364001 := n1_; have HO_384000 := n2_; have HO_384001 := n3_; have HO386 := n4_; have HO389 := n5_; have BK362 := n6_; have BK363 := n7_; have BK383 := n8_; have HB := n9_; clear n0_ n1_ n2_ n3_ n4_ n5_ n6_ n7_ n8_ n9_; (try clear hb); (try clear hb2); (try clear hk); (try clear hi); (try clear ho0); (try clear ho1)) | ((with_reducible refine gate_dst (N := 11) rfl ?_); (try (refine gate_guard (by rfl) ?_; dsimp only)); refine box_event ?hg (N := 11) ?hd (cs := #[.slice none 0 0, .slice none 0 0, .int .i64 0, .bool false]) (t := 25) ?hr ?_; (case hd => rfl); (case hg => rfl); (case hr => first | (go_simp; done) | (go_simp; rfl)); intro gb392 hg w37 hbox hb; have n0_ := Aside0.mk (Kd.V_below (Kd.V_elderB (by (with_reducible repeat (first | apply Kd.V_alloc | apply Kd.V_drewN | apply Kd.V_drew)); exact HO_364000.out) gb392 (Nat.le_of_eq hg.symm)) hb); have n1_ := Aside0.mk (Kd.V_below (Kd.V_elderB (by (with_reducible repeat (first | apply Kd.V_alloc | apply Kd.V_drewN | apply Kd.V_drew)); exact HO_364001.out) gb392 (Nat.le_of_eq hg.symm)) hb); have n2_ := Aside0.mk (Kd.V_below (Kd.V_elderB (by (with_reducible repeat (first | apply Kd.V_alloc | apply Kd.V_drewN | apply Kd.V_drew)); exact HO_384000.out) gb392 (Nat.le_of_eq hg.symm)) hb); have n3_ := Aside0.mk (Kd.V_below (Kd.V_elderB (by (with_reducible repeat (first | apply Kd.V_alloc | apply Kd.V_drewN | apply Kd.V_drew)); exact HO_384001.out) gb392 (Nat.le_of_eq hg.symm)) hb); have n4_ := Aside0.mk (Kd.R_below (by (with_reducible repeat (first | apply Kd.R_alloc | apply Kd.R_drewN | apply Kd.R_drew)); exact HO386.out) hb); have n5_ := Aside0.mk (Kd.R_below (by (with_reducible repeat (first | apply Kd.R_alloc | apply Kd.R_drewN | apply Kd.R_drew)); exact HO389.out) hb); have n6_ := Aside0.mk (blk_below (g := gb362) (o := .cells #[.slice A0_0 l0_0.length c0_0, .slice A0_1 l0_1.length c0_1, .int .i64 a0_2, .bool a0_3, .int .i64 a0_4, .string a0_5, .int .i64 a0_6] 54 (0, 0)) (by (with_reducible repeat (first | refine blk_drewN ?_ _ | refine blk_drew ?_ | refine blk_alloc ?_ _)); exact BK362.out) hb); have n7_ := Aside0.mk (blk_below (g := gb363) (o := .cells #[.slice Ao15 t365.length co15, .slice Ao17 t368.length co17, .int .i64 t371, .bool t372] 25 (0, 0)) (by (with_reducible repeat (first | refine blk_drewN ?_ _ | refine blk_drew ?_ | refine blk_alloc ?_ _)); exact BK363.out) hb); have n8_ := Aside0.mk (blk_below (g := gb383) (o := .cells #[.slice Ao22 t374.length co22, .slice Ao26 t377.length co26, .int .i64 t380, .bool t381] 25 (0, 0)) (by (with_reducible repeat (first | refine blk_drewN ?_ _ | refine blk_drew ?_ | refine blk_alloc ?_ _)); exact BK383.out) hb); have n9_ := Aside0.mk (below_step (by repeat (first | (with_reducible first | exact HB.out | apply below_alloc | apply pw_below_drewN | apply below_drew1 | refine below_set ?_ GE362.out | refine below_set ?_ GE363.out | refine below_set ?_ GE383.out) | exact HB.out)) hb); have n10_ := Aside0.mk (hbox); have n11_ := Aside0.mk ((by rw [hg]; exact (below_size (by repeat (first | (with_reducible first | exact HB.out | apply below_alloc | apply pw_below_drewN | apply below_drew1 | refine below_set ?_ GE362.out | refine below_set ?_ GE363.out | refine below_set ?_ GE383.out) | exact HB.out))) : w.heap.size ≤ gb392)); have n12_ := Aside0.mk ((by rw [hg]; exact (below_size (by repeat (first | (with_reducible first | exact HB.out | apply below_alloc | apply pw_below_drewN | apply below_drew1 | refine below_set ?_ GE362.out | refine below_set ?_ GE363.out | refine below_set ?_ GE383.out) | exact HB.out))) : w.heap.size ≤ gb392)); have n13_ := Aside0.mk ((by rw [hg]; exact Nat.ne_of_lt (blk_lt (g := gb362) (o := .cells #[.slice A0_0 l0_0.length c0_0, .slice A0_1 l0_1.length c0_1, .int .i64 a0_2, .bool a0_3, .int .i64 a0_4, .string a0_5, .int .i64 a0_6] 54 (0, 0)) (by (with_reducible repeat (first | refine blk_drewN ?_ _ | refine blk_drew ?_ | refine blk_alloc ?_ _)); exact BK362.out)) : gb362 ≠ gb392)); have n14_ := Aside0.mk ((by rw [hg]; exact Nat.ne_of_gt (blk_lt (g := gb362) (o := .cells #[.slice A0_0 l0_0.length c0_0, .slice A0_1 l0_1.length c0_1, .int .i64 a0_2, .bool a0_3, .int .i64 a0_4, .string a0_5, .int .i64 a0_6] 54 (0, 0)) (by (with_reducible repeat (first | refine blk_drewN ?_ _ | refine blk_drew ?_ | refine blk_alloc ?_ _)); exact BK362.out)) : gb392 ≠ gb362)); have n15_ := Aside0.mk ((by rw [hg]; exact Nat.ne_of_lt (blk_lt (g := gb363) (o := .cells #[.slice Ao15 t365.length co15, .slice Ao17 t368.length co17, .int .i64 t371, .bool t372] 25 (0, 0)) (by (with_reducible repeat (first | refine blk_drewN ?_ _ | refine blk_drew ?_ | refine blk_alloc ?_ _)); exact BK363.out)) : gb363 ≠ gb392)); have n16_ := Aside0.mk ((by rw [hg]; exact Nat.ne_of_gt (blk_lt (g := gb363) (o := .cells #[.slice Ao15 t365.length co15, .slice Ao17 t368.length co17, .int .i64 t371, .bool t372] 25 (0, 0)) (by (with_reducible repeat (first | refine blk_drewN ?_ _ | refine blk_drew ?_ | refine blk_alloc ?_ _)); exact BK363.out)) : gb392 ≠ gb363)); have n17_ := Aside0.mk ((by rw [hg]; exact Nat.ne_of_lt (blk_lt (g := gb383) (o := .cells #[.slice Ao22 t374.length co22, .slice Ao26 t377.length co26, .int .i64 t380, .bool t381] 25 (0, 0)) (by (with_reducible repeat (first | refine blk_drewN ?_ _ | refine blk_drew ?_ | refine blk_alloc ?_ _)); exact BK383.out)) : gb383 ≠ gb392)); have n18_ := Aside0.mk ((by rw [hg]; exact Nat.ne_of_gt (blk_lt (g := gb383) (o := .cells #[.slice Ao22 t374.length co22, .slice Ao26 t377.length co26, .int .i64 t380, .bool t381] 25 (0, 0)) (by (with_reducible repeat (first | refine blk_drewN ?_ _ | refine blk_drew ?_ | refine blk_alloc ?_ _)); exact BK383.out)) : gb392 ≠ gb383)); clear HO_364000; clear HO_364001; clear HO_384000; clear HO_384001; clear HO386; clear HO389; clear BK362; clear BK363; clear BK383; clear HB; have HO_364000 := n0_; have HO_364001 := n1_; have HO_384000 := n2_; have HO_384001 := n3_; have HO386 := n4_; have HO389 := n5_; have BK362 := n6_; have BK363 := n7_; have BK383 := n8_; have HB := n9_; have BK392 := n10_; have GW392 := n11_; have GE392 := n12_; have NB362_392 := n13_; have NB392_362 := n14_; have NB363_392 := n15_; have NB392_363 := n16_; have NB383_392 := n17_; have NB392_383 := n18_; clear n0_ n1_ n2_ n3_ n4_ n5_ n6_ n7_ n8_ n9_ n10_ n11_ n12_ n13_ n14_ n15_ n16_ n17_ n18_; clear hb hbox hg; obtain ⟨Ao38, co38, eo38⟩ := Kd.R_slice HO386.out; subst eo38; have hnb39 := NB392_362.out; have hnc39 := NB362_392.out; have hnb40 := NB392_363.out; have hnc40 := NB363_392.out; have hnb41 := NB392_383.out; have hnc41 := NB383_392.out; have hcz42_0 : w37.cell? ⟨gb392, 0, none⟩ = some (.slice none 0 0) := (blk_cell BK392.out 0).trans rfl; have hcz42_1 : w37.cell? ⟨gb392, 1, none⟩ = some (.slice none 0 0) := (blk_cell BK392.out 1).trans rfl; have hcz42_2 : w37.cell? ⟨gb392, 2, none⟩ = some (.int .i64 0) := (blk_cell BK392.out 2).trans rfl; have hcz42_3 : w37.cell? ⟨gb392, 3, none⟩ = some (.bool false) := (blk_cell BK392.out 3).trans rfl; have hfz42_0 := blk_frozen BK392.out 0; have hfz42_1 := blk_frozen BK392.out 1; have hfz42_2 := blk_frozen BK392.out 2; have hfz42_3 := blk_frozen BK392.out 3; obtain ⟨Ao43, co43, eo43⟩ := Kd.R_slice HO389.out; subst eo43) | (go_at_call 13; (with_reducible refine (disk_Get.calls _ _ t384 _ _ t387 t390 t391 a0_4 t393 t394 _ ?side1 ?side2 ?side3 ?side4 A31.out).mono ?_); (case side1 => refine (Kd.R_reads' (e := 9) (base := w.heap.size) (ok := fun k_ => True) (n := t384.length) (c := co38) ?_).2.2; exact (by (with_reducible repeat (first | apply Kd.R_alloc | apply Kd.R_drewN | apply Kd.R_drew)); exact (Kd.R_mono (Kd.R_far (p := ⟨gb392, 3, none⟩) (Kd.R_far (p := ⟨gb392, 2, none⟩) (Kd.R_far (p := ⟨gb392, 1, none⟩) (Kd.R_far (p := ⟨gb392, 0, none⟩) (Kd.R_types HO386.out BK392.out (by decide)) (fun _ hk => hk.2) (.slice Ao38 t384.length co38)) (fun _ hk => hk.2) (.slice Ao43 t387.length co43)) (fun _ hk => hk.2) (.int .i64 t390)) (fun _ hk => hk.2) (.bool t391)) (fun _ h_ => h_.1)))); (case side2 => exact (Kd.R_reads' HO386.out).2.1); (case side3 => refine (Kd.R_reads' (e := 47) (base := w.heap.size) (ok := fun k_ => True) (n := t387.length) (c := co43) ?_).2.2; exact (by (with_reducible repeat (first | apply Kd.R_alloc | apply Kd.R_drewN | apply Kd.R_drew)); exact (Kd.R_mono (Kd.R_far (p := ⟨gb392, 3, none⟩) (Kd.R_far (p := ⟨gb392, 2, none⟩) (Kd.R_far (p := ⟨gb392, 1, none⟩) (Kd.R_far (p := ⟨gb392, 0, none⟩) (Kd.R_types HO389.out BK392.out (by decide)) (fun _ hk => hk.2) (.slice Ao38 t384.length co38)) (fun _ hk => hk.2) (.slice Ao43 t387.length co43)) (fun _ hk => hk.2) (.int .i64 t390)) (fun _ hk => hk.2) (.bool t391)) (fun _ h_ => h_.1)))); (case side4 => exact (Kd.R_reads' HO389.out).2.1); rintro e w44 ⟨rfl, hb⟩; have n0_ := Aside0.mk (Kd.V_below (by (with_reducible repeat (first | apply Kd.V_alloc | apply Kd.V_drewN | apply Kd.V_drew)); exact (Kd.V_mono (Kd.V_far (p := ⟨gb392, 3, none⟩) (Kd.V_far (p := ⟨gb392, 2, none⟩) (Kd.V_far (p := ⟨gb392, 1, none⟩) (Kd.V_far (p := ⟨gb392, 0, none⟩) (Kd.V_mono HO_364000.out (fun k_ hk => (⟨hk, hk.2⟩ : _ ∧ k_ ≠ gb392))) (fun _ hk => hk.2) (.slice Ao38 t384.length co38)) (fun _ hk => hk.2) (.slice Ao43 t387.length co43)) (fun _ hk => hk.2) (.int .i64 t390)) (fun _ hk => hk.2) (.bool t391)) (fun _ h_ => h_.1))) hb); have n1_ := Aside0.mk (Kd.V_below (by (with_reducible repeat (first | apply Kd.V_alloc | apply Kd.V_drewN | apply Kd.V_drew)); exact (Kd.V_mono (Kd.V_far (p := ⟨gb392, 3, none⟩) (Kd.V_far (p := ⟨gb392, 2, none⟩) (Kd.V_far (p := ⟨gb392, 1, none⟩) (Kd.V_far (p := ⟨gb392, 0, none⟩) (Kd.V_mono HO_364001.out (fun k_ hk => (⟨hk, hk.2⟩ : _ ∧ k_ ≠ gb392))) (fun _ hk => hk.2) (.slice Ao38 t384.length co38)) (fun _ hk => hk.2) (.slice Ao43 t387.length co43)) (fun _ hk => hk.2) (.int .i64 t390)) (fun _ hk => hk.2) (.bool t391)) (fun _ h_ => h_.1))) hb); have n2_ := Aside0.mk (Kd.V_below (by (with_reducible repeat (first | apply Kd.V_alloc | apply Kd.V_drewN | apply Kd.V_drew)); exact (Kd.V_mono (Kd.V_far (p := ⟨gb392, 3, none⟩) (Kd.V_far (p := ⟨gb392, 2, none⟩) (Kd.V_far (p := ⟨gb392, 1, none⟩) (Kd.V_far (p := ⟨gb392, 0, none⟩) (Kd.V_mono HO_384000.out (fun k_ hk => (⟨hk, hk.2⟩ : _ ∧ k_ ≠ gb392))) (fun _ hk => hk.2) (.slice Ao38 t384.length co38)) (fun _ hk => hk.2) (.slice Ao43 t387.length co43)) (fun _ hk => hk.2) (.int .i64 t390)) (fun _ hk => hk.2) (.bool t391)) (fun _ h_ => h_.1))) hb); have n3_ := Aside0.mk (Kd.V_below (by (with_reducible repeat (first | apply Kd.V_alloc | apply Kd.V_drewN | apply Kd.V_drew)); exact (Kd.V_mono (Kd.V_far (p := ⟨gb392, 3, none⟩) (Kd.V_far (p := ⟨gb392, 2, none⟩) (Kd.V_far (p := ⟨gb392, 1, none⟩) (Kd.V_far (p := ⟨gb392, 0, none⟩) (Kd.V_mono HO_384001.out (fun k_ hk => (⟨hk, hk.2⟩ : _ ∧ k_ ≠ gb392))) (fun _ hk => hk.2) (.slice Ao38 t384.length co38)) (fun _ hk => hk.2) (.slice Ao43 t387.length co43)) (fun _ hk => hk.2) (.int .i64 t390)) (fun _ hk => hk.2) (.bool t391)) (fun _ h_ => h_.1))) hb); have n4_ := Aside0.mk (Kd.R_below (by (with_reducible repeat (first | apply Kd.R_alloc | apply Kd.R_drewN | apply Kd.R_drew)); exact (Kd.R_mono (Kd.R_far (p := ⟨gb392, 3, none⟩) (Kd.R_far (p := ⟨gb392, 2, none⟩) (Kd.R_far (p := ⟨gb392, 1, none⟩) (Kd.R_far (p := ⟨gb392, 0, none⟩) (Kd.R_types HO386.out BK392.out (by decide)) (fun _ hk => hk.2) (.slice Ao38 t384.length co38)) (fun _ hk => hk.2) (.slice Ao43 t387.length co43)) (fun _ hk => hk.2) (.int .i64 t390)) (fun _ hk => hk.2) (.bool t391)) (fun _ h_ => h_.1))) hb); have n5_ := Aside0.mk (Kd.R_below (by (with_reducible repeat (first | apply Kd.R_alloc | apply Kd.R_drewN | apply Kd.R_drew)); exact (Kd.R_mono (Kd.R_far (p := ⟨gb392, 3, none⟩) (Kd.R_far (p := ⟨gb392, 2, none⟩) (Kd.R_far (p := ⟨gb392, 1, none⟩) (Kd.R_far (p := ⟨gb392, 0, none⟩) (Kd.R_types HO389.out BK392.out (by decide)) (fun _ hk => hk.2) (.slice Ao38 t384.length co38)) (fun _ hk => hk.2) (.slice Ao43 t387.length co43)) (fun _ hk => hk.2) (.int .i64 t390)) (fun _ hk => hk.2) (.bool t391)) (fun _ h_ => h_.1))) hb); have n6_ := Aside0.mk (blk_below (g := gb362) (o := .cells #[.slice A0_0 l0_0.length c0_0, .slice A0_1 l0_1.length c0_1, .int .i64 a0_2, .bool a0_3, .int .i64 a0_4, .string a0_5, .int .i64 a0_6] 54 (0, 0)) (by (with_reducible repeat (first | refine blk_drewN ?_ _ | refine blk_drew ?_ | refine blk_alloc ?_ _)); refine blk_far ?_ NB362_392.out _; (with_reducible repeat (first | refine blk_drewN ?_ _ | refine blk_drew ?_ | refine blk_alloc ?_ _)); refine blk_far ?_ NB362_392.out _; (with_reducible repeat (first | refine blk_drewN ?_ _ | refine blk_drew ?_ | refine blk_alloc ?_ _)); refine blk_far ?_ NB362_392.out _; (with_reducible repeat (first | refine blk_drewN ?_ _ | refine blk_drew ?_ | refine blk_alloc ?_ _)); refine blk_far ?_ NB362_392.out _; (with_reducible repeat (first | refine blk_drewN ?_ _ | refine blk_drew ?_ | refine blk_alloc ?_ _)); exact BK362.out) hb); have n7_ := Aside0.mk (blk_below (g := gb363) (o := .cells #[.slice Ao15 t365.length co15, .slice Ao17 t368.length co17, .int .i64 t371, .bool t372] 25 (0, 0)) (by (with_reducible repeat (first | refine blk_drewN ?_ _ | refine blk_drew ?_ | refine blk_alloc ?_ _)); refine blk_far ?_ NB363_392.out _; (with_reducible repeat (first | refine blk_drewN ?_ _ | refine blk_drew ?_ | refine blk_alloc ?_ _)); refine blk_far ?_ NB363_392.out _; (with_reducible repeat (first | refine blk_drewN ?_ _ | refine blk_drew ?_ | refine blk_alloc ?_ _)); refine blk_far ?_ NB363_392.out _; (with_reducible repeat (first | refine blk_drewN ?_ _ | refine blk_drew ?_ | refine blk_alloc ?_ _)); refine blk_far ?_ NB363_392.out _; (with_reducible repeat (first | refine blk_drewN ?_ _ | refine blk_drew ?_ | refine blk_alloc ?_ _)); exact BK363.out) hb); have n8_ := Aside0.mk (blk_below (g := gb383) (o := .cells #[.slice Ao22 t374.length co22, .slice Ao26 t377.length co26, .int .i64 t380, .bool t381] 25 (0, 0)) (by (with_reducible repeat (first | refine blk_drewN ?_ _ | refine blk_drew ?_ | refine blk_alloc ?_ _)); refine blk_far ?_ NB383_392.out _; (with_reducible repeat (first | refine blk_drewN ?_ _ | refine blk_drew ?_ | refine blk_alloc ?_ _)); refine blk_far ?_ NB383_392.out _; (with_reducible repeat (first | refine blk_drewN ?_ _ | refine blk_drew ?_ | refine blk_alloc ?_ _)); refine blk_far ?_ NB383_392.out _; (with_reducible repeat (first | refine blk_drewN ?_ _ | refine blk_drew ?_ | refine blk_alloc ?_ _)); refine blk_far ?_ NB383_392.out _; (with_reducible repeat (first | refine blk_drewN ?_ _ | refine blk_drew ?_ | refine blk_alloc ?_ _)); exact BK383.out) hb); have n9_ := Aside0.mk (blk_below (g := gb392) (o := .cells #[.slice Ao38 t384.length co38, .slice Ao43 t387.length co43, .int .i64 t390, .bool t391] 25 (0, 0)) (by (with_reducible repeat (first | refine blk_drewN ?_ _ | refine blk_drew ?_ | refine blk_alloc ?_ _)); refine blk_put (cs := #[.slice Ao38 t384.length co38, .slice Ao43 t387.length co43, .int .i64 t390, .bool false]) ?_ 3 _ rfl; (with_reducible repeat (first | refine blk_drewN ?_ _ | refine blk_drew ?_ | refine blk_alloc ?_ _)); refine blk_put (cs := #[.slice Ao38 t384.length co38, .slice Ao43 t387.length co43, .int .i64 0, .bool false]) ?_ 2 _ rfl; (with_reducible repeat (first | refine blk_drewN ?_ _ | refine blk_drew ?_ | refine blk_alloc ?_ _)); refine blk_put (cs := #[.slice Ao38 t384.length co38, .slice none 0 0, .int .i64 0, .bool false]) ?_ 1 _ rfl; (with_reducible repeat (first | refine blk_drewN ?_ _ | refine blk_drew ?_ | refine blk_alloc ?_ _)); refine blk_put (cs := #[.slice none 0 0, .slice none 0 0, .int .i64 0, .bool false]) ?_ 0 _ rfl; (with_reducible repeat (first | refine blk_drewN ?_ _ | refine blk_drew ?_ | refine blk_alloc ?_ _)); exact BK392.out) hb); have n10_ := Aside0.mk (below_step (by repeat (first | (with_reducible first | exact HB.out | apply below_alloc | apply pw_below_drewN | apply below_drew1 | refine below_set ?_ GE362.out | refine below_set ?_ GE363.out | refine below_set ?_ GE383.out | refine below_set ?_ GE392.out) | exact HB.out)) hb); clear HO_364000; clear HO_364001; clear HO_384000; clear HO_384001; clear HO386; clear HO389; clear BK362; clear BK363; clear BK383; clear BK392; clear HB; have HO_364000 := n0_; have HO_364001 := n1_; have HO_384000 := n2_; have HO_384001 := n3_; have HO386 := n4_; have HO389 := n5_; have BK362 := n6_; have BK363 := n7_; have BK383 := n8_; have BK392 := n9_; have HB := n10_; clear n0_ n1_ n2_ n3_ n4_ n5_ n6_ n7_ n8_ n9_ n10_; (try clear hb); (try clear hb2); (try clear hk); (try clear hi)))
        repeat (go_quiet (first | (go_at_call 20; (with_reducible refine (disk_Crash.calls kj4 _ _ t374 _ _ t377 t380 t381 0 a0_6 t384 t387 t390 t391 _ ?side1 ?side2 ?side3 ?side4 A30.out).mono ?_); (case side1 => repeat (first | exact (Kd.V_reads' HO_384000.out).2.2 | (with_reducible refine Kd.C_alloc ?_ _) | (with_reducible refine Kd.C_drewN ?_ _) | (with_reducible refine Kd.C_drew ?_))); (case side2 => exact (Kd.V_reads' HO_384000.out).2.1); (case side3 => repeat (first | exact (Kd.V_reads' HO_384001.out).2.2 | (with_reducible refine Kd.C_alloc ?_ _) | (with_reducible refine Kd.C_drewN ?_ _) | (with_reducible refine Kd.C_drew ?_))); (case side4 => exact (Kd.V_reads' HO_384001.out).2.1); rintro e w36 ⟨v385, v388, rfl, ho0, ho1, hb⟩; have n0_ := Aside0.mk (Kd.V_mono (Kd.V_told (Kd.V_told (Kd.V_old (by (with_reducible repeat (first | apply Kd.V_alloc | apply Kd.V_drewN | apply Kd.V_drew)); exact HO_364000.out) hb) (Kd.R_base ho0)) (Kd.R_base ho1)) (fun _ h_ => h_.1)); have n1_ := Aside0.mk (Kd.V_mono (Kd.V_told (Kd.V_told (Kd.V_old (by (with_reducible repeat (first | apply Kd.V_alloc | apply Kd.V_drewN | apply Kd.V_drew)); exact HO_364001.out) hb) (Kd.R_base ho0)) (Kd.R_base ho1)) (fun _ h_ => h_.1)); have n2_ := Aside0.mk (Kd.V_mono (Kd.V_told (Kd.V_told (Kd.V_old (by (with_reducible repeat (first | apply Kd.V_alloc | apply Kd.V_drewN | apply Kd.V_drew)); exact HO_384000.out) hb) (Kd.R_base ho0)) (Kd.R_base ho1)) (fun _ h_ => h_.1)); have n3_ := Aside0.mk (Kd.V_mono (Kd.V_told (Kd.V_told (Kd.V_old (by (with_reducible repeat (first | apply Kd.V_alloc | apply Kd.V_drewN | apply Kd.V_drew)); exact HO_384001.out) hb) (Kd.R_base ho0)) (Kd.R_base ho1)) (fun _ h_ => h_.1)); have n4_ := Aside0.mk (Kd.R_lower ho0 (below_size (by repeat (first | (with_reducible first | exact HB.out | apply below_alloc | apply pw_below_drewN | apply below_drew1 | refine below_set ?_ GE362.out | refine below_set ?_ GE363.out | refine below_set ?_ GE383.out) | exact HB.out)))); have n5_ := Aside0.mk (Kd.R_lower ho1 (below_size (by repeat (first | (with_reducible first | exact HB.out | apply below_alloc | apply pw_below_drewN | apply below_drew1 | refine below_set ?_ GE362.out | refine below_set ?_ GE363.out | refine below_set ?_ GE383.out) | exact HB.out)))); have n6_ := Aside0.mk (blk_below (g := gb362) (o := .cells #[.slice A0_0 l0_0.length c0_0, .slice A0_1 l0_1.length c0_1, .int .i64 a0_2, .bool a0_3, .int .i64 a0_4, .string a0_5, .int .i64 a0_6] 54 (0, 0)) (by (with_reducible repeat (first | refine blk_drewN ?_ _ | refine blk_drew ?_ | refine blk_alloc ?_ _)); exact BK362.out) hb); have n7_ := Aside0.mk (blk_below (g := gb363) (o := .cells #[.slice Ao15 t365.length co15, .slice Ao17 t368.length co17, .int .i64 t371, .bool t372] 25 (0, 0)) (by (with_reducible repeat (first | refine blk_drewN ?_ _ | refine blk_drew ?_ | refine blk_alloc ?_ _)); exact BK363.out) hb); have n8_ := Aside0.mk (blk_below (g := gb383) (o := .cells #[.slice Ao22 t374.length co22, .slice Ao26 t377.length co26, .int .i64 t380, .bool t381] 25 (0, 0)) (by (with_reducible repeat (first | refine blk_drewN ?_ _ | refine blk_drew ?_ | refine blk_alloc ?_ _)); exact BK383.out) hb); have n9_ := Aside0.mk (below_step (by repeat (first | (with_reducible first | exact HB.out | apply below_alloc | apply pw_below_drewN | apply below_drew1 | refine below_set ?_ GE362.out | refine below_set ?_ GE363.out | refine below_set ?_ GE383.out) | exact HB.out)) hb); clear HO_364000; clear HO_364001; clear HO_384000; clear HO_384001; clear BK362; clear BK363; clear BK383; clear HB; have HO_364000 := n0_; have HO_364001 := n1_; have HO_384000 := n2_; have HO_384001 := n3_; have HO386 := n4_; have HO389 := n5_; have BK362 := n6_; have BK363 := n7_; have BK383 := n8_; have HB := n9_; clear n0_ n1_ n2_ n3_ n4_ n5_ n6_ n7_ n8_ n9_; (try clear hb); (try clear hb2); (try clear hk); (try clear hi); (try clear ho0); (try clear ho1)) | ((with_reducible refine gate_dst (N := 11) rfl ?_); (try (refine gate_guard (by rfl) ?_; dsimp only)); refine box_event ?hg (N := 11) ?hd (cs := #[.slice none 0 0, .slice none 0 0, .int .i64 0, .bool false]) (t := 25) ?hr ?_; (case hd => rfl); (case hg => rfl); (case hr => first | (go_simp; done) | (go_simp; rfl)); intro gb392 hg w37 hbox hb; have n0_ := Aside0.mk (Kd.V_below (Kd.V_elderB (by (with_reducible repeat (first | apply Kd.V_alloc | apply Kd.V_drewN | apply Kd.V_drew)); exact HO_364000.out) gb392 (Nat.le_of_eq hg.symm)) hb); have n1_ := Aside0.mk (Kd.V_below (Kd.V_elderB (by (with_reducible repeat (first | apply Kd.V_alloc | apply Kd.V_drewN | apply Kd.V_drew)); exact HO_364001.out) gb392 (Nat.le_of_eq hg.symm)) hb); have n2_ := Aside0.mk (Kd.V_below (Kd.V_elderB (by (with_reducible repeat (first | apply Kd.V_alloc | apply Kd.V_drewN | apply Kd.V_drew)); exact HO_384000.out) gb392 (Nat.le_of_eq hg.symm)) hb); have n3_ := Aside0.mk (Kd.V_below (Kd.V_elderB (by (with_reducible repeat (first | apply Kd.V_alloc | apply Kd.V_drewN | apply Kd.V_drew)); exact HO_384001.out) gb392 (Nat.le_of_eq hg.symm)) hb); have n4_ := Aside0.mk (Kd.R_below (by (with_reducible repeat (first | apply Kd.R_alloc | apply Kd.R_drewN | apply Kd.R_drew)); exact HO386.out) hb); have n5_ := Aside0.mk (Kd.R_below (by (with_reducible repeat (first | apply Kd.R_alloc | apply Kd.R_drewN | apply Kd.R_drew)); exact HO389.out) hb); have n6_ := Aside0.mk (blk_below (g := gb362) (o := .cells #[.slice A0_0 l0_0.length c0_0, .slice A0_1 l0_1.length c0_1, .int .i64 a0_2, .bool a0_3, .int .i64 a0_4, .string a0_5, .int .i64 a0_6] 54 (0, 0)) (by (with_reducible repeat (first | refine blk_drewN ?_ _ | refine blk_drew ?_ | refine blk_alloc ?_ _)); exact BK362.out) hb); have n7_ := Aside0.mk (blk_below (g := gb363) (o := .cells #[.slice Ao15 t365.length co15, .slice Ao17 t368.length co17, .int .i64 t371, .bool t372] 25 (0, 0)) (by (with_reducible repeat (first | refine blk_drewN ?_ _ | refine blk_drew ?_ | refine blk_alloc ?_ _)); exact BK363.out) hb); have n8_ := Aside0.mk (blk_below (g := gb383) (o := .cells #[.slice Ao22 t374.length co22, .slice Ao26 t377.length co26, .int .i64 t380, .bool t381] 25 (0, 0)) (by (with_reducible repeat (first | refine blk_drewN ?_ _ | refine blk_drew ?_ | refine blk_alloc ?_ _)); exact BK383.out) hb); have n9_ := Aside0.mk (below_step (by repeat (first | (with_reducible first | exact HB.out | apply below_alloc | apply pw_below_drewN | apply below_drew1 | refine below_set ?_ GE362.out | refine below_set ?_ GE363.out | refine below_set ?_ GE383.out) | exact HB.out)) hb); have n10_ := Aside0.mk (hbox); have n11_ := Aside0.mk ((by rw [hg]; exact (below_size (by repeat (first | (with_reducible first | exact HB.out | apply below_alloc | apply pw_below_drewN | apply below_drew1 | refine below_set ?_ GE362.out | refine below_set ?_ GE363.out | refine below_set ?_ GE383.out) | exact HB.out))) : w.heap.size ≤ gb392)); have n12_ := Aside0.mk ((by rw [hg]; exact (below_size (by repeat (first | (with_reducible first | exact HB.out | apply below_alloc | apply pw_below_drewN | apply below_drew1 | refine below_set ?_ GE362.out | refine below_set ?_ GE363.out | refine below_set ?_ GE383.out) | exact HB.out))) : w.heap.size ≤ gb392)); have n13_ := Aside0.mk ((by rw [hg]; exact Nat.ne_of_lt (blk_lt (g := gb362) (o := .cells #[.slice A0_0 l0_0.length c0_0, .slice A0_1 l0_1.length c0_1, .int .i64 a0_2, .bool a0_3, .int .i64 a0_4, .string a0_5, .int .i64 a0_6] 54 (0, 0)) (by (with_reducible repeat (first | refine blk_drewN ?_ _ | refine blk_drew ?_ | refine blk_alloc ?_ _)); exact BK362.out)) : gb362 ≠ gb392)); have n14_ := Aside0.mk ((by rw [hg]; exact Nat.ne_of_gt (blk_lt (g := gb362) (o := .cells #[.slice A0_0 l0_0.length c0_0, .slice A0_1 l0_1.length c0_1, .int .i64 a0_2, .bool a0_3, .int .i64 a0_4, .string a0_5, .int .i64 a0_6] 54 (0, 0)) (by (with_reducible repeat (first | refine blk_drewN ?_ _ | refine blk_drew ?_ | refine blk_alloc ?_ _)); exact BK362.out)) : gb392 ≠ gb362)); have n15_ := Aside0.mk ((by rw [hg]; exact Nat.ne_of_lt (blk_lt (g := gb363) (o := .cells #[.slice Ao15 t365.length co15, .slice Ao17 t368.length co17, .int .i64 t371, .bool t372] 25 (0, 0)) (by (with_reducible repeat (first | refine blk_drewN ?_ _ | refine blk_drew ?_ | refine blk_alloc ?_ _)); exact BK363.out)) : gb363 ≠ gb392)); have n16_ := Aside0.mk ((by rw [hg]; exact Nat.ne_of_gt (blk_lt (g := gb363) (o := .cells #[.slice Ao15 t365.length co15, .slice Ao17 t368.length co17, .int .i64 t371, .bool t372] 25 (0, 0)) (by (with_reducible repeat (first | refine blk_drewN ?_ _ | refine blk_drew ?_ | refine blk_alloc ?_ _)); exact BK363.out)) : gb392 ≠ gb363)); have n17_ := Aside0.mk ((by rw [hg]; exact Nat.ne_of_lt (blk_lt (g := gb383) (o := .cells #[.slice Ao22 t374.length co22, .slice Ao26 t377.length co26, .int .i64 t380, .bool t381] 25 (0, 0)) (by (with_reducible repeat (first | refine blk_drewN ?_ _ | refine blk_drew ?_ | refine blk_alloc ?_ _)); exact BK383.out)) : gb383 ≠ gb392)); have n18_ := Aside0.mk ((by rw [hg]; exact Nat.ne_of_gt (blk_lt (g := gb383) (o := .cells #[.slice Ao22 t374.length co22, .slice Ao26 t377.length co26, .int .i64 t380, .bool t381] 25 (0, 0)) (by (with_reducible repeat (first | refine blk_drewN ?_ _ | refine blk_drew ?_ | refine blk_alloc ?_ _)); exact BK383.out)) : gb392 ≠ gb383)); clear HO_364000; clear HO_364001; clear HO_384000; clear HO_384001; clear HO386; clear HO389; clear BK362; clear BK363; clear BK383; clear HB; have HO_364000 := n0_; have HO_364001 := n1_; have HO_384000 := n2_; have HO_384001 := n3_; have HO386 := n4_; have HO389 := n5_; have BK362 := n6_; have BK363 := n7_; have BK383 := n8_; have HB := n9_; have BK392 := n10_; have GW392 := n11_; have GE392 := n12_; have NB362_392 := n13_; have NB392_362 := n14_; have NB363_392 := n15_; have NB392_363 := n16_; have NB383_392 := n17_; have NB392_383 := n18_; clear n0_ n1_ n2_ n3_ n4_ n5_ n6_ n7_ n8_ n9_ n10_ n11_ n12_ n13_ n14_ n15_ n16_ n17_ n18_; clear hb hbox hg; obtain ⟨Ao38, co38, eo38⟩ := Kd.R_slice HO386.out; subst eo38; have hnb39 := NB392_362.out; have hnc39 := NB362_392.out; have hnb40 := NB392_363.out; have hnc40 := NB363_392.out; have hnb41 := NB392_383.out; have hnc41 := NB383_392.out; have hcz42_0 : w37.cell? ⟨gb392, 0, none⟩ = some (.slice none 0 0) := (blk_cell BK392.out 0).trans rfl; have hcz42_1 : w37.cell? ⟨gb392, 1, none⟩ = some (.slice none 0 0) := (blk_cell BK392.out 1).trans rfl; have hcz42_2 : w37.cell? ⟨gb392, 2, none⟩ = some (.int .i64 0) := (blk_cell BK392.out 2).trans rfl; have hcz42_3 : w37.cell? ⟨gb392, 3, none⟩ = some (.bool false) := (blk_cell BK392.out 3).trans rfl; have hfz42_0 := blk_frozen BK392.out 0; have hfz42_1 := blk_frozen BK392.out 1; have hfz42_2 := blk_frozen BK392.out 2; have hfz42_3 := blk_frozen BK392.out 3; obtain ⟨Ao43, co43, eo43⟩ := Kd.R_slice HO389.out; subst eo43) | (go_at_call 13; (with_reducible refine (disk_Get.calls _ _ t384 _ _ t387 t390 t391 a0_4 t393 t394 _ ?side1 ?side2 ?side3 ?side4 A31.out).mono ?_); (case side1 => refine (Kd.R_reads' (e := 9) (base := w.heap.size) (ok := fun k_ => True) (n := t384.length) (c := co38) ?_).2.2; exact (by (with_reducible repeat (first | apply Kd.R_alloc | apply Kd.R_drewN | apply Kd.R_drew)); exact (Kd.R_mono (Kd.R_far (p := ⟨gb392, 3, none⟩) (Kd.R_far (p := ⟨gb392, 2, none⟩) (Kd.R_far (p := ⟨gb392, 1, none⟩) (Kd.R_far (p := ⟨gb392, 0, none⟩) (Kd.R_types HO386.out BK392.out (by decide)) (fun _ hk => hk.2) (.slice Ao38 t384.length co38)) (fun _ hk => hk.2) (.slice Ao43 t387.length co43)) (fun _ hk => hk.2) (.int .i64 t390)) (fun _ hk => hk.2) (.bool t391)) (fun _ h_ => h_.1)))); (case side2 => exact (Kd.R_reads' HO386.out).2.1); (case side3 => refine (Kd.R_reads' (e := 47) (base := w.heap.size) (ok := fun k_ => True) (n := t387.length) (c := co43) ?_).2.2; exact (by (with_reducible repeat (first | apply Kd.R_alloc | apply Kd.R_drewN | apply Kd.R_drew)); exact (Kd.R_mono (Kd.R_far (p := ⟨gb392, 3, none⟩) (Kd.R_far (p := ⟨gb392, 2, none⟩) (Kd.R_far (p := ⟨gb392, 1, none⟩) (Kd.R_far (p := ⟨gb392, 0, none⟩) (Kd.R_types HO389.out BK392.out (by decide)) (fun _ hk => hk.2) (.slice Ao38 t384.length co38)) (fun _ hk => hk.2) (.slice Ao43 t387.length co43)) (fun _ hk => hk.2) (.int .i64 t390)) (fun _ hk => hk.2) (.bool t391)) (fun _ h_ => h_.1)))); (case side4 => exact (Kd.R_reads' HO389.out).2.1); rintro e w44 ⟨rfl, hb⟩; have n0_ := Aside0.mk (Kd.V_below (by (with_reducible repeat (first | apply Kd.V_alloc | apply Kd.V_drewN | apply Kd.V_drew)); exact (Kd.V_mono (Kd.V_far (p := ⟨gb392, 3, none⟩) (Kd.V_far (p := ⟨gb392, 2, none⟩) (Kd.V_far (p := ⟨gb392, 1, none⟩) (Kd.V_far (p := ⟨gb392, 0, none⟩) (Kd.V_mono HO_364000.out (fun k_ hk => (⟨hk, hk.2⟩ : _ ∧ k_ ≠ gb392))) (fun _ hk => hk.2) (.slice Ao38 t384.length co38)) (fun _ hk => hk.2) (.slice Ao43 t387.length co43)) (fun _ hk => hk.2) (.int .i64 t390)) (fun _ hk => hk.2) (.bool t391)) (fun _ h_ => h_.1))) hb); have n1_ := Aside0.mk (Kd.V_below (by (with_reducible repeat (first | apply Kd.V_alloc | apply Kd.V_drewN | apply Kd.V_drew)); exact (Kd.V_mono (Kd.V_far (p := ⟨gb392, 3, none⟩) (Kd.V_far (p := ⟨gb392, 2, none⟩) (Kd.V_far (p := ⟨gb392, 1, none⟩) (Kd.V_far (p := ⟨gb392, 0, none⟩) (Kd.V_mono HO_364001.out (fun k_ hk => (⟨hk, hk.2⟩ : _ ∧ k_ ≠ gb392))) (fun _ hk => hk.2) (.slice Ao38 t384.length co38)) (fun _ hk => hk.2) (.slice Ao43 t387.length co43)) (fun _ hk => hk.2) (.int .i64 t390)) (fun _ hk => hk.2) (.bool t391)) (fun _ h_ => h_.1))) hb); have n2_ := Aside0.mk (Kd.V_below (by (with_reducible repeat (first | apply Kd.V_alloc | apply Kd.V_drewN | apply Kd.V_drew)); exact (Kd.V_mono (Kd.V_far (p := ⟨gb392, 3, none⟩) (Kd.V_far (p := ⟨gb392, 2, none⟩) (Kd.V_far (p := ⟨gb392, 1, none⟩) (Kd.V_far (p := ⟨gb392, 0, none⟩) (Kd.V_mono HO_384000.out (fun k_ hk => (⟨hk, hk.2⟩ : _ ∧ k_ ≠ gb392))) (fun _ hk => hk.2) (.slice Ao38 t384.length co38)) (fun _ hk => hk.2) (.slice Ao43 t387.length co43)) (fun _ hk => hk.2) (.int .i64 t390)) (fun _ hk => hk.2) (.bool t391)) (fun _ h_ => h_.1))) hb); have n3_ := Aside0.mk (Kd.V_below (by (with_reducible repeat (first | apply Kd.V_alloc | apply Kd.V_drewN | apply Kd.V_drew)); exact (Kd.V_mono (Kd.V_far (p := ⟨gb392, 3, none⟩) (Kd.V_far (p := ⟨gb392, 2, none⟩) (Kd.V_far (p := ⟨gb392, 1, none⟩) (Kd.V_far (p := ⟨gb392, 0, none⟩) (Kd.V_mono HO_384001.out (fun k_ hk => (⟨hk, hk.2⟩ : _ ∧ k_ ≠ gb392))) (fun _ hk => hk.2) (.slice Ao38 t384.length co38)) (fun _ hk => hk.2) (.slice Ao43 t387.length co43)) (fun _ hk => hk.2) (.int .i64 t390)) (fun _ hk => hk.2) (.bool t391)) (fun _ h_ => h_.1))) hb); have n4_ := Aside0.mk (Kd.R_below (by (with_reducible repeat (first | apply Kd.R_alloc | apply Kd.R_drewN | apply Kd.R_drew)); exact (Kd.R_mono (Kd.R_far (p := ⟨gb392, 3, none⟩) (Kd.R_far (p := ⟨gb392, 2, none⟩) (Kd.R_far (p := ⟨gb392, 1, none⟩) (Kd.R_far (p := ⟨gb392, 0, none⟩) (Kd.R_types HO386.out BK392.out (by decide)) (fun _ hk => hk.2) (.slice Ao38 t384.length co38)) (fun _ hk => hk.2) (.slice Ao43 t387.length co43)) (fun _ hk => hk.2) (.int .i64 t390)) (fun _ hk => hk.2) (.bool t391)) (fun _ h_ => h_.1))) hb); have n5_ := Aside0.mk (Kd.R_below (by (with_reducible repeat (first | apply Kd.R_alloc | apply Kd.R_drewN | apply Kd.R_drew)); exact (Kd.R_mono (Kd.R_far (p := ⟨gb392, 3, none⟩) (Kd.R_far (p := ⟨gb392, 2, none⟩) (Kd.R_far (p := ⟨gb392, 1, none⟩) (Kd.R_far (p := ⟨gb392, 0, none⟩) (Kd.R_types HO389.out BK392.out (by decide)) (fun _ hk => hk.2) (.slice Ao38 t384.length co38)) (fun _ hk => hk.2) (.slice Ao43 t387.length co43)) (fun _ hk => hk.2) (.int .i64 t390)) (fun _ hk => hk.2) (.bool t391)) (fun _ h_ => h_.1))) hb); have n6_ := Aside0.mk (blk_below (g := gb362) (o := .cells #[.slice A0_0 l0_0.length c0_0, .slice A0_1 l0_1.length c0_1, .int .i64 a0_2, .bool a0_3, .int .i64 a0_4, .string a0_5, .int .i64 a0_6] 54 (0, 0)) (by (with_reducible repeat (first | refine blk_drewN ?_ _ | refine blk_drew ?_ | refine blk_alloc ?_ _)); refine blk_far ?_ NB362_392.out _; (with_reducible repeat (first | refine blk_drewN ?_ _ | refine blk_drew ?_ | refine blk_alloc ?_ _)); refine blk_far ?_ NB362_392.out _; (with_reducible repeat (first | refine blk_drewN ?_ _ | refine blk_drew ?_ | refine blk_alloc ?_ _)); refine blk_far ?_ NB362_392.out _; (with_reducible repeat (first | refine blk_drewN ?_ _ | refine blk_drew ?_ | refine blk_alloc ?_ _)); refine blk_far ?_ NB362_392.out _; (with_reducible repeat (first | refine blk_drewN ?_ _ | refine blk_drew ?_ | refine blk_alloc ?_ _)); exact BK362.out) hb); have n7_ := Aside0.mk (blk_below (g := gb363) (o := .cells #[.slice Ao15 t365.length co15, .slice Ao17 t368.length co17, .int .i64 t371, .bool t372] 25 (0, 0)) (by (with_reducible repeat (first | refine blk_drewN ?_ _ | refine blk_drew ?_ | refine blk_alloc ?_ _)); refine blk_far ?_ NB363_392.out _; (with_reducible repeat (first | refine blk_drewN ?_ _ | refine blk_drew ?_ | refine blk_alloc ?_ _)); refine blk_far ?_ NB363_392.out _; (with_reducible repeat (first | refine blk_drewN ?_ _ | refine blk_drew ?_ | refine blk_alloc ?_ _)); refine blk_far ?_ NB363_392.out _; (with_reducible repeat (first | refine blk_drewN ?_ _ | refine blk_drew ?_ | refine blk_alloc ?_ _)); refine blk_far ?_ NB363_392.out _; (with_reducible repeat (first | refine blk_drewN ?_ _ | refine blk_drew ?_ | refine blk_alloc ?_ _)); exact BK363.out) hb); have n8_ := Aside0.mk (blk_below (g := gb383) (o := .cells #[.slice Ao22 t374.length co22, .slice Ao26 t377.length co26, .int .i64 t380, .bool t381] 25 (0, 0)) (by (with_reducible repeat (first | refine blk_drewN ?_ _ | refine blk_drew ?_ | refine blk_alloc ?_ _)); refine blk_far ?_ NB383_392.out _; (with_reducible repeat (first | refine blk_drewN ?_ _ | refine blk_drew ?_ | refine blk_alloc ?_ _)); refine blk_far ?_ NB383_392.out _; (with_reducible repeat (first | refine blk_drewN ?_ _ | refine blk_drew ?_ | refine blk_alloc ?_ _)); refine blk_far ?_ NB383_392.out _; (with_reducible repeat (first | refine blk_drewN ?_ _ | refine blk_drew ?_ | refine blk_alloc ?_ _)); refine blk_far ?_ NB383_392.out _; (with_reducible repeat (first | refine blk_drewN ?_ _ | refine blk_drew ?_ | refine blk_alloc ?_ _)); exact BK383.out) hb); have n9_ := Aside0.mk (blk_below (g := gb392) (o := .cells #[.slice Ao38 t384.length co38, .slice Ao43 t387.length co43, .int .i64 t390, .bool t391] 25 (0, 0)) (by (with_reducible repeat (first | refine blk_drewN ?_ _ | refine blk_drew ?_ | refine blk_alloc ?_ _)); refine blk_put (cs := #[.slice Ao38 t384.length co38, .slice Ao43 t387.length co43, .int .i64 t390, .bool false]) ?_ 3 _ rfl; (with_reducible repeat (first | refine blk_drewN ?_ _ | refine blk_drew ?_ | refine blk_alloc ?_ _)); refine blk_put (cs := #[.slice Ao38 t384.length co38, .slice Ao43 t387.length co43, .int .i64 0, .bool false]) ?_ 2 _ rfl; (with_reducible repeat (first | refine blk_drewN ?_ _ | refine blk_drew ?_ | refine blk_alloc ?_ _)); refine blk_put (cs := #[.slice Ao38 t384.length co38, .slice none 0 0, .int .i64 0, .bool false]) ?_ 1 _ rfl; (with_reducible repeat (first | refine blk_drewN ?_ _ | refine blk_drew ?_ | refine blk_alloc ?_ _)); refine blk_put (cs := #[.slice none 0 0, .slice none 0 0, .int .i64 0, .bool false]) ?_ 0 _ rfl; (with_reducible repeat (first | refine blk_drewN ?_ _ | refine blk_drew ?_ | refine blk_alloc ?_ _)); exact BK392.out) hb); have n10_ := Aside0.mk (below_step (by repeat (first | (with_reducible first | exact HB.out | apply below_alloc | apply pw_below_drewN | apply below_drew1 | refine below_set ?_ GE362.out | refine below_set ?_ GE363.out | refine below_set ?_ GE383.out | refine below_set ?_ GE392.out) | exact HB.out)) hb); clear HO_364000; clear HO_364001; clear HO_384000; clear HO_384001; clear HO386; clear HO389; clear BK362; clear BK363; clear BK383; clear BK392; clear HB; have HO_364000 := n0_; have HO_364001 := n1_; have HO_384000 := n2_; have HO_384001 := n3_; have HO386 := n4_; have HO389 := n5_; have BK362 := n6_; have BK363 := n7_; have BK383 := n8_; have BK392 := n9_; have HB := n10_; clear n0_ n1_ n2_ n3_ n4_ n5_ n6_ n7_ n8_ n9_ n10_; (try clear hb); (try clear hb2); (try clear hk); (try clear hi))); go_upto_region 12 with (first | (go_at_call 20; (with_reducible refine (disk_Crash.calls kj4 _ _ t374 _ _ t377 t380 t381 0 a0_6 t384 t387 t390 t391 _ ?side1 ?side2 ?side3 ?side4 A30.out).mono ?_); (case side1 => repeat (first | exact (Kd.V_reads' HO_384000.out).2.2 | (with_reducible refine Kd.C_alloc ?_ _) | (with_reducible refine Kd.C_drewN ?_ _) | (with_reducible refine Kd.C_drew ?_))); (case side2 => exact (Kd.V_reads' HO_384000.out).2.1); (case side3 => repeat (first | exact (Kd.V_reads' HO_384001.out).2.2 | (with_reducible refine Kd.C_alloc ?_ _) | (with_reducible refine Kd.C_drewN ?_ _) | (with_reducible refine Kd.C_drew ?_))); (case side4 => exact (Kd.V_reads' HO_384001.out).2.1); rintro e w36 ⟨v385, v388, rfl, ho0, ho1, hb⟩; have n0_ := Aside0.mk (Kd.V_mono (Kd.V_told (Kd.V_told (Kd.V_old (by (with_reducible repeat (first | apply Kd.V_alloc | apply Kd.V_drewN | apply Kd.V_drew)); exact HO_364000.out) hb) (Kd.R_base ho0)) (Kd.R_base ho1)) (fun _ h_ => h_.1)); have n1_ := Aside0.mk (Kd.V_mono (Kd.V_told (Kd.V_told (Kd.V_old (by (with_reducible repeat (first | apply Kd.V_alloc | apply Kd.V_drewN | apply Kd.V_drew)); exact HO_364001.out) hb) (Kd.R_base ho0)) (Kd.R_base ho1)) (fun _ h_ => h_.1)); have n2_ := Aside0.mk (Kd.V_mono (Kd.V_told (Kd.V_told (Kd.V_old (by (with_reducible repeat (first | apply Kd.V_alloc | apply Kd.V_drewN | apply Kd.V_drew)); exact HO_384000.out) hb) (Kd.R_base ho0)) (Kd.R_base ho1)) (fun _ h_ => h_.1)); have n3_ := Aside0.mk (Kd.V_mono (Kd.V_told (Kd.V_told (Kd.V_old (by (with_reducible repeat (first | apply Kd.V_alloc | apply Kd.V_drewN | apply Kd.V_drew)); exact HO_384001.out) hb) (Kd.R_base ho0)) (Kd.R_base ho1)) (fun _ h_ => h_.1)); have n4_ := Aside0.mk (Kd.R_lower ho0 (below_size (by repeat (first | (with_reducible first | exact HB.out | apply below_alloc | apply pw_below_drewN | apply below_drew1 | refine below_set ?_ GE362.out | refine below_set ?_ GE363.out | refine below_set ?_ GE383.out) | exact HB.out)))); have n5_ := Aside0.mk (Kd.R_lower ho1 (below_size (by repeat (first | (with_reducible first | exact HB.out | apply below_alloc | apply pw_below_drewN | apply below_drew1 | refine below_set ?_ GE362.out | refine below_set ?_ GE363.out | refine below_set ?_ GE383.out) | exact HB.out)))); have n6_ := Aside0.mk (blk_below (g := gb362) (o := .cells #[.slice A0_0 l0_0.length c0_0, .slice A0_1 l0_1.length c0_1, .int .i64 a0_2, .bool a0_3, .int .i64 a0_4, .string a0_5, .int .i64 a0_6] 54 (0, 0)) (by (with_reducible repeat (first | refine blk_drewN ?_ _ | refine blk_drew ?_ | refine blk_alloc ?_ _)); exact BK362.out) hb); have n7_ := Aside0.mk (blk_below (g := gb363) (o := .cells #[.slice Ao15 t365.length co15, .slice Ao17 t368.length co17, .int .i64 t371, .bool t372] 25 (0, 0)) (by (with_reducible repeat (first | refine blk_drewN ?_ _ | refine blk_drew ?_ | refine blk_alloc ?_ _)); exact BK363.out) hb); have n8_ := Aside0.mk (blk_below (g := gb383) (o := .cells #[.slice Ao22 t374.length co22, .slice Ao26 t377.length co26, .int .i64 t380, .bool t381] 25 (0, 0)) (by (with_reducible repeat (first | refine blk_drewN ?_ _ | refine blk_drew ?_ | refine blk_alloc ?_ _)); exact BK383.out) hb); have n9_ := Aside0.mk (below_step (by repeat (first | (with_reducible first | exact HB.out | apply below_alloc | apply pw_below_drewN | apply below_drew1 | refine below_set ?_ GE362.out | refine below_set ?_ GE363.out | refine below_set ?_ GE383.out) | exact HB.out)) hb); clear HO_364000; clear HO_364001; clear HO_384000; clear HO_384001; clear BK362; clear BK363; clear BK383; clear HB; have HO_364000 := n0_; have HO_364001 := n1_; have HO_384000 := n2_; have HO_384001 := n3_; have HO386 := n4_; have HO389 := n5_; have BK362 := n6_; have BK363 := n7_; have BK383 := n8_; have HB := n9_; clear n0_ n1_ n2_ n3_ n4_ n5_ n6_ n7_ n8_ n9_; (try clear hb); (try clear hb2); (try clear hk); (try clear hi); (try clear ho0); (try clear ho1)) | ((with_reducible refine gate_dst (N := 11) rfl ?_); (try (refine gate_guard (by rfl) ?_; dsimp only)); refine box_event ?hg (N := 11) ?hd (cs := #[.slice none 0 0, .slice none 0 0, .int .i64 0, .bool false]) (t := 25) ?hr ?_; (case hd => rfl); (case hg => rfl); (case hr => first | (go_simp; done) | (go_simp; rfl)); intro gb392 hg w37 hbox hb; have n0_ := Aside0.mk (Kd.V_below (Kd.V_elderB (by (with_reducible repeat (first | apply Kd.V_alloc | apply Kd.V_drewN | apply Kd.V_drew)); exact HO_364000.out) gb392 (Nat.le_of_eq hg.symm)) hb); have n1_ := Aside0.mk (Kd.V_below (Kd.V_elderB (by (with_reducible repeat (first | apply Kd.V_alloc | apply Kd.V_drewN | apply Kd.V_drew)); exact HO_364001.out) gb392 (Nat.le_of_eq hg.symm)) hb); have n2_ := Aside0.mk (Kd.V_below (Kd.V_elderB (by (with_reducible repeat (first | apply Kd.V_alloc | apply Kd.V_drewN | apply Kd.V_drew)); exact HO_384000.out) gb392 (Nat.le_of_eq hg.symm)) hb); have n3_ := Aside0.mk (Kd.V_below (Kd.V_elderB (by (with_reducible repeat (first | apply Kd.V_alloc | apply Kd.V_drewN | apply Kd.V_drew)); exact HO_384001.out) gb392 (Nat.le_of_eq hg.symm)) hb); have n4_ := Aside0.mk (Kd.R_below (by (with_reducible repeat (first | apply Kd.R_alloc | apply Kd.R_drewN | apply Kd.R_drew)); exact HO386.out) hb); have n5_ := Aside0.mk (Kd.R_below (by (with_reducible repeat (first | apply Kd.R_alloc | apply Kd.R_drewN | apply Kd.R_drew)); exact HO389.out) hb); have n6_ := Aside0.mk (blk_below (g := gb362) (o := .cells #[.slice A0_0 l0_0.length c0_0, .slice A0_1 l0_1.length c0_1, .int .i64 a0_2, .bool a0_3, .int .i64 a0_4, .string a0_5, .int .i64 a0_6] 54 (0, 0)) (by (with_reducible repeat (first | refine blk_drewN ?_ _ | refine blk_drew ?_ | refine blk_alloc ?_ _)); exact BK362.out) hb); have n7_ := Aside0.mk (blk_below (g := gb363) (o := .cells #[.slice Ao15 t365.length co15, .slice Ao17 t368.length co17, .int .i64 t371, .bool t372] 25 (0, 0)) (by (with_reducible repeat (first | refine blk_drewN ?_ _ | refine blk_drew ?_ | refine blk_alloc ?_ _)); exact BK363.out) hb); have n8_ := Aside0.mk (blk_below (g := gb383) (o := .cells #[.slice Ao22 t374.length co22, .slice Ao26 t377.length co26, .int .i64 t380, .bool t381] 25 (0, 0)) (by (with_reducible repeat (first | refine blk_drewN ?_ _ | refine blk_drew ?_ | refine blk_alloc ?_ _)); exact BK383.out) hb); have n9_ := Aside0.mk (below_step (by repeat (first | (with_reducible first | exact HB.out | apply below_alloc | apply pw_below_drewN | apply below_drew1 | refine below_set ?_ GE362.out | refine below_set ?_ GE363.out | refine below_set ?_ GE383.out) | exact HB.out)) hb); have n10_ := Aside0.mk (hbox); have n11_ := Aside0.mk ((by rw [hg]; exact (below_size (by repeat (first | (with_reducible first | exact HB.out | apply below_alloc | apply pw_below_drewN | apply below_drew1 | refine below_set ?_ GE362.out | refine below_set ?_ GE363.out | refine below_set ?_ GE383.out) | exact HB.out))) : w.heap.size ≤ gb392)); have n12_ := Aside0.mk ((by rw [hg]; exact (below_size (by repeat (first | (with_reducible first | exact HB.out | apply below_alloc | apply pw_below_drewN | apply below_drew1 | refine below_set ?_ GE362.out | refine below_set ?_ GE363.out | refine below_set ?_ GE383.out) | exact HB.out))) : w.heap.size ≤ gb392)); have n13_ := Aside0.mk ((by rw [hg]; exact Nat.ne_of_lt (blk_lt (g := gb362) (o := .cells #[.slice A0_0 l0_0.length c0_0, .slice A0_1 l0_1.length c0_1, .int .i64 a0_2, .bool a0_3, .int .i64 a0_4, .string a0_5, .int .i64 a0_6] 54 (0, 0)) (by (with_reducible repeat (first | refine blk_drewN ?_ _ | refine blk_drew ?_ | refine blk_alloc ?_ _)); exact BK362.out)) : gb362 ≠ gb392)); have n14_ := Aside0.mk ((by rw [hg]; exact Nat.ne_of_gt (blk_lt (g := gb362) (o := .cells #[.slice A0_0 l0_0.length c0_0, .slice A0_1 l0_1.length c0_1, .int .i64 a0_2, .bool a0_3, .int .i64 a0_4, .string a0_5, .int .i64 a0_6] 54 (0, 0)) (by (with_reducible repeat (first | refine blk_drewN ?_ _ | refine blk_drew ?_ | refine blk_alloc ?_ _)); exact BK362.out)) : gb392 ≠ gb362)); have n15_ := Aside0.mk ((by rw [hg]; exact Nat.ne_of_lt (blk_lt (g := gb363) (o := .cells #[.slice Ao15 t365.length co15, .slice Ao17 t368.length co17, .int .i64 t371, .bool t372] 25 (0, 0)) (by (with_reducible repeat (first | refine blk_drewN ?_ _ | refine blk_drew ?_ | refine blk_alloc ?_ _)); exact BK363.out)) : gb363 ≠ gb392)); have n16_ := Aside0.mk ((by rw [hg]; exact Nat.ne_of_gt (blk_lt (g := gb363) (o := .cells #[.slice Ao15 t365.length co15, .slice Ao17 t368.length co17, .int .i64 t371, .bool t372] 25 (0, 0)) (by (with_reducible repeat (first | refine blk_drewN ?_ _ | refine blk_drew ?_ | refine blk_alloc ?_ _)); exact BK363.out)) : gb392 ≠ gb363)); have n17_ := Aside0.mk ((by rw [hg]; exact Nat.ne_of_lt (blk_lt (g := gb383) (o := .cells #[.slice Ao22 t374.length co22, .slice Ao26 t377.length co26, .int .i64 t380, .bool t381] 25 (0, 0)) (by (with_reducible repeat (first | refine blk_drewN ?_ _ | refine blk_drew ?_ | refine blk_alloc ?_ _)); exact BK383.out)) : gb383 ≠ gb392)); have n18_ := Aside0.mk ((by rw [hg]; exact Nat.ne_of_gt (blk_lt (g := gb383) (o := .cells #[.slice Ao22 t374.length co22, .slice Ao26 t377.length co26, .int .i64 t380, .bool t381] 25 (0, 0)) (by (with_reducible repeat (first | refine blk_drewN ?_ _ | refine blk_drew ?_ | refine blk_alloc ?_ _)); exact BK383.out)) : gb392 ≠ gb383)); clear HO_364000; clear HO_364001; clear HO_384000; clear HO_384001; clear HO386; clear HO389; clear BK362; clear BK363; clear BK383; clear HB; have HO_364000 := n0_; have HO_364001 := n1_; have HO_384000 := n2_; have HO_384001 := n3_; have HO386 := n4_; have HO389 := n5_; have BK362 := n6_; have BK363 := n7_; have BK383 := n8_; have HB := n9_; have BK392 := n10_; have GW392 := n11_; have GE392 := n12_; have NB362_392 := n13_; have NB392_362 := n14_; have NB363_392 := n15_; have NB392_363 := n16_; have NB383_392 := n17_; have NB392_383 := n18_; clear n0_ n1_ n2_ n3_ n4_ n5_ n6_ n7_ n8_ n9_ n10_ n11_ n12_ n13_ n14_ n15_ n16_ n17_ n18_; clear hb hbox hg; obtain ⟨Ao38, co38, eo38⟩ := Kd.R_slice HO386.out; subst eo38; have hnb39 := NB392_362.out; have hnc39 := NB362_392.out; have hnb40 := NB392_363.out; have hnc40 := NB363_392.out; have hnb41 := NB392_383.out; have hnc41 := NB383_392.out; have hcz42_0 : w37.cell? ⟨gb392, 0, none⟩ = some (.slice none 0 0) := (blk_cell BK392.out 0).trans rfl; have hcz42_1 : w37.cell? ⟨gb392, 1, none⟩ = some (.slice none 0 0) := (blk_cell BK392.out 1).trans rfl; have hcz42_2 : w37.cell? ⟨gb392, 2, none⟩ = some (.int .i64 0) := (blk_cell BK392.out 2).trans rfl; have hcz42_3 : w37.cell? ⟨gb392, 3, none⟩ = some (.bool false) := (blk_cell BK392.out 3).trans rfl; have hfz42_0 := blk_frozen BK392.out 0; have hfz42_1 := blk_frozen BK392.out 1; have hfz42_2 := blk_frozen BK392.out 2; have hfz42_3 := blk_frozen BK392.out 3; obtain ⟨Ao43, co43, eo43⟩ := Kd.R_slice HO389.out; subst eo43) | (go_at_call 13; (with_reducible refine (disk_Get.calls _ _ t384 _ _ t387 t390 t391 a0_4 t393 t394 _ ?side1 ?side2 ?side3 ?side4 A31.out).mono ?_); (case side1 => refine (Kd.R_reads' (e := 9) (base := w.heap.size) (ok := fun k_ => True) (n := t384.length) (c := co38) ?_).2.2; exact (by (with_reducible repeat (first | apply Kd.R_alloc | apply Kd.R_drewN | apply Kd.R_drew)); exact (Kd.R_mono (Kd.R_far (p := ⟨gb392, 3, none⟩) (Kd.R_far (p := ⟨gb392, 2, none⟩) (Kd.R_far (p := ⟨gb392, 1, none⟩) (Kd.R_far (p := ⟨gb392, 0, none⟩) (Kd.R_types HO386.out BK392.out (by decide)) (fun _ hk => hk.2) (.slice Ao38 t384.length co38)) (fun _ hk => hk.2) (.slice Ao43 t387.length co43)) (fun _ hk => hk.2) (.int .i64 t390)) (fun _ hk => hk.2) (.bool t391)) (fun _ h_ => h_.1)))); (case side2 => exact (Kd.R_reads' HO386.out).2.1); (case side3 => refine (Kd.R_reads' (e := 47) (base := w.heap.size) (ok := fun k_ => True) (n := t387.length) (c := co43) ?_).2.2; exact (by (with_reducible repeat (first | apply Kd.R_alloc | apply Kd.R_drewN | apply Kd.R_drew)); exact (Kd.R_mono (Kd.R_far (p := ⟨gb392, 3, none⟩) (Kd.R_far (p := ⟨gb392, 2, none⟩) (Kd.R_far (p := ⟨gb392, 1, none⟩) (Kd.R_far (p := ⟨gb392, 0, none⟩) (Kd.R_types HO389.out BK392.out (by decide)) (fun _ hk => hk.2) (.slice Ao38 t384.length co38)) (fun _ hk => hk.2) (.slice Ao43 t387.length co43)) (fun _ hk => hk.2) (.int .i64 t390)) (fun _ hk => hk.2) (.bool t391)) (fun _ h_ => h_.1)))); (case side4 => exact (Kd.R_reads' HO389.out).2.1); rintro e w44 ⟨rfl, hb⟩; have n0_ := Aside0.mk (Kd.V_below (by (with_reducible repeat (first | apply Kd.V_alloc | apply Kd.V_drewN | apply Kd.V_drew)); exact (Kd.V_mono (Kd.V_far (p := ⟨gb392, 3, none⟩) (Kd.V_far (p := ⟨gb392, 2, none⟩) (Kd.V_far (p := ⟨gb392, 1, none⟩) (Kd.V_far (p := ⟨gb392, 0, none⟩) (Kd.V_mono HO_364000.out (fun k_ hk => (⟨hk, hk.2⟩ : _ ∧ k_ ≠ gb392))) (fun _ hk => hk.2) (.slice Ao38 t384.length co38)) (fun _ hk => hk.2) (.slice Ao43 t387.length co43)) (fun _ hk => hk.2) (.int .i64 t390)) (fun _ hk => hk.2) (.bool t391)) (fun _ h_ => h_.1))) hb); have n1_ := Aside0.mk (Kd.V_below (by (with_reducible repeat (first | apply Kd.V_alloc | apply Kd.V_drewN | apply Kd.V_drew)); exact (Kd.V_mono (Kd.V_far (p := ⟨gb392, 3, none⟩) (Kd.V_far (p := ⟨gb392, 2, none⟩) (Kd.V_far (p := ⟨gb392, 1, none⟩) (Kd.V_far (p := ⟨gb392, 0, none⟩) (Kd.V_mono HO_364001.out (fun k_ hk => (⟨hk, hk.2⟩ : _ ∧ k_ ≠ gb392))) (fun _ hk => hk.2) (.slice Ao38 t384.length co38)) (fun _ hk => hk.2) (.slice Ao43 t387.length co43)) (fun _ hk => hk.2) (.int .i64 t390)) (fun _ hk => hk.2) (.bool t391)) (fun _ h_ => h_.1))) hb); have n2_ := Aside0.mk (Kd.V_below (by (with_reducible repeat (first | apply Kd.V_alloc | apply Kd.V_drewN | apply Kd.V_drew)); exact (Kd.V_mono (Kd.V_far (p := ⟨gb392, 3, none⟩) (Kd.V_far (p := ⟨gb392, 2, none⟩) (Kd.V_far (p := ⟨gb392, 1, none⟩) (Kd.V_far (p := ⟨gb392, 0, none⟩) (Kd.V_mono HO_384000.out (fun k_ hk => (⟨hk, hk.2⟩ : _ ∧ k_ ≠ gb392))) (fun _ hk => hk.2) (.slice Ao38 t384.length co38)) (fun _ hk => hk.2) (.slice Ao43 t387.length co43)) (fun _ hk => hk.2) (.int .i64 t390)) (fun _ hk => hk.2) (.bool t391)) (fun _ h_ => h_.1))) hb); have n3_ := Aside0.mk (Kd.V_below (by (with_reducible repeat (first | apply Kd.V_alloc | apply Kd.V_drewN | apply Kd.V_drew)); exact (Kd.V_mono (Kd.V_far (p := ⟨gb392, 3, none⟩) (Kd.V_far (p := ⟨gb392, 2, none⟩) (Kd.V_far (p := ⟨gb392, 1, none⟩) (Kd.V_far (p := ⟨gb392, 0, none⟩) (Kd.V_mono HO_384001.out (fun k_ hk => (⟨hk, hk.2⟩ : _ ∧ k_ ≠ gb392))) (fun _ hk => hk.2) (.slice Ao38 t384.length co38)) (fun _ hk => hk.2) (.slice Ao43 t387.length co43)) (fun _ hk => hk.2) (.int .i64 t390)) (fun _ hk => hk.2) (.bool t391)) (fun _ h_ => h_.1))) hb); have n4_ := Aside0.mk (Kd.R_below (by (with_reducible repeat (first | apply Kd.R_alloc | apply Kd.R_drewN | apply Kd.R_drew)); exact (Kd.R_mono (Kd.R_far (p := ⟨gb392, 3, none⟩) (Kd.R_far (p := ⟨gb392, 2, none⟩) (Kd.R_far (p := ⟨gb392, 1, none⟩) (Kd.R_far (p := ⟨gb392, 0, none⟩) (Kd.R_types HO386.out BK392.out (by decide)) (fun _ hk => hk.2) (.slice Ao38 t384.length co38)) (fun _ hk => hk.2) (.slice Ao43 t387.length co43)) (fun _ hk => hk.2) (.int .i64 t390)) (fun _ hk => hk.2) (.bool t391)) (fun _ h_ => h_.1))) hb); have n5_ := Aside0.mk (Kd.R_below (by (with_reducible repeat (first | apply Kd.R_alloc | apply Kd.R_drewN | apply Kd.R_drew)); exact (Kd.R_mono (Kd.R_far (p := ⟨gb392, 3, none⟩) (Kd.R_far (p := ⟨gb392, 2, none⟩) (Kd.R_far (p := ⟨gb392, 1, none⟩) (Kd.R_far (p := ⟨gb392, 0, none⟩) (Kd.R_types HO389.out BK392.out (by decide)) (fun _ hk => hk.2) (.slice Ao38 t384.length co38)) (fun _ hk => hk.2) (.slice Ao43 t387.length co43)) (fun _ hk => hk.2) (.int .i64 t390)) (fun _ hk => hk.2) (.bool t391)) (fun _ h_ => h_.1))) hb); have n6_ := Aside0.mk (blk_below (g := gb362) (o := .cells #[.slice A0_0 l0_0.length c0_0, .slice A0_1 l0_1.length c0_1, .int .i64 a0_2, .bool a0_3, .int .i64 a0_4, .string a0_5, .int .i64 a0_6] 54 (0, 0)) (by (with_reducible repeat (first | refine blk_drewN ?_ _ | refine blk_drew ?_ | refine blk_alloc ?_ _)); refine blk_far ?_ NB362_392.out _; (with_reducible repeat (first | refine blk_drewN ?_ _ | refine blk_drew ?_ | refine blk_alloc ?_ _)); refine blk_far ?_ NB362_392.out _; (with_reducible repeat (first | refine blk_drewN ?_ _ | refine blk_drew ?_ | refine blk_alloc ?_ _)); refine blk_far ?_ NB362_392.out _; (with_reducible repeat (first | refine blk_drewN ?_ _ | refine blk_drew ?_ | refine blk_alloc ?_ _)); refine blk_far ?_ NB362_392.out _; (with_reducible repeat (first | refine blk_drewN ?_ _ | refine blk_drew ?_ | refine blk_alloc ?_ _)); exact BK362.out) hb); have n7_ := Aside0.mk (blk_below (g := gb363) (o := .cells #[.slice Ao15 t365.length co15, .slice Ao17 t368.length co17, .int .i64 t371, .bool t372] 25 (0, 0)) (by (with_reducible repeat (first | refine blk_drewN ?_ _ | refine blk_drew ?_ | refine blk_alloc ?_ _)); refine blk_far ?_ NB363_392.out _; (with_reducible repeat (first | refine blk_drewN ?_ _ | refine blk_drew ?_ | refine blk_alloc ?_ _)); refine blk_far ?_ NB363_392.out _; (with_reducible repeat (first | refine blk_drewN ?_ _ | refine blk_drew ?_ | refine blk_alloc ?_ _)); refine blk_far ?_ NB363_392.out _; (with_reducible repeat (first | refine blk_drewN ?_ _ | refine blk_drew ?_ | refine blk_alloc ?_ _)); refine blk_far ?_ NB363_392.out _; (with_reducible repeat (first | refine blk_drewN ?_ _ | refine blk_drew ?_ | refine blk_alloc ?_ _)); exact BK363.out) hb); have n8_ := Aside0.mk (blk_below (g := gb383) (o := .cells #[.slice Ao22 t374.length co22, .slice Ao26 t377.length co26, .int .i64 t380, .bool t381] 25 (0, 0)) (by (with_reducible repeat (first | refine blk_drewN ?_ _ | refine blk_drew ?_ | refine blk_alloc ?_ _)); refine blk_far ?_ NB383_392.out _; (with_reducible repeat (first | refine blk_drewN ?_ _ | refine blk_drew ?_ | refine blk_alloc ?_ _)); refine blk_far ?_ NB383_392.out _; (with_reducible repeat (first | refine blk_drewN ?_ _ | refine blk_drew ?_ | refine blk_alloc ?_ _)); refine blk_far ?_ NB383_392.out _; (with_reducible repeat (first | refine blk_drewN ?_ _ | refine blk_drew ?_ | refine blk_alloc ?_ _)); refine blk_far ?_ NB383_392.out _; (with_reducible repeat (first | refine blk_drewN ?_ _ | refine blk_drew ?_ | refine blk_alloc ?_ _)); exact BK383.out) hb); have n9_ := Aside0.mk (blk_below (g := gb392) (o := .cells #[.slice Ao38 t384.length co38, .slice Ao43 t387.length co43, .int .i64 t390, .bool t391] 25 (0, 0)) (by (with_reducible repeat (first | refine blk_drewN ?_ _ | refine blk_drew ?_ | refine blk_alloc ?_ _)); refine blk_put (cs := #[.slice Ao38 t384.length co38, .slice Ao43 t387.length co43, .int .i64 t390, .bool false]) ?_ 3 _ rfl; (with_reducible repeat (first | refine blk_drewN ?_ _ | refine blk_drew ?_ | refine blk_alloc ?_ _)); refine blk_put (cs := #[.slice Ao38 t384.length co38, .slice Ao43 t387.length co43, .int .i64 0, .bool false]) ?_ 2 _ rfl; (with_reducible repeat (first | refine blk_drewN ?_ _ | refine blk_drew ?_ | refine blk_alloc ?_ _)); refine blk_put (cs := #[.slice Ao38 t384.length co38, .slice none 0 0, .int .i64 0, .bool false]) ?_ 1 _ rfl; (with_reducible repeat (first | refine blk_drewN ?_ _ | refine blk_drew ?_ | refine blk_alloc ?_ _)); refine blk_put (cs := #[.slice none 0 0, .slice none 0 0, .int .i64 0, .bool false]) ?_ 0 _ rfl; (with_reducible repeat (first | refine blk_drewN ?_ _ | refine blk_drew ?_ | refine blk_alloc ?_ _)); exact BK392.out) hb); have n10_ := Aside0.mk (below_step (by repeat (first | (with_reducible first | exact HB.out | apply below_alloc | apply pw_below_drewN | apply below_drew1 | refine below_set ?_ GE362.out | refine below_set ?_ GE363.out | refine below_set ?_ GE383.out | refine below_set ?_ GE392.out) | exact HB.out)) hb); clear HO_364000; clear HO_364001; clear HO_384000; clear HO_384001; clear HO386; clear HO389; clear BK362; clear BK363; clear BK383; clear BK392; clear HB; have HO_364000 := n0_; have HO_364001 := n1_; have HO_384000 := n2_; have HO_384001 := n3_; have HO386 := n4_; have HO389 := n5_; have BK362 := n6_; have BK363 := n7_; have BK383 := n8_; have BK392 := n9_; have HB := n10_; clear n0_ n1_ n2_ n3_ n4_ n5_ n6_ n7_ n8_ n9_ n10_; (try clear hb); (try clear hb2); (try clear hk); (try clear hi))))
        (try simp only [Act.put, List.setIfInBounds_toArray, List.set_cons_zero, List.set_cons_succ])
        go_cut [66] (fun v66 wc => ∃ (kq : Nat) (x66_31 : Bool), v66 = .bool x66_31 ∧ Aside0 (hogsheadlaw08_DiskTorn.j1 kq a0_4 a0_5 a0_6 t364 t393 x66_31 t365 t368 t371 t372 t384 t387 t390 t391 = some r) ∧ Aside0 (kq ≤ kj4) ∧ Aside0 (Kd.V Kd.string 9 wc w.heap.size (fun k_ => some k_ ≠ ((.slice Ao38 t384.length co38) : Value).ownBlock ∧ some k_ ≠ ((.slice Ao43 t387.length co43) : Value).ownBlock ∧ k_ ≠ gb362 ∧ k_ ≠ gb363 ∧ k_ ≠ gb383 ∧ k_ ≠ gb392) (.slice Ao15 t365.length co15) t365) ∧ Aside0 (Kd.V k47 47 wc w.heap.size (fun k_ => some k_ ≠ ((.slice Ao38 t384.length co38) : Value).ownBlock ∧ some k_ ≠ ((.slice Ao43 t387.length co43) : Value).ownBlock ∧ k_ ≠ gb362 ∧ k_ ≠ gb363 ∧ k_ ≠ gb383 ∧ k_ ≠ gb392) (.slice Ao17 t368.length co17) t368) ∧ Aside0 (Kd.V Kd.string 9 wc w.heap.size (fun k_ => some k_ ≠ ((.slice Ao38 t384.length co38) : Value).ownBlock ∧ some k_ ≠ ((.slice Ao43 t387.length co43) : Value).ownBlock ∧ k_ ≠ gb362 ∧ k_ ≠ gb363 ∧ k_ ≠ gb383 ∧ k_ ≠ gb392) (.slice Ao22 t374.length co22) t374) ∧ Aside0 (Kd.V k47 47 wc w.heap.size (fun k_ => some k_ ≠ ((.slice Ao38 t384.length co38) : Value).ownBlock ∧ some k_ ≠ ((.slice Ao43 t387.length co43) : Value).ownBlock ∧ k_ ≠ gb362 ∧ k_ ≠ gb363 ∧ k_ ≠ gb383 ∧ k_ ≠ gb392) (.slice Ao26 t377.length co26) t377) ∧ Aside0 (Kd.R Kd.string 9 wc w.heap.size (fun _ => True) (.slice Ao38 t384.length co38) t384) ∧ Aside0 (Kd.R k47 47 wc w.heap.size (fun _ => True) (.slice Ao43 t387.length co43) t387) ∧ Aside0 (wc.heap[gb362]? = some (.cells #[(.slice A0_0 l0_0.length c0_0), (.slice A0_1 l0_1.length c0_1), .int .i64 a0_2, .bool a0_3, .int .i64 a0_4, .string a0_5, .int .i64 a0_6] 54 (0, 0))) ∧ Aside0 (wc.heap[gb363]? = some (.cells #[(.slice Ao15 t365.length co15), (.slice Ao17 t368.length co17), .int .i64 t371, .bool t372] 25 (0, 0))) ∧ Aside0 (wc.heap[gb383]? = some (.cells #[(.slice Ao22 t374.length co22), (.slice Ao26 t377.length co26), .int .i64 t380, .bool t381] 25 (0, 0))) ∧ Aside0 (wc.heap[gb392]? = some (.cells #[(.slice Ao38 t384.length co38), (.slice Ao43 t387.length co43), .int .i64 t390, .bool t391] 25 (0, 0))) ∧ Aside0 (Below w.heap.size w wc))
        case first =>
          have H := HC32.out
          clear HC32
          by_cases c45 : t394 = 0
          · rw [if_pos c45] at H
            have c45b0 : (t394 == 0) = true := beq_iff_eq.mpr c45
            have c45b1 : (t394 != 0) = false := bne_eq_false_iff_eq.mpr c45
            clear c45
            (first | rw [c45b0] | (simp only [i64_w, i32_w]; rw [c45b0]) | skip)
            have H' := Aside0.mk H
            clear H
            have hnb46 := NB392_362.out
            have hnc46 := NB362_392.out
            have hnb47 := NB392_363.out
            have hnc47 := NB363_392.out
            have hnb48 := NB392_383.out
            have hnc48 := NB383_392.out
            have hcz49_0 : w44.cell? ⟨gb392, 0, none⟩ = some (.slice Ao38 t384.length co38) := (blk_cell BK392.out 0).trans rfl
            have hcz49_1 : w44.cell? ⟨gb392, 1, none⟩ = some (.slice Ao43 t387.length co43) := (blk_cell BK392.out 1).trans rfl
            have hcz49_2 : w44.cell? ⟨gb392, 2, none⟩ = some (.int .i64 t390) := (blk_cell BK392.out 2).trans rfl
            have hcz49_3 : w44.cell? ⟨gb392, 3, none⟩ = some (.bool t391) := (blk_cell BK392.out 3).trans rfl
            have hfz49_0 := blk_frozen BK392.out 0
            have hfz49_1 := blk_frozen BK392.out 1
            have hfz49_2 := blk_frozen BK392.out 2
            have hfz49_3 := blk_frozen BK392.out 3
            have hnb50 := NB363_362.out
            have hnc50 := NB362_363.out
            have hnb51 := NB363_383.out
            have hnc51 := NB383_363.out
            have hcz52_0 : w44.cell? ⟨gb363, 0, none⟩ = some (.slice Ao15 t365.length co15) := (blk_cell BK363.out 0).trans rfl
            have hcz52_1 : w44.cell? ⟨gb363, 1, none⟩ = some (.slice Ao17 t368.length co17) := (blk_cell BK363.out 1).trans rfl
            have hcz52_2 : w44.cell? ⟨gb363, 2, none⟩ = some (.int .i64 t371) := (blk_cell BK363.out 2).trans rfl
            have hcz52_3 : w44.cell? ⟨gb363, 3, none⟩ = some (.bool t372) := (blk_cell BK363.out 3).trans rfl
            have hfz52_0 := blk_frozen BK363.out 0
            have hfz52_1 := blk_frozen BK363.out 1
            have hfz52_2 := blk_frozen BK363.out 2
            have hfz52_3 := blk_frozen BK363.out 3
            go_wp2
            repeat (go_quiet (fail); try go_wp2)
            go_meet
            case rel => exact ⟨_, (((t384.length : Int) != (t365.length : Int))), (by first | rfl | (simp; done) | (simp [*]; done)), H', ⟨by have := HJ4.out; first | omega | exact Nat.le_refl _⟩, ⟨by (with_reducible repeat (first | apply Kd.V_alloc | apply Kd.V_drewN | apply Kd.V_drew)); exact Kd.V_mono HO_364000.out (fun _ hk => ⟨hk.1.1.2, ⟨hk.1.2, ⟨hk.1.1.1.1, ⟨hk.1.1.1.2.1, ⟨hk.1.1.1.2.2, hk.2⟩⟩⟩⟩⟩)⟩, ⟨by (with_reducible repeat (first | apply Kd.V_alloc | apply Kd.V_drewN | apply Kd.V_drew)); exact Kd.V_mono HO_364001.out (fun _ hk => ⟨hk.1.1.2, ⟨hk.1.2, ⟨hk.1.1.1.1, ⟨hk.1.1.1.2.1, ⟨hk.1.1.1.2.2, hk.2⟩⟩⟩⟩⟩)⟩, ⟨by (with_reducible repeat (first | apply Kd.V_alloc | apply Kd.V_drewN | apply Kd.V_drew)); exact Kd.V_mono HO_384000.out (fun _ hk => ⟨hk.1.1.2, ⟨hk.1.2, ⟨hk.1.1.1.1, ⟨hk.1.1.1.2.1, ⟨hk.1.1.1.2.2, hk.2⟩⟩⟩⟩⟩)⟩, ⟨by (with_reducible repeat (first | apply Kd.V_alloc | apply Kd.V_drewN | apply Kd.V_drew)); exact Kd.V_mono HO_384001.out (fun _ hk => ⟨hk.1.1.2, ⟨hk.1.2, ⟨hk.1.1.1.1, ⟨hk.1.1.1.2.1, ⟨hk.1.1.1.2.2, hk.2⟩⟩⟩⟩⟩)⟩, ⟨by (with_reducible repeat (first | apply Kd.R_alloc | apply Kd.R_drewN | apply Kd.R_drew)); exact HO386.out⟩, ⟨by (with_reducible repeat (first | apply Kd.R_alloc | apply Kd.R_drewN | apply Kd.R_drew)); exact HO389.out⟩, ⟨by (with_reducible repeat (first | refine blk_drewN ?_ _ | refine blk_drew ?_ | refine blk_alloc ?_ _)); exact BK362.out⟩, ⟨by (with_reducible repeat (first | refine blk_drewN ?_ _ | refine blk_drew ?_ | refine blk_alloc ?_ _)); exact BK363.out⟩, ⟨by (with_reducible repeat (first | refine blk_drewN ?_ _ | refine blk_drew ?_ | refine blk_alloc ?_ _)); exact BK383.out⟩, ⟨by (with_reducible repeat (first | refine blk_drewN ?_ _ | refine blk_drew ?_ | refine blk_alloc ?_ _)); exact BK392.out⟩, ⟨by repeat (first | (with_reducible first | exact HB.out | apply below_alloc | apply pw_below_drewN | apply below_drew1 | refine below_set ?_ GE362.out | refine below_set ?_ GE363.out | refine below_set ?_ GE383.out | refine below_set ?_ GE392.out) | exact HB.out)⟩⟩
          · rw [if_neg c45] at H
            have c45b0 : (t394 == 0) = false := beq_eq_false_iff_ne.mpr c45
            have c45b1 : (t394 != 0) = true := bne_iff_ne.mpr c45
            (first | rw [c45b0] | (simp only [i64_w, i32_w]; rw [c45b0]) | skip)
            have H' := Aside0.mk H
            clear H
            go_wp2
            repeat (go_quiet (fail); try go_wp2)
            go_meet
            case rel => exact ⟨_, (true), (by first | rfl | (simp; done) | (simp [*]; done)), H', ⟨by have := HJ4.out; first | omega | exact Nat.le_refl _⟩, ⟨by (with_reducible repeat (first | apply Kd.V_alloc | apply Kd.V_drewN | apply Kd.V_drew)); exact Kd.V_mono HO_364000.out (fun _ hk => ⟨hk.1.1.2, ⟨hk.1.2, ⟨hk.1.1.1.1, ⟨hk.1.1.1.2.1, ⟨hk.1.1.1.2.2, hk.2⟩⟩⟩⟩⟩)⟩, ⟨by (with_reducible repeat (first | apply Kd.V_alloc | apply Kd.V_drewN | apply Kd.V_drew)); exact Kd.V_mono HO_364001.out (fun _ hk => ⟨hk.1.1.2, ⟨hk.1.2, ⟨hk.1.1.1.1, ⟨hk.1.1.1.2.1, ⟨hk.1.1.1.2.2, hk.2⟩⟩⟩⟩⟩)⟩, ⟨by (with_reducible repeat (first | apply Kd.V_alloc | apply Kd.V_drewN | apply Kd.V_drew)); exact Kd.V_mono HO_384000.out (fun _ hk => ⟨hk.1.1.2, ⟨hk.1.2, ⟨hk.1.1.1.1, ⟨hk.1.1.1.2.1, ⟨hk.1.1.1.2.2, hk.2⟩⟩⟩⟩⟩)⟩, ⟨by (with_reducible repeat (first | apply Kd.V_alloc | apply Kd.V_drewN | apply Kd.V_drew)); exact Kd.V_mono HO_384001.out (fun _ hk => ⟨hk.1.1.2, ⟨hk.1.2, ⟨hk.1.1.1.1, ⟨hk.1.1.1.2.1, ⟨hk.1.1.1.2.2, hk.2⟩⟩⟩⟩⟩)⟩, ⟨by (with_reducible repeat (first | apply Kd.R_alloc | apply Kd.R_drewN | apply Kd.R_drew)); exact HO386.out⟩, ⟨by (with_reducible repeat (first | apply Kd.R_alloc | apply Kd.R_drewN | apply Kd.R_drew)); exact HO389.out⟩, ⟨by (with_reducible repeat (first | refine blk_drewN ?_ _ | refine blk_drew ?_ | refine blk_alloc ?_ _)); exact BK362.out⟩, ⟨by (with_reducible repeat (first | refine blk_drewN ?_ _ | refine blk_drew ?_ | refine blk_alloc ?_ _)); exact BK363.out⟩, ⟨by (with_reducible repeat (first | refine blk_drewN ?_ _ | refine blk_drew ?_ | refine blk_alloc ?_ _)); exact BK383.out⟩, ⟨by (with_reducible repeat (first | refine blk_drewN ?_ _ | refine blk_drew ?_ | refine blk_alloc ?_ _)); exact BK392.out⟩, ⟨by repeat (first | (with_reducible first | exact HB.out | apply below_alloc | apply pw_below_drewN | apply below_drew1 | refine below_set ?_ GE362.out | refine below_set ?_ GE363.out | refine below_set ?_ GE383.out | refine below_set ?_ GE392.out) | exact HB.out)⟩⟩
        case rest =>
          clear HC32
          try clear c2
          try clear p2
          try clear c3
          try clear c4
          try clear c5
          try clear c6
          try clear c9
          try clear c23
          try clear c24
          try clear c27
          try clear c27b0
          try clear c27b1
          try clear c28
          try clear c28b0
          try clear c28b1
          try clear c29
          try clear c33
          try clear c34
          try clear c39
          try clear c40
          try clear c41
          try clear c45
          try clear c45b0
          try clear c45b1
          try clear c46
          try clear c47
          try clear c48
          try clear c50
          try clear c51
          try clear hcz10_0
          try clear hcz10_1
          try clear hcz10_2
          try clear hcz10_3
          try clear hcz11_0
          try clear hcz11_1
          try clear hcz11_2
          try clear hcz11_3
          try clear hcz11_4
          try clear hcz11_5
          try clear hcz11_6
          try clear hcz13_0
          try clear hcz13_1
          try clear hcz13_2
          try clear hcz13_3
          try clear hcz16_0
          try clear hcz16_1
          try clear hcz16_2
          try clear hcz16_3
          try clear hcz19_0
          try clear hcz19_1
          try clear hcz19_2
          try clear hcz19_3
          try clear hcz25_0
          try clear hcz25_1
          try clear hcz25_2
          try clear hcz25_3
          try clear hcz35_0
          try clear hcz35_1
          try clear hcz35_2
          try clear hcz35_3
          try clear hcz42_0
          try clear hcz42_1
          try clear hcz42_2
          try clear hcz42_3
          try clear hcz49_0
          try clear hcz49_1
          try clear hcz49_2
          try clear hcz49_3
          try clear hcz52_0
          try clear hcz52_1
          try clear hcz52_2
          try clear hcz52_3
          try clear hcz7_0
          try clear hcz7_1
          try clear hcz7_2
          try clear hcz7_3
          try clear hcz7_4
          try clear hcz7_5
          try clear hcz7_6
          try clear hfz10_0
          try clear hfz10_1
          try clear hfz10_2
          try clear hfz10_3
          try clear hfz11_0
          try clear hfz11_1
          try clear hfz11_2
          try clear hfz11_3
          try clear hfz11_4
          try clear hfz11_5
          try clear hfz11_6
          try clear hfz13_0
          try clear hfz13_1
          try clear hfz13_2
          try clear hfz13_3
          try clear hfz16_0
          try clear hfz16_1
          try clear hfz16_2
          try clear hfz16_3
          try clear hfz19_0
          try clear hfz19_1
          try clear hfz19_2
          try clear hfz19_3
          try clear hfz25_0
          try clear hfz25_1
          try clear hfz25_2
          try clear hfz25_3
          try clear hfz35_0
          try clear hfz35_1
          try clear hfz35_2
          try clear hfz35_3
          try clear hfz42_0
          try clear hfz42_1
          try clear hfz42_2
          try clear hfz42_3
          try clear hfz49_0
          try clear hfz49_1
          try clear hfz49_2
          try clear hfz49_3
          try clear hfz52_0
          try clear hfz52_1
          try clear hfz52_2
          try clear hfz52_3
          try clear hfz7_0
          try clear hfz7_1
          try clear hfz7_2
          try clear hfz7_3
          try clear hfz7_4
          try clear hfz7_5
          try clear hfz7_6
          try clear p2
          obtain ⟨kq, x66_31, rfl, HA, HJ31, HO_364000, HO_364001, HO_384000, HO_384001, HO_393000, HO_393001, BK362, BK363, BK383, BK392, HB⟩ := hcut
          cases kq with
          | zero => exact absurd HA.out (by simp [hogsheadlaw08_DiskTorn.j1])
          | succ kj31 =>
            have H := HA.out
            clear HA
            simp only [hogsheadlaw08_DiskTorn.j1] at H
            by_cases c53 : x66_31 = true
            · subst c53
              have H1 : (some false) = some r := by rw [if_pos rfl] at H; exact H
              clear H
              have H := H1
              clear H1
              obtain rfl := Option.some.inj H
              go_wp2
              repeat (go_quiet (fail); try go_wp2)
              go_ret
              exact ⟨by first | rfl | (simp [errW_none, errW_some] <;> rfl) | (simp [*, errW_none, errW_some] <;> rfl), by repeat (first | (with_reducible first | exact HB.out | apply below_alloc | apply pw_below_drewN | apply below_drew1 | refine below_set ?_ GE362.out | refine below_set ?_ GE363.out | refine below_set ?_ GE383.out | refine below_set ?_ GE392.out) | exact HB.out)⟩
            · replace c53 := Bool.eq_false_iff.mpr c53
              subst c53
              have H1 : (if (t393.size : Int) > (a0_5.size : Int) then (hogsheadlaw08_DiskTorn.j2 kj31 a0_4 t364 true t365 t368 t371 t372 t384 t387 t390 t391) else (if 0 ≤ (t393.size : Int) then (if (t393.size : Int) ≤ (a0_5.size : Int) then (if (a0_5.extract 0 ((t393.size : Int) : Int).toNat).toList = t393.toList then (if (t393.size : Int) < (a0_5.size : Int) then (hogsheadlaw08_DiskTorn.j2 kj31 a0_4 t364 ((t393.size : Int) != a0_6) t365 t368 t371 t372 t384 t387 t390 t391) else (hogsheadlaw08_DiskTorn.j2 kj31 a0_4 t364 false t365 t368 t371 t372 t384 t387 t390 t391)) else (hogsheadlaw08_DiskTorn.j2 kj31 a0_4 t364 true t365 t368 t371 t372 t384 t387 t390 t391)) else (none)) else (none))) = some r := by rw [if_neg (show ¬ (false = true) by decide)] at H; exact H
              clear H
              have H := H1
              clear H1
              have HC54 := Aside0.mk H
              clear H
              go_upto_region 14 with (fail)
              repeat (go_quiet (fail); go_upto_region 14 with (fail))
              go_cut [92] (fun v92 wc => ∃ (kq : Nat) (x92_53 : Bool), v92 = .bool x92_53 ∧ Aside0 (hogsheadlaw08_DiskTorn.j2 kq a0_4 t364 x92_53 t365 t368 t371 t372 t384 t387 t390 t391 = some r) ∧ Aside0 (kq ≤ kj31) ∧ Aside0 (Kd.V Kd.string 9 wc w.heap.size (fun k_ => some k_ ≠ ((.slice Ao38 t384.length co38) : Value).ownBlock ∧ some k_ ≠ ((.slice Ao43 t387.length co43) : Value).ownBlock ∧ k_ ≠ gb362 ∧ k_ ≠ gb363 ∧ k_ ≠ gb383 ∧ k_ ≠ gb392) (.slice Ao15 t365.length co15) t365) ∧ Aside0 (Kd.V k47 47 wc w.heap.size (fun k_ => some k_ ≠ ((.slice Ao38 t384.length co38) : Value).ownBlock ∧ some k_ ≠ ((.slice Ao43 t387.length co43) : Value).ownBlock ∧ k_ ≠ gb362 ∧ k_ ≠ gb363 ∧ k_ ≠ gb383 ∧ k_ ≠ gb392) (.slice Ao17 t368.length co17) t368) ∧ Aside0 (Kd.V Kd.string 9 wc w.heap.size (fun k_ => some k_ ≠ ((.slice Ao38 t384.length co38) : Value).ownBlock ∧ some k_ ≠ ((.slice Ao43 t387.length co43) : Value).ownBlock ∧ k_ ≠ gb362 ∧ k_ ≠ gb363 ∧ k_ ≠ gb383 ∧ k_ ≠ gb392) (.slice Ao22 t374.length co22) t374) ∧ Aside0 (Kd.V k47 47 wc w.heap.size (fun k_ => some k_ ≠ ((.slice Ao38 t384.length co38) : Value).ownBlock ∧ some k_ ≠ ((.slice Ao43 t387.length co43) : Value).ownBlock ∧ k_ ≠ gb362 ∧ k_ ≠ gb363 ∧ k_ ≠ gb383 ∧ k_ ≠ gb392) (.slice Ao26 t377.length co26) t377) ∧ Aside0 (Kd.R Kd.string 9 wc w.heap.size (fun _ => True) (.slice Ao38 t384.length co38) t384) ∧ Aside0 (Kd.R k47 47 wc w.heap.size (fun _ => True) (.slice Ao43 t387.length co43) t387) ∧ Aside0 (wc.heap[gb362]? = some (.cells #[(.slice A0_0 l0_0.length c0_0), (.slice A0_1 l0_1.length c0_1), .int .i64 a0_2, .bool a0_3, .int .i64 a0_4, .string a0_5, .int .i64 a0_6] 54 (0, 0))) ∧ Aside0 (wc.heap[gb363]? = some (.cells #[(.slice Ao15 t365.length co15), (.slice Ao17 t368.length co17), .int .i64 t371, .bool t372] 25 (0, 0))) ∧ Aside0 (wc.heap[gb383]? = some (.cells #[(.slice Ao22 t374.length co22), (.slice Ao26 t377.length co26), .int .i64 t380, .bool t381] 25 (0, 0))) ∧ Aside0 (wc.heap[gb392]? = some (.cells #[(.slice Ao38 t384.length co38), (.slice Ao43 t387.length co43), .int .i64 t390, .bool t391] 25 (0, 0))) ∧ Aside0 (Below w.heap.size w wc))
              case first =>
                have H := HC54.out
                clear HC54
                by_cases c55 : (t393.size : Int) > (a0_5.size : Int)
                · rw [if_pos c55] at H
                  have c55b0 : decide ((a0_5.size : Int) < (t393.size : Int)) = true := decide_eq_true c55
                  have c55b1 : decide (a0_5.size < t393.size) = true := decide_eq_true (Int.ofNat_lt.mp c55)
                  clear c55
                  (first | rw [c55b0] | (simp only [i64_w, i32_w]; rw [c55b0]) | skip)
                  have H' := Aside0.mk H
                  clear H
                  go_wp2
                  repeat (go_quiet (fail); try go_wp2)
                  go_meet
                  case rel => exact ⟨_, (true), (by first | rfl | (simp; done) | (simp [*]; done)), H', ⟨by have := HJ4.out; have := HJ31.out; first | omega | exact Nat.le_refl _⟩, ⟨by (with_reducible repeat (first | apply Kd.V_alloc | apply Kd.V_drewN | apply Kd.V_drew)); exact HO_364000.out⟩, ⟨by (with_reducible repeat (first | apply Kd.V_alloc | apply Kd.V_drewN | apply Kd.V_drew)); exact HO_364001.out⟩, ⟨by (with_reducible repeat (first | apply Kd.V_alloc | apply Kd.V_drewN | apply Kd.V_drew)); exact HO_384000.out⟩, ⟨by (with_reducible repeat (first | apply Kd.V_alloc | apply Kd.V_drewN | apply Kd.V_drew)); exact HO_384001.out⟩, ⟨by (with_reducible repeat (first | apply Kd.R_alloc | apply Kd.R_drewN | apply Kd.R_drew)); exact HO_393000.out⟩, ⟨by (with_reducible repeat (first | apply Kd.R_alloc | apply Kd.R_drewN | apply Kd.R_drew)); exact HO_393001.out⟩, ⟨by (with_reducible repeat (first | refine blk_drewN ?_ _ | refine blk_drew ?_ | refine blk_alloc ?_ _)); exact BK362.out⟩, ⟨by (with_reducible repeat (first | refine blk_drewN ?_ _ | refine blk_drew ?_ | refine blk_alloc ?_ _)); exact BK363.out⟩, ⟨by (with_reducible repeat (first | refine blk_drewN ?_ _ | refine blk_drew ?_ | refine blk_alloc ?_ _)); exact BK383.out⟩, ⟨by (with_reducible repeat (first | refine blk_drewN ?_ _ | refine blk_drew ?_ | refine blk_alloc ?_ _)); exact BK392.out⟩, ⟨by repeat (first | (with_reducible first | exact HB.out | apply below_alloc | apply pw_below_drewN | apply below_drew1 | refine below_set ?_ GE362.out | refine below_set ?_ GE363.out | refine below_set ?_ GE383.out | refine below_set ?_ GE392.out) | exact HB.out)⟩⟩
                · rw [if_neg c55] at H
                  have c55b0 : decide ((a0_5.size : Int) < (t393.size : Int)) = false := decide_eq_false c55
                  have c55b1 : decide (a0_5.size < t393.size) = false := decide_eq_false (fun h => c55 (Int.ofNat_lt.mpr h))
                  clear c55
                  (first | rw [c55b0] | (simp only [i64_w, i32_w]; rw [c55b0]) | skip)
                  by_cases c56 : 0 ≤ (t393.size : Int)
                  · rw [if_pos c56] at H
                    have c56b0 := eq_true c56
                    have c56b1 : decide (0 ≤ (t393.size : Int)) = true := decide_eq_true c56
                    clear c56
                    by_cases c57 : (t393.size : Int) ≤ (a0_5.size : Int)
                    · rw [if_pos c57] at H
                      have c57b0 := eq_true c57
                      have c57b1 : decide ((t393.size : Int) ≤ (a0_5.size : Int)) = true := decide_eq_true c57
                      clear c57
                      by_cases c58 : (a0_5.extract 0 ((t393.size : Int) : Int).toNat).toList = t393.toList
                      · rw [if_pos c58] at H
                        have c58b0 : ((a0_5.extract 0 ((t393.size : Int) : Int).toNat).toList == t393.toList) = true := beq_iff_eq.mpr c58
                        try simp only [Int.toNat_natCast] at c58b0
                        have c58b1 : ((a0_5.extract 0 ((t393.size : Int) : Int).toNat).toList != t393.toList) = false := bne_eq_false_iff_eq.mpr c58
                        try simp only [Int.toNat_natCast] at c58b1
                        clear c58
                        by_cases c59 : (t393.size : Int) < (a0_5.size : Int)
                        · rw [if_pos c59] at H
                          have c59b0 : decide ((t393.size : Int) < (a0_5.size : Int)) = true := decide_eq_true c59
                          have c59b1 : decide (t393.size < a0_5.size) = true := decide_eq_true (Int.ofNat_lt.mp c59)
                          clear c59
                          have H' := Aside0.mk H
                          clear H
                          go_wp2
                          repeat (go_quiet (fail); try go_wp2)
                          go_meet
                          case rel => exact ⟨_, (((t393.size : Int) != a0_6)), (by first | rfl | (simp; done) | (simp [*]; done)), H', ⟨by have := HJ4.out; have := HJ31.out; first | omega | exact Nat.le_refl _⟩, ⟨by (with_reducible repeat (first | apply Kd.V_alloc | apply Kd.V_drewN | apply Kd.V_drew)); exact HO_364000.out⟩, ⟨by (with_reducible repeat (first | apply Kd.V_alloc | apply Kd.V_drewN | apply Kd.V_drew)); exact HO_364001.out⟩, ⟨by (with_reducible repeat (first | apply Kd.V_alloc | apply Kd.V_drewN | apply Kd.V_drew)); exact HO_384000.out⟩, ⟨by (with_reducible repeat (first | apply Kd.V_alloc | apply Kd.V_drewN | apply Kd.V_drew)); exact HO_384001.out⟩, ⟨by (with_reducible repeat (first | apply Kd.R_alloc | apply Kd.R_drewN | apply Kd.R_drew)); exact HO_393000.out⟩, ⟨by (with_reducible repeat (first | apply Kd.R_alloc | apply Kd.R_drewN | apply Kd.R_drew)); exact HO_393001.out⟩, ⟨by (with_reducible repeat (first | refine blk_drewN ?_ _ | refine blk_drew ?_ | refine blk_alloc ?_ _)); exact BK362.out⟩, ⟨by (with_reducible repeat (first | refine blk_drewN ?_ _ | refine blk_drew ?_ | refine blk_alloc ?_ _)); exact BK363.out⟩, ⟨by (with_reducible repeat (first | refine blk_drewN ?_ _ | refine blk_drew ?_ | refine blk_alloc ?_ _)); exact BK383.out⟩, ⟨by (with_reducible repeat (first | refine blk_drewN ?_ _ | refine blk_drew ?_ | refine blk_alloc ?_ _)); exact BK392.out⟩, ⟨by repeat (first | (with_reducible first | exact HB.out | apply below_alloc | apply pw_below_drewN | apply below_drew1 | refine below_set ?_ GE362.out | refine below_set ?_ GE363.out | refine below_set ?_ GE383.out | refine below_set ?_ GE392.out) | exact HB.out)⟩⟩
                        · rw [if_neg c59] at H
                          have c59b0 : decide ((t393.size : Int) < (a0_5.size : Int)) = false := decide_eq_false c59
                          have c59b1 : decide (t393.size < a0_5.size) = false := decide_eq_false (fun h => c59 (Int.ofNat_lt.mpr h))
                          clear c59
                          have H' := Aside0.mk H
                          clear H
                          go_wp2
                          repeat (go_quiet (fail); try go_wp2)
                          go_meet
                          case rel => exact ⟨_, (false), (by first | rfl | (simp; done) | (simp [*]; done)), H', ⟨by have := HJ4.out; have := HJ31.out; first | omega | exact Nat.le_refl _⟩, ⟨by (with_reducible repeat (first | apply Kd.V_alloc | apply Kd.V_drewN | apply Kd.V_drew)); exact HO_364000.out⟩, ⟨by (with_reducible repeat (first | apply Kd.V_alloc | apply Kd.V_drewN | apply Kd.V_drew)); exact HO_364001.out⟩, ⟨by (with_reducible repeat (first | apply Kd.V_alloc | apply Kd.V_drewN | apply Kd.V_drew)); exact HO_384000.out⟩, ⟨by (with_reducible repeat (first | apply Kd.V_alloc | apply Kd.V_drewN | apply Kd.V_drew)); exact HO_384001.out⟩, ⟨by (with_reducible repeat (first | apply Kd.R_alloc | apply Kd.R_drewN | apply Kd.R_drew)); exact HO_393000.out⟩, ⟨by (with_reducible repeat (first | apply Kd.R_alloc | apply Kd.R_drewN | apply Kd.R_drew)); exact HO_393001.out⟩, ⟨by (with_reducible repeat (first | refine blk_drewN ?_ _ | refine blk_drew ?_ | refine blk_alloc ?_ _)); exact BK362.out⟩, ⟨by (with_reducible repeat (first | refine blk_drewN ?_ _ | refine blk_drew ?_ | refine blk_alloc ?_ _)); exact BK363.out⟩, ⟨by (with_reducible repeat (first | refine blk_drewN ?_ _ | refine blk_drew ?_ | refine blk_alloc ?_ _)); exact BK383.out⟩, ⟨by (with_reducible repeat (first | refine blk_drewN ?_ _ | refine blk_drew ?_ | refine blk_alloc ?_ _)); exact BK392.out⟩, ⟨by repeat (first | (with_reducible first | exact HB.out | apply below_alloc | apply pw_below_drewN | apply below_drew1 | refine below_set ?_ GE362.out | refine below_set ?_ GE363.out | refine below_set ?_ GE383.out | refine below_set ?_ GE392.out) | exact HB.out)⟩⟩
                      · rw [if_neg c58] at H
                        have c58b0 : ((a0_5.extract 0 ((t393.size : Int) : Int).toNat).toList == t393.toList) = false := beq_eq_false_iff_ne.mpr c58
                        try simp only [Int.toNat_natCast] at c58b0
                        have c58b1 : ((a0_5.extract 0 ((t393.size : Int) : Int).toNat).toList != t393.toList) = true := bne_iff_ne.mpr c58
                        try simp only [Int.toNat_natCast] at c58b1
                        have H' := Aside0.mk H
                        clear H
                        go_wp2
                        repeat (go_quiet (fail); try go_wp2)
                        go_meet
                        case rel => exact ⟨_, (true), (by first | rfl | (simp; done) | (simp [*]; done)), H', ⟨by have := HJ4.out; have := HJ31.out; first | omega | exact Nat.le_refl _⟩, ⟨by (with_reducible repeat (first | apply Kd.V_alloc | apply Kd.V_drewN | apply Kd.V_drew)); exact HO_364000.out⟩, ⟨by (with_reducible repeat (first | apply Kd.V_alloc | apply Kd.V_drewN | apply Kd.V_drew)); exact HO_364001.out⟩, ⟨by (with_reducible repeat (first | apply Kd.V_alloc | apply Kd.V_drewN | apply Kd.V_drew)); exact HO_384000.out⟩, ⟨by (with_reducible repeat (first | apply Kd.V_alloc | apply Kd.V_drewN | apply Kd.V_drew)); exact HO_384001.out⟩, ⟨by (with_reducible repeat (first | apply Kd.R_alloc | apply Kd.R_drewN | apply Kd.R_drew)); exact HO_393000.out⟩, ⟨by (with_reducible repeat (first | apply Kd.R_alloc | apply Kd.R_drewN | apply Kd.R_drew)); exact HO_393001.out⟩, ⟨by (with_reducible repeat (first | refine blk_drewN ?_ _ | refine blk_drew ?_ | refine blk_alloc ?_ _)); exact BK362.out⟩, ⟨by (with_reducible repeat (first | refine blk_drewN ?_ _ | refine blk_drew ?_ | refine blk_alloc ?_ _)); exact BK363.out⟩, ⟨by (with_reducible repeat (first | refine blk_drewN ?_ _ | refine blk_drew ?_ | refine blk_alloc ?_ _)); exact BK383.out⟩, ⟨by (with_reducible repeat (first | refine blk_drewN ?_ _ | refine blk_drew ?_ | refine blk_alloc ?_ _)); exact BK392.out⟩, ⟨by repeat (first | (with_reducible first | exact HB.out | apply below_alloc | apply pw_below_drewN | apply below_drew1 | refine below_set ?_ GE362.out | refine below_set ?_ GE363.out | refine below_set ?_ GE383.out | refine below_set ?_ GE392.out) | exact HB.out)⟩⟩
                    · rw [if_neg c57] at H
                      exact absurd H (by simp)
                  · rw [if_neg c56] at H
                    exact absurd H (by simp)
              case rest =>
                clear HC54
                try clear c2
                try clear p2
                try clear c3
                try clear c4
                try clear c5
                try clear c6
                try clear c9
                try clear c23
                try clear c24
                try clear c27
                try clear c27b0
                try clear c27b1
                try clear c28
                try clear c28b0
                try clear c28b1
                try clear c29
                try clear c33
                try clear c34
                try clear c39
                try clear c40
                try clear c41
                try clear c45
                try clear c45b0
                try clear c45b1
                try clear c46
                try clear c47
                try clear c48
                try clear c50
                try clear c51
                try clear c53
                try clear c55
                try clear c55b0
                try clear c55b1
                try clear c56
                try clear c56b0
                try clear c56b1
                try clear c57
                try clear c57b0
                try clear c57b1
                try clear c58
                try clear c58b0
                try clear c58b1
                try clear c59
                try clear c59b0
                try clear c59b1
                try clear hcz10_0
                try clear hcz10_1
                try clear hcz10_2
                try clear hcz10_3
                try clear hcz11_0
                try clear hcz11_1
                try clear hcz11_2
                try clear hcz11_3
                try clear hcz11_4
                try clear hcz11_5
                try clear hcz11_6
                try clear hcz13_0
                try clear hcz13_1
                try clear hcz13_2
                try clear hcz13_3
                try clear hcz16_0
                try clear hcz16_1
                try clear hcz16_2
                try clear hcz16_3
                try clear hcz19_0
                try clear hcz19_1
                try clear hcz19_2
                try clear hcz19_3
                try clear hcz25_0
                try clear hcz25_1
                try clear hcz25_2
                try clear hcz25_3
                try clear hcz35_0
                try clear hcz35_1
                try clear hcz35_2
                try clear hcz35_3
                try clear hcz42_0
                try clear hcz42_1
                try clear hcz42_2
                try clear hcz42_3
                try clear hcz49_0
                try clear hcz49_1
                try clear hcz49_2
                try clear hcz49_3
                try clear hcz52_0
                try clear hcz52_1
                try clear hcz52_2
                try clear hcz52_3
                try clear hcz7_0
                try clear hcz7_1
                try clear hcz7_2
                try clear hcz7_3
                try clear hcz7_4
                try clear hcz7_5
                try clear hcz7_6
                try clear hfz10_0
                try clear hfz10_1
                try clear hfz10_2
                try clear hfz10_3
                try clear hfz11_0
                try clear hfz11_1
                try clear hfz11_2
                try clear hfz11_3
                try clear hfz11_4
                try clear hfz11_5
                try clear hfz11_6
                try clear hfz13_0
                try clear hfz13_1
                try clear hfz13_2
                try clear hfz13_3
                try clear hfz16_0
                try clear hfz16_1
                try clear hfz16_2
                try clear hfz16_3
                try clear hfz19_0
                try clear hfz19_1
                try clear hfz19_2
                try clear hfz19_3
                try clear hfz25_0
                try clear hfz25_1
                try clear hfz25_2
                try clear hfz25_3
                try clear hfz35_0
                try clear hfz35_1
                try clear hfz35_2
                try clear hfz35_3
                try clear hfz42_0
                try clear hfz42_1
                try clear hfz42_2
                try clear hfz42_3
                try clear hfz49_0
                try clear hfz49_1
                try clear hfz49_2
                try clear hfz49_3
                try clear hfz52_0
                try clear hfz52_1
                try clear hfz52_2
                try clear hfz52_3
                try clear hfz7_0
                try clear hfz7_1
                try clear hfz7_2
                try clear hfz7_3
                try clear hfz7_4
                try clear hfz7_5
                try clear hfz7_6
                try clear p2
                obtain ⟨kq, x92_53, rfl, HA, HJ53, HO_364000, HO_364001, HO_384000, HO_384001, HO_393000, HO_393001, BK362, BK363, BK383, BK392, HB⟩ := hcut
                cases kq with
                | zero => exact absurd HA.out (by simp [hogsheadlaw08_DiskTorn.j2])
                | succ kj53 =>
                  have H := HA.out
                  clear HA
                  simp only [hogsheadlaw08_DiskTorn.j2] at H
                  by_cases c60 : x92_53 = true
                  · subst c60
                    have H1 : (some false) = some r := by rw [if_pos rfl] at H; exact H
                    clear H
                    have H := H1
                    clear H1
                    obtain rfl := Option.some.inj H
                    go_wp2
                    repeat (go_quiet (fail); try go_wp2)
                    go_ret
                    exact ⟨by first | rfl | (simp [errW_none, errW_some] <;> rfl) | (simp [*, errW_none, errW_some] <;> rfl), by repeat (first | (with_reducible first | exact HB.out | apply below_alloc | apply pw_below_drewN | apply below_drew1 | refine below_set ?_ GE362.out | refine below_set ?_ GE363.out | refine below_set ?_ GE383.out | refine below_set ?_ GE392.out) | exact HB.out)⟩
                  · replace c60 := Bool.eq_false_iff.mpr c60
                    subst c60
                    have H1 : (hogsheadlaw08_DiskTorn.l0 kj53 a0_4 t364 0 t365 t368 t371 t372 t384 t387 t390 t391) = some r := by rw [if_neg (show ¬ (false = true) by decide)] at H; exact H
                    clear H
                    have H := H1
                    clear H1
                    have H' := Aside0.mk H
                    clear H
                    go_wp2
                    repeat (go_quiet (fail); try go_wp2)
                    go_loopg [14] kj53 (fun kq v14 w' => ∃ (x14_4 : Int), v14 = .int .i64 x14_4 ∧ Aside0 (hogsheadlaw08_DiskTorn.l0 kq a0_4 t364 x14_4 t365 t368 t371 t372 t384 t387 t390 t391 = some r) ∧ Aside0 (kq ≤ kj53) ∧ Aside0 (Kd.V Kd.string 9 w' w.heap.size (fun k_ => some k_ ≠ ((.slice Ao38 t384.length co38) : Value).ownBlock ∧ some k_ ≠ ((.slice Ao43 t387.length co43) : Value).ownBlock ∧ k_ ≠ gb362 ∧ k_ ≠ gb363 ∧ k_ ≠ gb383 ∧ k_ ≠ gb392) (.slice Ao15 t365.length co15) t365) ∧ Aside0 (Kd.V k47 47 w' w.heap.size (fun k_ => some k_ ≠ ((.slice Ao38 t384.length co38) : Value).ownBlock ∧ some k_ ≠ ((.slice Ao43 t387.length co43) : Value).ownBlock ∧ k_ ≠ gb362 ∧ k_ ≠ gb363 ∧ k_ ≠ gb383 ∧ k_ ≠ gb392) (.slice Ao17 t368.length co17) t368) ∧ Aside0 (Kd.V Kd.string 9 w' w.heap.size (fun k_ => some k_ ≠ ((.slice Ao38 t384.length co38) : Value).ownBlock ∧ some k_ ≠ ((.slice Ao43 t387.length co43) : Value).ownBlock ∧ k_ ≠ gb362 ∧ k_ ≠ gb363 ∧ k_ ≠ gb383 ∧ k_ ≠ gb392) (.slice Ao22 t374.length co22) t374) ∧ Aside0 (Kd.V k47 47 w' w.heap.size (fun k_ => some k_ ≠ ((.slice Ao38 t384.length co38) : Value).ownBlock ∧ some k_ ≠ ((.slice Ao43 t387.length co43) : Value).ownBlock ∧ k_ ≠ gb362 ∧ k_ ≠ gb363 ∧ k_ ≠ gb383 ∧ k_ ≠ gb392) (.slice Ao26 t377.length co26) t377) ∧ Aside0 (Kd.R Kd.string 9 w' w.heap.size (fun _ => True) (.slice Ao38 t384.length co38) t384) ∧ Aside0 (Kd.R k47 47 w' w.heap.size (fun _ => True) (.slice Ao43 t387.length co43) t387) ∧ Aside0 (w'.heap[gb362]? = some (.cells #[(.slice A0_0 l0_0.length c0_0), (.slice A0_1 l0_1.length c0_1), .int .i64 a0_2, .bool a0_3, .int .i64 a0_4, .string a0_5, .int .i64 a0_6] 54 (0, 0))) ∧ Aside0 (w'.heap[gb363]? = some (.cells #[(.slice Ao15 t365.length co15), (.slice Ao17 t368.length co17), .int .i64 t371, .bool t372] 25 (0, 0))) ∧ Aside0 (w'.heap[gb383]? = some (.cells #[(.slice Ao22 t374.length co22), (.slice Ao26 t377.length co26), .int .i64 t380, .bool t381] 25 (0, 0))) ∧ Aside0 (w'.heap[gb392]? = some (.cells #[(.slice Ao38 t384.length co38), (.slice Ao43 t387.length co43), .int .i64 t390, .bool t391] 25 (0, 0))) ∧ Aside0 (Below w.heap.size w w'))
                    case atStart => exact ⟨(0), (by first | rfl | (simp; done) | (simp [*]; done)), H', ⟨Nat.le_refl _⟩, ⟨by (with_reducible repeat (first | apply Kd.V_alloc | apply Kd.V_drewN | apply Kd.V_drew)); exact HO_364000.out⟩, ⟨by (with_reducible repeat (first | apply Kd.V_alloc | apply Kd.V_drewN | apply Kd.V_drew)); exact HO_364001.out⟩, ⟨by (with_reducible repeat (first | apply Kd.V_alloc | apply Kd.V_drewN | apply Kd.V_drew)); exact HO_384000.out⟩, ⟨by (with_reducible repeat (first | apply Kd.V_alloc | apply Kd.V_drewN | apply Kd.V_drew)); exact HO_384001.out⟩, ⟨by (with_reducible repeat (first | apply Kd.R_alloc | apply Kd.R_drewN | apply Kd.R_drew)); exact HO_393000.out⟩, ⟨by (with_reducible repeat (first | apply Kd.R_alloc | apply Kd.R_drewN | apply Kd.R_drew)); exact HO_393001.out⟩, ⟨by (with_reducible repeat (first | refine blk_drewN ?_ _ | refine blk_drew ?_ | refine blk_alloc ?_ _)); exact BK362.out⟩, ⟨by (with_reducible repeat (first | refine blk_drewN ?_ _ | refine blk_drew ?_ | refine blk_alloc ?_ _)); exact BK363.out⟩, ⟨by (with_reducible repeat (first | refine blk_drewN ?_ _ | refine blk_drew ?_ | refine blk_alloc ?_ _)); exact BK383.out⟩, ⟨by (with_reducible repeat (first | refine blk_drewN ?_ _ | refine blk_drew ?_ | refine blk_alloc ?_ _)); exact BK392.out⟩, ⟨by repeat (first | (with_reducible first | exact HB.out | apply below_alloc | apply pw_below_drewN | apply below_drew1 | refine below_set ?_ GE362.out | refine below_set ?_ GE363.out | refine below_set ?_ GE383.out | refine below_set ?_ GE392.out) | exact HB.out)⟩⟩
                    case round =>
                      clear H'
                      try clear c2
                      try clear p2
                      try clear c3
                      try clear c4
                      try clear c5
                      try clear c6
                      try clear c9
                      try clear c23
                      try clear c24
                      try clear c27
                      try clear c27b0
                      try clear c27b1
                      try clear c28
                      try clear c28b0
                      try clear c28b1
                      try clear c29
                      try clear c33
                      try clear c34
                      try clear c39
                      try clear c40
                      try clear c41
                      try clear c45
                      try clear c45b0
                      try clear c45b1
                      try clear c46
                      try clear c47
                      try clear c48
                      try clear c50
                      try clear c51
                      try clear c53
                      try clear c55
                      try clear c55b0
                      try clear c55b1
                      try clear c56
                      try clear c56b0
                      try clear c56b1
                      try clear c57
                      try clear c57b0
                      try clear c57b1
                      try clear c58
                      try clear c58b0
                      try clear c58b1
                      try clear c59
                      try clear c59b0
                      try clear c59b1
                      try clear c60
                      try clear hcz10_0
                      try clear hcz10_1
                      try clear hcz10_2
                      try clear hcz10_3
                      try clear hcz11_0
                      try clear hcz11_1
                      try clear hcz11_2
                      try clear hcz11_3
                      try clear hcz11_4
                      try clear hcz11_5
                      try clear hcz11_6
                      try clear hcz13_0
                      try clear hcz13_1
                      try clear hcz13_2
                      try clear hcz13_3
                      try clear hcz16_0
                      try clear hcz16_1
                      try clear hcz16_2
                      try clear hcz16_3
                      try clear hcz19_0
                      try clear hcz19_1
                      try clear hcz19_2
                      try clear hcz19_3
                      try clear hcz25_0
                      try clear hcz25_1
                      try clear hcz25_2
                      try clear hcz25_3
                      try clear hcz35_0
                      try clear hcz35_1
                      try clear hcz35_2
                      try clear hcz35_3
                      try clear hcz42_0
                      try clear hcz42_1
                      try clear hcz42_2
                      try clear hcz42_3
                      try clear hcz49_0
                      try clear hcz49_1
                      try clear hcz49_2
                      try clear hcz49_3
                      try clear hcz52_0
                      try clear hcz52_1
                      try clear hcz52_2
                      try clear hcz52_3
                      try clear hcz7_0
                      try clear hcz7_1
                      try clear hcz7_2
                      try clear hcz7_3
                      try clear hcz7_4
                      try clear hcz7_5
                      try clear hcz7_6
                      try clear hfz10_0
                      try clear hfz10_1
                      try clear hfz10_2
                      try clear hfz10_3
                      try clear hfz11_0
                      try clear hfz11_1
                      try clear hfz11_2
                      try clear hfz11_3
                      try clear hfz11_4
                      try clear hfz11_5
                      try clear hfz11_6
                      try clear hfz13_0
                      try clear hfz13_1
                      try clear hfz13_2
                      try clear hfz13_3
                      try clear hfz16_0
                      try clear hfz16_1
                      try clear hfz16_2
                      try clear hfz16_3
                      try clear hfz19_0
                      try clear hfz19_1
                      try clear hfz19_2
                      try clear hfz19_3
                      try clear hfz25_0
                      try clear hfz25_1
                      try clear hfz25_2
                      try clear hfz25_3
                      try clear hfz35_0
                      try clear hfz35_1
                      try clear hfz35_2
                      try clear hfz35_3
                      try clear hfz42_0
                      try clear hfz42_1
                      try clear hfz42_2
                      try clear hfz42_3
                      try clear hfz49_0
                      try clear hfz49_1
                      try clear hfz49_2
                      try clear hfz49_3
                      try clear hfz52_0
                      try clear hfz52_1
                      try clear hfz52_2
                      try clear hfz52_3
                      try clear hfz7_0
                      try clear hfz7_1
                      try clear hfz7_2
                      try clear hfz7_3
                      try clear hfz7_4
                      try clear hfz7_5
                      try clear hfz7_6
                      try clear p2
                      obtain ⟨x14_4, rfl, HA, HK4, HO_364000, HO_364001, HO_384000, HO_384001, HO_393000, HO_393001, BK362, BK363, BK383, BK392, HB⟩ := hrel
                      cases gk with
                      | zero => exact absurd HA.out (by simp [hogsheadlaw08_DiskTorn.l0])
                      | succ k4 =>
                        have H := HA.out
                        clear HA
                        simp only [hogsheadlaw08_DiskTorn.l0] at H
                        by_cases c61 : x14_4 < (t365.length : Int)
                        · rw [if_pos c61] at H
                          have c61b0 : decide (x14_4 < (t365.length : Int)) = true := decide_eq_true c61
                          clear c61
                          have HC62 := Aside0.mk H
                          clear H
                          have hnb63 := NB363_362.out
                          have hnc63 := NB362_363.out
                          have hnb64 := NB363_383.out
                          have hnc64 := NB383_363.out
                          have hnb65 := NB363_392.out
                          have hnc65 := NB392_363.out
                          have hcz66_0 : wr.cell? ⟨gb363, 0, none⟩ = some (.slice Ao15 t365.length co15) := (blk_cell BK363.out 0).trans rfl
                          have hcz66_1 : wr.cell? ⟨gb363, 1, none⟩ = some (.slice Ao17 t368.length co17) := (blk_cell BK363.out 1).trans rfl
                          have hcz66_2 : wr.cell? ⟨gb363, 2, none⟩ = some (.int .i64 t371) := (blk_cell BK363.out 2).trans rfl
                          have hcz66_3 : wr.cell? ⟨gb363, 3, none⟩ = some (.bool t372) := (blk_cell BK363.out 3).trans rfl
                          have hfz66_0 := blk_frozen BK363.out 0
                          have hfz66_1 := blk_frozen BK363.out 1
                          have hfz66_2 := blk_frozen BK363.out 2
                          have hfz66_3 := blk_frozen BK363.out 3
                          go_upto_region 19 with (fail)
                          repeat (go_quiet (fail); go_upto_region 19 with (fail))
                          go_cut [115] (fun v115 wc => ∃ (kq : Nat) (x115_61 : Bool), v115 = .bool x115_61 ∧ Aside0 (hogsheadlaw08_DiskTorn.j4 kq a0_4 t364 x14_4 x115_61 t365 t368 t371 t372 t384 t387 t390 t391 = some r) ∧ Aside0 (kq ≤ k4) ∧ Aside0 (Kd.V Kd.string 9 wc w.heap.size (fun k_ => some k_ ≠ ((.slice Ao38 t384.length co38) : Value).ownBlock ∧ some k_ ≠ ((.slice Ao43 t387.length co43) : Value).ownBlock ∧ k_ ≠ gb362 ∧ k_ ≠ gb363 ∧ k_ ≠ gb383 ∧ k_ ≠ gb392) (.slice Ao15 t365.length co15) t365) ∧ Aside0 (Kd.V k47 47 wc w.heap.size (fun k_ => some k_ ≠ ((.slice Ao38 t384.length co38) : Value).ownBlock ∧ some k_ ≠ ((.slice Ao43 t387.length co43) : Value).ownBlock ∧ k_ ≠ gb362 ∧ k_ ≠ gb363 ∧ k_ ≠ gb383 ∧ k_ ≠ gb392) (.slice Ao17 t368.length co17) t368) ∧ Aside0 (Kd.V Kd.string 9 wc w.heap.size (fun k_ => some k_ ≠ ((.slice Ao38 t384.length co38) : Value).ownBlock ∧ some k_ ≠ ((.slice Ao43 t387.length co43) : Value).ownBlock ∧ k_ ≠ gb362 ∧ k_ ≠ gb363 ∧ k_ ≠ gb383 ∧ k_ ≠ gb392) (.slice Ao22 t374.length co22) t374) ∧ Aside0 (Kd.V k47 47 wc w.heap.size (fun k_ => some k_ ≠ ((.slice Ao38 t384.length co38) : Value).ownBlock ∧ some k_ ≠ ((.slice Ao43 t387.length co43) : Value).ownBlock ∧ k_ ≠ gb362 ∧ k_ ≠ gb363 ∧ k_ ≠ gb383 ∧ k_ ≠ gb392) (.slice Ao26 t377.length co26) t377) ∧ Aside0 (Kd.R Kd.string 9 wc w.heap.size (fun _ => True) (.slice Ao38 t384.length co38) t384) ∧ Aside0 (Kd.R k47 47 wc w.heap.size (fun _ => True) (.slice Ao43 t387.length co43) t387) ∧ Aside0 (wc.heap[gb362]? = some (.cells #[(.slice A0_0 l0_0.length c0_0), (.slice A0_1 l0_1.length c0_1), .int .i64 a0_2, .bool a0_3, .int .i64 a0_4, .string a0_5, .int .i64 a0_6] 54 (0, 0))) ∧ Aside0 (wc.heap[gb363]? = some (.cells #[(.slice Ao15 t365.length co15), (.slice Ao17 t368.length co17), .int .i64 t371, .bool t372] 25 (0, 0))) ∧ Aside0 (wc.heap[gb383]? = some (.cells #[(.slice Ao22 t374.length co22), (.slice Ao26 t377.length co26), .int .i64 t380, .bool t381] 25 (0, 0))) ∧ Aside0 (wc.heap[gb392]? = some (.cells #[(.slice Ao38 t384.length co38), (.slice Ao43 t387.length co43), .int .i64 t390, .bool t391] 25 (0, 0))) ∧ Aside0 (Below w.heap.size w wc))
                          case first =>
                            have H := HC62.out
                            clear HC62
                            by_cases c67 : x14_4 = a0_4
                            · rw [if_pos c67] at H
                              have c67b0 : (x14_4 == a0_4) = true := beq_iff_eq.mpr c67
                              have c67b1 : (x14_4 != a0_4) = false := bne_eq_false_iff_eq.mpr c67
                              clear c67
                              (first | rw [c67b0] | (simp only [i64_w, i32_w]; rw [c67b0]) | skip)
                              have H' := Aside0.mk H
                              clear H
                              go_wp2
                              repeat (go_quiet (fail); try go_wp2)
                              go_meet
                              case rel => exact ⟨_, (false), (by first | rfl | (simp; done) | (simp [*]; done)), H', ⟨by have := HJ4.out; have := HJ31.out; have := HJ53.out; have := HK4.out; first | omega | exact Nat.le_refl _⟩, ⟨by (with_reducible repeat (first | apply Kd.V_alloc | apply Kd.V_drewN | apply Kd.V_drew)); exact HO_364000.out⟩, ⟨by (with_reducible repeat (first | apply Kd.V_alloc | apply Kd.V_drewN | apply Kd.V_drew)); exact HO_364001.out⟩, ⟨by (with_reducible repeat (first | apply Kd.V_alloc | apply Kd.V_drewN | apply Kd.V_drew)); exact HO_384000.out⟩, ⟨by (with_reducible repeat (first | apply Kd.V_alloc | apply Kd.V_drewN | apply Kd.V_drew)); exact HO_384001.out⟩, ⟨by (with_reducible repeat (first | apply Kd.R_alloc | apply Kd.R_drewN | apply Kd.R_drew)); exact HO_393000.out⟩, ⟨by (with_reducible repeat (first | apply Kd.R_alloc | apply Kd.R_drewN | apply Kd.R_drew)); exact HO_393001.out⟩, ⟨by (with_reducible repeat (first | refine blk_drewN ?_ _ | refine blk_drew ?_ | refine blk_alloc ?_ _)); exact BK362.out⟩, ⟨by (with_reducible repeat (first | refine blk_drewN ?_ _ | refine blk_drew ?_ | refine blk_alloc ?_ _)); exact BK363.out⟩, ⟨by (with_reducible repeat (first | refine blk_drewN ?_ _ | refine blk_drew ?_ | refine blk_alloc ?_ _)); exact BK383.out⟩, ⟨by (with_reducible repeat (first | refine blk_drewN ?_ _ | refine blk_drew ?_ | refine blk_alloc ?_ _)); exact BK392.out⟩, ⟨by repeat (first | (with_reducible first | exact HB.out | apply below_alloc | apply pw_below_drewN | apply below_drew1 | refine below_set ?_ GE362.out | refine below_set ?_ GE363.out | refine below_set ?_ GE383.out | refine below_set ?_ GE392.out) | exact HB.out)⟩⟩
                            · rw [if_neg c67] at H
                              have c67b0 : (x14_4 == a0_4) = false := beq_eq_false_iff_ne.mpr c67
                              have c67b1 : (x14_4 != a0_4) = true := bne_iff_ne.mpr c67
                              (first | rw [c67b0] | (simp only [i64_w, i32_w]; rw [c67b0]) | skip)
                              by_cases c68 : 0 ≤ x14_4
                              · rw [if_pos c68] at H
                                have c68b0 : decide (0 ≤ x14_4) = true := decide_eq_true c68
                                clear c68
                                by_cases c69 : x14_4 < (t384.length : Int)
                                · rw [if_pos c69] at H
                                  have c69b0 : decide (x14_4 < (t384.length : Int)) = true := decide_eq_true c69
                                  clear c69
                                  have H' := Aside0.mk H
                                  clear H
                                  have hnb70 := NB392_362.out
                                  have hnc70 := NB362_392.out
                                  have hnb71 := NB392_363.out
                                  have hnc71 := NB363_392.out
                                  have hnb72 := NB392_383.out
                                  have hnc72 := NB383_392.out
                                  have hcz73_0 : wr.cell? ⟨gb392, 0, none⟩ = some (.slice Ao38 t384.length co38) := (blk_cell BK392.out 0).trans rfl
                                  have hcz73_1 : wr.cell? ⟨gb392, 1, none⟩ = some (.slice Ao43 t387.length co43) := (blk_cell BK392.out 1).trans rfl
                                  have hcz73_2 : wr.cell? ⟨gb392, 2, none⟩ = some (.int .i64 t390) := (blk_cell BK392.out 2).trans rfl
                                  have hcz73_3 : wr.cell? ⟨gb392, 3, none⟩ = some (.bool t391) := (blk_cell BK392.out 3).trans rfl
                                  have hfz73_0 := blk_frozen BK392.out 0
                                  have hfz73_1 := blk_frozen BK392.out 1
                                  have hfz73_2 := blk_frozen BK392.out 2
                                  have hfz73_3 := blk_frozen BK392.out 3
                                  have p395 : 0 ≤ (x14_4 : Int) := of_decide_eq_true (by first | (with_reducible assumption) | assumption)
                                  have q395 : x14_4 < (t384.length : Int) := of_decide_eq_true (by first | (with_reducible assumption) | assumption)
                                  obtain ⟨ad395, e395, hx395_0⟩ := Kd.at_string (Kd.R_reads' HO_393000.out).2.2 x14_4 p395 q395
                                  cases e395
                                  replace p395 := eq_true p395
                                  replace q395 := eq_true q395
                                  have hnb74 := NB363_362.out
                                  have hnc74 := NB362_363.out
                                  have hnb75 := NB363_383.out
                                  have hnc75 := NB383_363.out
                                  have hcz76_0 : wr.cell? ⟨gb363, 0, none⟩ = some (.slice Ao15 t365.length co15) := (blk_cell BK363.out 0).trans rfl
                                  have hcz76_1 : wr.cell? ⟨gb363, 1, none⟩ = some (.slice Ao17 t368.length co17) := (blk_cell BK363.out 1).trans rfl
                                  have hcz76_2 : wr.cell? ⟨gb363, 2, none⟩ = some (.int .i64 t371) := (blk_cell BK363.out 2).trans rfl
                                  have hcz76_3 : wr.cell? ⟨gb363, 3, none⟩ = some (.bool t372) := (blk_cell BK363.out 3).trans rfl
                                  have hfz76_0 := blk_frozen BK363.out 0
                                  have hfz76_1 := blk_frozen BK363.out 1
                                  have hfz76_2 := blk_frozen BK363.out 2
                                  have hfz76_3 := blk_frozen BK363.out 3
                                  have p396 : 0 ≤ (x14_4 : Int) := of_decide_eq_true (by first | (with_reducible assumption) | assumption)
                                  have q396 : x14_4 < (t365.length : Int) := of_decide_eq_true (by first | (with_reducible assumption) | assumption)
                                  obtain ⟨ad396, e396, hx396_0⟩ := Kd.at_string (Kd.V_reads' HO_364000.out).2.2 x14_4 p396 q396
                                  cases e396
                                  replace p396 := eq_true p396
                                  replace q396 := eq_true q396
                                  go_wp2
                                  repeat (go_quiet (fail); try go_wp2)
                                  go_meet
                                  case rel => exact ⟨_, (((rdOf ByteArray.empty t384 x14_4).toList != (rdOf ByteArray.empty t365 x14_4).toList)), (by first | rfl | (simp; done) | (simp [*]; done)), H', ⟨by have := HJ4.out; have := HJ31.out; have := HJ53.out; have := HK4.out; first | omega | exact Nat.le_refl _⟩, ⟨by (with_reducible repeat (first | apply Kd.V_alloc | apply Kd.V_drewN | apply Kd.V_drew)); exact HO_364000.out⟩, ⟨by (with_reducible repeat (first | apply Kd.V_alloc | apply Kd.V_drewN | apply Kd.V_drew)); exact HO_364001.out⟩, ⟨by (with_reducible repeat (first | apply Kd.V_alloc | apply Kd.V_drewN | apply Kd.V_drew)); exact HO_384000.out⟩, ⟨by (with_reducible repeat (first | apply Kd.V_alloc | apply Kd.V_drewN | apply Kd.V_drew)); exact HO_384001.out⟩, ⟨by (with_reducible repeat (first | apply Kd.R_alloc | apply Kd.R_drewN | apply Kd.R_drew)); exact HO_393000.out⟩, ⟨by (with_reducible repeat (first | apply Kd.R_alloc | apply Kd.R_drewN | apply Kd.R_drew)); exact HO_393001.out⟩, ⟨by (with_reducible repeat (first | refine blk_drewN ?_ _ | refine blk_drew ?_ | refine blk_alloc ?_ _)); exact BK362.out⟩, ⟨by (with_reducible repeat (first | refine blk_drewN ?_ _ | refine blk_drew ?_ | refine blk_alloc ?_ _)); exact BK363.out⟩, ⟨by (with_reducible repeat (first | refine blk_drewN ?_ _ | refine blk_drew ?_ | refine blk_alloc ?_ _)); exact BK383.out⟩, ⟨by (with_reducible repeat (first | refine blk_drewN ?_ _ | refine blk_drew ?_ | refine blk_alloc ?_ _)); exact BK392.out⟩, ⟨by repeat (first | (with_reducible first | exact HB.out | apply below_alloc | apply pw_below_drewN | apply below_drew1 | refine below_set ?_ GE362.out | refine below_set ?_ GE363.out | refine below_set ?_ GE383.out | refine below_set ?_ GE392.out) | exact HB.out)⟩⟩
                                · rw [if_neg c69] at H
                                  exact absurd H (by simp)
                              · rw [if_neg c68] at H
                                exact absurd H (by simp)
                          case rest =>
                            clear HC62
                            try clear c2
                            try clear p2
                            try clear c3
                            try clear p3
                            try clear q3
                            try clear hx3
                            try clear c4
                            try clear c5
                            try clear c6
                            try clear c7
                            try clear c9
                            try clear c23
                            try clear c24
                            try clear c27
                            try clear c27b0
                            try clear c27b1
                            try clear c28
                            try clear c28b0
                            try clear c28b1
                            try clear c29
                            try clear c33
                            try clear c34
                            try clear c39
                            try clear p39
                            try clear q39
                            try clear hx39
                            try clear c40
                            try clear c41
                            try clear c45
                            try clear c45b0
                            try clear c45b1
                            try clear c46
                            try clear c47
                            try clear c48
                            try clear c50
                            try clear c51
                            try clear c53
                            try clear c55
                            try clear c55b0
                            try clear c55b1
                            try clear c56
                            try clear c56b0
                            try clear c56b1
                            try clear c57
                            try clear c57b0
                            try clear c57b1
                            try clear c58
                            try clear c58b0
                            try clear c58b1
                            try clear c59
                            try clear c59b0
                            try clear c59b1
                            try clear c60
                            try clear c61
                            try clear c61b0
                            try clear c63
                            try clear c64
                            try clear c65
                            try clear c67
                            try clear c67b0
                            try clear c67b1
                            try clear c68
                            try clear c68b0
                            try clear c69
                            try clear c69b0
                            try clear c70
                            try clear c71
                            try clear c72
                            try clear c74
                            try clear c75
                            try clear hcz10_0
                            try clear hcz10_1
                            try clear hcz10_2
                            try clear hcz10_3
                            try clear hcz11_0
                            try clear hcz11_1
                            try clear hcz11_2
                            try clear hcz11_3
                            try clear hcz11_4
                            try clear hcz11_5
                            try clear hcz11_6
                            try clear hcz13_0
                            try clear hcz13_1
                            try clear hcz13_2
                            try clear hcz13_3
                            try clear hcz16_0
                            try clear hcz16_1
                            try clear hcz16_2
                            try clear hcz16_3
                            try clear hcz19_0
                            try clear hcz19_1
                            try clear hcz19_2
                            try clear hcz19_3
                            try clear hcz25_0
                            try clear hcz25_1
                            try clear hcz25_2
                            try clear hcz25_3
                            try clear hcz35_0
                            try clear hcz35_1
                            try clear hcz35_2
                            try clear hcz35_3
                            try clear hcz42_0
                            try clear hcz42_1
                            try clear hcz42_2
                            try clear hcz42_3
                            try clear hcz49_0
                            try clear hcz49_1
                            try clear hcz49_2
                            try clear hcz49_3
                            try clear hcz52_0
                            try clear hcz52_1
                            try clear hcz52_2
                            try clear hcz52_3
                            try clear hcz66_0
                            try clear hcz66_1
                            try clear hcz66_2
                            try clear hcz66_3
                            try clear hcz73_0
                            try clear hcz73_1
                            try clear hcz73_2
                            try clear hcz73_3
                            try clear hcz76_0
                            try clear hcz76_1
                            try clear hcz76_2
                            try clear hcz76_3
                            try clear hcz7_0
                            try clear hcz7_1
                            try clear hcz7_2
                            try clear hcz7_3
                            try clear hcz7_4
                            try clear hcz7_5
                            try clear hcz7_6
                            try clear hfz10_0
                            try clear hfz10_1
                            try clear hfz10_2
                            try clear hfz10_3
                            try clear hfz11_0
                            try clear hfz11_1
                            try clear hfz11_2
                            try clear hfz11_3
                            try clear hfz11_4
                            try clear hfz11_5
                            try clear hfz11_6
                            try clear hfz13_0
                            try clear hfz13_1
                            try clear hfz13_2
                            try clear hfz13_3
                            try clear hfz16_0
                            try clear hfz16_1
                            try clear hfz16_2
                            try clear hfz16_3
                            try clear hfz19_0
                            try clear hfz19_1
                            try clear hfz19_2
                            try clear hfz19_3
                            try clear hfz25_0
                            try clear hfz25_1
                            try clear hfz25_2
                            try clear hfz25_3
                            try clear hfz35_0
                            try clear hfz35_1
                            try clear hfz35_2
                            try clear hfz35_3
                            try clear hfz42_0
                            try clear hfz42_1
                            try clear hfz42_2
                            try clear hfz42_3
                            try clear hfz49_0
                            try clear hfz49_1
                            try clear hfz49_2
                            try clear hfz49_3
                            try clear hfz52_0
                            try clear hfz52_1
                            try clear hfz52_2
                            try clear hfz52_3
                            try clear hfz66_0
                            try clear hfz66_1
                            try clear hfz66_2
                            try clear hfz66_3
                            try clear hfz73_0
                            try clear hfz73_1
                            try clear hfz73_2
                            try clear hfz73_3
                            try clear hfz76_0
                            try clear hfz76_1
                            try clear hfz76_2
                            try clear hfz76_3
                            try clear hfz7_0
                            try clear hfz7_1
                            try clear hfz7_2
                            try clear hfz7_3
                            try clear hfz7_4
                            try clear hfz7_5
                            try clear hfz7_6
                            try clear hx395_0
                            try clear hx396_0
                            try clear p2
                            try clear p395
                            try clear p396
                            try clear q395
                            try clear q396
                            obtain ⟨kq, x115_61, rfl, HA, HJ61, HO_364000, HO_364001, HO_384000, HO_384001, HO_393000, HO_393001, BK362, BK363, BK383, BK392, HB⟩ := hcut
                            cases kq with
                            | zero => exact absurd HA.out (by simp [hogsheadlaw08_DiskTorn.j4])
                            | succ kj61 =>
                              have H := HA.out
                              clear HA
                              simp only [hogsheadlaw08_DiskTorn.j4] at H
                              by_cases c77 : x115_61 = true
                              · subst c77
                                have H1 : (some false) = some r := by rw [if_pos rfl] at H; exact H
                                clear H
                                have H := H1
                                clear H1
                                obtain rfl := Option.some.inj H
                                go_wp2
                                repeat (go_quiet (fail); try go_wp2)
                                go_ret
                                exact ⟨by first | rfl | (simp [errW_none, errW_some] <;> rfl) | (simp [*, errW_none, errW_some] <;> rfl), by repeat (first | (with_reducible first | exact HB.out | apply below_alloc | apply pw_below_drewN | apply below_drew1 | refine below_set ?_ GE362.out | refine below_set ?_ GE363.out | refine below_set ?_ GE383.out | refine below_set ?_ GE392.out) | exact HB.out)⟩
                              · replace c77 := Bool.eq_false_iff.mpr c77
                                subst c77
                                have H1 : (hogsheadlaw08_DiskTorn.l0 kj61 a0_4 t364 (wrap64 (x14_4 + 1)) t365 t368 t371 t372 t384 t387 t390 t391) = some r := by rw [if_neg (show ¬ (false = true) by decide)] at H; exact H
                                clear H
                                have H := H1
                                clear H1
                                have H' := Aside0.mk H
                                clear H
                                go_wp2
                                repeat (go_quiet (fail); try go_wp2)
                                go_roundg kj61
                                case measure => have := HJ4.out; have := HJ31.out; have := HJ53.out; have := HK4.out; have := HJ61.out; omega
                                case rel => exact ⟨(wrap64 (x14_4 + 1)), (by first | rfl | (simp; done) | (simp [*]; done)), H', ⟨by have := HJ4.out; have := HJ31.out; have := HJ53.out; have := HK4.out; have := HJ61.out; omega⟩, ⟨by (with_reducible repeat (first | apply Kd.V_alloc | apply Kd.V_drewN | apply Kd.V_drew)); exact HO_364000.out⟩, ⟨by (with_reducible repeat (first | apply Kd.V_alloc | apply Kd.V_drewN | apply Kd.V_drew)); exact HO_364001.out⟩, ⟨by (with_reducible repeat (first | apply Kd.V_alloc | apply Kd.V_drewN | apply Kd.V_drew)); exact HO_384000.out⟩, ⟨by (with_reducible repeat (first | apply Kd.V_alloc | apply Kd.V_drewN | apply Kd.V_drew)); exact HO_384001.out⟩, ⟨by (with_reducible repeat (first | apply Kd.R_alloc | apply Kd.R_drewN | apply Kd.R_drew)); exact HO_393000.out⟩, ⟨by (with_reducible repeat (first | apply Kd.R_alloc | apply Kd.R_drewN | apply Kd.R_drew)); exact HO_393001.out⟩, ⟨by (with_reducible repeat (first | refine blk_drewN ?_ _ | refine blk_drew ?_ | refine blk_alloc ?_ _)); exact BK362.out⟩, ⟨by (with_reducible repeat (first | refine blk_drewN ?_ _ | refine blk_drew ?_ | refine blk_alloc ?_ _)); exact BK363.out⟩, ⟨by (with_reducible repeat (first | refine blk_drewN ?_ _ | refine blk_drew ?_ | refine blk_alloc ?_ _)); exact BK383.out⟩, ⟨by (with_reducible repeat (first | refine blk_drewN ?_ _ | refine blk_drew ?_ | refine blk_alloc ?_ _)); exact BK392.out⟩, ⟨by repeat (first | (with_reducible first | exact HB.out | apply below_alloc | apply pw_below_drewN | apply below_drew1 | refine below_set ?_ GE362.out | refine below_set ?_ GE363.out | refine below_set ?_ GE383.out | refine below_set ?_ GE392.out) | exact HB.out)⟩⟩
                        · rw [if_neg c61] at H
                          have c61b0 : decide (x14_4 < (t365.length : Int)) = false := decide_eq_false c61
                          clear c61
                          obtain rfl := Option.some.inj H
                          have hnb78 := NB363_362.out
                          have hnc78 := NB362_363.out
                          have hnb79 := NB363_383.out
                          have hnc79 := NB383_363.out
                          have hnb80 := NB363_392.out
                          have hnc80 := NB392_363.out
                          have hcz81_0 : wr.cell? ⟨gb363, 0, none⟩ = some (.slice Ao15 t365.length co15) := (blk_cell BK363.out 0).trans rfl
                          have hcz81_1 : wr.cell? ⟨gb363, 1, none⟩ = some (.slice Ao17 t368.length co17) := (blk_cell BK363.out 1).trans rfl
                          have hcz81_2 : wr.cell? ⟨gb363, 2, none⟩ = some (.int .i64 t371) := (blk_cell BK363.out 2).trans rfl
                          have hcz81_3 : wr.cell? ⟨gb363, 3, none⟩ = some (.bool t372) := (blk_cell BK363.out 3).trans rfl
                          have hfz81_0 := blk_frozen BK363.out 0
                          have hfz81_1 := blk_frozen BK363.out 1
                          have hfz81_2 := blk_frozen BK363.out 2
                          have hfz81_3 := blk_frozen BK363.out 3
                          go_wp2
                          repeat (go_quiet (fail); try go_wp2)
                          go_ret
                          exact ⟨by first | rfl | (simp [errW_none, errW_some] <;> rfl) | (simp [*, errW_none, errW_some] <;> rfl), by repeat (first | (with_reducible first | exact HB.out | apply below_alloc | apply pw_below_drewN | apply below_drew1 | refine below_set ?_ GE362.out | refine below_set ?_ GE363.out | refine below_set ?_ GE383.out | refine below_set ?_ GE392.out) | exact HB.out)⟩

end Go.Proofs.Ytmaojfeikbdkhaa.PAll
