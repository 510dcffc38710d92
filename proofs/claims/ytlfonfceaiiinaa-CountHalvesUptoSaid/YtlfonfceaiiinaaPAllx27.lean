/- Functions of the program as plain Lean functions, and that each call comes to what they say. Laid by a program of this session (hprint.py); Lean checks it. -/
import Derived.Test.YtlfonfceaiiinaaPAllx0
import Derived.Test.YtlfonfceaiiinaaPAllx1
import Derived.Test.YtlfonfceaiiinaaPAllx3
import Derived.Test.YtlfonfceaiiinaaPAllx6
import Derived.Test.YtlfonfceaiiinaaPAllx15
namespace Go.Proofs.Ytlfonfceaiiinaa.PAll
open Go.RowKit Go.Proofs.YtlfonfceaiiinaaW.PrintWords Go.Proofs.YtlfonfceaiiinaaW.PrintLast Go.Proofs.YtlfonfceaiiinaaW.PrintMore
attribute [local go_sem] max2_int min2_int max_two min_two max_three min_three max_four min_four   -- for this text's walks alone
set_option linter.unusedVariables false
set_option linter.unusedSimpArgs false
attribute [local irreducible] World.setCell

attribute [local go_sem high] eqA29
/-! ### hogsheadlaw19_CountHalves: function 7 -/
mutual
def hogsheadlaw19_CountHalves.j0 : Nat → Bool → Option (Bool)
 | 0, _ => none
 | k + 1, x4 => some x4
def hogsheadlaw19_CountHalves.j1 : Nat → Bool → Option (Bool)
 | 0, _ => none
 | k + 1, x4 => some x4
end
def hogsheadlaw19_CountHalves.f (k : Nat) (l0 : List ByteArray) (l1 : List ByteArray) : Option (Bool) := (hogsheadlaw19_shown.f k).bind fun t275 => ((count_Weigh.f k l0 ([] : List (S102)) 0 false).bind fun bt276 => ((count_Weigh.f k l1 ([] : List (S102)) 0 false).bind fun bt281 => ((some (([] : List ByteArray) : List ByteArray)).bind fun y286 => (if y286.length + l0.length < 8796093022208 then ((some (y286 ++ l0 : List ByteArray)).bind fun y289 => (if y289.length + l1.length < 8796093022208 then ((count_Weigh.f k (y289 ++ l1) ([] : List (S102)) 0 false).bind fun bt295 => ((count_Sum.f k (([(⟨bt276.1, bt276.2.1, bt276.2.2.1, bt276.2.2.2⟩ : S29), (⟨bt281.1, bt281.2.1, bt281.2.2.1, bt281.2.2.2⟩ : S29)] : List (S29)))).bind fun bt303 => (if (wrap64 (bt295.1 + bt295.2.2.1)) < (wrap64 (bt303.1 + bt303.2.2.1)) then (if t275 = true then (if bt295.1 ≤ bt303.1 then (hogsheadlaw19_CountHalves.j0 k (decide (bt295.2.2.1 ≤ bt303.2.2.1))) else (hogsheadlaw19_CountHalves.j0 k false)) else (hogsheadlaw19_CountHalves.j0 k false)) else (if t275 = true then (hogsheadlaw19_CountHalves.j1 k (bt295.1 == bt303.1 && (bt295.2.1 == bt303.2.1 && (bt295.2.2.1 == bt303.2.2.1 && (bt295.2.2.2 == bt303.2.2.2))))) else (hogsheadlaw19_CountHalves.j1 k false))))) else (none))) else (none)))))
theorem hogsheadlaw19_CountHalves.mono_l : ∀ k, (∀ y0, LeO (hogsheadlaw19_CountHalves.j0 k y0) (hogsheadlaw19_CountHalves.j0 (k + 1) y0)) ∧ (∀ y0, LeO (hogsheadlaw19_CountHalves.j1 k y0) (hogsheadlaw19_CountHalves.j1 (k + 1) y0))
 | 0 => ⟨fun _ r h => by simp [hogsheadlaw19_CountHalves.j0] at h, fun _ r h => by simp [hogsheadlaw19_CountHalves.j1] at h⟩
 | k + 1 => by
  obtain ⟨ih0, ih1⟩ := hogsheadlaw19_CountHalves.mono_l k
  refine ⟨?_, ?_⟩
  ·intro y0
   unfold hogsheadlaw19_CountHalves.j0
   repeat' first
   | (with_reducible exact ih0 _)
   | (with_reducible exact ih1 _)
   | (with_reducible exact count_Sum.mono _ _)
   | (with_reducible exact count_Weigh.mono _ _ _ _ _)
   | (with_reducible exact hogsheadlaw19_shown.mono _)
   | (with_reducible exact LeO.refl _)
   | (with_reducible exact LeO.none _)
   | (with_reducible refine LeO.ite ?_ ?_)
   | (with_reducible refine LeO.bind ?_ (fun _ => ?_))
   | exact ih0 _
   | exact ih1 _
   | exact count_Sum.mono _ _
   | exact count_Weigh.mono _ _ _ _ _
   | exact hogsheadlaw19_shown.mono _
   | exact LeO.none _
   | refine LeO.ite ?_ ?_
   | refine LeO.bind ?_ (fun _ => ?_)
  ·intro y0
   unfold hogsheadlaw19_CountHalves.j1
   repeat' first
   | (with_reducible exact ih0 _)
   | (with_reducible exact ih1 _)
   | (with_reducible exact count_Sum.mono _ _)
   | (with_reducible exact count_Weigh.mono _ _ _ _ _)
   | (with_reducible exact hogsheadlaw19_shown.mono _)
   | (with_reducible exact LeO.refl _)
   | (with_reducible exact LeO.none _)
   | (with_reducible refine LeO.ite ?_ ?_)
   | (with_reducible refine LeO.bind ?_ (fun _ => ?_))
   | exact ih0 _
   | exact ih1 _
   | exact count_Sum.mono _ _
   | exact count_Weigh.mono _ _ _ _ _
   | exact hogsheadlaw19_shown.mono _
   | exact LeO.none _
   | refine LeO.ite ?_ ?_
   | refine LeO.bind ?_ (fun _ => ?_)
theorem hogsheadlaw19_CountHalves.mono : ∀ a0 a1 k, LeO (hogsheadlaw19_CountHalves.f k a0 a1) (hogsheadlaw19_CountHalves.f (k + 1) a0 a1) := by
 intro a0 a1 k
 obtain ⟨ih0, ih1⟩ := hogsheadlaw19_CountHalves.mono_l k
 unfold hogsheadlaw19_CountHalves.f
 repeat' first
   | (with_reducible exact ih0 _)
   | (with_reducible exact ih1 _)
   | (with_reducible exact count_Sum.mono _ _)
   | (with_reducible exact count_Weigh.mono _ _ _ _ _)
   | (with_reducible exact hogsheadlaw19_shown.mono _)
   | (with_reducible exact LeO.refl _)
   | (with_reducible exact LeO.none _)
   | (with_reducible refine LeO.ite ?_ ?_)
   | (with_reducible refine LeO.bind ?_ (fun _ => ?_))
   | exact ih0 _
   | exact ih1 _
   | exact count_Sum.mono _ _
   | exact count_Weigh.mono _ _ _ _ _
   | exact hogsheadlaw19_shown.mono _
   | exact LeO.none _
   | refine LeO.ite ?_ ?_
   | refine LeO.bind ?_ (fun _ => ?_)
set_option maxHeartbeats 40000000 in
set_option maxRecDepth 100000 in
theorem hogsheadlaw19_CountHalves.calls (k : Nat) (A0 : Option Addr) (c0 : Nat) (l0 : List ByteArray) (A1 : Option Addr) (c1 : Nat) (l1 : List ByteArray) (r : Bool) (w : World) (hr0 : Kd.C Kd.string w A0 l0.length l0) (hc0 : l0.length ≤ c0) (hr1 : Kd.C Kd.string w A1 l1.length l1) (hc1 : l1.length ≤ c1) (h : hogsheadlaw19_CountHalves.f k l0 l1 = some r) :
  Calls Try.prog 7 #[.slice A0 l0.length c0, .slice A1 l1.length c1] w fun e w' => e = .returned (.bool r) ∧ Below w.heap.size w w' := by
 have hu53 := Try.underlying53
 have hu29 := Try.underlying29
 have HR0 := qM hr0
 have HC0 := qM hc0
 clear hr0 hc0
 have HR1 := qM hr1
 have HC1 := qM hc1
 clear hr1 hc1
 have HB := qM (Below.refl w.heap.size w)
 have H : ((hogsheadlaw19_shown.f k).bind fun t275 => ((count_Weigh.f k l0 ([] : List (S102)) 0 false).bind fun bt276 => ((count_Weigh.f k l1 ([] : List (S102)) 0 false).bind fun bt281 => ((some (([] : List ByteArray) : List ByteArray)).bind fun y286 => (if y286.length + l0.length < 8796093022208 then ((some (y286 ++ l0 : List ByteArray)).bind fun y289 => (if y289.length + l1.length < 8796093022208 then ((count_Weigh.f k (y289 ++ l1) ([] : List (S102)) 0 false).bind fun bt295 => ((count_Sum.f k (([(⟨bt276.1, bt276.2.1, bt276.2.2.1, bt276.2.2.2⟩ : S29), (⟨bt281.1, bt281.2.1, bt281.2.2.1, bt281.2.2.2⟩ : S29)] : List (S29)))).bind fun bt303 => (if (wrap64 (bt295.1 + bt295.2.2.1)) < (wrap64 (bt303.1 + bt303.2.2.1)) then (if t275 = true then (if bt295.1 ≤ bt303.1 then (hogsheadlaw19_CountHalves.j0 k (decide (bt295.2.2.1 ≤ bt303.2.2.1))) else (hogsheadlaw19_CountHalves.j0 k false)) else (hogsheadlaw19_CountHalves.j0 k false)) else (if t275 = true then (hogsheadlaw19_CountHalves.j1 k (bt295.1 == bt303.1 && (bt295.2.1 == bt303.2.1 && (bt295.2.2.1 == bt303.2.2.1 && (bt295.2.2.2 == bt303.2.2.2))))) else (hogsheadlaw19_CountHalves.j1 k false))))) else (none))) else (none)))))) = some r := h
 clear h
 replace H := Option.bind_eq_some_iff.mp H
 obtain ⟨t275, A30, H⟩ := H
 replace H : ((count_Weigh.f k l0 ([] : List (S102)) 0 false).bind fun bt276 => ((count_Weigh.f k l1 ([] : List (S102)) 0 false).bind fun bt281 => ((some (([] : List ByteArray) : List ByteArray)).bind fun y286 => (if y286.length + l0.length < 8796093022208 then ((some (y286 ++ l0 : List ByteArray)).bind fun y289 => (if y289.length + l1.length < 8796093022208 then ((count_Weigh.f k (y289 ++ l1) ([] : List (S102)) 0 false).bind fun bt295 => ((count_Sum.f k (([(⟨bt276.1, bt276.2.1, bt276.2.2.1, bt276.2.2.2⟩ : S29), (⟨bt281.1, bt281.2.1, bt281.2.2.1, bt281.2.2.2⟩ : S29)] : List (S29)))).bind fun bt303 => (if (wrap64 (bt295.1 + bt295.2.2.1)) < (wrap64 (bt303.1 + bt303.2.2.1)) then (if t275 = true then (if bt295.1 ≤ bt303.1 then (hogsheadlaw19_CountHalves.j0 k (decide (bt295.2.2.1 ≤ bt303.2.2.1))) else (hogsheadlaw19_CountHalves.j0 k false)) else (hogsheadlaw19_CountHalves.j0 k false)) else (if t275 = true then (hogsheadlaw19_CountHalves.j1 k (bt295.1 == bt303.1 && (bt295.2.1 == bt303.2.1 && (bt295.2.2.1 == bt303.2.2.1 && (bt295.2.2.2 == bt303.2.2.2))))) else (hogsheadlaw19_CountHalves.j1 k false))))) else (none))) else (none))))) = some r := H
 have A3 := qM A30
 clear A30
 replace H := Option.bind_eq_some_iff.mp H
 obtain ⟨⟨t276, t277, t278, t279⟩, A40, H⟩ := H
 replace H : ((count_Weigh.f k l1 ([] : List (S102)) 0 false).bind fun bt281 => ((some (([] : List ByteArray) : List ByteArray)).bind fun y286 => (if y286.length + l0.length < 8796093022208 then ((some (y286 ++ l0 : List ByteArray)).bind fun y289 => (if y289.length + l1.length < 8796093022208 then ((count_Weigh.f k (y289 ++ l1) ([] : List (S102)) 0 false).bind fun bt295 => ((count_Sum.f k (([(⟨t276, t277, t278, t279⟩ : S29), (⟨bt281.1, bt281.2.1, bt281.2.2.1, bt281.2.2.2⟩ : S29)] : List (S29)))).bind fun bt303 => (if (wrap64 (bt295.1 + bt295.2.2.1)) < (wrap64 (bt303.1 + bt303.2.2.1)) then (if t275 = true then (if bt295.1 ≤ bt303.1 then (hogsheadlaw19_CountHalves.j0 k (decide (bt295.2.2.1 ≤ bt303.2.2.1))) else (hogsheadlaw19_CountHalves.j0 k false)) else (hogsheadlaw19_CountHalves.j0 k false)) else (if t275 = true then (hogsheadlaw19_CountHalves.j1 k (bt295.1 == bt303.1 && (bt295.2.1 == bt303.2.1 && (bt295.2.2.1 == bt303.2.2.1 && (bt295.2.2.2 == bt303.2.2.2))))) else (hogsheadlaw19_CountHalves.j1 k false))))) else (none))) else (none)))) = some r := H
 have A4 := qM A40
 clear A40
 replace H := Option.bind_eq_some_iff.mp H
 obtain ⟨⟨t281, t282, t283, t284⟩, A50, H⟩ := H
 replace H : ((some (([] : List ByteArray) : List ByteArray)).bind fun y286 => (if y286.length + l0.length < 8796093022208 then ((some (y286 ++ l0 : List ByteArray)).bind fun y289 => (if y289.length + l1.length < 8796093022208 then ((count_Weigh.f k (y289 ++ l1) ([] : List (S102)) 0 false).bind fun bt295 => ((count_Sum.f k (([(⟨t276, t277, t278, t279⟩ : S29), (⟨t281, t282, t283, t284⟩ : S29)] : List (S29)))).bind fun bt303 => (if (wrap64 (bt295.1 + bt295.2.2.1)) < (wrap64 (bt303.1 + bt303.2.2.1)) then (if t275 = true then (if bt295.1 ≤ bt303.1 then (hogsheadlaw19_CountHalves.j0 k (decide (bt295.2.2.1 ≤ bt303.2.2.1))) else (hogsheadlaw19_CountHalves.j0 k false)) else (hogsheadlaw19_CountHalves.j0 k false)) else (if t275 = true then (hogsheadlaw19_CountHalves.j1 k (bt295.1 == bt303.1 && (bt295.2.1 == bt303.2.1 && (bt295.2.2.1 == bt303.2.2.1 && (bt295.2.2.2 == bt303.2.2.2))))) else (hogsheadlaw19_CountHalves.j1 k false))))) else (none))) else (none))) = some r := H
 have A5 := qM A50
 clear A50
 obtain ⟨y286, hy286⟩ : ∃ y_ : List ByteArray, y_ = (([] : List ByteArray)) := ⟨_, rfl⟩
 replace H : (if y286.length + l0.length < 8796093022208 then ((some (y286 ++ l0 : List ByteArray)).bind fun y289 => (if y289.length + l1.length < 8796093022208 then ((count_Weigh.f k (y289 ++ l1) ([] : List (S102)) 0 false).bind fun bt295 => ((count_Sum.f k (([(⟨t276, t277, t278, t279⟩ : S29), (⟨t281, t282, t283, t284⟩ : S29)] : List (S29)))).bind fun bt303 => (if (wrap64 (bt295.1 + bt295.2.2.1)) < (wrap64 (bt303.1 + bt303.2.2.1)) then (if t275 = true then (if bt295.1 ≤ bt303.1 then (hogsheadlaw19_CountHalves.j0 k (decide (bt295.2.2.1 ≤ bt303.2.2.1))) else (hogsheadlaw19_CountHalves.j0 k false)) else (hogsheadlaw19_CountHalves.j0 k false)) else (if t275 = true then (hogsheadlaw19_CountHalves.j1 k (bt295.1 == bt303.1 && (bt295.2.1 == bt303.2.1 && (bt295.2.2.1 == bt303.2.2.1 && (bt295.2.2.2 == bt303.2.2.2))))) else (hogsheadlaw19_CountHalves.j1 k false))))) else (none))) else (none)) = some r := by first | (rw [hy286]; with_reducible exact H) | (have H2_ := (Option.bind_some _ _).symm.trans H; rw [hy286]; with_reducible exact H2_) | (have H2_ := (Option.bind_some _ _).symm.trans H; with_reducible exact H2_) | with_reducible exact H | (rw [hy286]; exact H) | exact H
 have Ny286 := qM hy286
 clear hy286
 by_cases c6 : y286.length + l0.length < 8796093022208
 ·rw [if_pos c6] at H
  have LMc6 := qM c6
  clear c6
  obtain ⟨y289, hy289⟩ : ∃ y_ : List ByteArray, y_ = (y286 ++ l0) := ⟨_, rfl⟩
  replace H : (if y289.length + l1.length < 8796093022208 then ((count_Weigh.f k (y289 ++ l1) ([] : List (S102)) 0 false).bind fun bt295 => ((count_Sum.f k (([(⟨t276, t277, t278, t279⟩ : S29), (⟨t281, t282, t283, t284⟩ : S29)] : List (S29)))).bind fun bt303 => (if (wrap64 (bt295.1 + bt295.2.2.1)) < (wrap64 (bt303.1 + bt303.2.2.1)) then (if t275 = true then (if bt295.1 ≤ bt303.1 then (hogsheadlaw19_CountHalves.j0 k (decide (bt295.2.2.1 ≤ bt303.2.2.1))) else (hogsheadlaw19_CountHalves.j0 k false)) else (hogsheadlaw19_CountHalves.j0 k false)) else (if t275 = true then (hogsheadlaw19_CountHalves.j1 k (bt295.1 == bt303.1 && (bt295.2.1 == bt303.2.1 && (bt295.2.2.1 == bt303.2.2.1 && (bt295.2.2.2 == bt303.2.2.2))))) else (hogsheadlaw19_CountHalves.j1 k false))))) else (none)) = some r := by first | (rw [hy289]; with_reducible exact H) | (have H2_ := (Option.bind_some _ _).symm.trans H; rw [hy289]; with_reducible exact H2_) | (have H2_ := (Option.bind_some _ _).symm.trans H; with_reducible exact H2_) | with_reducible exact H | (rw [hy289]; exact H) | exact H
  have Ny289 := qM hy289
  clear hy289
  by_cases c7 : y289.length + l1.length < 8796093022208
  ·rw [if_pos c7] at H
   have LMc7 := qM c7
   clear c7
   obtain ⟨y292, hy292⟩ : ∃ y_ : List ByteArray, y_ = (y289 ++ l1) := ⟨_, rfl⟩
   replace H : ((count_Weigh.f k y292 ([] : List (S102)) 0 false).bind fun bt295 => ((count_Sum.f k (([(⟨t276, t277, t278, t279⟩ : S29), (⟨t281, t282, t283, t284⟩ : S29)] : List (S29)))).bind fun bt303 => (if (wrap64 (bt295.1 + bt295.2.2.1)) < (wrap64 (bt303.1 + bt303.2.2.1)) then (if t275 = true then (if bt295.1 ≤ bt303.1 then (hogsheadlaw19_CountHalves.j0 k (decide (bt295.2.2.1 ≤ bt303.2.2.1))) else (hogsheadlaw19_CountHalves.j0 k false)) else (hogsheadlaw19_CountHalves.j0 k false)) else (if t275 = true then (hogsheadlaw19_CountHalves.j1 k (bt295.1 == bt303.1 && (bt295.2.1 == bt303.2.1 && (bt295.2.2.1 == bt303.2.2.1 && (bt295.2.2.2 == bt303.2.2.2))))) else (hogsheadlaw19_CountHalves.j1 k false))))) = some r := by first | (rw [hy292]; with_reducible exact H) | (have H2_ := (Option.bind_some _ _).symm.trans H; rw [hy292]; with_reducible exact H2_) | (have H2_ := (Option.bind_some _ _).symm.trans H; with_reducible exact H2_) | with_reducible exact H | (rw [hy292]; exact H) | exact H
   have Ny292 := qM hy292
   clear hy292
   replace H := Option.bind_eq_some_iff.mp H
   obtain ⟨⟨t295, t296, t297, t298⟩, A80, H⟩ := H
   replace H : ((count_Sum.f k (([(⟨t276, t277, t278, t279⟩ : S29), (⟨t281, t282, t283, t284⟩ : S29)] : List (S29)))).bind fun bt303 => (if (wrap64 (t295 + t297)) < (wrap64 (bt303.1 + bt303.2.2.1)) then (if t275 = true then (if t295 ≤ bt303.1 then (hogsheadlaw19_CountHalves.j0 k (decide (t297 ≤ bt303.2.2.1))) else (hogsheadlaw19_CountHalves.j0 k false)) else (hogsheadlaw19_CountHalves.j0 k false)) else (if t275 = true then (hogsheadlaw19_CountHalves.j1 k (t295 == bt303.1 && (t296 == bt303.2.1 && (t297 == bt303.2.2.1 && (t298 == bt303.2.2.2))))) else (hogsheadlaw19_CountHalves.j1 k false)))) = some r := H
   have A8 := qM A80
   clear A80
   obtain ⟨y300, hy300⟩ : ∃ y_ : List (S29), y_ = (([(⟨t276, t277, t278, t279⟩ : S29), (⟨t281, t282, t283, t284⟩ : S29)] : List (S29))) := ⟨_, rfl⟩
   replace H : ((count_Sum.f k y300).bind fun bt303 => (if (wrap64 (t295 + t297)) < (wrap64 (bt303.1 + bt303.2.2.1)) then (if t275 = true then (if t295 ≤ bt303.1 then (hogsheadlaw19_CountHalves.j0 k (decide (t297 ≤ bt303.2.2.1))) else (hogsheadlaw19_CountHalves.j0 k false)) else (hogsheadlaw19_CountHalves.j0 k false)) else (if t275 = true then (hogsheadlaw19_CountHalves.j1 k (t295 == bt303.1 && (t296 == bt303.2.1 && (t297 == bt303.2.2.1 && (t298 == bt303.2.2.2))))) else (hogsheadlaw19_CountHalves.j1 k false)))) = some r := by first | (rw [hy300]; with_reducible exact H) | (have H2_ := (Option.bind_some _ _).symm.trans H; rw [hy300]; with_reducible exact H2_) | (have H2_ := (Option.bind_some _ _).symm.trans H; with_reducible exact H2_) | with_reducible exact H | (rw [hy300]; exact H) | exact H
   have Ny300 := qM hy300
   clear hy300
   replace H := Option.bind_eq_some_iff.mp H
   obtain ⟨⟨t303, t304, t305, t306⟩, A90, H⟩ := H
   replace H : (if (wrap64 (t295 + t297)) < (wrap64 (t303 + t305)) then (if t275 = true then (if t295 ≤ t303 then (hogsheadlaw19_CountHalves.j0 k (decide (t297 ≤ t305))) else (hogsheadlaw19_CountHalves.j0 k false)) else (hogsheadlaw19_CountHalves.j0 k false)) else (if t275 = true then (hogsheadlaw19_CountHalves.j1 k (t295 == t303 && (t296 == t304 && (t297 == t305 && (t298 == t306))))) else (hogsheadlaw19_CountHalves.j1 k false))) = some r := H
   have A9 := qM A90
   clear A90
   by_cases c10 : (wrap64 (t295 + t297)) < (wrap64 (t303 + t305))
   ·rw [if_pos c10] at H
    have c10b0 : decide ((wrap64 (t295 + t297)) < (wrap64 (t303 + t305))) = true := decide_eq_true c10
    clear c10
    have HC11 := qM H
    clear H
    go_enter Try.func7, Try.ntmps7
    go_upto_region 9 with (first | ((with_reducible refine gate_callee (f := 8) rfl ?_); refine goesL_ (some 11) rfl rfl Try.func8 (by kernel_rfl) rfl #[] rfl (by (try simp only [List.map_toArray, List.map_cons, List.map_nil]); first | done | rfl | (simp only [List.length_drop, List.length_take]; rfl)) ?_; (with_reducible refine (hogsheadlaw19_shown.calls k  t275 _ A3.out).mono ?_); rintro e w12 ⟨rfl, hb⟩; refine ⟨_, rfl, ?_⟩; have n0_ := qM (eT (by repeat (first | (with_reducible first | exact HB.out | apply eA | apply eN | apply eD) | exact HB.out)) hb); clear HB; have HB := n0_; clear n0_; (try clear hb); (try clear hb2); (try clear hk); (try clear hi)) | ((with_reducible refine gate_callee (f := 15) rfl ?_); refine goesL_ (some 14) rfl rfl Try.func15 (by kernel_rfl) rfl #[.agg #[.slice A0 l0.length c0, .slice none 0 0, .int .i64 0, .bool false]] rfl (by (try simp only [List.map_toArray, List.map_cons, List.map_nil]); first | done | rfl | (simp only [List.length_drop, List.length_take]; rfl)) ?_; (refine (count_Weigh.calls k _ _ l0 _ _ ([] : List (S102)) 0 false t276 t277 t278 t279 _ ?side1 ?side2 ?side3 ?side4 A4.out).mono ?_); (case side1 => repeat (first | exact (Kd.C_below HR0.out HB.out) | (with_reducible refine Kd.C_alloc ?_ _) | (with_reducible refine Kd.C_drewN ?_ _) | (with_reducible refine Kd.C_drew ?_))); (case side2 => exact HC0.out); (case side3 => exact Kd.C_nil _ _); (case side4 => exact Nat.le_refl _); rintro e w13 ⟨rfl, hb⟩; refine ⟨_, rfl, ?_⟩; have n0_ := qM (eT (by repeat (first | (with_reducible first | exact HB.out | apply eA | apply eN | apply eD) | exact HB.out)) hb); clear HB; have HB := n0_; clear n0_; (try clear hb); (try clear hb2); (try clear hk); (try clear hi)) | ((with_reducible refine gate_dst (N := 6) rfl ?_); refine box_event ?hg (N := 6) ?hd (cs := #[.int .i64 0, .int .i64 0, .int .i64 0, .int .i64 0]) (t := 29) ?hr ?_; (case hd => rfl); (case hg => rfl); (case hr => first | (go_simp; done) | (go_simp; rfl)); intro g280 hg w14 hbox hb; have n0_ := qM (eT (by repeat (first | (with_reducible first | exact HB.out | apply eA | apply eN | apply eD) | exact HB.out)) hb); have n1_ := qM (hbox); have n2_ := qM ((by rw [hg]; exact (eZ (by repeat (first | (with_reducible first | exact HB.out | apply eA | apply eN | apply eD) | exact HB.out))) : w.heap.size ≤ g280)); have n3_ := n2_; clear HB; have HB := n0_; have B280 := n1_; have GW280 := n2_; have GE280 := n3_; clear n0_ n1_ n2_ n3_; clear hb hbox hg; obtain ⟨z15_0, z15_1, z15_2, z15_3, f15_0, f15_1, f15_2, f15_3⟩ := cells4 B280.out) | ((with_reducible refine gate_callee (f := 15) rfl ?_); refine goesL_ (some 17) rfl rfl Try.func15 (by kernel_rfl) rfl #[.agg #[.slice A1 l1.length c1, .slice none 0 0, .int .i64 0, .bool false]] rfl (by (try simp only [List.map_toArray, List.map_cons, List.map_nil]); first | done | rfl | (simp only [List.length_drop, List.length_take]; rfl)) ?_; (refine (count_Weigh.calls k _ _ l1 _ _ ([] : List (S102)) 0 false t281 t282 t283 t284 _ ?side1 ?side2 ?side3 ?side4 A5.out).mono ?_); (case side1 => exact Kd.C_below HR1.out (by repeat (first | (with_reducible first | exact HB.out | apply eA | apply eN | apply eD | refine eU ?_ (by assumption)) | exact HB.out))); (case side2 => exact HC1.out); (case side3 => exact Kd.C_nil _ _); (case side4 => exact Nat.le_refl _); rintro e w16 ⟨rfl, hb⟩; refine ⟨_, rfl, ?_⟩; have n0_ := qM (qB (g := g280) (by (with_reducible repeat first | refine qN ?_ _ | refine qD ?_ | refine qA ?_ _); apply puts4; (with_reducible repeat first | refine qN ?_ _ | refine qD ?_ | refine qA ?_ _); exact B280.out) hb); have n1_ := qM (eT (by repeat (first | (with_reducible first | exact HB.out | apply eA | apply eN | apply eD | refine eU ?_ (by assumption)) | exact HB.out)) hb); clear B280 HB; have B280 := n0_; have HB := n1_; clear n0_ n1_; (try clear hb); (try clear hb2); (try clear hk); (try clear hi)) | ((with_reducible refine gate_dst (N := 7) rfl ?_); refine box_event ?hg (N := 7) ?hd (cs := #[.int .i64 0, .int .i64 0, .int .i64 0, .int .i64 0]) (t := 29) ?hr ?_; (case hd => rfl); (case hg => rfl); (case hr => first | (go_simp; done) | (go_simp; rfl)); intro g285 hg w17 hbox hb; have n0_ := qM (qB (g := g280) (by (with_reducible repeat first | refine qN ?_ _ | refine qD ?_ | refine qA ?_ _); exact B280.out) hb); have n1_ := qM (eT (by repeat (first | (with_reducible first | exact HB.out | apply eA | apply eN | apply eD | refine eU ?_ (by assumption)) | exact HB.out)) hb); have n2_ := qM (hbox); have n3_ := qM ((by rw [hg]; exact (eZ (by repeat (first | (with_reducible first | exact HB.out | apply eA | apply eN | apply eD | refine eU ?_ (by assumption)) | exact HB.out))) : w.heap.size ≤ g285)); have n4_ := n3_; have n5_ := qM ((by rw [hg]; exact Nat.ne_of_lt (qL (g := g280) (by (with_reducible repeat first | refine qN ?_ _ | refine qD ?_ | refine qA ?_ _); exact B280.out)) : g280 ≠ g285)); have n6_ := qM (Ne.symm n5_.out); clear B280 HB; have B280 := n0_; have HB := n1_; have B285 := n2_; have GW285 := n3_; have GE285 := n4_; have NB280_285 := n5_; have NB285_280 := n6_; clear n0_ n1_ n2_ n3_ n4_ n5_ n6_; clear hb hbox hg; have hnb18 := NB285_280.out; have hnc18 := NB280_285.out; obtain ⟨z19_0, z19_1, z19_2, z19_3, f19_0, f19_1, f19_2, f19_3⟩ := cells4 B285.out) | ((with_reducible refine gate_dst (N := 18) rfl ?_); refine Kd.R_lit Kd.string _ 9 ?hg (N := 18) ?hd (xs := ([] : List ByteArray)) (inner := []) (ok := fun _ => True) (okp := fun _ => True) ?hr ?hp (fun _ hk => hk) trivial (Below.refl _ _) (Nat.le_refl _) (by simp) ?_; (case hd => rfl); (case hg => rfl); (case hr => first | (go_simp; done) | (go_simp; rfl)); (case hp => exact (Reps.none _ _)); intro v287 w20 ho21 hb hg_ hnew_; clear hg_ hnew_; (first | rw [← Ny286.out] at ho21 | (simp only [Int.reduceToNat] at ho21; rw [← Ny286.out] at ho21)); have n0_ := qM (Kd.R_lower ho21 (eZ (by repeat (first | (with_reducible first | exact HB.out | apply eA | apply eN | apply eD | refine eU ?_ (by assumption)) | exact HB.out)))); have n1_ := qM (qB (g := g280) (o := .cells #[.int .i64 t276, .int .i64 t277, .int .i64 t278, .int .i64 t279] 29 (0, 0)) (by (with_reducible repeat first | refine qN ?_ _ | refine qD ?_ | refine qA ?_ _); (iterate 4 (refine qR ?_ NB280_285.out _; (with_reducible repeat first | refine qN ?_ _ | refine qD ?_ | refine qA ?_ _))); exact B280.out) hb); have n2_ := qM (qB (g := g285) (by (with_reducible repeat first | refine qN ?_ _ | refine qD ?_ | refine qA ?_ _); apply puts4; (with_reducible repeat first | refine qN ?_ _ | refine qD ?_ | refine qA ?_ _); exact B285.out) hb); have n3_ := qM (eT (by repeat (first | (with_reducible first | exact HB.out | apply eA | apply eN | apply eD | refine eU ?_ (by assumption)) | exact HB.out)) hb); clear B280 B285 HB; have HO288 := n0_; have B280 := n1_; have B285 := n2_; have HB := n3_; clear n0_ n1_ n2_ n3_; clear hb ho21) | ((with_reducible refine gate_builtin (b := .append) (xs := #[.tmp 18, .tmp 19]) rfl ?_); at_builtin; refine Kd.R_append_rows Kd.string (w0 := w) w.heap.size rfl (.tmp 18) (.tmp 19) 50 9 (.string ⟨#[]⟩) 16 rfl Try.underlying50 info9 rfl (by decide) (by omega) v287 y286 l0 _ _ _ (fun _ => True) (fun _ => False) rfl rfl ?aO ?aR (fun _ _ h => h) (fun _ h => h.elim) ?aF ?aB ?aS ?aL ?_; (case aR => repeat (first | exact (Kd.C_below HR0.out HB.out) | (with_reducible refine Kd.C_alloc ?_ _) | (with_reducible refine Kd.C_drewN ?_ _) | (with_reducible refine Kd.C_drew ?_))); (case aB => exact (by repeat (first | (with_reducible first | exact HB.out | apply eA | apply eN | apply eD | refine eU ?_ (by assumption)) | exact HB.out))); (case aF => exact (fun _ _ => trivial)); (case aO => exact (by (with_reducible repeat first | apply RA | apply RN | apply RD); exact HO288.out)); (case aS => exact (eZ (by repeat (first | (with_reducible first | exact HB.out | apply eA | apply eN | apply eD | refine eU ?_ (by assumption)) | exact HB.out)))); (case aL => have := LMc6.out; omega); intro v290 w22 ho hb hg hat; rw [← Ny289.out] at ho; have n0_ := qM (blk_grown (g := g280) (o := .cells #[.int .i64 t276, .int .i64 t277, .int .i64 t278, .int .i64 t279] 29 (0, 0)) (by (with_reducible repeat first | refine qN ?_ _ | refine qD ?_ | refine qA ?_ _); exact B280.out) hg (Kd.R_ne HO288.out B280.out (by decide))); have n1_ := qM (blk_grown (g := g285) (o := .cells #[.int .i64 t281, .int .i64 t282, .int .i64 t283, .int .i64 t284] 29 (0, 0)) (by (with_reducible repeat first | refine qN ?_ _ | refine qD ?_ | refine qA ?_ _); exact B285.out) hg (Kd.R_ne HO288.out B285.out (by decide))); have n2_ := qM (hb); have n3_ := qM (ho); clear B280 B285 HB HO288; have B280 := n0_; have B285 := n1_; have HB := n2_; have HO291 := n3_; clear n0_ n1_ n2_ n3_; clear ho hb hg hat) | ((with_reducible refine gate_builtin (b := .append) (xs := #[.tmp 21, .tmp 22]) rfl ?_); at_builtin; refine Kd.R_append_rows Kd.string (w0 := w) w.heap.size rfl (.tmp 21) (.tmp 22) 50 9 (.string ⟨#[]⟩) 16 rfl Try.underlying50 info9 rfl (by decide) (by omega) v290 y289 l1 _ _ _ (fun _ => True) (fun _ => False) rfl rfl ?aO ?aR (fun _ _ h => h) (fun _ h => h.elim) ?aF ?aB ?aS ?aL ?_; (case aR => repeat (first | exact (Kd.C_below HR1.out HB.out) | (with_reducible refine Kd.C_alloc ?_ _) | (with_reducible refine Kd.C_drewN ?_ _) | (with_reducible refine Kd.C_drew ?_))); (case aB => exact (by repeat (first | (with_reducible first | exact HB.out | apply eA | apply eN | apply eD | refine eU ?_ (by assumption)) | exact HB.out))); (case aF => exact (fun _ _ => trivial)); (case aO => exact (by (with_reducible repeat first | apply RA | apply RN | apply RD); exact HO291.out)); (case aS => exact (eZ (by repeat (first | (with_reducible first | exact HB.out | apply eA | apply eN | apply eD | refine eU ?_ (by assumption)) | exact HB.out)))); (case aL => have := LMc7.out; omega); intro v293 w23 ho hb hg hat; rw [← Ny292.out] at ho; have n0_ := qM (blk_grown (g := g280) (o := .cells #[.int .i64 t276, .int .i64 t277, .int .i64 t278, .int .i64 t279] 29 (0, 0)) (by (with_reducible repeat first | refine qN ?_ _ | refine qD ?_ | refine qA ?_ _); exact B280.out) hg (Kd.R_ne HO291.out B280.out (by decide))); have n1_ := qM (blk_grown (g := g285) (o := .cells #[.int .i64 t281, .int .i64 t282, .int .i64 t283, .int .i64 t284] 29 (0, 0)) (by (with_reducible repeat first | refine qN ?_ _ | refine qD ?_ | refine qA ?_ _); exact B285.out) hg (Kd.R_ne HO291.out B285.out (by decide))); have n2_ := qM (hb); have n3_ := qM (ho); clear B280 B285 HB HO291; have B280 := n0_; have B285 := n1_; have HB := n2_; have HO294 := n3_; clear n0_ n1_ n2_ n3_; clear ho hb hg hat; obtain ⟨Ao24, co24, eo24⟩ := Kd.R_slice HO294.out; subst eo24) | ((with_reducible refine gate_callee (f := 15) rfl ?_); refine goesL_ (some 26) rfl rfl Try.func15 (by kernel_rfl) rfl #[.agg #[.slice Ao24 y292.length co24, .slice none 0 0, .int .i64 0, .bool false]] rfl (by (try simp only [List.map_toArray, List.map_cons, List.map_nil]); first | done | rfl | (simp only [List.length_drop, List.length_take]; rfl)) ?_; (refine (count_Weigh.calls k _ _ y292 _ _ ([] : List (S102)) 0 false t295 t296 t297 t298 _ ?side1 ?side2 ?side3 ?side4 A8.out).mono ?_); (case side1 => repeat (first | exact (Kd.R_reads' HO294.out).2.2 | (with_reducible refine Kd.C_alloc ?_ _) | (with_reducible refine Kd.C_drewN ?_ _) | (with_reducible refine Kd.C_drew ?_))); (case side2 => exact (Kd.R_reads' HO294.out).2.1); (case side3 => exact Kd.C_nil _ _); (case side4 => exact Nat.le_refl _); rintro e w25 ⟨rfl, hb⟩; refine ⟨_, rfl, ?_⟩; have n0_ := qM (Kd.R_below (by (with_reducible repeat first | apply RA | apply RN | apply RD); exact HO294.out) hb); have n1_ := qM (qB (g := g280) (by (with_reducible repeat first | refine qN ?_ _ | refine qD ?_ | refine qA ?_ _); exact B280.out) hb); have n2_ := qM (qB (g := g285) (by (with_reducible repeat first | refine qN ?_ _ | refine qD ?_ | refine qA ?_ _); exact B285.out) hb); have n3_ := qM (eT (by repeat (first | (with_reducible first | exact HB.out | apply eA | apply eN | apply eD | refine eU ?_ (by assumption)) | exact HB.out)) hb); clear HO294 B280 B285 HB; have HO294 := n0_; have B280 := n1_; have B285 := n2_; have HB := n3_; clear n0_ n1_ n2_ n3_; (try clear hb); (try clear hb2); (try clear hk); (try clear hi)) | ((with_reducible refine gate_dst (N := 9) rfl ?_); refine box_event ?hg (N := 9) ?hd (cs := #[.int .i64 0, .int .i64 0, .int .i64 0, .int .i64 0]) (t := 29) ?hr ?_; (case hd => rfl); (case hg => rfl); (case hr => first | (go_simp; done) | (go_simp; rfl)); intro g299 hg w26 hbox hb; have n0_ := qM (Kd.R_below (by (with_reducible repeat first | apply RA | apply RN | apply RD); exact HO294.out) hb); have n1_ := qM (qB (g := g280) (by (with_reducible repeat first | refine qN ?_ _ | refine qD ?_ | refine qA ?_ _); exact B280.out) hb); have n2_ := qM (qB (g := g285) (by (with_reducible repeat first | refine qN ?_ _ | refine qD ?_ | refine qA ?_ _); exact B285.out) hb); have n3_ := qM (eT (by repeat (first | (with_reducible first | exact HB.out | apply eA | apply eN | apply eD | refine eU ?_ (by assumption)) | exact HB.out)) hb); have n4_ := qM (hbox); have n5_ := qM ((by rw [hg]; exact (eZ (by repeat (first | (with_reducible first | exact HB.out | apply eA | apply eN | apply eD | refine eU ?_ (by assumption)) | exact HB.out))) : w.heap.size ≤ g299)); have n6_ := n5_; have n7_ := qM ((by rw [hg]; exact Nat.ne_of_lt (qL (g := g280) (by (with_reducible repeat first | refine qN ?_ _ | refine qD ?_ | refine qA ?_ _); exact B280.out)) : g280 ≠ g299)); have n8_ := qM (Ne.symm n7_.out); have n9_ := qM ((by rw [hg]; exact Nat.ne_of_lt (qL (g := g285) (by (with_reducible repeat first | refine qN ?_ _ | refine qD ?_ | refine qA ?_ _); exact B285.out)) : g285 ≠ g299)); have n10_ := qM (Ne.symm n9_.out); clear HO294 B280 B285 HB; have HO294 := n0_; have B280 := n1_; have B285 := n2_; have HB := n3_; have B299 := n4_; have GW299 := n5_; have GE299 := n6_; have NB280_299 := n7_; have NB299_280 := n8_; have NB285_299 := n9_; have NB299_285 := n10_; clear n0_ n1_ n2_ n3_ n4_ n5_ n6_ n7_ n8_ n9_ n10_; clear hb hbox hg; have hnb27 := NB299_280.out; have hnc27 := NB280_299.out; have hnb28 := NB299_285.out; have hnc28 := NB285_299.out; obtain ⟨z29_0, z29_1, z29_2, z29_3, f29_0, f29_1, f29_2, f29_3⟩ := cells4 B299.out; obtain ⟨z30_0, z30_1, z30_2, z30_3, f30_0, f30_1, f30_2, f30_3⟩ := cells4 B280.out; obtain ⟨z31_0, z31_1, z31_2, z31_3, f31_0, f31_1, f31_2, f31_3⟩ := cells4 B285.out) | ((with_reducible refine gate_dst (N := 29) rfl ?_); refine Kd.R_lit k29 _ 29 ?hg (N := 29) ?hd (xs := ([(⟨t276, t277, t278, t279⟩ : S29), (⟨t281, t282, t283, t284⟩ : S29)] : List (S29))) (inner := [.int .i64 t276, .int .i64 t277, .int .i64 t278, .int .i64 t279, .int .i64 t281, .int .i64 t282, .int .i64 t283, .int .i64 t284]) (ok := fun _ => True) (okp := fun _ => True) ?hr ?hp (fun _ hk => hk) trivial (Below.refl _ _) (Nat.le_refl _) (by simp) ?_; (case hd => rfl); (case hg => rfl); (case hr => first | (go_simp; done) | (go_simp; rfl)); (case hp => exact (Reps.c4 (show Kd.M k29 _ _ _ (⟨t276, t277, t278, t279⟩ : S29) [.int .i64 t276, .int .i64 t277, .int .i64 t278, .int .i64 t279] from (k29_mkM _ _ _ (⟨t276, t277, t278, t279⟩ : S29) )) (Reps.c4 (show Kd.M k29 _ _ _ (⟨t281, t282, t283, t284⟩ : S29) [.int .i64 t281, .int .i64 t282, .int .i64 t283, .int .i64 t284] from (k29_mkM _ _ _ (⟨t281, t282, t283, t284⟩ : S29) )) (Reps.none _ _)))); intro v301 w32 ho33 hb hg_ hnew_; clear hg_ hnew_; (first | rw [← Ny300.out] at ho33 | (simp only [Int.reduceToNat] at ho33; rw [← Ny300.out] at ho33)); have n0_ := qM (Kd.R_below (by (with_reducible repeat first | apply RA | apply RN | apply RD); exact (Kd.R_mono (Kd.R_far (p := ⟨g299, 3, none⟩) (Kd.R_far (p := ⟨g299, 2, none⟩) (Kd.R_far (p := ⟨g299, 1, none⟩) (Kd.R_far (p := ⟨g299, 0, none⟩) (Kd.R_types HO294.out B299.out (by decide)) (fun _ hk => hk.2) (.int .i64 t295)) (fun _ hk => hk.2) (.int .i64 t296)) (fun _ hk => hk.2) (.int .i64 t297)) (fun _ hk => hk.2) (.int .i64 t298)) (fun _ h_ => h_.1))) hb); have n1_ := qM (Kd.R_lower (Kd.R_newB (Kd.R_newB (Kd.R_newB ho33 (g := g280) (o := .cells #[.int .i64 t276, .int .i64 t277, .int .i64 t278, .int .i64 t279] 29 (0, 0)) (by (with_reducible repeat first | refine qN ?_ _ | refine qD ?_ | refine qA ?_ _); (iterate 4 (refine qR ?_ NB280_299.out _; (with_reducible repeat first | refine qN ?_ _ | refine qD ?_ | refine qA ?_ _))); exact B280.out)) (g := g285) (o := .cells #[.int .i64 t281, .int .i64 t282, .int .i64 t283, .int .i64 t284] 29 (0, 0)) (by (with_reducible repeat first | refine qN ?_ _ | refine qD ?_ | refine qA ?_ _); (iterate 4 (refine qR ?_ NB285_299.out _; (with_reducible repeat first | refine qN ?_ _ | refine qD ?_ | refine qA ?_ _))); exact B285.out)) (g := g299) (o := .cells #[.int .i64 t295, .int .i64 t296, .int .i64 t297, .int .i64 t298] 29 (0, 0)) (by (with_reducible repeat first | refine qN ?_ _ | refine qD ?_ | refine qA ?_ _); apply puts4; (with_reducible repeat first | refine qN ?_ _ | refine qD ?_ | refine qA ?_ _); exact B299.out)) (eZ (by repeat (first | (with_reducible first | exact HB.out | apply eA | apply eN | apply eD | refine eU ?_ (by assumption)) | exact HB.out)))); have n2_ := qM (qB (g := g280) (o := .cells #[.int .i64 t276, .int .i64 t277, .int .i64 t278, .int .i64 t279] 29 (0, 0)) (by (with_reducible repeat first | refine qN ?_ _ | refine qD ?_ | refine qA ?_ _); (iterate 4 (refine qR ?_ NB280_299.out _; (with_reducible repeat first | refine qN ?_ _ | refine qD ?_ | refine qA ?_ _))); exact B280.out) hb); have n3_ := qM (qB (g := g285) (o := .cells #[.int .i64 t281, .int .i64 t282, .int .i64 t283, .int .i64 t284] 29 (0, 0)) (by (with_reducible repeat first | refine qN ?_ _ | refine qD ?_ | refine qA ?_ _); (iterate 4 (refine qR ?_ NB285_299.out _; (with_reducible repeat first | refine qN ?_ _ | refine qD ?_ | refine qA ?_ _))); exact B285.out) hb); have n4_ := qM (qB (g := g299) (by (with_reducible repeat first | refine qN ?_ _ | refine qD ?_ | refine qA ?_ _); apply puts4; (with_reducible repeat first | refine qN ?_ _ | refine qD ?_ | refine qA ?_ _); exact B299.out) hb); have n5_ := qM (eT (by repeat (first | (with_reducible first | exact HB.out | apply eA | apply eN | apply eD | refine eU ?_ (by assumption)) | exact HB.out)) hb); clear HO294 B280 B285 B299 HB; have HO294 := n0_; have HO302 := n1_; have B280 := n2_; have B285 := n3_; have B299 := n4_; have HB := n5_; clear n0_ n1_ n2_ n3_ n4_ n5_; clear hb ho33; obtain ⟨Ao34, co34, eo34⟩ := Kd.R_slice HO302.out; subst eo34) | ((with_reducible refine gate_callee (f := 14) rfl ?_); refine goesL_ (some 30) rfl rfl Try.func14 (by kernel_rfl) rfl #[.slice Ao34 y300.length co34] rfl (by (try simp only [List.map_toArray, List.map_cons, List.map_nil]); first | done | rfl | (simp only [List.length_drop, List.length_take]; rfl)) ?_; (with_reducible refine (count_Sum.calls k _ _ y300 t303 t304 t305 t306 _ ?side1 ?side2 A9.out).mono ?_); (case side1 => repeat (first | exact (Kd.R_reads' HO302.out).2.2 | (with_reducible refine Kd.C_alloc ?_ _) | (with_reducible refine Kd.C_drewN ?_ _) | (with_reducible refine Kd.C_drew ?_))); (case side2 => exact (Kd.R_reads' HO302.out).2.1); rintro e w35 ⟨rfl, hb⟩; refine ⟨_, rfl, ?_⟩; have n0_ := qM (Kd.R_below (by (with_reducible repeat first | apply RA | apply RN | apply RD); exact HO294.out) hb); have n1_ := qM (Kd.R_below (by (with_reducible repeat first | apply RA | apply RN | apply RD); exact HO302.out) hb); have n2_ := qM (qB (g := g280) (by (with_reducible repeat first | refine qN ?_ _ | refine qD ?_ | refine qA ?_ _); exact B280.out) hb); have n3_ := qM (qB (g := g285) (by (with_reducible repeat first | refine qN ?_ _ | refine qD ?_ | refine qA ?_ _); exact B285.out) hb); have n4_ := qM (qB (g := g299) (by (with_reducible repeat first | refine qN ?_ _ | refine qD ?_ | refine qA ?_ _); exact B299.out) hb); have n5_ := qM (eT (by repeat (first | (with_reducible first | exact HB.out | apply eA | apply eN | apply eD | refine eU ?_ (by assumption)) | exact HB.out)) hb); clear HO294 HO302 B280 B285 B299 HB; have HO294 := n0_; have HO302 := n1_; have B280 := n2_; have B285 := n3_; have B299 := n4_; have HB := n5_; clear n0_ n1_ n2_ n3_ n4_ n5_; (try clear hb); (try clear hb2); (try clear hk); (try clear hi)) | ((with_reducible refine gate_dst (N := 10) rfl ?_); refine box_event ?hg (N := 10) ?hd (cs := #[.int .i64 0, .int .i64 0, .int .i64 0, .int .i64 0]) (t := 29) ?hr ?_; (case hd => rfl); (case hg => rfl); (case hr => first | (go_simp; done) | (go_simp; rfl)); intro g307 hg w36 hbox hb; have n0_ := qM (Kd.R_below (by (with_reducible repeat first | apply RA | apply RN | apply RD); exact HO294.out) hb); have n1_ := qM (Kd.R_below (Kd.R_elderB (by (with_reducible repeat first | apply RA | apply RN | apply RD); exact HO302.out) g307 (Nat.le_of_eq hg.symm)) hb); have n2_ := qM (qB (g := g280) (by (with_reducible repeat first | refine qN ?_ _ | refine qD ?_ | refine qA ?_ _); exact B280.out) hb); have n3_ := qM (qB (g := g285) (by (with_reducible repeat first | refine qN ?_ _ | refine qD ?_ | refine qA ?_ _); exact B285.out) hb); have n4_ := qM (qB (g := g299) (by (with_reducible repeat first | refine qN ?_ _ | refine qD ?_ | refine qA ?_ _); exact B299.out) hb); have n5_ := qM (eT (by repeat (first | (with_reducible first | exact HB.out | apply eA | apply eN | apply eD | refine eU ?_ (by assumption)) | exact HB.out)) hb); have n6_ := qM (hbox); have n7_ := qM ((by rw [hg]; exact (eZ (by repeat (first | (with_reducible first | exact HB.out | apply eA | apply eN | apply eD | refine eU ?_ (by assumption)) | exact HB.out))) : w.heap.size ≤ g307)); have n8_ := n7_; have n9_ := qM ((by rw [hg]; exact Nat.ne_of_lt (qL (g := g280) (by (with_reducible repeat first | refine qN ?_ _ | refine qD ?_ | refine qA ?_ _); exact B280.out)) : g280 ≠ g307)); have n10_ := qM (Ne.symm n9_.out); have n11_ := qM ((by rw [hg]; exact Nat.ne_of_lt (qL (g := g285) (by (with_reducible repeat first | refine qN ?_ _ | refine qD ?_ | refine qA ?_ _); exact B285.out)) : g285 ≠ g307)); have n12_ := qM (Ne.symm n11_.out); have n13_ := qM ((by rw [hg]; exact Nat.ne_of_lt (qL (g := g299) (by (with_reducible repeat first | refine qN ?_ _ | refine qD ?_ | refine qA ?_ _); exact B299.out)) : g299 ≠ g307)); have n14_ := qM (Ne.symm n13_.out); clear HO294 HO302 B280 B285 B299 HB; have HO294 := n0_; have HO302 := n1_; have B280 := n2_; have B285 := n3_; have B299 := n4_; have HB := n5_; have B307 := n6_; have GW307 := n7_; have GE307 := n8_; have NB280_307 := n9_; have NB307_280 := n10_; have NB285_307 := n11_; have NB307_285 := n12_; have NB299_307 := n13_; have NB307_299 := n14_; clear n0_ n1_ n2_ n3_ n4_ n5_ n6_ n7_ n8_ n9_ n10_ n11_ n12_ n13_ n14_; clear hb hbox hg; have hnb37 := NB307_280.out; have hnc37 := NB280_307.out; have hnb38 := NB307_285.out; have hnc38 := NB285_307.out; have hnb39 := NB307_299.out; have hnc39 := NB299_307.out; obtain ⟨z40_0, z40_1, z40_2, z40_3, f40_0, f40_1, f40_2, f40_3⟩ := cells4 B307.out; obtain ⟨z41_0, z41_1, z41_2, z41_3, f41_0, f41_1, f41_2, f41_3⟩ := cells4 B299.out))
    (try simp only [Act.put, List.setIfInBounds_toArray, List.set_cons_zero, List.set_cons_succ])
    go_cut [4] (fun v4 wc => ∃ (kq : Nat) (x4_10 : Bool), v4 = .bool x4_10 ∧ Aside0 (hogsheadlaw19_CountHalves.j0 kq x4_10 = some r) ∧ Aside0 (kq ≤ k) ∧ Aside0 (wc.heap[g280]? = some (.cells #[.int .i64 t276, .int .i64 t277, .int .i64 t278, .int .i64 t279] 29 (0, 0))) ∧ Aside0 (wc.heap[g285]? = some (.cells #[.int .i64 t281, .int .i64 t282, .int .i64 t283, .int .i64 t284] 29 (0, 0))) ∧ Aside0 (wc.heap[g299]? = some (.cells #[.int .i64 t295, .int .i64 t296, .int .i64 t297, .int .i64 t298] 29 (0, 0))) ∧ Aside0 (wc.heap[g307]? = some (.cells #[.int .i64 t303, .int .i64 t304, .int .i64 t305, .int .i64 t306] 29 (0, 0))) ∧ Aside0 (Below w.heap.size w wc))
    case first =>
     have H := HC11.out
     clear HC11
     by_cases c42 : t275 = true
     ·subst c42
      have H1 : (if t295 ≤ t303 then (hogsheadlaw19_CountHalves.j0 k (decide (t297 ≤ t305))) else (hogsheadlaw19_CountHalves.j0 k false)) = some r := by rw [if_pos rfl] at H; exact H
      clear H
      have H := H1
      clear H1
      by_cases c43 : t295 ≤ t303
      ·rw [if_pos c43] at H
       have c43b0 : decide (t295 ≤ t303) = true := decide_eq_true c43
       clear c43
       (first | rw [c43b0] | (simp only [i64_w, i32_w]; rw [c43b0]) | skip)
       have H' := qM H
       clear H
       have hnb44 := NB299_280.out
       have hnc44 := NB280_299.out
       have hnb45 := NB299_285.out
       have hnc45 := NB285_299.out
       have hnb46 := NB299_307.out
       have hnc46 := NB307_299.out
       obtain ⟨z47_0, z47_1, z47_2, z47_3, f47_0, f47_1, f47_2, f47_3⟩ := cells4 B299.out
       have hnb48 := NB307_280.out
       have hnc48 := NB280_307.out
       have hnb49 := NB307_285.out
       have hnc49 := NB285_307.out
       obtain ⟨z50_0, z50_1, z50_2, z50_3, f50_0, f50_1, f50_2, f50_3⟩ := cells4 B307.out
       go_wp2
       go_meet
       case rel => exact ⟨_, (decide (t297 ≤ t305)), (by first | rfl | (simp; done) | (simp [*]; done)), H', ⟨by first | omega | exact Nat.le_refl _⟩, ⟨by (with_reducible repeat first | refine qN ?_ _ | refine qD ?_ | refine qA ?_ _); (iterate 4 (refine qR ?_ NB280_307.out _; (with_reducible repeat first | refine qN ?_ _ | refine qD ?_ | refine qA ?_ _))); exact B280.out⟩, ⟨by (with_reducible repeat first | refine qN ?_ _ | refine qD ?_ | refine qA ?_ _); (iterate 4 (refine qR ?_ NB285_307.out _; (with_reducible repeat first | refine qN ?_ _ | refine qD ?_ | refine qA ?_ _))); exact B285.out⟩, ⟨by (with_reducible repeat first | refine qN ?_ _ | refine qD ?_ | refine qA ?_ _); (iterate 4 (refine qR ?_ NB299_307.out _; (with_reducible repeat first | refine qN ?_ _ | refine qD ?_ | refine qA ?_ _))); exact B299.out⟩, ⟨by (with_reducible repeat first | refine qN ?_ _ | refine qD ?_ | refine qA ?_ _); apply puts4; (with_reducible repeat first | refine qN ?_ _ | refine qD ?_ | refine qA ?_ _); exact B307.out⟩, ⟨by repeat (first | (with_reducible first | exact HB.out | apply eA | apply eN | apply eD | refine eS ?_ GE280.out | refine eS ?_ GE285.out | refine eS ?_ GE299.out | refine eS ?_ GE307.out) | exact HB.out)⟩⟩
      ·rw [if_neg c43] at H
       have c43b0 : decide (t295 ≤ t303) = false := decide_eq_false c43
       clear c43
       (first | rw [c43b0] | (simp only [i64_w, i32_w]; rw [c43b0]) | skip)
       have H' := qM H
       clear H
       have hnb51 := NB299_280.out
       have hnc51 := NB280_299.out
       have hnb52 := NB299_285.out
       have hnc52 := NB285_299.out
       have hnb53 := NB299_307.out
       have hnc53 := NB307_299.out
       obtain ⟨z54_0, z54_1, z54_2, z54_3, f54_0, f54_1, f54_2, f54_3⟩ := cells4 B299.out
       have hnb55 := NB307_280.out
       have hnc55 := NB280_307.out
       have hnb56 := NB307_285.out
       have hnc56 := NB285_307.out
       obtain ⟨z57_0, z57_1, z57_2, z57_3, f57_0, f57_1, f57_2, f57_3⟩ := cells4 B307.out
       go_wp2
       go_meet
       case rel => exact ⟨_, (false), (by first | rfl | (simp; done) | (simp [*]; done)), H', ⟨by first | omega | exact Nat.le_refl _⟩, ⟨by (with_reducible repeat first | refine qN ?_ _ | refine qD ?_ | refine qA ?_ _); (iterate 4 (refine qR ?_ NB280_307.out _; (with_reducible repeat first | refine qN ?_ _ | refine qD ?_ | refine qA ?_ _))); exact B280.out⟩, ⟨by (with_reducible repeat first | refine qN ?_ _ | refine qD ?_ | refine qA ?_ _); (iterate 4 (refine qR ?_ NB285_307.out _; (with_reducible repeat first | refine qN ?_ _ | refine qD ?_ | refine qA ?_ _))); exact B285.out⟩, ⟨by (with_reducible repeat first | refine qN ?_ _ | refine qD ?_ | refine qA ?_ _); (iterate 4 (refine qR ?_ NB299_307.out _; (with_reducible repeat first | refine qN ?_ _ | refine qD ?_ | refine qA ?_ _))); exact B299.out⟩, ⟨by (with_reducible repeat first | refine qN ?_ _ | refine qD ?_ | refine qA ?_ _); apply puts4; (with_reducible repeat first | refine qN ?_ _ | refine qD ?_ | refine qA ?_ _); exact B307.out⟩, ⟨by repeat (first | (with_reducible first | exact HB.out | apply eA | apply eN | apply eD | refine eS ?_ GE280.out | refine eS ?_ GE285.out | refine eS ?_ GE299.out | refine eS ?_ GE307.out) | exact HB.out)⟩⟩
     ·replace c42 := Bool.eq_false_iff.mpr c42
      subst c42
      have H1 : (hogsheadlaw19_CountHalves.j0 k false) = some r := by rw [if_neg (show ¬ (false = true) by decide)] at H; exact H
      clear H
      have H := H1
      clear H1
      have H' := qM H
      clear H
      go_wp2
      go_meet
      case rel => exact ⟨_, (false), (by first | rfl | (simp; done) | (simp [*]; done)), H', ⟨by first | omega | exact Nat.le_refl _⟩, ⟨by (with_reducible repeat first | refine qN ?_ _ | refine qD ?_ | refine qA ?_ _); (iterate 4 (refine qR ?_ NB280_307.out _; (with_reducible repeat first | refine qN ?_ _ | refine qD ?_ | refine qA ?_ _))); exact B280.out⟩, ⟨by (with_reducible repeat first | refine qN ?_ _ | refine qD ?_ | refine qA ?_ _); (iterate 4 (refine qR ?_ NB285_307.out _; (with_reducible repeat first | refine qN ?_ _ | refine qD ?_ | refine qA ?_ _))); exact B285.out⟩, ⟨by (with_reducible repeat first | refine qN ?_ _ | refine qD ?_ | refine qA ?_ _); (iterate 4 (refine qR ?_ NB299_307.out _; (with_reducible repeat first | refine qN ?_ _ | refine qD ?_ | refine qA ?_ _))); exact B299.out⟩, ⟨by (with_reducible repeat first | refine qN ?_ _ | refine qD ?_ | refine qA ?_ _); apply puts4; (with_reducible repeat first | refine qN ?_ _ | refine qD ?_ | refine qA ?_ _); exact B307.out⟩, ⟨by repeat (first | (with_reducible first | exact HB.out | apply eA | apply eN | apply eD | refine eS ?_ GE280.out | refine eS ?_ GE285.out | refine eS ?_ GE299.out | refine eS ?_ GE307.out) | exact HB.out)⟩⟩
    case rest =>
     clear HC11
     try clear c1
     try clear c2
     try clear p2
     try clear c3
     try clear c4
     try clear c5
     try clear c6
     try clear p6
     try clear c7
     try clear c8
     try clear c10
     try clear c10b0
     try clear c14
     try clear c15
     try clear c18
     try clear c27
     try clear c28
     try clear c37
     try clear c38
     try clear c39
     try clear c42
     try clear c43
     try clear c43b0
     try clear c44
     try clear c45
     try clear c46
     try clear c48
     try clear c49
     try clear c51
     try clear c52
     try clear c53
     try clear c55
     try clear c56
     try clear z15_0
     try clear z15_1
     try clear z15_2
     try clear z15_3
     try clear z19_0
     try clear z19_1
     try clear z19_2
     try clear z19_3
     try clear z29_0
     try clear z29_1
     try clear z29_2
     try clear z29_3
     try clear z30_0
     try clear z30_1
     try clear z30_2
     try clear z30_3
     try clear z31_0
     try clear z31_1
     try clear z31_2
     try clear z31_3
     try clear z40_0
     try clear z40_1
     try clear z40_2
     try clear z40_3
     try clear z41_0
     try clear z41_1
     try clear z41_2
     try clear z41_3
     try clear z47_0
     try clear z47_1
     try clear z47_2
     try clear z47_3
     try clear z50_0
     try clear z50_1
     try clear z50_2
     try clear z50_3
     try clear z54_0
     try clear z54_1
     try clear z54_2
     try clear z54_3
     try clear z57_0
     try clear z57_1
     try clear z57_2
     try clear z57_3
     try clear f15_0
     try clear f15_1
     try clear f15_2
     try clear f15_3
     try clear f19_0
     try clear f19_1
     try clear f19_2
     try clear f19_3
     try clear f29_0
     try clear f29_1
     try clear f29_2
     try clear f29_3
     try clear f30_0
     try clear f30_1
     try clear f30_2
     try clear f30_3
     try clear f31_0
     try clear f31_1
     try clear f31_2
     try clear f31_3
     try clear f40_0
     try clear f40_1
     try clear f40_2
     try clear f40_3
     try clear f41_0
     try clear f41_1
     try clear f41_2
     try clear f41_3
     try clear f47_0
     try clear f47_1
     try clear f47_2
     try clear f47_3
     try clear f50_0
     try clear f50_1
     try clear f50_2
     try clear f50_3
     try clear f54_0
     try clear f54_1
     try clear f54_2
     try clear f54_3
     try clear f57_0
     try clear f57_1
     try clear f57_2
     try clear f57_3
     obtain ⟨kq, x4_10, rfl, HA, HJ10, B280, B285, B299, B307, HB⟩ := hcut
     cases kq with
     | zero => exact absurd HA.out (by simp [hogsheadlaw19_CountHalves.j0])
     | succ kj10 =>
      have H := HA.out
      clear HA
      simp only [hogsheadlaw19_CountHalves.j0] at H
      obtain rfl := Option.some.inj H
      go_wp2
      go_ret
      exact ⟨by first | rfl | (simp [errW_none, errW_some] <;> rfl) | (simp [*, errW_none, errW_some] <;> rfl), by repeat (first | (with_reducible first | exact HB.out | apply eA | apply eN | apply eD | refine eS ?_ GE280.out | refine eS ?_ GE285.out | refine eS ?_ GE299.out | refine eS ?_ GE307.out) | exact HB.out)⟩
   ·rw [if_neg c10] at H
    have c10b0 : decide ((wrap64 (t295 + t297)) < (wrap64 (t303 + t305))) = false := decide_eq_false c10
    clear c10
    have HC58 := qM H
    clear H
    go_enter Try.func7, Try.ntmps7
    go_upto_region 10 with (first | ((with_reducible refine gate_callee (f := 8) rfl ?_); refine goesL_ (some 11) rfl rfl Try.func8 (by kernel_rfl) rfl #[] rfl (by (try simp only [List.map_toArray, List.map_cons, List.map_nil]); first | done | rfl | (simp only [List.length_drop, List.length_take]; rfl)) ?_; (with_reducible refine (hogsheadlaw19_shown.calls k  t275 _ A3.out).mono ?_); rintro e w59 ⟨rfl, hb⟩; refine ⟨_, rfl, ?_⟩; have n0_ := qM (eT (by repeat (first | (with_reducible first | exact HB.out | apply eA | apply eN | apply eD) | exact HB.out)) hb); clear HB; have HB := n0_; clear n0_; (try clear hb); (try clear hb2); (try clear hk); (try clear hi)) | ((with_reducible refine gate_callee (f := 15) rfl ?_); refine goesL_ (some 14) rfl rfl Try.func15 (by kernel_rfl) rfl #[.agg #[.slice A0 l0.length c0, .slice none 0 0, .int .i64 0, .bool false]] rfl (by (try simp only [List.map_toArray, List.map_cons, List.map_nil]); first | done | rfl | (simp only [List.length_drop, List.length_take]; rfl)) ?_; (refine (count_Weigh.calls k _ _ l0 _ _ ([] : List (S102)) 0 false t276 t277 t278 t279 _ ?side1 ?side2 ?side3 ?side4 A4.out).mono ?_); (case side1 => repeat (first | exact (Kd.C_below HR0.out HB.out) | (with_reducible refine Kd.C_alloc ?_ _) | (with_reducible refine Kd.C_drewN ?_ _) | (with_reducible refine Kd.C_drew ?_))); (case side2 => exact HC0.out); (case side3 => exact Kd.C_nil _ _); (case side4 => exact Nat.le_refl _); rintro e w60 ⟨rfl, hb⟩; refine ⟨_, rfl, ?_⟩; have n0_ := qM (eT (by repeat (first | (with_reducible first | exact HB.out | apply eA | apply eN | apply eD) | exact HB.out)) hb); clear HB; have HB := n0_; clear n0_; (try clear hb); (try clear hb2); (try clear hk); (try clear hi)) | ((with_reducible refine gate_dst (N := 6) rfl ?_); refine box_event ?hg (N := 6) ?hd (cs := #[.int .i64 0, .int .i64 0, .int .i64 0, .int .i64 0]) (t := 29) ?hr ?_; (case hd => rfl); (case hg => rfl); (case hr => first | (go_simp; done) | (go_simp; rfl)); intro g280 hg w61 hbox hb; have n0_ := qM (eT (by repeat (first | (with_reducible first | exact HB.out | apply eA | apply eN | apply eD) | exact HB.out)) hb); have n1_ := qM (hbox); have n2_ := qM ((by rw [hg]; exact (eZ (by repeat (first | (with_reducible first | exact HB.out | apply eA | apply eN | apply eD) | exact HB.out))) : w.heap.size ≤ g280)); have n3_ := n2_; clear HB; have HB := n0_; have B280 := n1_; have GW280 := n2_; have GE280 := n3_; clear n0_ n1_ n2_ n3_; clear hb hbox hg; obtain ⟨z62_0, z62_1, z62_2, z62_3, f62_0, f62_1, f62_2, f62_3⟩ := cells4 B280.out) | ((with_reducible refine gate_callee (f := 15) rfl ?_); refine goesL_ (some 17) rfl rfl Try.func15 (by kernel_rfl) rfl #[.agg #[.slice A1 l1.length c1, .slice none 0 0, .int .i64 0, .bool false]] rfl (by (try simp only [List.map_toArray, List.map_cons, List.map_nil]); first | done | rfl | (simp only [List.length_drop, List.length_take]; rfl)) ?_; (refine (count_Weigh.calls k _ _ l1 _ _ ([] : List (S102)) 0 false t281 t282 t283 t284 _ ?side1 ?side2 ?side3 ?side4 A5.out).mono ?_); (case side1 => exact Kd.C_below HR1.out (by repeat (first | (with_reducible first | exact HB.out | apply eA | apply eN | apply eD | refine eU ?_ (by assumption)) | exact HB.out))); (case side2 => exact HC1.out); (case side3 => exact Kd.C_nil _ _); (case side4 => exact Nat.le_refl _); rintro e w63 ⟨rfl, hb⟩; refine ⟨_, rfl, ?_⟩; have n0_ := qM (qB (g := g280) (by (with_reducible repeat first | refine qN ?_ _ | refine qD ?_ | refine qA ?_ _); apply puts4; (with_reducible repeat first | refine qN ?_ _ | refine qD ?_ | refine qA ?_ _); exact B280.out) hb); have n1_ := qM (eT (by repeat (first | (with_reducible first | exact HB.out | apply eA | apply eN | apply eD | refine eU ?_ (by assumption)) | exact HB.out)) hb); clear B280 HB; have B280 := n0_; have HB := n1_; clear n0_ n1_; (try clear hb); (try clear hb2); (try clear hk); (try clear hi)) | ((with_reducible refine gate_dst (N := 7) rfl ?_); refine box_event ?hg (N := 7) ?hd (cs := #[.int .i64 0, .int .i64 0, .int .i64 0, .int .i64 0]) (t := 29) ?hr ?_; (case hd => rfl); (case hg => rfl); (case hr => first | (go_simp; done) | (go_simp; rfl)); intro g285 hg w64 hbox hb; have n0_ := qM (qB (g := g280) (by (with_reducible repeat first | refine qN ?_ _ | refine qD ?_ | refine qA ?_ _); exact B280.out) hb); have n1_ := qM (eT (by repeat (first | (with_reducible first | exact HB.out | apply eA | apply eN | apply eD | refine eU ?_ (by assumption)) | exact HB.out)) hb); have n2_ := qM (hbox); have n3_ := qM ((by rw [hg]; exact (eZ (by repeat (first | (with_reducible first | exact HB.out | apply eA | apply eN | apply eD | refine eU ?_ (by assumption)) | exact HB.out))) : w.heap.size ≤ g285)); have n4_ := n3_; have n5_ := qM ((by rw [hg]; exact Nat.ne_of_lt (qL (g := g280) (by (with_reducible repeat first | refine qN ?_ _ | refine qD ?_ | refine qA ?_ _); exact B280.out)) : g280 ≠ g285)); have n6_ := qM (Ne.symm n5_.out); clear B280 HB; have B280 := n0_; have HB := n1_; have B285 := n2_; have GW285 := n3_; have GE285 := n4_; have NB280_285 := n5_; have NB285_280 := n6_; clear n0_ n1_ n2_ n3_ n4_ n5_ n6_; clear hb hbox hg; have hnb65 := NB285_280.out; have hnc65 := NB280_285.out; obtain ⟨z66_0, z66_1, z66_2, z66_3, f66_0, f66_1, f66_2, f66_3⟩ := cells4 B285.out) | ((with_reducible refine gate_dst (N := 18) rfl ?_); refine Kd.R_lit Kd.string _ 9 ?hg (N := 18) ?hd (xs := ([] : List ByteArray)) (inner := []) (ok := fun _ => True) (okp := fun _ => True) ?hr ?hp (fun _ hk => hk) trivial (Below.refl _ _) (Nat.le_refl _) (by simp) ?_; (case hd => rfl); (case hg => rfl); (case hr => first | (go_simp; done) | (go_simp; rfl)); (case hp => exact (Reps.none _ _)); intro v287 w67 ho68 hb hg_ hnew_; clear hg_ hnew_; (first | rw [← Ny286.out] at ho68 | (simp only [Int.reduceToNat] at ho68; rw [← Ny286.out] at ho68)); have n0_ := qM (Kd.R_lower ho68 (eZ (by repeat (first | (with_reducible first | exact HB.out | apply eA | apply eN | apply eD | refine eU ?_ (by assumption)) | exact HB.out)))); have n1_ := qM (qB (g := g280) (o := .cells #[.int .i64 t276, .int .i64 t277, .int .i64 t278, .int .i64 t279] 29 (0, 0)) (by (with_reducible repeat first | refine qN ?_ _ | refine qD ?_ | refine qA ?_ _); (iterate 4 (refine qR ?_ NB280_285.out _; (with_reducible repeat first | refine qN ?_ _ | refine qD ?_ | refine qA ?_ _))); exact B280.out) hb); have n2_ := qM (qB (g := g285) (by (with_reducible repeat first | refine qN ?_ _ | refine qD ?_ | refine qA ?_ _); apply puts4; (with_reducible repeat first | refine qN ?_ _ | refine qD ?_ | refine qA ?_ _); exact B285.out) hb); have n3_ := qM (eT (by repeat (first | (with_reducible first | exact HB.out | apply eA | apply eN | apply eD | refine eU ?_ (by assumption)) | exact HB.out)) hb); clear B280 B285 HB; have HO288 := n0_; have B280 := n1_; have B285 := n2_; have HB := n3_; clear n0_ n1_ n2_ n3_; clear hb ho68) | ((with_reducible refine gate_builtin (b := .append) (xs := #[.tmp 18, .tmp 19]) rfl ?_); at_builtin; refine Kd.R_append_rows Kd.string (w0 := w) w.heap.size rfl (.tmp 18) (.tmp 19) 50 9 (.string ⟨#[]⟩) 16 rfl Try.underlying50 info9 rfl (by decide) (by omega) v287 y286 l0 _ _ _ (fun _ => True) (fun _ => False) rfl rfl ?aO ?aR (fun _ _ h => h) (fun _ h => h.elim) ?aF ?aB ?aS ?aL ?_; (case aR => repeat (first | exact (Kd.C_below HR0.out HB.out) | (with_reducible refine Kd.C_alloc ?_ _) | (with_reducible refine Kd.C_drewN ?_ _) | (with_reducible refine Kd.C_drew ?_))); (case aB => exact (by repeat (first | (with_reducible first | exact HB.out | apply eA | apply eN | apply eD | refine eU ?_ (by assumption)) | exact HB.out))); (case aF => exact (fun _ _ => trivial)); (case aO => exact (by (with_reducible repeat first | apply RA | apply RN | apply RD); exact HO288.out)); (case aS => exact (eZ (by repeat (first | (with_reducible first | exact HB.out | apply eA | apply eN | apply eD | refine eU ?_ (by assumption)) | exact HB.out)))); (case aL => have := LMc6.out; omega); intro v290 w69 ho hb hg hat; rw [← Ny289.out] at ho; have n0_ := qM (blk_grown (g := g280) (o := .cells #[.int .i64 t276, .int .i64 t277, .int .i64 t278, .int .i64 t279] 29 (0, 0)) (by (with_reducible repeat first | refine qN ?_ _ | refine qD ?_ | refine qA ?_ _); exact B280.out) hg (Kd.R_ne HO288.out B280.out (by decide))); have n1_ := qM (blk_grown (g := g285) (o := .cells #[.int .i64 t281, .int .i64 t282, .int .i64 t283, .int .i64 t284] 29 (0, 0)) (by (with_reducible repeat first | refine qN ?_ _ | refine qD ?_ | refine qA ?_ _); exact B285.out) hg (Kd.R_ne HO288.out B285.out (by decide))); have n2_ := qM (hb); have n3_ := qM (ho); clear B280 B285 HB HO288; have B280 := n0_; have B285 := n1_; have HB := n2_; have HO291 := n3_; clear n0_ n1_ n2_ n3_; clear ho hb hg hat) | ((with_reducible refine gate_builtin (b := .append) (xs := #[.tmp 21, .tmp 22]) rfl ?_); at_builtin; refine Kd.R_append_rows Kd.string (w0 := w) w.heap.size rfl (.tmp 21) (.tmp 22) 50 9 (.string ⟨#[]⟩) 16 rfl Try.underlying50 info9 rfl (by decide) (by omega) v290 y289 l1 _ _ _ (fun _ => True) (fun _ => False) rfl rfl ?aO ?aR (fun _ _ h => h) (fun _ h => h.elim) ?aF ?aB ?aS ?aL ?_; (case aR => repeat (first | exact (Kd.C_below HR1.out HB.out) | (with_reducible refine Kd.C_alloc ?_ _) | (with_reducible refine Kd.C_drewN ?_ _) | (with_reducible refine Kd.C_drew ?_))); (case aB => exact (by repeat (first | (with_reducible first | exact HB.out | apply eA | apply eN | apply eD | refine eU ?_ (by assumption)) | exact HB.out))); (case aF => exact (fun _ _ => trivial)); (case aO => exact (by (with_reducible repeat first | apply RA | apply RN | apply RD); exact HO291.out)); (case aS => exact (eZ (by repeat (first | (with_reducible first | exact HB.out | apply eA | apply eN | apply eD | refine eU ?_ (by assumption)) | exact HB.out)))); (case aL => have := LMc7.out; omega); intro v293 w70 ho hb hg hat; rw [← Ny292.out] at ho; have n0_ := qM (blk_grown (g := g280) (o := .cells #[.int .i64 t276, .int .i64 t277, .int .i64 t278, .int .i64 t279] 29 (0, 0)) (by (with_reducible repeat first | refine qN ?_ _ | refine qD ?_ | refine qA ?_ _); exact B280.out) hg (Kd.R_ne HO291.out B280.out (by decide))); have n1_ := qM (blk_grown (g := g285) (o := .cells #[.int .i64 t281, .int .i64 t282, .int .i64 t283, .int .i64 t284] 29 (0, 0)) (by (with_reducible repeat first | refine qN ?_ _ | refine qD ?_ | refine qA ?_ _); exact B285.out) hg (Kd.R_ne HO291.out B285.out (by decide))); have n2_ := qM (hb); have n3_ := qM (ho); clear B280 B285 HB HO291; have B280 := n0_; have B285 := n1_; have HB := n2_; have HO294 := n3_; clear n0_ n1_ n2_ n3_; clear ho hb hg hat; obtain ⟨Ao71, co71, eo71⟩ := Kd.R_slice HO294.out; subst eo71) | ((with_reducible refine gate_callee (f := 15) rfl ?_); refine goesL_ (some 26) rfl rfl Try.func15 (by kernel_rfl) rfl #[.agg #[.slice Ao71 y292.length co71, .slice none 0 0, .int .i64 0, .bool false]] rfl (by (try simp only [List.map_toArray, List.map_cons, List.map_nil]); first | done | rfl | (simp only [List.length_drop, List.length_take]; rfl)) ?_; (refine (count_Weigh.calls k _ _ y292 _ _ ([] : List (S102)) 0 false t295 t296 t297 t298 _ ?side1 ?side2 ?side3 ?side4 A8.out).mono ?_); (case side1 => repeat (first | exact (Kd.R_reads' HO294.out).2.2 | (with_reducible refine Kd.C_alloc ?_ _) | (with_reducible refine Kd.C_drewN ?_ _) | (with_reducible refine Kd.C_drew ?_))); (case side2 => exact (Kd.R_reads' HO294.out).2.1); (case side3 => exact Kd.C_nil _ _); (case side4 => exact Nat.le_refl _); rintro e w72 ⟨rfl, hb⟩; refine ⟨_, rfl, ?_⟩; have n0_ := qM (Kd.R_below (by (with_reducible repeat first | apply RA | apply RN | apply RD); exact HO294.out) hb); have n1_ := qM (qB (g := g280) (by (with_reducible repeat first | refine qN ?_ _ | refine qD ?_ | refine qA ?_ _); exact B280.out) hb); have n2_ := qM (qB (g := g285) (by (with_reducible repeat first | refine qN ?_ _ | refine qD ?_ | refine qA ?_ _); exact B285.out) hb); have n3_ := qM (eT (by repeat (first | (with_reducible first | exact HB.out | apply eA | apply eN | apply eD | refine eU ?_ (by assumption)) | exact HB.out)) hb); clear HO294 B280 B285 HB; have HO294 := n0_; have B280 := n1_; have B285 := n2_; have HB := n3_; clear n0_ n1_ n2_ n3_; (try clear hb); (try clear hb2); (try clear hk); (try clear hi)) | ((with_reducible refine gate_dst (N := 9) rfl ?_); refine box_event ?hg (N := 9) ?hd (cs := #[.int .i64 0, .int .i64 0, .int .i64 0, .int .i64 0]) (t := 29) ?hr ?_; (case hd => rfl); (case hg => rfl); (case hr => first | (go_simp; done) | (go_simp; rfl)); intro g299 hg w73 hbox hb; have n0_ := qM (Kd.R_below (by (with_reducible repeat first | apply RA | apply RN | apply RD); exact HO294.out) hb); have n1_ := qM (qB (g := g280) (by (with_reducible repeat first | refine qN ?_ _ | refine qD ?_ | refine qA ?_ _); exact B280.out) hb); have n2_ := qM (qB (g := g285) (by (with_reducible repeat first | refine qN ?_ _ | refine qD ?_ | refine qA ?_ _); exact B285.out) hb); have n3_ := qM (eT (by repeat (first | (with_reducible first | exact HB.out | apply eA | apply eN | apply eD | refine eU ?_ (by assumption)) | exact HB.out)) hb); have n4_ := qM (hbox); have n5_ := qM ((by rw [hg]; exact (eZ (by repeat (first | (with_reducible first | exact HB.out | apply eA | apply eN | apply eD | refine eU ?_ (by assumption)) | exact HB.out))) : w.heap.size ≤ g299)); have n6_ := n5_; have n7_ := qM ((by rw [hg]; exact Nat.ne_of_lt (qL (g := g280) (by (with_reducible repeat first | refine qN ?_ _ | refine qD ?_ | refine qA ?_ _); exact B280.out)) : g280 ≠ g299)); have n8_ := qM (Ne.symm n7_.out); have n9_ := qM ((by rw [hg]; exact Nat.ne_of_lt (qL (g := g285) (by (with_reducible repeat first | refine qN ?_ _ | refine qD ?_ | refine qA ?_ _); exact B285.out)) : g285 ≠ g299)); have n10_ := qM (Ne.symm n9_.out); clear HO294 B280 B285 HB; have HO294 := n0_; have B280 := n1_; have B285 := n2_; have HB := n3_; have B299 := n4_; have GW299 := n5_; have GE299 := n6_; have NB280_299 := n7_; have NB299_280 := n8_; have NB285_299 := n9_; have NB299_285 := n10_; clear n0_ n1_ n2_ n3_ n4_ n5_ n6_ n7_ n8_ n9_ n10_; clear hb hbox hg; have hnb74 := NB299_280.out; have hnc74 := NB280_299.out; have hnb75 := NB299_285.out; have hnc75 := NB285_299.out; obtain ⟨z76_0, z76_1, z76_2, z76_3, f76_0, f76_1, f76_2, f76_3⟩ := cells4 B299.out; obtain ⟨z77_0, z77_1, z77_2, z77_3, f77_0, f77_1, f77_2, f77_3⟩ := cells4 B280.out; obtain ⟨z78_0, z78_1, z78_2, z78_3, f78_0, f78_1, f78_2, f78_3⟩ := cells4 B285.out) | ((with_reducible refine gate_dst (N := 29) rfl ?_); refine Kd.R_lit k29 _ 29 ?hg (N := 29) ?hd (xs := ([(⟨t276, t277, t278, t279⟩ : S29), (⟨t281, t282, t283, t284⟩ : S29)] : List (S29))) (inner := [.int .i64 t276, .int .i64 t277, .int .i64 t278, .int .i64 t279, .int .i64 t281, .int .i64 t282, .int .i64 t283, .int .i64 t284]) (ok := fun _ => True) (okp := fun _ => True) ?hr ?hp (fun _ hk => hk) trivial (Below.refl _ _) (Nat.le_refl _) (by simp) ?_; (case hd => rfl); (case hg => rfl); (case hr => first | (go_simp; done) | (go_simp; rfl)); (case hp => exact (Reps.c4 (show Kd.M k29 _ _ _ (⟨t276, t277, t278, t279⟩ : S29) [.int .i64 t276, .int .i64 t277, .int .i64 t278, .int .i64 t279] from (k29_mkM _ _ _ (⟨t276, t277, t278, t279⟩ : S29) )) (Reps.c4 (show Kd.M k29 _ _ _ (⟨t281, t282, t283, t284⟩ : S29) [.int .i64 t281, .int .i64 t282, .int .i64 t283, .int .i64 t284] from (k29_mkM _ _ _ (⟨t281, t282, t283, t284⟩ : S29) )) (Reps.none _ _)))); intro v301 w79 ho80 hb hg_ hnew_; clear hg_ hnew_; (first | rw [← Ny300.out] at ho80 | (simp only [Int.reduceToNat] at ho80; rw [← Ny300.out] at ho80)); have n0_ := qM (Kd.R_below (by (with_reducible repeat first | apply RA | apply RN | apply RD); exact (Kd.R_mono (Kd.R_far (p := ⟨g299, 3, none⟩) (Kd.R_far (p := ⟨g299, 2, none⟩) (Kd.R_far (p := ⟨g299, 1, none⟩) (Kd.R_far (p := ⟨g299, 0, none⟩) (Kd.R_types HO294.out B299.out (by decide)) (fun _ hk => hk.2) (.int .i64 t295)) (fun _ hk => hk.2) (.int .i64 t296)) (fun _ hk => hk.2) (.int .i64 t297)) (fun _ hk => hk.2) (.int .i64 t298)) (fun _ h_ => h_.1))) hb); have n1_ := qM (Kd.R_lower (Kd.R_newB (Kd.R_newB (Kd.R_newB ho80 (g := g280) (o := .cells #[.int .i64 t276, .int .i64 t277, .int .i64 t278, .int .i64 t279] 29 (0, 0)) (by (with_reducible repeat first | refine qN ?_ _ | refine qD ?_ | refine qA ?_ _); (iterate 4 (refine qR ?_ NB280_299.out _; (with_reducible repeat first | refine qN ?_ _ | refine qD ?_ | refine qA ?_ _))); exact B280.out)) (g := g285) (o := .cells #[.int .i64 t281, .int .i64 t282, .int .i64 t283, .int .i64 t284] 29 (0, 0)) (by (with_reducible repeat first | refine qN ?_ _ | refine qD ?_ | refine qA ?_ _); (iterate 4 (refine qR ?_ NB285_299.out _; (with_reducible repeat first | refine qN ?_ _ | refine qD ?_ | refine qA ?_ _))); exact B285.out)) (g := g299) (o := .cells #[.int .i64 t295, .int .i64 t296, .int .i64 t297, .int .i64 t298] 29 (0, 0)) (by (with_reducible repeat first | refine qN ?_ _ | refine qD ?_ | refine qA ?_ _); apply puts4; (with_reducible repeat first | refine qN ?_ _ | refine qD ?_ | refine qA ?_ _); exact B299.out)) (eZ (by repeat (first | (with_reducible first | exact HB.out | apply eA | apply eN | apply eD | refine eU ?_ (by assumption)) | exact HB.out)))); have n2_ := qM (qB (g := g280) (o := .cells #[.int .i64 t276, .int .i64 t277, .int .i64 t278, .int .i64 t279] 29 (0, 0)) (by (with_reducible repeat first | refine qN ?_ _ | refine qD ?_ | refine qA ?_ _); (iterate 4 (refine qR ?_ NB280_299.out _; (with_reducible repeat first | refine qN ?_ _ | refine qD ?_ | refine qA ?_ _))); exact B280.out) hb); have n3_ := qM (qB (g := g285) (o := .cells #[.int .i64 t281, .int .i64 t282, .int .i64 t283, .int .i64 t284] 29 (0, 0)) (by (with_reducible repeat first | refine qN ?_ _ | refine qD ?_ | refine qA ?_ _); (iterate 4 (refine qR ?_ NB285_299.out _; (with_reducible repeat first | refine qN ?_ _ | refine qD ?_ | refine qA ?_ _))); exact B285.out) hb); have n4_ := qM (qB (g := g299) (by (with_reducible repeat first | refine qN ?_ _ | refine qD ?_ | refine qA ?_ _); apply puts4; (with_reducible repeat first | refine qN ?_ _ | refine qD ?_ | refine qA ?_ _); exact B299.out) hb); have n5_ := qM (eT (by repeat (first | (with_reducible first | exact HB.out | apply eA | apply eN | apply eD | refine eU ?_ (by assumption)) | exact HB.out)) hb); clear HO294 B280 B285 B299 HB; have HO294 := n0_; have HO302 := n1_; have B280 := n2_; have B285 := n3_; have B299 := n4_; have HB := n5_; clear n0_ n1_ n2_ n3_ n4_ n5_; clear hb ho80; obtain ⟨Ao81, co81, eo81⟩ := Kd.R_slice HO302.out; subst eo81) | ((with_reducible refine gate_callee (f := 14) rfl ?_); refine goesL_ (some 30) rfl rfl Try.func14 (by kernel_rfl) rfl #[.slice Ao81 y300.length co81] rfl (by (try simp only [List.map_toArray, List.map_cons, List.map_nil]); first | done | rfl | (simp only [List.length_drop, List.length_take]; rfl)) ?_; (with_reducible refine (count_Sum.calls k _ _ y300 t303 t304 t305 t306 _ ?side1 ?side2 A9.out).mono ?_); (case side1 => repeat (first | exact (Kd.R_reads' HO302.out).2.2 | (with_reducible refine Kd.C_alloc ?_ _) | (with_reducible refine Kd.C_drewN ?_ _) | (with_reducible refine Kd.C_drew ?_))); (case side2 => exact (Kd.R_reads' HO302.out).2.1); rintro e w82 ⟨rfl, hb⟩; refine ⟨_, rfl, ?_⟩; have n0_ := qM (Kd.R_below (by (with_reducible repeat first | apply RA | apply RN | apply RD); exact HO294.out) hb); have n1_ := qM (Kd.R_below (by (with_reducible repeat first | apply RA | apply RN | apply RD); exact HO302.out) hb); have n2_ := qM (qB (g := g280) (by (with_reducible repeat first | refine qN ?_ _ | refine qD ?_ | refine qA ?_ _); exact B280.out) hb); have n3_ := qM (qB (g := g285) (by (with_reducible repeat first | refine qN ?_ _ | refine qD ?_ | refine qA ?_ _); exact B285.out) hb); have n4_ := qM (qB (g := g299) (by (with_reducible repeat first | refine qN ?_ _ | refine qD ?_ | refine qA ?_ _); exact B299.out) hb); have n5_ := qM (eT (by repeat (first | (with_reducible first | exact HB.out | apply eA | apply eN | apply eD | refine eU ?_ (by assumption)) | exact HB.out)) hb); clear HO294 HO302 B280 B285 B299 HB; have HO294 := n0_; have HO302 := n1_; have B280 := n2_; have B285 := n3_; have B299 := n4_; have HB := n5_; clear n0_ n1_ n2_ n3_ n4_ n5_; (try clear hb); (try clear hb2); (try clear hk); (try clear hi)) | ((with_reducible refine gate_dst (N := 10) rfl ?_); refine box_event ?hg (N := 10) ?hd (cs := #[.int .i64 0, .int .i64 0, .int .i64 0, .int .i64 0]) (t := 29) ?hr ?_; (case hd => rfl); (case hg => rfl); (case hr => first | (go_simp; done) | (go_simp; rfl)); intro g307 hg w83 hbox hb; have n0_ := qM (Kd.R_below (by (with_reducible repeat first | apply RA | apply RN | apply RD); exact HO294.out) hb); have n1_ := qM (Kd.R_below (Kd.R_elderB (by (with_reducible repeat first | apply RA | apply RN | apply RD); exact HO302.out) g307 (Nat.le_of_eq hg.symm)) hb); have n2_ := qM (qB (g := g280) (by (with_reducible repeat first | refine qN ?_ _ | refine qD ?_ | refine qA ?_ _); exact B280.out) hb); have n3_ := qM (qB (g := g285) (by (with_reducible repeat first | refine qN ?_ _ | refine qD ?_ | refine qA ?_ _); exact B285.out) hb); have n4_ := qM (qB (g := g299) (by (with_reducible repeat first | refine qN ?_ _ | refine qD ?_ | refine qA ?_ _); exact B299.out) hb); have n5_ := qM (eT (by repeat (first | (with_reducible first | exact HB.out | apply eA | apply eN | apply eD | refine eU ?_ (by assumption)) | exact HB.out)) hb); have n6_ := qM (hbox); have n7_ := qM ((by rw [hg]; exact (eZ (by repeat (first | (with_reducible first | exact HB.out | apply eA | apply eN | apply eD | refine eU ?_ (by assumption)) | exact HB.out))) : w.heap.size ≤ g307)); have n8_ := n7_; have n9_ := qM ((by rw [hg]; exact Nat.ne_of_lt (qL (g := g280) (by (with_reducible repeat first | refine qN ?_ _ | refine qD ?_ | refine qA ?_ _); exact B280.out)) : g280 ≠ g307)); have n10_ := qM (Ne.symm n9_.out); have n11_ := qM ((by rw [hg]; exact Nat.ne_of_lt (qL (g := g285) (by (with_reducible repeat first | refine qN ?_ _ | refine qD ?_ | refine qA ?_ _); exact B285.out)) : g285 ≠ g307)); have n12_ := qM (Ne.symm n11_.out); have n13_ := qM ((by rw [hg]; exact Nat.ne_of_lt (qL (g := g299) (by (with_reducible repeat first | refine qN ?_ _ | refine qD ?_ | refine qA ?_ _); exact B299.out)) : g299 ≠ g307)); have n14_ := qM (Ne.symm n13_.out); clear HO294 HO302 B280 B285 B299 HB; have HO294 := n0_; have HO302 := n1_; have B280 := n2_; have B285 := n3_; have B299 := n4_; have HB := n5_; have B307 := n6_; have GW307 := n7_; have GE307 := n8_; have NB280_307 := n9_; have NB307_280 := n10_; have NB285_307 := n11_; have NB307_285 := n12_; have NB299_307 := n13_; have NB307_299 := n14_; clear n0_ n1_ n2_ n3_ n4_ n5_ n6_ n7_ n8_ n9_ n10_ n11_ n12_ n13_ n14_; clear hb hbox hg; have hnb84 := NB307_280.out; have hnc84 := NB280_307.out; have hnb85 := NB307_285.out; have hnc85 := NB285_307.out; have hnb86 := NB307_299.out; have hnc86 := NB299_307.out; obtain ⟨z87_0, z87_1, z87_2, z87_3, f87_0, f87_1, f87_2, f87_3⟩ := cells4 B307.out; obtain ⟨z88_0, z88_1, z88_2, z88_3, f88_0, f88_1, f88_2, f88_3⟩ := cells4 B299.out))
    (try simp only [Act.put, List.setIfInBounds_toArray, List.set_cons_zero, List.set_cons_succ])
    go_cut [4] (fun v4 wc => ∃ (kq : Nat) (x4_57 : Bool), v4 = .bool x4_57 ∧ Aside0 (hogsheadlaw19_CountHalves.j1 kq x4_57 = some r) ∧ Aside0 (kq ≤ k) ∧ Aside0 (wc.heap[g280]? = some (.cells #[.int .i64 t276, .int .i64 t277, .int .i64 t278, .int .i64 t279] 29 (0, 0))) ∧ Aside0 (wc.heap[g285]? = some (.cells #[.int .i64 t281, .int .i64 t282, .int .i64 t283, .int .i64 t284] 29 (0, 0))) ∧ Aside0 (wc.heap[g299]? = some (.cells #[.int .i64 t295, .int .i64 t296, .int .i64 t297, .int .i64 t298] 29 (0, 0))) ∧ Aside0 (wc.heap[g307]? = some (.cells #[.int .i64 t303, .int .i64 t304, .int .i64 t305, .int .i64 t306] 29 (0, 0))) ∧ Aside0 (Below w.heap.size w wc))
    case first =>
     have H := HC58.out
     clear HC58
     by_cases c89 : t275 = true
     ·subst c89
      have H1 : (hogsheadlaw19_CountHalves.j1 k (t295 == t303 && (t296 == t304 && (t297 == t305 && (t298 == t306))))) = some r := by rw [if_pos rfl] at H; exact H
      clear H
      have H := H1
      clear H1
      have H' := qM H
      clear H
      have hnb90 := NB299_280.out
      have hnc90 := NB280_299.out
      have hnb91 := NB299_285.out
      have hnc91 := NB285_299.out
      have hnb92 := NB299_307.out
      have hnc92 := NB307_299.out
      obtain ⟨z93_0, z93_1, z93_2, z93_3, f93_0, f93_1, f93_2, f93_3⟩ := cells4 B299.out
      have hnb94 := NB307_280.out
      have hnc94 := NB280_307.out
      have hnb95 := NB307_285.out
      have hnc95 := NB285_307.out
      obtain ⟨z96_0, z96_1, z96_2, z96_3, f96_0, f96_1, f96_2, f96_3⟩ := cells4 B307.out
      go_wp2
      go_meet
      case rel => exact ⟨_, ((t295 == t303 && (t296 == t304 && (t297 == t305 && (t298 == t306))))), (by first | rfl | (simp; done) | (simp [*]; done)), H', ⟨by first | omega | exact Nat.le_refl _⟩, ⟨by (with_reducible repeat first | refine qN ?_ _ | refine qD ?_ | refine qA ?_ _); (iterate 4 (refine qR ?_ NB280_307.out _; (with_reducible repeat first | refine qN ?_ _ | refine qD ?_ | refine qA ?_ _))); exact B280.out⟩, ⟨by (with_reducible repeat first | refine qN ?_ _ | refine qD ?_ | refine qA ?_ _); (iterate 4 (refine qR ?_ NB285_307.out _; (with_reducible repeat first | refine qN ?_ _ | refine qD ?_ | refine qA ?_ _))); exact B285.out⟩, ⟨by (with_reducible repeat first | refine qN ?_ _ | refine qD ?_ | refine qA ?_ _); (iterate 4 (refine qR ?_ NB299_307.out _; (with_reducible repeat first | refine qN ?_ _ | refine qD ?_ | refine qA ?_ _))); exact B299.out⟩, ⟨by (with_reducible repeat first | refine qN ?_ _ | refine qD ?_ | refine qA ?_ _); apply puts4; (with_reducible repeat first | refine qN ?_ _ | refine qD ?_ | refine qA ?_ _); exact B307.out⟩, ⟨by repeat (first | (with_reducible first | exact HB.out | apply eA | apply eN | apply eD | refine eS ?_ GE280.out | refine eS ?_ GE285.out | refine eS ?_ GE299.out | refine eS ?_ GE307.out) | exact HB.out)⟩⟩
     ·replace c89 := Bool.eq_false_iff.mpr c89
      subst c89
      have H1 : (hogsheadlaw19_CountHalves.j1 k false) = some r := by rw [if_neg (show ¬ (false = true) by decide)] at H; exact H
      clear H
      have H := H1
      clear H1
      have H' := qM H
      clear H
      go_wp2
      go_meet
      case rel => exact ⟨_, (false), (by first | rfl | (simp; done) | (simp [*]; done)), H', ⟨by first | omega | exact Nat.le_refl _⟩, ⟨by (with_reducible repeat first | refine qN ?_ _ | refine qD ?_ | refine qA ?_ _); (iterate 4 (refine qR ?_ NB280_307.out _; (with_reducible repeat first | refine qN ?_ _ | refine qD ?_ | refine qA ?_ _))); exact B280.out⟩, ⟨by (with_reducible repeat first | refine qN ?_ _ | refine qD ?_ | refine qA ?_ _); (iterate 4 (refine qR ?_ NB285_307.out _; (with_reducible repeat first | refine qN ?_ _ | refine qD ?_ | refine qA ?_ _))); exact B285.out⟩, ⟨by (with_reducible repeat first | refine qN ?_ _ | refine qD ?_ | refine qA ?_ _); (iterate 4 (refine qR ?_ NB299_307.out _; (with_reducible repeat first | refine qN ?_ _ | refine qD ?_ | refine qA ?_ _))); exact B299.out⟩, ⟨by (with_reducible repeat first | refine qN ?_ _ | refine qD ?_ | refine qA ?_ _); apply puts4; (with_reducible repeat first | refine qN ?_ _ | refine qD ?_ | refine qA ?_ _); exact B307.out⟩, ⟨by repeat (first | (with_reducible first | exact HB.out | apply eA | apply eN | apply eD | refine eS ?_ GE280.out | refine eS ?_ GE285.out | refine eS ?_ GE299.out | refine eS ?_ GE307.out) | exact HB.out)⟩⟩
    case rest =>
     clear HC58
     try clear c1
     try clear c2
     try clear p2
     try clear c3
     try clear c4
     try clear c5
     try clear c6
     try clear p6
     try clear c7
     try clear c8
     try clear c9
     try clear c10
     try clear c10b0
     try clear c14
     try clear c15
     try clear c18
     try clear c27
     try clear c28
     try clear c37
     try clear c38
     try clear c39
     try clear c42
     try clear c43
     try clear c43b0
     try clear c44
     try clear c45
     try clear c46
     try clear c48
     try clear c49
     try clear c51
     try clear c52
     try clear c53
     try clear c55
     try clear c56
     try clear p64
     try clear c65
     try clear c74
     try clear c75
     try clear c84
     try clear c85
     try clear c86
     try clear c89
     try clear c90
     try clear c91
     try clear c92
     try clear c94
     try clear c95
     try clear z15_0
     try clear z15_1
     try clear z15_2
     try clear z15_3
     try clear z19_0
     try clear z19_1
     try clear z19_2
     try clear z19_3
     try clear z29_0
     try clear z29_1
     try clear z29_2
     try clear z29_3
     try clear z30_0
     try clear z30_1
     try clear z30_2
     try clear z30_3
     try clear z31_0
     try clear z31_1
     try clear z31_2
     try clear z31_3
     try clear z40_0
     try clear z40_1
     try clear z40_2
     try clear z40_3
     try clear z41_0
     try clear z41_1
     try clear z41_2
     try clear z41_3
     try clear z47_0
     try clear z47_1
     try clear z47_2
     try clear z47_3
     try clear z50_0
     try clear z50_1
     try clear z50_2
     try clear z50_3
     try clear z54_0
     try clear z54_1
     try clear z54_2
     try clear z54_3
     try clear z57_0
     try clear z57_1
     try clear z57_2
     try clear z57_3
     try clear z62_0
     try clear z62_1
     try clear z62_2
     try clear z62_3
     try clear z66_0
     try clear z66_1
     try clear z66_2
     try clear z66_3
     try clear z76_0
     try clear z76_1
     try clear z76_2
     try clear z76_3
     try clear z77_0
     try clear z77_1
     try clear z77_2
     try clear z77_3
     try clear z78_0
     try clear z78_1
     try clear z78_2
     try clear z78_3
     try clear z87_0
     try clear z87_1
     try clear z87_2
     try clear z87_3
     try clear z88_0
     try clear z88_1
     try clear z88_2
     try clear z88_3
     try clear z93_0
     try clear z93_1
     try clear z93_2
     try clear z93_3
     try clear z96_0
     try clear z96_1
     try clear z96_2
     try clear z96_3
     try clear f15_0
     try clear f15_1
     try clear f15_2
     try clear f15_3
     try clear f19_0
     try clear f19_1
     try clear f19_2
     try clear f19_3
     try clear f29_0
     try clear f29_1
     try clear f29_2
     try clear f29_3
     try clear f30_0
     try clear f30_1
     try clear f30_2
     try clear f30_3
     try clear f31_0
     try clear f31_1
     try clear f31_2
     try clear f31_3
     try clear f40_0
     try clear f40_1
     try clear f40_2
     try clear f40_3
     try clear f41_0
     try clear f41_1
     try clear f41_2
     try clear f41_3
     try clear f47_0
     try clear f47_1
     try clear f47_2
     try clear f47_3
     try clear f50_0
     try clear f50_1
     try clear f50_2
     try clear f50_3
     try clear f54_0
     try clear f54_1
     try clear f54_2
     try clear f54_3
     try clear f57_0
     try clear f57_1
     try clear f57_2
     try clear f57_3
     try clear f62_0
     try clear f62_1
     try clear f62_2
     try clear f62_3
     try clear f66_0
     try clear f66_1
     try clear f66_2
     try clear f66_3
     try clear f76_0
     try clear f76_1
     try clear f76_2
     try clear f76_3
     try clear f77_0
     try clear f77_1
     try clear f77_2
     try clear f77_3
     try clear f78_0
     try clear f78_1
     try clear f78_2
     try clear f78_3
     try clear f87_0
     try clear f87_1
     try clear f87_2
     try clear f87_3
     try clear f88_0
     try clear f88_1
     try clear f88_2
     try clear f88_3
     try clear f93_0
     try clear f93_1
     try clear f93_2
     try clear f93_3
     try clear f96_0
     try clear f96_1
     try clear f96_2
     try clear f96_3
     try clear p2
     try clear p6
     obtain ⟨kq, x4_57, rfl, HA, HJ57, B280, B285, B299, B307, HB⟩ := hcut
     cases kq with
     | zero => exact absurd HA.out (by simp [hogsheadlaw19_CountHalves.j1])
     | succ kj57 =>
      have H := HA.out
      clear HA
      simp only [hogsheadlaw19_CountHalves.j1] at H
      obtain rfl := Option.some.inj H
      go_wp2
      go_ret
      exact ⟨by first | rfl | (simp [errW_none, errW_some] <;> rfl) | (simp [*, errW_none, errW_some] <;> rfl), by repeat (first | (with_reducible first | exact HB.out | apply eA | apply eN | apply eD | refine eS ?_ GE280.out | refine eS ?_ GE285.out | refine eS ?_ GE299.out | refine eS ?_ GE307.out) | exact HB.out)⟩
  ·rw [if_neg c7] at H
   exact absurd H (by simp)
 ·rw [if_neg c6] at H
  exact absurd H (by simp)

end Go.Proofs.Ytlfonfceaiiinaa.PAll
