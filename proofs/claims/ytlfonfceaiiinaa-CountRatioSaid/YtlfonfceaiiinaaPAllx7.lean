/- Functions of the program as plain Lean functions, and that each call comes to what they say. Laid by a program of this session (hprint.py); Lean checks it. -/
import Derived.Test.YtlfonfceaiiinaaPAllx0
import Derived.Test.YtlfonfceaiiinaaPAllx6
namespace Go.Proofs.Ytlfonfceaiiinaa.PAll
open Go.RowKit Go.Proofs.YtlfonfceaiiinaaW.PrintWords Go.Proofs.YtlfonfceaiiinaaW.PrintLast Go.Proofs.YtlfonfceaiiinaaW.PrintMore
attribute [local go_sem] max2_int min2_int max_two min_two max_three min_three max_four min_four   -- for this text's walks alone
set_option linter.unusedVariables false
set_option linter.unusedSimpArgs false

/-! ### hogsheadref15_May: function 18 -/
mutual
def hogsheadref15_May.j0 : Nat → Bool → Int → Int → Int → ByteArray → Int → Int → Int → Int → Int → Int → Int → List (S75) → Option (Bool)
 | 0, _, _, _, _, _, _, _, _, _, _, _, _, _ => none
 | k + 1, x46, x142000, x142001, x142002, x142003, x142004, x142005, x142006, x142007, x142008, x142009, x142010, x142011 => if x46 = true then (some false) else ((hogsheadref15_small.f x142004).bind fun t142 => (if t142 = true then ((hogsheadref15_small.f x142005).bind fun t143 => (if t143 = true then ((hogsheadref15_small.f x142006).bind fun t144 => (hogsheadref15_May.j1 k t144 x142000 x142001 x142002 x142003 x142004 x142005 x142006 x142007 x142008 x142009 x142010 x142011)) else (hogsheadref15_May.j1 k false x142000 x142001 x142002 x142003 x142004 x142005 x142006 x142007 x142008 x142009 x142010 x142011))) else (hogsheadref15_May.j1 k false x142000 x142001 x142002 x142003 x142004 x142005 x142006 x142007 x142008 x142009 x142010 x142011)))
def hogsheadref15_May.j1 : Nat → Bool → Int → Int → Int → ByteArray → Int → Int → Int → Int → Int → Int → Int → List (S75) → Option (Bool)
 | 0, _, _, _, _, _, _, _, _, _, _, _, _, _ => none
 | k + 1, x3, x142000, x142001, x142002, x142003, x142004, x142005, x142006, x142007, x142008, x142009, x142010, x142011 => (hogsheadref15_small.f x142008).bind fun t145 => (if t145 = true then ((hogsheadref15_small.f x142009).bind fun t146 => (if t146 = true then ((hogsheadref15_small.f x142010).bind fun t147 => (hogsheadref15_May.j2 k x3 t147 x142000 x142001 x142002 x142003 x142004 x142005 x142006 x142007 x142008 x142009 x142010 x142011)) else (hogsheadref15_May.j2 k x3 false x142000 x142001 x142002 x142003 x142004 x142005 x142006 x142007 x142008 x142009 x142010 x142011))) else (hogsheadref15_May.j2 k x3 false x142000 x142001 x142002 x142003 x142004 x142005 x142006 x142007 x142008 x142009 x142010 x142011))
def hogsheadref15_May.j2 : Nat → Bool → Bool → Int → Int → Int → ByteArray → Int → Int → Int → Int → Int → Int → Int → List (S75) → Option (Bool)
 | 0, _, _, _, _, _, _, _, _, _, _, _, _, _, _ => none
 | k + 1, x3, x4, x142000, x142001, x142002, x142003, x142004, x142005, x142006, x142007, x142008, x142009, x142010, x142011 => if x3 = true then (hogsheadref15_May.j3 k (!x4) x142000 x142001 x142002 x142003 x142004 x142005 x142006 x142007 x142008 x142009 x142010 x142011) else (hogsheadref15_May.j3 k true x142000 x142001 x142002 x142003 x142004 x142005 x142006 x142007 x142008 x142009 x142010 x142011)
def hogsheadref15_May.j3 : Nat → Bool → Int → Int → Int → ByteArray → Int → Int → Int → Int → Int → Int → Int → List (S75) → Option (Bool)
 | 0, _, _, _, _, _, _, _, _, _, _, _, _, _ => none
 | k + 1, x78, x142000, x142001, x142002, x142003, x142004, x142005, x142006, x142007, x142008, x142009, x142010, x142011 => if x78 = true then (some false) else (hogsheadref15_May.l0 k 0 x142000 x142001 x142002 x142003 x142004 x142005 x142006 x142007 x142008 x142009 x142010 x142011)
def hogsheadref15_May.l0 : Nat → Int → Int → Int → Int → ByteArray → Int → Int → Int → Int → Int → Int → Int → List (S75) → Option (Bool)
 | 0, _, _, _, _, _, _, _, _, _, _, _, _, _ => none
 | k + 1, x5, x142000, x142001, x142002, x142003, x142004, x142005, x142006, x142007, x142008, x142009, x142010, x142011 => if x5 < (x142011.length : Int) then (if 0 ≤ x5 then (if ((rd_T75 x142011 x5).f0) < 1 then (some false) else (if ((rd_T75 x142011 x5).f0) > 3 then (some false) else (if ((rd_T75 x142011 x5).f1) < 0 then (some false) else (if ((rd_T75 x142011 x5).f1) > 63 then (some false) else (hogsheadref15_May.l0 k (wrap64 (x5 + 1)) x142000 x142001 x142002 x142003 x142004 x142005 x142006 x142007 x142008 x142009 x142010 x142011))))) else (none)) else (some true)
end
def hogsheadref15_May.f (k : Nat) (a0_0 : Int) (a0_1 : Int) (a0_2 : Int) (a0_3 : ByteArray) (a0_4 : Int) (a0_5 : Int) (a0_6 : Int) (a0_7 : Int) (a0_8 : Int) (a0_9 : Int) (a0_10 : Int) (l0_11 : List (S75)) : Option (Bool) := if a0_0 < 1 then (hogsheadref15_May.j0 k true a0_0 a0_1 a0_2 a0_3 a0_4 a0_5 a0_6 a0_7 a0_8 a0_9 a0_10 l0_11) else (if a0_0 > 9 then (hogsheadref15_May.j0 k true a0_0 a0_1 a0_2 a0_3 a0_4 a0_5 a0_6 a0_7 a0_8 a0_9 a0_10 l0_11) else (if a0_1 < 0 then (hogsheadref15_May.j0 k true a0_0 a0_1 a0_2 a0_3 a0_4 a0_5 a0_6 a0_7 a0_8 a0_9 a0_10 l0_11) else (if a0_1 > 16 then (hogsheadref15_May.j0 k true a0_0 a0_1 a0_2 a0_3 a0_4 a0_5 a0_6 a0_7 a0_8 a0_9 a0_10 l0_11) else (if a0_2 < 0 then (hogsheadref15_May.j0 k true a0_0 a0_1 a0_2 a0_3 a0_4 a0_5 a0_6 a0_7 a0_8 a0_9 a0_10 l0_11) else (if a0_2 > 1073741824 then (hogsheadref15_May.j0 k true a0_0 a0_1 a0_2 a0_3 a0_4 a0_5 a0_6 a0_7 a0_8 a0_9 a0_10 l0_11) else (if (a0_3.size : Int) > 16 then (hogsheadref15_May.j0 k true a0_0 a0_1 a0_2 a0_3 a0_4 a0_5 a0_6 a0_7 a0_8 a0_9 a0_10 l0_11) else (hogsheadref15_May.j0 k (decide ((l0_11.length : Int) > 14)) a0_0 a0_1 a0_2 a0_3 a0_4 a0_5 a0_6 a0_7 a0_8 a0_9 a0_10 l0_11)))))))
theorem hogsheadref15_May.mono_l : ∀ k, (∀ y0 y1 y2 y3 y4 y5 y6 y7 y8 y9 y10 y11 y12, LeO (hogsheadref15_May.j0 k y0 y1 y2 y3 y4 y5 y6 y7 y8 y9 y10 y11 y12) (hogsheadref15_May.j0 (k + 1) y0 y1 y2 y3 y4 y5 y6 y7 y8 y9 y10 y11 y12)) ∧ (∀ y0 y1 y2 y3 y4 y5 y6 y7 y8 y9 y10 y11 y12, LeO (hogsheadref15_May.j1 k y0 y1 y2 y3 y4 y5 y6 y7 y8 y9 y10 y11 y12) (hogsheadref15_May.j1 (k + 1) y0 y1 y2 y3 y4 y5 y6 y7 y8 y9 y10 y11 y12)) ∧ (∀ y0 y1 y2 y3 y4 y5 y6 y7 y8 y9 y10 y11 y12 y13, LeO (hogsheadref15_May.j2 k y0 y1 y2 y3 y4 y5 y6 y7 y8 y9 y10 y11 y12 y13) (hogsheadref15_May.j2 (k + 1) y0 y1 y2 y3 y4 y5 y6 y7 y8 y9 y10 y11 y12 y13)) ∧ (∀ y0 y1 y2 y3 y4 y5 y6 y7 y8 y9 y10 y11 y12, LeO (hogsheadref15_May.j3 k y0 y1 y2 y3 y4 y5 y6 y7 y8 y9 y10 y11 y12) (hogsheadref15_May.j3 (k + 1) y0 y1 y2 y3 y4 y5 y6 y7 y8 y9 y10 y11 y12)) ∧ (∀ y0 y1 y2 y3 y4 y5 y6 y7 y8 y9 y10 y11 y12, LeO (hogsheadref15_May.l0 k y0 y1 y2 y3 y4 y5 y6 y7 y8 y9 y10 y11 y12) (hogsheadref15_May.l0 (k + 1) y0 y1 y2 y3 y4 y5 y6 y7 y8 y9 y10 y11 y12))
 | 0 => ⟨fun _ _ _ _ _ _ _ _ _ _ _ _ _ r h => by simp [hogsheadref15_May.j0] at h, fun _ _ _ _ _ _ _ _ _ _ _ _ _ r h => by simp [hogsheadref15_May.j1] at h, fun _ _ _ _ _ _ _ _ _ _ _ _ _ _ r h => by simp [hogsheadref15_May.j2] at h, fun _ _ _ _ _ _ _ _ _ _ _ _ _ r h => by simp [hogsheadref15_May.j3] at h, fun _ _ _ _ _ _ _ _ _ _ _ _ _ r h => by simp [hogsheadref15_May.l0] at h⟩
 | k + 1 => by
  obtain ⟨ih0, ih1, ih2, ih3, ih4⟩ := hogsheadref15_May.mono_l k
  refine ⟨?_, ?_, ?_, ?_, ?_⟩
  ·intro y0 y1 y2 y3 y4 y5 y6 y7 y8 y9 y10 y11 y12
   unfold hogsheadref15_May.j0
   repeat' first
   | (with_reducible exact ih0 _ _ _ _ _ _ _ _ _ _ _ _ _)
   | (with_reducible exact ih1 _ _ _ _ _ _ _ _ _ _ _ _ _)
   | (with_reducible exact ih2 _ _ _ _ _ _ _ _ _ _ _ _ _ _)
   | (with_reducible exact ih3 _ _ _ _ _ _ _ _ _ _ _ _ _)
   | (with_reducible exact ih4 _ _ _ _ _ _ _ _ _ _ _ _ _)
   | (with_reducible exact LeO.refl _)
   | (with_reducible exact LeO.none _)
   | (with_reducible refine LeO.ite ?_ ?_)
   | (with_reducible refine LeO.bind ?_ (fun _ => ?_))
   | exact ih0 _ _ _ _ _ _ _ _ _ _ _ _ _
   | exact ih1 _ _ _ _ _ _ _ _ _ _ _ _ _
   | exact ih2 _ _ _ _ _ _ _ _ _ _ _ _ _ _
   | exact ih3 _ _ _ _ _ _ _ _ _ _ _ _ _
   | exact ih4 _ _ _ _ _ _ _ _ _ _ _ _ _
   | exact LeO.none _
   | refine LeO.ite ?_ ?_
   | refine LeO.bind ?_ (fun _ => ?_)
  ·intro y0 y1 y2 y3 y4 y5 y6 y7 y8 y9 y10 y11 y12
   unfold hogsheadref15_May.j1
   repeat' first
   | (with_reducible exact ih0 _ _ _ _ _ _ _ _ _ _ _ _ _)
   | (with_reducible exact ih1 _ _ _ _ _ _ _ _ _ _ _ _ _)
   | (with_reducible exact ih2 _ _ _ _ _ _ _ _ _ _ _ _ _ _)
   | (with_reducible exact ih3 _ _ _ _ _ _ _ _ _ _ _ _ _)
   | (with_reducible exact ih4 _ _ _ _ _ _ _ _ _ _ _ _ _)
   | (with_reducible exact LeO.refl _)
   | (with_reducible exact LeO.none _)
   | (with_reducible refine LeO.ite ?_ ?_)
   | (with_reducible refine LeO.bind ?_ (fun _ => ?_))
   | exact ih0 _ _ _ _ _ _ _ _ _ _ _ _ _
   | exact ih1 _ _ _ _ _ _ _ _ _ _ _ _ _
   | exact ih2 _ _ _ _ _ _ _ _ _ _ _ _ _ _
   | exact ih3 _ _ _ _ _ _ _ _ _ _ _ _ _
   | exact ih4 _ _ _ _ _ _ _ _ _ _ _ _ _
   | exact LeO.none _
   | refine LeO.ite ?_ ?_
   | refine LeO.bind ?_ (fun _ => ?_)
  ·intro y0 y1 y2 y3 y4 y5 y6 y7 y8 y9 y10 y11 y12 y13
   unfold hogsheadref15_May.j2
   repeat' first
   | (with_reducible exact ih0 _ _ _ _ _ _ _ _ _ _ _ _ _)
   | (with_reducible exact ih1 _ _ _ _ _ _ _ _ _ _ _ _ _)
   | (with_reducible exact ih2 _ _ _ _ _ _ _ _ _ _ _ _ _ _)
   | (with_reducible exact ih3 _ _ _ _ _ _ _ _ _ _ _ _ _)
   | (with_reducible exact ih4 _ _ _ _ _ _ _ _ _ _ _ _ _)
   | (with_reducible exact LeO.refl _)
   | (with_reducible exact LeO.none _)
   | (with_reducible refine LeO.ite ?_ ?_)
   | (with_reducible refine LeO.bind ?_ (fun _ => ?_))
   | exact ih0 _ _ _ _ _ _ _ _ _ _ _ _ _
   | exact ih1 _ _ _ _ _ _ _ _ _ _ _ _ _
   | exact ih2 _ _ _ _ _ _ _ _ _ _ _ _ _ _
   | exact ih3 _ _ _ _ _ _ _ _ _ _ _ _ _
   | exact ih4 _ _ _ _ _ _ _ _ _ _ _ _ _
   | exact LeO.none _
   | refine LeO.ite ?_ ?_
   | refine LeO.bind ?_ (fun _ => ?_)
  ·intro y0 y1 y2 y3 y4 y5 y6 y7 y8 y9 y10 y11 y12
   unfold hogsheadref15_May.j3
   repeat' first
   | (with_reducible exact ih0 _ _ _ _ _ _ _ _ _ _ _ _ _)
   | (with_reducible exact ih1 _ _ _ _ _ _ _ _ _ _ _ _ _)
   | (with_reducible exact ih2 _ _ _ _ _ _ _ _ _ _ _ _ _ _)
   | (with_reducible exact ih3 _ _ _ _ _ _ _ _ _ _ _ _ _)
   | (with_reducible exact ih4 _ _ _ _ _ _ _ _ _ _ _ _ _)
   | (with_reducible exact LeO.refl _)
   | (with_reducible exact LeO.none _)
   | (with_reducible refine LeO.ite ?_ ?_)
   | (with_reducible refine LeO.bind ?_ (fun _ => ?_))
   | exact ih0 _ _ _ _ _ _ _ _ _ _ _ _ _
   | exact ih1 _ _ _ _ _ _ _ _ _ _ _ _ _
   | exact ih2 _ _ _ _ _ _ _ _ _ _ _ _ _ _
   | exact ih3 _ _ _ _ _ _ _ _ _ _ _ _ _
   | exact ih4 _ _ _ _ _ _ _ _ _ _ _ _ _
   | exact LeO.none _
   | refine LeO.ite ?_ ?_
   | refine LeO.bind ?_ (fun _ => ?_)
  ·intro y0 y1 y2 y3 y4 y5 y6 y7 y8 y9 y10 y11 y12
   unfold hogsheadref15_May.l0
   repeat' first
   | (with_reducible exact ih0 _ _ _ _ _ _ _ _ _ _ _ _ _)
   | (with_reducible exact ih1 _ _ _ _ _ _ _ _ _ _ _ _ _)
   | (with_reducible exact ih2 _ _ _ _ _ _ _ _ _ _ _ _ _ _)
   | (with_reducible exact ih3 _ _ _ _ _ _ _ _ _ _ _ _ _)
   | (with_reducible exact ih4 _ _ _ _ _ _ _ _ _ _ _ _ _)
   | (with_reducible exact LeO.refl _)
   | (with_reducible exact LeO.none _)
   | (with_reducible refine LeO.ite ?_ ?_)
   | (with_reducible refine LeO.bind ?_ (fun _ => ?_))
   | exact ih0 _ _ _ _ _ _ _ _ _ _ _ _ _
   | exact ih1 _ _ _ _ _ _ _ _ _ _ _ _ _
   | exact ih2 _ _ _ _ _ _ _ _ _ _ _ _ _ _
   | exact ih3 _ _ _ _ _ _ _ _ _ _ _ _ _
   | exact ih4 _ _ _ _ _ _ _ _ _ _ _ _ _
   | exact LeO.none _
   | refine LeO.ite ?_ ?_
   | refine LeO.bind ?_ (fun _ => ?_)
theorem hogsheadref15_May.mono : ∀ a0 a1 a2 a3 a4 a5 a6 a7 a8 a9 a10 a11 k, LeO (hogsheadref15_May.f k a0 a1 a2 a3 a4 a5 a6 a7 a8 a9 a10 a11) (hogsheadref15_May.f (k + 1) a0 a1 a2 a3 a4 a5 a6 a7 a8 a9 a10 a11) := by
 intro a0 a1 a2 a3 a4 a5 a6 a7 a8 a9 a10 a11 k
 obtain ⟨ih0, ih1, ih2, ih3, ih4⟩ := hogsheadref15_May.mono_l k
 unfold hogsheadref15_May.f
 repeat' first
   | (with_reducible exact ih0 _ _ _ _ _ _ _ _ _ _ _ _ _)
   | (with_reducible exact ih1 _ _ _ _ _ _ _ _ _ _ _ _ _)
   | (with_reducible exact ih2 _ _ _ _ _ _ _ _ _ _ _ _ _ _)
   | (with_reducible exact ih3 _ _ _ _ _ _ _ _ _ _ _ _ _)
   | (with_reducible exact ih4 _ _ _ _ _ _ _ _ _ _ _ _ _)
   | (with_reducible exact LeO.refl _)
   | (with_reducible exact LeO.none _)
   | (with_reducible refine LeO.ite ?_ ?_)
   | (with_reducible refine LeO.bind ?_ (fun _ => ?_))
   | exact ih0 _ _ _ _ _ _ _ _ _ _ _ _ _
   | exact ih1 _ _ _ _ _ _ _ _ _ _ _ _ _
   | exact ih2 _ _ _ _ _ _ _ _ _ _ _ _ _ _
   | exact ih3 _ _ _ _ _ _ _ _ _ _ _ _ _
   | exact ih4 _ _ _ _ _ _ _ _ _ _ _ _ _
   | exact LeO.none _
   | refine LeO.ite ?_ ?_
   | refine LeO.bind ?_ (fun _ => ?_)
set_option maxHeartbeats 40000000 in
set_option maxRecDepth 100000 in
theorem hogsheadref15_May.calls (k : Nat) (a0_0 : Int) (a0_1 : Int) (a0_2 : Int) (a0_3 : ByteArray) (a0_4 : Int) (a0_5 : Int) (a0_6 : Int) (a0_7 : Int) (a0_8 : Int) (a0_9 : Int) (a0_10 : Int) (A0_11 : Option Addr) (c0_11 : Nat) (l0_11 : List (S75)) (r : Bool) (w : World) (hr0_11 : Kd.C k75 w A0_11 l0_11.length l0_11) (hc0_11 : l0_11.length ≤ c0_11) (h : hogsheadref15_May.f k a0_0 a0_1 a0_2 a0_3 a0_4 a0_5 a0_6 a0_7 a0_8 a0_9 a0_10 l0_11 = some r) :
  Calls Try.prog 18 #[.agg #[.int .i64 a0_0, .int .i64 a0_1, .int .i64 a0_2, .string a0_3, .int .i64 a0_4, .int .i64 a0_5, .int .i64 a0_6, .int .u32 a0_7, .int .i64 a0_8, .int .i64 a0_9, .int .i64 a0_10, .slice A0_11 l0_11.length c0_11]] w fun e w' => e = .returned (.bool r) ∧ Below w.heap.size w w' := by
 have hu42 := Try.underlying42
 have hu75 := Try.underlying75
 have HR0_11 := qM hr0_11
 have HC0_11 := qM hc0_11
 clear hr0_11 hc0_11
 have HB := qM (Below.refl w.heap.size w)
 have H : (if a0_0 < 1 then (hogsheadref15_May.j0 k true a0_0 a0_1 a0_2 a0_3 a0_4 a0_5 a0_6 a0_7 a0_8 a0_9 a0_10 l0_11) else (if a0_0 > 9 then (hogsheadref15_May.j0 k true a0_0 a0_1 a0_2 a0_3 a0_4 a0_5 a0_6 a0_7 a0_8 a0_9 a0_10 l0_11) else (if a0_1 < 0 then (hogsheadref15_May.j0 k true a0_0 a0_1 a0_2 a0_3 a0_4 a0_5 a0_6 a0_7 a0_8 a0_9 a0_10 l0_11) else (if a0_1 > 16 then (hogsheadref15_May.j0 k true a0_0 a0_1 a0_2 a0_3 a0_4 a0_5 a0_6 a0_7 a0_8 a0_9 a0_10 l0_11) else (if a0_2 < 0 then (hogsheadref15_May.j0 k true a0_0 a0_1 a0_2 a0_3 a0_4 a0_5 a0_6 a0_7 a0_8 a0_9 a0_10 l0_11) else (if a0_2 > 1073741824 then (hogsheadref15_May.j0 k true a0_0 a0_1 a0_2 a0_3 a0_4 a0_5 a0_6 a0_7 a0_8 a0_9 a0_10 l0_11) else (if (a0_3.size : Int) > 16 then (hogsheadref15_May.j0 k true a0_0 a0_1 a0_2 a0_3 a0_4 a0_5 a0_6 a0_7 a0_8 a0_9 a0_10 l0_11) else (hogsheadref15_May.j0 k (decide ((l0_11.length : Int) > 14)) a0_0 a0_1 a0_2 a0_3 a0_4 a0_5 a0_6 a0_7 a0_8 a0_9 a0_10 l0_11)))))))) = some r := h
 clear h
 have HC2 := qM H
 clear H
 go_enter Try.func18, Try.ntmps18
 go_upto_region 1 with (first | ((with_reducible refine gate_dst (N := 1) rfl ?_); (try (refine gate_guard (by rfl) ?_; dsimp only)); refine box_event ?hg (N := 1) ?hd (cs := #[.int .i64 a0_0, .int .i64 a0_1, .int .i64 a0_2, .string a0_3, .int .i64 a0_4, .int .i64 a0_5, .int .i64 a0_6, .int .u32 a0_7, .int .i64 a0_8, .int .i64 a0_9, .int .i64 a0_10, .slice A0_11 l0_11.length c0_11]) (t := 42) ?hr ?_; (case hd => rfl); (case hg => rfl); (case hr => first | (go_simp; done) | (go_simp; rfl)); intro g141 hg w3 hbox hb; have n0_ := qM (eT (by repeat (first | (with_reducible first | exact HB.out | apply eA | apply eN | apply eD) | exact HB.out)) hb); have n1_ := qM (hbox); have n2_ := qM ((by rw [hg]; exact (eZ (by repeat (first | (with_reducible first | exact HB.out | apply eA | apply eN | apply eD) | exact HB.out))) : w.heap.size ≤ g141)); have n3_ := n2_; clear HB; have HB := n0_; have B141 := n1_; have GW141 := n2_; have GE141 := n3_; clear n0_ n1_ n2_ n3_; clear hb hbox hg))
 (try simp only [Act.put, List.setIfInBounds_toArray, List.set_cons_zero, List.set_cons_succ])
 go_cut [46] (fun v46 wc => ∃ (kq : Nat) (x46_1 : Bool), v46 = .bool x46_1 ∧ Aside0 (hogsheadref15_May.j0 kq x46_1 a0_0 a0_1 a0_2 a0_3 a0_4 a0_5 a0_6 a0_7 a0_8 a0_9 a0_10 l0_11 = some r) ∧ Aside0 (kq ≤ k) ∧ Aside0 (wc.heap[g141]? = some (.cells #[.int .i64 a0_0, .int .i64 a0_1, .int .i64 a0_2, .string a0_3, .int .i64 a0_4, .int .i64 a0_5, .int .i64 a0_6, .int .u32 a0_7, .int .i64 a0_8, .int .i64 a0_9, .int .i64 a0_10, (.slice A0_11 l0_11.length c0_11)] 42 (0, 0))) ∧ Aside0 (Below w.heap.size w wc))
 case first =>
  have H := HC2.out
  clear HC2
  by_cases c4 : a0_0 < 1
  ·rw [if_pos c4] at H
   have c4b0 : decide (a0_0 < 1) = true := decide_eq_true c4
   clear c4
   (first | rw [c4b0] | (simp only [i64_w, i32_w]; rw [c4b0]) | skip)
   have H' := qM H
   clear H
   obtain ⟨z5_0, z5_1, z5_2, z5_3, z5_4, z5_5, z5_6, z5_7, z5_8, z5_9, z5_10, z5_11, f5_0, f5_1, f5_2, f5_3, f5_4, f5_5, f5_6, f5_7, f5_8, f5_9, f5_10, f5_11⟩ := cells12 B141.out
   go_wp2
   go_meet
   case rel => exact ⟨_, (true), (by first | rfl | (simp; done) | (simp [*]; done)), H', ⟨by first | omega | exact Nat.le_refl _⟩, ⟨by (with_reducible repeat first | refine qN ?_ _ | refine qD ?_ | refine qA ?_ _); exact B141.out⟩, ⟨by repeat (first | (with_reducible first | exact HB.out | apply eA | apply eN | apply eD | refine eS ?_ GE141.out) | exact HB.out)⟩⟩
  ·rw [if_neg c4] at H
   have c4b0 : decide (a0_0 < 1) = false := decide_eq_false c4
   clear c4
   (first | rw [c4b0] | (simp only [i64_w, i32_w]; rw [c4b0]) | skip)
   by_cases c6 : a0_0 > 9
   ·rw [if_pos c6] at H
    have c6b0 : decide (9 < a0_0) = true := decide_eq_true c6
    clear c6
    have H' := qM H
    clear H
    obtain ⟨z7_0, z7_1, z7_2, z7_3, z7_4, z7_5, z7_6, z7_7, z7_8, z7_9, z7_10, z7_11, f7_0, f7_1, f7_2, f7_3, f7_4, f7_5, f7_6, f7_7, f7_8, f7_9, f7_10, f7_11⟩ := cells12 B141.out
    go_wp2
    go_meet
    case rel => exact ⟨_, (true), (by first | rfl | (simp; done) | (simp [*]; done)), H', ⟨by first | omega | exact Nat.le_refl _⟩, ⟨by (with_reducible repeat first | refine qN ?_ _ | refine qD ?_ | refine qA ?_ _); exact B141.out⟩, ⟨by repeat (first | (with_reducible first | exact HB.out | apply eA | apply eN | apply eD | refine eS ?_ GE141.out) | exact HB.out)⟩⟩
   ·rw [if_neg c6] at H
    have c6b0 : decide (9 < a0_0) = false := decide_eq_false c6
    clear c6
    by_cases c8 : a0_1 < 0
    ·rw [if_pos c8] at H
     have c8b0 : decide (a0_1 < 0) = true := decide_eq_true c8
     clear c8
     have H' := qM H
     clear H
     obtain ⟨z9_0, z9_1, z9_2, z9_3, z9_4, z9_5, z9_6, z9_7, z9_8, z9_9, z9_10, z9_11, f9_0, f9_1, f9_2, f9_3, f9_4, f9_5, f9_6, f9_7, f9_8, f9_9, f9_10, f9_11⟩ := cells12 B141.out
     go_wp2
     go_meet
     case rel => exact ⟨_, (true), (by first | rfl | (simp; done) | (simp [*]; done)), H', ⟨by first | omega | exact Nat.le_refl _⟩, ⟨by (with_reducible repeat first | refine qN ?_ _ | refine qD ?_ | refine qA ?_ _); exact B141.out⟩, ⟨by repeat (first | (with_reducible first | exact HB.out | apply eA | apply eN | apply eD | refine eS ?_ GE141.out) | exact HB.out)⟩⟩
    ·rw [if_neg c8] at H
     have c8b0 : decide (a0_1 < 0) = false := decide_eq_false c8
     clear c8
     by_cases c10 : a0_1 > 16
     ·rw [if_pos c10] at H
      have c10b0 : decide (16 < a0_1) = true := decide_eq_true c10
      clear c10
      have H' := qM H
      clear H
      obtain ⟨z11_0, z11_1, z11_2, z11_3, z11_4, z11_5, z11_6, z11_7, z11_8, z11_9, z11_10, z11_11, f11_0, f11_1, f11_2, f11_3, f11_4, f11_5, f11_6, f11_7, f11_8, f11_9, f11_10, f11_11⟩ := cells12 B141.out
      go_wp2
      go_meet
      case rel => exact ⟨_, (true), (by first | rfl | (simp; done) | (simp [*]; done)), H', ⟨by first | omega | exact Nat.le_refl _⟩, ⟨by (with_reducible repeat first | refine qN ?_ _ | refine qD ?_ | refine qA ?_ _); exact B141.out⟩, ⟨by repeat (first | (with_reducible first | exact HB.out | apply eA | apply eN | apply eD | refine eS ?_ GE141.out) | exact HB.out)⟩⟩
     ·rw [if_neg c10] at H
      have c10b0 : decide (16 < a0_1) = false := decide_eq_false c10
      clear c10
      by_cases c12 : a0_2 < 0
      ·rw [if_pos c12] at H
       have c12b0 : decide (a0_2 < 0) = true := decide_eq_true c12
       clear c12
       have H' := qM H
       clear H
       obtain ⟨z13_0, z13_1, z13_2, z13_3, z13_4, z13_5, z13_6, z13_7, z13_8, z13_9, z13_10, z13_11, f13_0, f13_1, f13_2, f13_3, f13_4, f13_5, f13_6, f13_7, f13_8, f13_9, f13_10, f13_11⟩ := cells12 B141.out
       go_wp2
       go_meet
       case rel => exact ⟨_, (true), (by first | rfl | (simp; done) | (simp [*]; done)), H', ⟨by first | omega | exact Nat.le_refl _⟩, ⟨by (with_reducible repeat first | refine qN ?_ _ | refine qD ?_ | refine qA ?_ _); exact B141.out⟩, ⟨by repeat (first | (with_reducible first | exact HB.out | apply eA | apply eN | apply eD | refine eS ?_ GE141.out) | exact HB.out)⟩⟩
      ·rw [if_neg c12] at H
       have c12b0 : decide (a0_2 < 0) = false := decide_eq_false c12
       clear c12
       by_cases c14 : a0_2 > 1073741824
       ·rw [if_pos c14] at H
        have c14b0 : decide (1073741824 < a0_2) = true := decide_eq_true c14
        clear c14
        have H' := qM H
        clear H
        obtain ⟨z15_0, z15_1, z15_2, z15_3, z15_4, z15_5, z15_6, z15_7, z15_8, z15_9, z15_10, z15_11, f15_0, f15_1, f15_2, f15_3, f15_4, f15_5, f15_6, f15_7, f15_8, f15_9, f15_10, f15_11⟩ := cells12 B141.out
        go_wp2
        go_meet
        case rel => exact ⟨_, (true), (by first | rfl | (simp; done) | (simp [*]; done)), H', ⟨by first | omega | exact Nat.le_refl _⟩, ⟨by (with_reducible repeat first | refine qN ?_ _ | refine qD ?_ | refine qA ?_ _); exact B141.out⟩, ⟨by repeat (first | (with_reducible first | exact HB.out | apply eA | apply eN | apply eD | refine eS ?_ GE141.out) | exact HB.out)⟩⟩
       ·rw [if_neg c14] at H
        have c14b0 : decide (1073741824 < a0_2) = false := decide_eq_false c14
        clear c14
        by_cases c16 : (a0_3.size : Int) > 16
        ·rw [if_pos c16] at H
         have c16b0 : decide (16 < (a0_3.size : Int)) = true := decide_eq_true c16
         have c16b1 : decide (16 < a0_3.size) = true := decide_eq_true (by omega)
         clear c16
         have H' := qM H
         clear H
         obtain ⟨z17_0, z17_1, z17_2, z17_3, z17_4, z17_5, z17_6, z17_7, z17_8, z17_9, z17_10, z17_11, f17_0, f17_1, f17_2, f17_3, f17_4, f17_5, f17_6, f17_7, f17_8, f17_9, f17_10, f17_11⟩ := cells12 B141.out
         go_wp2
         go_meet
         case rel => exact ⟨_, (true), (by first | rfl | (simp; done) | (simp [*]; done)), H', ⟨by first | omega | exact Nat.le_refl _⟩, ⟨by (with_reducible repeat first | refine qN ?_ _ | refine qD ?_ | refine qA ?_ _); exact B141.out⟩, ⟨by repeat (first | (with_reducible first | exact HB.out | apply eA | apply eN | apply eD | refine eS ?_ GE141.out) | exact HB.out)⟩⟩
        ·rw [if_neg c16] at H
         have c16b0 : decide (16 < (a0_3.size : Int)) = false := decide_eq_false c16
         have c16b1 : decide (16 < a0_3.size) = false := decide_eq_false (by omega)
         clear c16
         have H' := qM H
         clear H
         obtain ⟨z18_0, z18_1, z18_2, z18_3, z18_4, z18_5, z18_6, z18_7, z18_8, z18_9, z18_10, z18_11, f18_0, f18_1, f18_2, f18_3, f18_4, f18_5, f18_6, f18_7, f18_8, f18_9, f18_10, f18_11⟩ := cells12 B141.out
         go_wp2
         go_meet
         case rel => exact ⟨_, (decide ((l0_11.length : Int) > 14)), (by first | rfl | (simp; done) | (simp [*]; done)), H', ⟨by first | omega | exact Nat.le_refl _⟩, ⟨by (with_reducible repeat first | refine qN ?_ _ | refine qD ?_ | refine qA ?_ _); exact B141.out⟩, ⟨by repeat (first | (with_reducible first | exact HB.out | apply eA | apply eN | apply eD | refine eS ?_ GE141.out) | exact HB.out)⟩⟩
 case rest =>
  clear HC2
  try clear c1
  try clear p2
  try clear c4
  try clear c4b0
  try clear c6
  try clear c6b0
  try clear c8
  try clear c8b0
  try clear c10
  try clear c10b0
  try clear c12
  try clear c12b0
  try clear c14
  try clear c14b0
  try clear c16
  try clear c16b0
  try clear c16b1
  try clear c18
  try clear z11_0
  try clear z11_1
  try clear z11_10
  try clear z11_11
  try clear z11_2
  try clear z11_3
  try clear z11_4
  try clear z11_5
  try clear z11_6
  try clear z11_7
  try clear z11_8
  try clear z11_9
  try clear z13_0
  try clear z13_1
  try clear z13_10
  try clear z13_11
  try clear z13_2
  try clear z13_3
  try clear z13_4
  try clear z13_5
  try clear z13_6
  try clear z13_7
  try clear z13_8
  try clear z13_9
  try clear z15_0
  try clear z15_1
  try clear z15_10
  try clear z15_11
  try clear z15_2
  try clear z15_3
  try clear z15_4
  try clear z15_5
  try clear z15_6
  try clear z15_7
  try clear z15_8
  try clear z15_9
  try clear z17_0
  try clear z17_1
  try clear z17_10
  try clear z17_11
  try clear z17_2
  try clear z17_3
  try clear z17_4
  try clear z17_5
  try clear z17_6
  try clear z17_7
  try clear z17_8
  try clear z17_9
  try clear z18_0
  try clear z18_1
  try clear z18_10
  try clear z18_11
  try clear z18_2
  try clear z18_3
  try clear z18_4
  try clear z18_5
  try clear z18_6
  try clear z18_7
  try clear z18_8
  try clear z18_9
  try clear z5_0
  try clear z5_1
  try clear z5_10
  try clear z5_11
  try clear z5_2
  try clear z5_3
  try clear z5_4
  try clear z5_5
  try clear z5_6
  try clear z5_7
  try clear z5_8
  try clear z5_9
  try clear z7_0
  try clear z7_1
  try clear z7_10
  try clear z7_11
  try clear z7_2
  try clear z7_3
  try clear z7_4
  try clear z7_5
  try clear z7_6
  try clear z7_7
  try clear z7_8
  try clear z7_9
  try clear z9_0
  try clear z9_1
  try clear z9_10
  try clear z9_11
  try clear z9_2
  try clear z9_3
  try clear z9_4
  try clear z9_5
  try clear z9_6
  try clear z9_7
  try clear z9_8
  try clear z9_9
  try clear f11_0
  try clear f11_1
  try clear f11_10
  try clear f11_11
  try clear f11_2
  try clear f11_3
  try clear f11_4
  try clear f11_5
  try clear f11_6
  try clear f11_7
  try clear f11_8
  try clear f11_9
  try clear f13_0
  try clear f13_1
  try clear f13_10
  try clear f13_11
  try clear f13_2
  try clear f13_3
  try clear f13_4
  try clear f13_5
  try clear f13_6
  try clear f13_7
  try clear f13_8
  try clear f13_9
  try clear f15_0
  try clear f15_1
  try clear f15_10
  try clear f15_11
  try clear f15_2
  try clear f15_3
  try clear f15_4
  try clear f15_5
  try clear f15_6
  try clear f15_7
  try clear f15_8
  try clear f15_9
  try clear f17_0
  try clear f17_1
  try clear f17_10
  try clear f17_11
  try clear f17_2
  try clear f17_3
  try clear f17_4
  try clear f17_5
  try clear f17_6
  try clear f17_7
  try clear f17_8
  try clear f17_9
  try clear f18_0
  try clear f18_1
  try clear f18_10
  try clear f18_11
  try clear f18_2
  try clear f18_3
  try clear f18_4
  try clear f18_5
  try clear f18_6
  try clear f18_7
  try clear f18_8
  try clear f18_9
  try clear f5_0
  try clear f5_1
  try clear f5_10
  try clear f5_11
  try clear f5_2
  try clear f5_3
  try clear f5_4
  try clear f5_5
  try clear f5_6
  try clear f5_7
  try clear f5_8
  try clear f5_9
  try clear f7_0
  try clear f7_1
  try clear f7_10
  try clear f7_11
  try clear f7_2
  try clear f7_3
  try clear f7_4
  try clear f7_5
  try clear f7_6
  try clear f7_7
  try clear f7_8
  try clear f7_9
  try clear f9_0
  try clear f9_1
  try clear f9_10
  try clear f9_11
  try clear f9_2
  try clear f9_3
  try clear f9_4
  try clear f9_5
  try clear f9_6
  try clear f9_7
  try clear f9_8
  try clear f9_9
  obtain ⟨kq, x46_1, rfl, HA, HJ1, B141, HB⟩ := hcut
  cases kq with
  | zero => exact absurd HA.out (by simp [hogsheadref15_May.j0])
  | succ kj1 =>
   have H := HA.out
   clear HA
   simp only [hogsheadref15_May.j0] at H
   by_cases c19 : x46_1 = true
   ·subst c19
    have H1 : (some false) = some r := by rw [if_pos rfl] at H; exact H
    clear H
    have H := H1
    clear H1
    obtain rfl := Option.some.inj H
    go_wp2
    go_ret
    exact ⟨by first | rfl | (simp [errW_none, errW_some] <;> rfl) | (simp [*, errW_none, errW_some] <;> rfl), by repeat (first | (with_reducible first | exact HB.out | apply eA | apply eN | apply eD | refine eS ?_ GE141.out) | exact HB.out)⟩
   ·replace c19 := Bool.eq_false_iff.mpr c19
    subst c19
    have H1 : ((hogsheadref15_small.f a0_4).bind fun t142 => (if t142 = true then ((hogsheadref15_small.f a0_5).bind fun t143 => (if t143 = true then ((hogsheadref15_small.f a0_6).bind fun t144 => (hogsheadref15_May.j1 kj1 t144 a0_0 a0_1 a0_2 a0_3 a0_4 a0_5 a0_6 a0_7 a0_8 a0_9 a0_10 l0_11)) else (hogsheadref15_May.j1 kj1 false a0_0 a0_1 a0_2 a0_3 a0_4 a0_5 a0_6 a0_7 a0_8 a0_9 a0_10 l0_11))) else (hogsheadref15_May.j1 kj1 false a0_0 a0_1 a0_2 a0_3 a0_4 a0_5 a0_6 a0_7 a0_8 a0_9 a0_10 l0_11))) = some r := by rw [if_neg (show ¬ (false = true) by decide)] at H; exact H
    clear H
    have H := H1
    clear H1
    have HC20 := qM H
    clear H
    go_upto_region 3 with (fail)
    go_cut [3] (fun v3 wc => ∃ (kq : Nat) (x3_19 : Bool), v3 = .bool x3_19 ∧ Aside0 (hogsheadref15_May.j1 kq x3_19 a0_0 a0_1 a0_2 a0_3 a0_4 a0_5 a0_6 a0_7 a0_8 a0_9 a0_10 l0_11 = some r) ∧ Aside0 (kq ≤ kj1) ∧ Aside0 (wc.heap[g141]? = some (.cells #[.int .i64 a0_0, .int .i64 a0_1, .int .i64 a0_2, .string a0_3, .int .i64 a0_4, .int .i64 a0_5, .int .i64 a0_6, .int .u32 a0_7, .int .i64 a0_8, .int .i64 a0_9, .int .i64 a0_10, (.slice A0_11 l0_11.length c0_11)] 42 (0, 0))) ∧ Aside0 (Below w.heap.size w wc))
    case first =>
     have H := HC20.out
     clear HC20
     replace H := Option.bind_eq_some_iff.mp H
     obtain ⟨t142, A210, H⟩ := H
     replace H : (if t142 = true then ((hogsheadref15_small.f a0_5).bind fun t143 => (if t143 = true then ((hogsheadref15_small.f a0_6).bind fun t144 => (hogsheadref15_May.j1 kj1 t144 a0_0 a0_1 a0_2 a0_3 a0_4 a0_5 a0_6 a0_7 a0_8 a0_9 a0_10 l0_11)) else (hogsheadref15_May.j1 kj1 false a0_0 a0_1 a0_2 a0_3 a0_4 a0_5 a0_6 a0_7 a0_8 a0_9 a0_10 l0_11))) else (hogsheadref15_May.j1 kj1 false a0_0 a0_1 a0_2 a0_3 a0_4 a0_5 a0_6 a0_7 a0_8 a0_9 a0_10 l0_11)) = some r := H
     have A21 := qM A210
     clear A210
     by_cases c22 : t142 = true
     ·subst c22
      have H1 : ((hogsheadref15_small.f a0_5).bind fun t143 => (if t143 = true then ((hogsheadref15_small.f a0_6).bind fun t144 => (hogsheadref15_May.j1 kj1 t144 a0_0 a0_1 a0_2 a0_3 a0_4 a0_5 a0_6 a0_7 a0_8 a0_9 a0_10 l0_11)) else (hogsheadref15_May.j1 kj1 false a0_0 a0_1 a0_2 a0_3 a0_4 a0_5 a0_6 a0_7 a0_8 a0_9 a0_10 l0_11))) = some r := by rw [if_pos rfl] at H; exact H
      clear H
      have H := H1
      clear H1
      replace H := Option.bind_eq_some_iff.mp H
      obtain ⟨t143, A230, H⟩ := H
      replace H : (if t143 = true then ((hogsheadref15_small.f a0_6).bind fun t144 => (hogsheadref15_May.j1 kj1 t144 a0_0 a0_1 a0_2 a0_3 a0_4 a0_5 a0_6 a0_7 a0_8 a0_9 a0_10 l0_11)) else (hogsheadref15_May.j1 kj1 false a0_0 a0_1 a0_2 a0_3 a0_4 a0_5 a0_6 a0_7 a0_8 a0_9 a0_10 l0_11)) = some r := H
      have A23 := qM A230
      clear A230
      by_cases c24 : t143 = true
      ·subst c24
       have H1 : ((hogsheadref15_small.f a0_6).bind fun t144 => (hogsheadref15_May.j1 kj1 t144 a0_0 a0_1 a0_2 a0_3 a0_4 a0_5 a0_6 a0_7 a0_8 a0_9 a0_10 l0_11)) = some r := by rw [if_pos rfl] at H; exact H
       clear H
       have H := H1
       clear H1
       replace H := Option.bind_eq_some_iff.mp H
       obtain ⟨t144, A250, H⟩ := H
       replace H : (hogsheadref15_May.j1 kj1 t144 a0_0 a0_1 a0_2 a0_3 a0_4 a0_5 a0_6 a0_7 a0_8 a0_9 a0_10 l0_11) = some r := H
       have A25 := qM A250
       clear A250
       have H' := qM H
       clear H
       obtain ⟨z26_0, z26_1, z26_2, z26_3, z26_4, z26_5, z26_6, z26_7, z26_8, z26_9, z26_10, z26_11, f26_0, f26_1, f26_2, f26_3, f26_4, f26_5, f26_6, f26_7, f26_8, f26_9, f26_10, f26_11⟩ := cells12 B141.out
       go_wp2_with (first | ((with_reducible refine gate_callee (f := 26) rfl ?_); refine goesL_ (some 49) rfl rfl Try.func26 (by kernel_rfl) rfl #[.int .i64 a0_4] rfl (by (try simp only [List.map_toArray, List.map_cons, List.map_nil]); first | done | rfl | (simp only [List.length_drop, List.length_take]; rfl)) ?_; (with_reducible refine (hogsheadref15_small.calls a0_4 true _ A21.out).mono ?_); rintro e w' ⟨rfl, ⟨nd, rfl⟩⟩; refine ⟨_, rfl, ?_⟩) | (go_at_call 26; (with_reducible refine (hogsheadref15_small.calls a0_5 true _ A23.out).mono ?_); rintro e w' ⟨rfl, ⟨nd, rfl⟩⟩) | (go_at_call 26; (with_reducible refine (hogsheadref15_small.calls a0_6 t144 _ A25.out).mono ?_); rintro e w' ⟨rfl, ⟨nd, rfl⟩⟩))
       go_meet
       case rel => exact ⟨_, (t144), (by first | rfl | (simp; done) | (simp [*]; done)), H', ⟨by have := HJ1.out; first | omega | exact Nat.le_refl _⟩, ⟨by (with_reducible repeat first | refine qN ?_ _ | refine qD ?_ | refine qA ?_ _); exact B141.out⟩, ⟨by repeat (first | (with_reducible first | exact HB.out | apply eA | apply eN | apply eD | refine eS ?_ GE141.out) | exact HB.out)⟩⟩
      ·replace c24 := Bool.eq_false_iff.mpr c24
       subst c24
       have H1 : (hogsheadref15_May.j1 kj1 false a0_0 a0_1 a0_2 a0_3 a0_4 a0_5 a0_6 a0_7 a0_8 a0_9 a0_10 l0_11) = some r := by rw [if_neg (show ¬ (false = true) by decide)] at H; exact H
       clear H
       have H := H1
       clear H1
       have H' := qM H
       clear H
       obtain ⟨z27_0, z27_1, z27_2, z27_3, z27_4, z27_5, z27_6, z27_7, z27_8, z27_9, z27_10, z27_11, f27_0, f27_1, f27_2, f27_3, f27_4, f27_5, f27_6, f27_7, f27_8, f27_9, f27_10, f27_11⟩ := cells12 B141.out
       go_wp2_with (first | ((with_reducible refine gate_callee (f := 26) rfl ?_); refine goesL_ (some 49) rfl rfl Try.func26 (by kernel_rfl) rfl #[.int .i64 a0_4] rfl (by (try simp only [List.map_toArray, List.map_cons, List.map_nil]); first | done | rfl | (simp only [List.length_drop, List.length_take]; rfl)) ?_; (with_reducible refine (hogsheadref15_small.calls a0_4 true _ A21.out).mono ?_); rintro e w' ⟨rfl, ⟨nd, rfl⟩⟩; refine ⟨_, rfl, ?_⟩) | (go_at_call 26; (with_reducible refine (hogsheadref15_small.calls a0_5 false _ A23.out).mono ?_); rintro e w' ⟨rfl, ⟨nd, rfl⟩⟩))
       go_meet
       case rel => exact ⟨_, (false), (by first | rfl | (simp; done) | (simp [*]; done)), H', ⟨by have := HJ1.out; first | omega | exact Nat.le_refl _⟩, ⟨by (with_reducible repeat first | refine qN ?_ _ | refine qD ?_ | refine qA ?_ _); exact B141.out⟩, ⟨by repeat (first | (with_reducible first | exact HB.out | apply eA | apply eN | apply eD | refine eS ?_ GE141.out) | exact HB.out)⟩⟩
     ·replace c22 := Bool.eq_false_iff.mpr c22
      subst c22
      have H1 : (hogsheadref15_May.j1 kj1 false a0_0 a0_1 a0_2 a0_3 a0_4 a0_5 a0_6 a0_7 a0_8 a0_9 a0_10 l0_11) = some r := by rw [if_neg (show ¬ (false = true) by decide)] at H; exact H
      clear H
      have H := H1
      clear H1
      have H' := qM H
      clear H
      obtain ⟨z28_0, z28_1, z28_2, z28_3, z28_4, z28_5, z28_6, z28_7, z28_8, z28_9, z28_10, z28_11, f28_0, f28_1, f28_2, f28_3, f28_4, f28_5, f28_6, f28_7, f28_8, f28_9, f28_10, f28_11⟩ := cells12 B141.out
      go_wp2_with (first | ((with_reducible refine gate_callee (f := 26) rfl ?_); refine goesL_ (some 49) rfl rfl Try.func26 (by kernel_rfl) rfl #[.int .i64 a0_4] rfl (by (try simp only [List.map_toArray, List.map_cons, List.map_nil]); first | done | rfl | (simp only [List.length_drop, List.length_take]; rfl)) ?_; (with_reducible refine (hogsheadref15_small.calls a0_4 false _ A21.out).mono ?_); rintro e w' ⟨rfl, ⟨nd, rfl⟩⟩; refine ⟨_, rfl, ?_⟩))
      go_meet
      case rel => exact ⟨_, (false), (by first | rfl | (simp; done) | (simp [*]; done)), H', ⟨by have := HJ1.out; first | omega | exact Nat.le_refl _⟩, ⟨by (with_reducible repeat first | refine qN ?_ _ | refine qD ?_ | refine qA ?_ _); exact B141.out⟩, ⟨by repeat (first | (with_reducible first | exact HB.out | apply eA | apply eN | apply eD | refine eS ?_ GE141.out) | exact HB.out)⟩⟩
    case rest =>
     clear HC20
     try clear c1
     try clear c2
     try clear p2
     try clear c4
     try clear c4b0
     try clear c6
     try clear c6b0
     try clear c8
     try clear c8b0
     try clear c10
     try clear c10b0
     try clear c12
     try clear c12b0
     try clear c14
     try clear c14b0
     try clear c16
     try clear c16b0
     try clear c16b1
     try clear c18
     try clear c19
     try clear c22
     try clear c24
     try clear c26
     try clear z11_0
     try clear z11_1
     try clear z11_10
     try clear z11_11
     try clear z11_2
     try clear z11_3
     try clear z11_4
     try clear z11_5
     try clear z11_6
     try clear z11_7
     try clear z11_8
     try clear z11_9
     try clear z13_0
     try clear z13_1
     try clear z13_10
     try clear z13_11
     try clear z13_2
     try clear z13_3
     try clear z13_4
     try clear z13_5
     try clear z13_6
     try clear z13_7
     try clear z13_8
     try clear z13_9
     try clear z15_0
     try clear z15_1
     try clear z15_10
     try clear z15_11
     try clear z15_2
     try clear z15_3
     try clear z15_4
     try clear z15_5
     try clear z15_6
     try clear z15_7
     try clear z15_8
     try clear z15_9
     try clear z17_0
     try clear z17_1
     try clear z17_10
     try clear z17_11
     try clear z17_2
     try clear z17_3
     try clear z17_4
     try clear z17_5
     try clear z17_6
     try clear z17_7
     try clear z17_8
     try clear z17_9
     try clear z18_0
     try clear z18_1
     try clear z18_10
     try clear z18_11
     try clear z18_2
     try clear z18_3
     try clear z18_4
     try clear z18_5
     try clear z18_6
     try clear z18_7
     try clear z18_8
     try clear z18_9
     try clear z26_0
     try clear z26_1
     try clear z26_10
     try clear z26_11
     try clear z26_2
     try clear z26_3
     try clear z26_4
     try clear z26_5
     try clear z26_6
     try clear z26_7
     try clear z26_8
     try clear z26_9
     try clear z27_0
     try clear z27_1
     try clear z27_10
     try clear z27_11
     try clear z27_2
     try clear z27_3
     try clear z27_4
     try clear z27_5
     try clear z27_6
     try clear z27_7
     try clear z27_8
     try clear z27_9
     try clear z28_0
     try clear z28_1
     try clear z28_10
     try clear z28_11
     try clear z28_2
     try clear z28_3
     try clear z28_4
     try clear z28_5
     try clear z28_6
     try clear z28_7
     try clear z28_8
     try clear z28_9
     try clear z5_0
     try clear z5_1
     try clear z5_10
     try clear z5_11
     try clear z5_2
     try clear z5_3
     try clear z5_4
     try clear z5_5
     try clear z5_6
     try clear z5_7
     try clear z5_8
     try clear z5_9
     try clear z7_0
     try clear z7_1
     try clear z7_10
     try clear z7_11
     try clear z7_2
     try clear z7_3
     try clear z7_4
     try clear z7_5
     try clear z7_6
     try clear z7_7
     try clear z7_8
     try clear z7_9
     try clear z9_0
     try clear z9_1
     try clear z9_10
     try clear z9_11
     try clear z9_2
     try clear z9_3
     try clear z9_4
     try clear z9_5
     try clear z9_6
     try clear z9_7
     try clear z9_8
     try clear z9_9
     try clear f11_0
     try clear f11_1
     try clear f11_10
     try clear f11_11
     try clear f11_2
     try clear f11_3
     try clear f11_4
     try clear f11_5
     try clear f11_6
     try clear f11_7
     try clear f11_8
     try clear f11_9
     try clear f13_0
     try clear f13_1
     try clear f13_10
     try clear f13_11
     try clear f13_2
     try clear f13_3
     try clear f13_4
     try clear f13_5
     try clear f13_6
     try clear f13_7
     try clear f13_8
     try clear f13_9
     try clear f15_0
     try clear f15_1
     try clear f15_10
     try clear f15_11
     try clear f15_2
     try clear f15_3
     try clear f15_4
     try clear f15_5
     try clear f15_6
     try clear f15_7
     try clear f15_8
     try clear f15_9
     try clear f17_0
     try clear f17_1
     try clear f17_10
     try clear f17_11
     try clear f17_2
     try clear f17_3
     try clear f17_4
     try clear f17_5
     try clear f17_6
     try clear f17_7
     try clear f17_8
     try clear f17_9
     try clear f18_0
     try clear f18_1
     try clear f18_10
     try clear f18_11
     try clear f18_2
     try clear f18_3
     try clear f18_4
     try clear f18_5
     try clear f18_6
     try clear f18_7
     try clear f18_8
     try clear f18_9
     try clear f26_0
     try clear f26_1
     try clear f26_10
     try clear f26_11
     try clear f26_2
     try clear f26_3
     try clear f26_4
     try clear f26_5
     try clear f26_6
     try clear f26_7
     try clear f26_8
     try clear f26_9
     try clear f27_0
     try clear f27_1
     try clear f27_10
     try clear f27_11
     try clear f27_2
     try clear f27_3
     try clear f27_4
     try clear f27_5
     try clear f27_6
     try clear f27_7
     try clear f27_8
     try clear f27_9
     try clear f28_0
     try clear f28_1
     try clear f28_10
     try clear f28_11
     try clear f28_2
     try clear f28_3
     try clear f28_4
     try clear f28_5
     try clear f28_6
     try clear f28_7
     try clear f28_8
     try clear f28_9
     try clear f5_0
     try clear f5_1
     try clear f5_10
     try clear f5_11
     try clear f5_2
     try clear f5_3
     try clear f5_4
     try clear f5_5
     try clear f5_6
     try clear f5_7
     try clear f5_8
     try clear f5_9
     try clear f7_0
     try clear f7_1
     try clear f7_10
     try clear f7_11
     try clear f7_2
     try clear f7_3
     try clear f7_4
     try clear f7_5
     try clear f7_6
     try clear f7_7
     try clear f7_8
     try clear f7_9
     try clear f9_0
     try clear f9_1
     try clear f9_10
     try clear f9_11
     try clear f9_2
     try clear f9_3
     try clear f9_4
     try clear f9_5
     try clear f9_6
     try clear f9_7
     try clear f9_8
     try clear f9_9
     try clear p2
     obtain ⟨kq, x3_19, rfl, HA, HJ19, B141, HB⟩ := hcut
     cases kq with
     | zero => exact absurd HA.out (by simp [hogsheadref15_May.j1])
     | succ kj19 =>
      have H := HA.out
      clear HA
      simp only [hogsheadref15_May.j1] at H
      have HC29 := qM H
      clear H
      go_upto_region 4 with (fail)
      go_cut [4] (fun v4 wc => ∃ (kq : Nat) (x4_28 : Bool), v4 = .bool x4_28 ∧ Aside0 (hogsheadref15_May.j2 kq x3_19 x4_28 a0_0 a0_1 a0_2 a0_3 a0_4 a0_5 a0_6 a0_7 a0_8 a0_9 a0_10 l0_11 = some r) ∧ Aside0 (kq ≤ kj19) ∧ Aside0 (wc.heap[g141]? = some (.cells #[.int .i64 a0_0, .int .i64 a0_1, .int .i64 a0_2, .string a0_3, .int .i64 a0_4, .int .i64 a0_5, .int .i64 a0_6, .int .u32 a0_7, .int .i64 a0_8, .int .i64 a0_9, .int .i64 a0_10, (.slice A0_11 l0_11.length c0_11)] 42 (0, 0))) ∧ Aside0 (Below w.heap.size w wc))
      case first =>
       have H := HC29.out
       clear HC29
       replace H := Option.bind_eq_some_iff.mp H
       obtain ⟨t145, A300, H⟩ := H
       replace H : (if t145 = true then ((hogsheadref15_small.f a0_9).bind fun t146 => (if t146 = true then ((hogsheadref15_small.f a0_10).bind fun t147 => (hogsheadref15_May.j2 kj19 x3_19 t147 a0_0 a0_1 a0_2 a0_3 a0_4 a0_5 a0_6 a0_7 a0_8 a0_9 a0_10 l0_11)) else (hogsheadref15_May.j2 kj19 x3_19 false a0_0 a0_1 a0_2 a0_3 a0_4 a0_5 a0_6 a0_7 a0_8 a0_9 a0_10 l0_11))) else (hogsheadref15_May.j2 kj19 x3_19 false a0_0 a0_1 a0_2 a0_3 a0_4 a0_5 a0_6 a0_7 a0_8 a0_9 a0_10 l0_11)) = some r := H
       have A30 := qM A300
       clear A300
       by_cases c31 : t145 = true
       ·subst c31
        have H1 : ((hogsheadref15_small.f a0_9).bind fun t146 => (if t146 = true then ((hogsheadref15_small.f a0_10).bind fun t147 => (hogsheadref15_May.j2 kj19 x3_19 t147 a0_0 a0_1 a0_2 a0_3 a0_4 a0_5 a0_6 a0_7 a0_8 a0_9 a0_10 l0_11)) else (hogsheadref15_May.j2 kj19 x3_19 false a0_0 a0_1 a0_2 a0_3 a0_4 a0_5 a0_6 a0_7 a0_8 a0_9 a0_10 l0_11))) = some r := by rw [if_pos rfl] at H; exact H
        clear H
        have H := H1
        clear H1
        replace H := Option.bind_eq_some_iff.mp H
        obtain ⟨t146, A320, H⟩ := H
        replace H : (if t146 = true then ((hogsheadref15_small.f a0_10).bind fun t147 => (hogsheadref15_May.j2 kj19 x3_19 t147 a0_0 a0_1 a0_2 a0_3 a0_4 a0_5 a0_6 a0_7 a0_8 a0_9 a0_10 l0_11)) else (hogsheadref15_May.j2 kj19 x3_19 false a0_0 a0_1 a0_2 a0_3 a0_4 a0_5 a0_6 a0_7 a0_8 a0_9 a0_10 l0_11)) = some r := H
        have A32 := qM A320
        clear A320
        by_cases c33 : t146 = true
        ·subst c33
         have H1 : ((hogsheadref15_small.f a0_10).bind fun t147 => (hogsheadref15_May.j2 kj19 x3_19 t147 a0_0 a0_1 a0_2 a0_3 a0_4 a0_5 a0_6 a0_7 a0_8 a0_9 a0_10 l0_11)) = some r := by rw [if_pos rfl] at H; exact H
         clear H
         have H := H1
         clear H1
         replace H := Option.bind_eq_some_iff.mp H
         obtain ⟨t147, A340, H⟩ := H
         replace H : (hogsheadref15_May.j2 kj19 x3_19 t147 a0_0 a0_1 a0_2 a0_3 a0_4 a0_5 a0_6 a0_7 a0_8 a0_9 a0_10 l0_11) = some r := H
         have A34 := qM A340
         clear A340
         have H' := qM H
         clear H
         obtain ⟨z35_0, z35_1, z35_2, z35_3, z35_4, z35_5, z35_6, z35_7, z35_8, z35_9, z35_10, z35_11, f35_0, f35_1, f35_2, f35_3, f35_4, f35_5, f35_6, f35_7, f35_8, f35_9, f35_10, f35_11⟩ := cells12 B141.out
         go_wp2_with (first | ((with_reducible refine gate_callee (f := 26) rfl ?_); refine goesL_ (some 62) rfl rfl Try.func26 (by kernel_rfl) rfl #[.int .i64 a0_8] rfl (by (try simp only [List.map_toArray, List.map_cons, List.map_nil]); first | done | rfl | (simp only [List.length_drop, List.length_take]; rfl)) ?_; (with_reducible refine (hogsheadref15_small.calls a0_8 true _ A30.out).mono ?_); rintro e w' ⟨rfl, ⟨nd, rfl⟩⟩; refine ⟨_, rfl, ?_⟩) | (go_at_call 26; (with_reducible refine (hogsheadref15_small.calls a0_9 true _ A32.out).mono ?_); rintro e w' ⟨rfl, ⟨nd, rfl⟩⟩) | (go_at_call 26; (with_reducible refine (hogsheadref15_small.calls a0_10 t147 _ A34.out).mono ?_); rintro e w' ⟨rfl, ⟨nd, rfl⟩⟩))
         go_meet
         case rel => exact ⟨_, (t147), (by first | rfl | (simp; done) | (simp [*]; done)), H', ⟨by have := HJ1.out; have := HJ19.out; first | omega | exact Nat.le_refl _⟩, ⟨by (with_reducible repeat first | refine qN ?_ _ | refine qD ?_ | refine qA ?_ _); exact B141.out⟩, ⟨by repeat (first | (with_reducible first | exact HB.out | apply eA | apply eN | apply eD | refine eS ?_ GE141.out) | exact HB.out)⟩⟩
        ·replace c33 := Bool.eq_false_iff.mpr c33
         subst c33
         have H1 : (hogsheadref15_May.j2 kj19 x3_19 false a0_0 a0_1 a0_2 a0_3 a0_4 a0_5 a0_6 a0_7 a0_8 a0_9 a0_10 l0_11) = some r := by rw [if_neg (show ¬ (false = true) by decide)] at H; exact H
         clear H
         have H := H1
         clear H1
         have H' := qM H
         clear H
         obtain ⟨z36_0, z36_1, z36_2, z36_3, z36_4, z36_5, z36_6, z36_7, z36_8, z36_9, z36_10, z36_11, f36_0, f36_1, f36_2, f36_3, f36_4, f36_5, f36_6, f36_7, f36_8, f36_9, f36_10, f36_11⟩ := cells12 B141.out
         go_wp2_with (first | ((with_reducible refine gate_callee (f := 26) rfl ?_); refine goesL_ (some 62) rfl rfl Try.func26 (by kernel_rfl) rfl #[.int .i64 a0_8] rfl (by (try simp only [List.map_toArray, List.map_cons, List.map_nil]); first | done | rfl | (simp only [List.length_drop, List.length_take]; rfl)) ?_; (with_reducible refine (hogsheadref15_small.calls a0_8 true _ A30.out).mono ?_); rintro e w' ⟨rfl, ⟨nd, rfl⟩⟩; refine ⟨_, rfl, ?_⟩) | (go_at_call 26; (with_reducible refine (hogsheadref15_small.calls a0_9 false _ A32.out).mono ?_); rintro e w' ⟨rfl, ⟨nd, rfl⟩⟩))
         go_meet
         case rel => exact ⟨_, (false), (by first | rfl | (simp; done) | (simp [*]; done)), H', ⟨by have := HJ1.out; have := HJ19.out; first | omega | exact Nat.le_refl _⟩, ⟨by (with_reducible repeat first | refine qN ?_ _ | refine qD ?_ | refine qA ?_ _); exact B141.out⟩, ⟨by repeat (first | (with_reducible first | exact HB.out | apply eA | apply eN | apply eD | refine eS ?_ GE141.out) | exact HB.out)⟩⟩
       ·replace c31 := Bool.eq_false_iff.mpr c31
        subst c31
        have H1 : (hogsheadref15_May.j2 kj19 x3_19 false a0_0 a0_1 a0_2 a0_3 a0_4 a0_5 a0_6 a0_7 a0_8 a0_9 a0_10 l0_11) = some r := by rw [if_neg (show ¬ (false = true) by decide)] at H; exact H
        clear H
        have H := H1
        clear H1
        have H' := qM H
        clear H
        obtain ⟨z37_0, z37_1, z37_2, z37_3, z37_4, z37_5, z37_6, z37_7, z37_8, z37_9, z37_10, z37_11, f37_0, f37_1, f37_2, f37_3, f37_4, f37_5, f37_6, f37_7, f37_8, f37_9, f37_10, f37_11⟩ := cells12 B141.out
        go_wp2_with (first | ((with_reducible refine gate_callee (f := 26) rfl ?_); refine goesL_ (some 62) rfl rfl Try.func26 (by kernel_rfl) rfl #[.int .i64 a0_8] rfl (by (try simp only [List.map_toArray, List.map_cons, List.map_nil]); first | done | rfl | (simp only [List.length_drop, List.length_take]; rfl)) ?_; (with_reducible refine (hogsheadref15_small.calls a0_8 false _ A30.out).mono ?_); rintro e w' ⟨rfl, ⟨nd, rfl⟩⟩; refine ⟨_, rfl, ?_⟩))
        go_meet
        case rel => exact ⟨_, (false), (by first | rfl | (simp; done) | (simp [*]; done)), H', ⟨by have := HJ1.out; have := HJ19.out; first | omega | exact Nat.le_refl _⟩, ⟨by (with_reducible repeat first | refine qN ?_ _ | refine qD ?_ | refine qA ?_ _); exact B141.out⟩, ⟨by repeat (first | (with_reducible first | exact HB.out | apply eA | apply eN | apply eD | refine eS ?_ GE141.out) | exact HB.out)⟩⟩
      case rest =>
       clear HC29
       try clear c1
       try clear c2
       try clear p2
       try clear c3
       try clear c4
       try clear c4b0
       try clear c6
       try clear c6b0
       try clear c8
       try clear c8b0
       try clear c10
       try clear c10b0
       try clear c12
       try clear c12b0
       try clear c14
       try clear c14b0
       try clear c16
       try clear c16b0
       try clear c16b1
       try clear c18
       try clear c19
       try clear c22
       try clear c24
       try clear c26
       try clear c31
       try clear c33
       try clear z11_0
       try clear z11_1
       try clear z11_10
       try clear z11_11
       try clear z11_2
       try clear z11_3
       try clear z11_4
       try clear z11_5
       try clear z11_6
       try clear z11_7
       try clear z11_8
       try clear z11_9
       try clear z13_0
       try clear z13_1
       try clear z13_10
       try clear z13_11
       try clear z13_2
       try clear z13_3
       try clear z13_4
       try clear z13_5
       try clear z13_6
       try clear z13_7
       try clear z13_8
       try clear z13_9
       try clear z15_0
       try clear z15_1
       try clear z15_10
       try clear z15_11
       try clear z15_2
       try clear z15_3
       try clear z15_4
       try clear z15_5
       try clear z15_6
       try clear z15_7
       try clear z15_8
       try clear z15_9
       try clear z17_0
       try clear z17_1
       try clear z17_10
       try clear z17_11
       try clear z17_2
       try clear z17_3
       try clear z17_4
       try clear z17_5
       try clear z17_6
       try clear z17_7
       try clear z17_8
       try clear z17_9
       try clear z18_0
       try clear z18_1
       try clear z18_10
       try clear z18_11
       try clear z18_2
       try clear z18_3
       try clear z18_4
       try clear z18_5
       try clear z18_6
       try clear z18_7
       try clear z18_8
       try clear z18_9
       try clear z26_0
       try clear z26_1
       try clear z26_10
       try clear z26_11
       try clear z26_2
       try clear z26_3
       try clear z26_4
       try clear z26_5
       try clear z26_6
       try clear z26_7
       try clear z26_8
       try clear z26_9
       try clear z27_0
       try clear z27_1
       try clear z27_10
       try clear z27_11
       try clear z27_2
       try clear z27_3
       try clear z27_4
       try clear z27_5
       try clear z27_6
       try clear z27_7
       try clear z27_8
       try clear z27_9
       try clear z28_0
       try clear z28_1
       try clear z28_10
       try clear z28_11
       try clear z28_2
       try clear z28_3
       try clear z28_4
       try clear z28_5
       try clear z28_6
       try clear z28_7
       try clear z28_8
       try clear z28_9
       try clear z35_0
       try clear z35_1
       try clear z35_10
       try clear z35_11
       try clear z35_2
       try clear z35_3
       try clear z35_4
       try clear z35_5
       try clear z35_6
       try clear z35_7
       try clear z35_8
       try clear z35_9
       try clear z36_0
       try clear z36_1
       try clear z36_10
       try clear z36_11
       try clear z36_2
       try clear z36_3
       try clear z36_4
       try clear z36_5
       try clear z36_6
       try clear z36_7
       try clear z36_8
       try clear z36_9
       try clear z37_0
       try clear z37_1
       try clear z37_10
       try clear z37_11
       try clear z37_2
       try clear z37_3
       try clear z37_4
       try clear z37_5
       try clear z37_6
       try clear z37_7
       try clear z37_8
       try clear z37_9
       try clear z5_0
       try clear z5_1
       try clear z5_10
       try clear z5_11
       try clear z5_2
       try clear z5_3
       try clear z5_4
       try clear z5_5
       try clear z5_6
       try clear z5_7
       try clear z5_8
       try clear z5_9
       try clear z7_0
       try clear z7_1
       try clear z7_10
       try clear z7_11
       try clear z7_2
       try clear z7_3
       try clear z7_4
       try clear z7_5
       try clear z7_6
       try clear z7_7
       try clear z7_8
       try clear z7_9
       try clear z9_0
       try clear z9_1
       try clear z9_10
       try clear z9_11
       try clear z9_2
       try clear z9_3
       try clear z9_4
       try clear z9_5
       try clear z9_6
       try clear z9_7
       try clear z9_8
       try clear z9_9
       try clear f11_0
       try clear f11_1
       try clear f11_10
       try clear f11_11
       try clear f11_2
       try clear f11_3
       try clear f11_4
       try clear f11_5
       try clear f11_6
       try clear f11_7
       try clear f11_8
       try clear f11_9
       try clear f13_0
       try clear f13_1
       try clear f13_10
       try clear f13_11
       try clear f13_2
       try clear f13_3
       try clear f13_4
       try clear f13_5
       try clear f13_6
       try clear f13_7
       try clear f13_8
       try clear f13_9
       try clear f15_0
       try clear f15_1
       try clear f15_10
       try clear f15_11
       try clear f15_2
       try clear f15_3
       try clear f15_4
       try clear f15_5
       try clear f15_6
       try clear f15_7
       try clear f15_8
       try clear f15_9
       try clear f17_0
       try clear f17_1
       try clear f17_10
       try clear f17_11
       try clear f17_2
       try clear f17_3
       try clear f17_4
       try clear f17_5
       try clear f17_6
       try clear f17_7
       try clear f17_8
       try clear f17_9
       try clear f18_0
       try clear f18_1
       try clear f18_10
       try clear f18_11
       try clear f18_2
       try clear f18_3
       try clear f18_4
       try clear f18_5
       try clear f18_6
       try clear f18_7
       try clear f18_8
       try clear f18_9
       try clear f26_0
       try clear f26_1
       try clear f26_10
       try clear f26_11
       try clear f26_2
       try clear f26_3
       try clear f26_4
       try clear f26_5
       try clear f26_6
       try clear f26_7
       try clear f26_8
       try clear f26_9
       try clear f27_0
       try clear f27_1
       try clear f27_10
       try clear f27_11
       try clear f27_2
       try clear f27_3
       try clear f27_4
       try clear f27_5
       try clear f27_6
       try clear f27_7
       try clear f27_8
       try clear f27_9
       try clear f28_0
       try clear f28_1
       try clear f28_10
       try clear f28_11
       try clear f28_2
       try clear f28_3
       try clear f28_4
       try clear f28_5
       try clear f28_6
       try clear f28_7
       try clear f28_8
       try clear f28_9
       try clear f35_0
       try clear f35_1
       try clear f35_10
       try clear f35_11
       try clear f35_2
       try clear f35_3
       try clear f35_4
       try clear f35_5
       try clear f35_6
       try clear f35_7
       try clear f35_8
       try clear f35_9
       try clear f36_0
       try clear f36_1
       try clear f36_10
       try clear f36_11
       try clear f36_2
       try clear f36_3
       try clear f36_4
       try clear f36_5
       try clear f36_6
       try clear f36_7
       try clear f36_8
       try clear f36_9
       try clear f37_0
       try clear f37_1
       try clear f37_10
       try clear f37_11
       try clear f37_2
       try clear f37_3
       try clear f37_4
       try clear f37_5
       try clear f37_6
       try clear f37_7
       try clear f37_8
       try clear f37_9
       try clear f5_0
       try clear f5_1
       try clear f5_10
       try clear f5_11
       try clear f5_2
       try clear f5_3
       try clear f5_4
       try clear f5_5
       try clear f5_6
       try clear f5_7
       try clear f5_8
       try clear f5_9
       try clear f7_0
       try clear f7_1
       try clear f7_10
       try clear f7_11
       try clear f7_2
       try clear f7_3
       try clear f7_4
       try clear f7_5
       try clear f7_6
       try clear f7_7
       try clear f7_8
       try clear f7_9
       try clear f9_0
       try clear f9_1
       try clear f9_10
       try clear f9_11
       try clear f9_2
       try clear f9_3
       try clear f9_4
       try clear f9_5
       try clear f9_6
       try clear f9_7
       try clear f9_8
       try clear f9_9
       try clear p2
       obtain ⟨kq, x4_28, rfl, HA, HJ28, B141, HB⟩ := hcut
       cases kq with
       | zero => exact absurd HA.out (by simp [hogsheadref15_May.j2])
       | succ kj28 =>
        have H := HA.out
        clear HA
        simp only [hogsheadref15_May.j2] at H
        have HC38 := qM H
        clear H
        go_upto_region 5 with (fail)
        go_cut [78] (fun v78 wc => ∃ (kq : Nat) (x78_37 : Bool), v78 = .bool x78_37 ∧ Aside0 (hogsheadref15_May.j3 kq x78_37 a0_0 a0_1 a0_2 a0_3 a0_4 a0_5 a0_6 a0_7 a0_8 a0_9 a0_10 l0_11 = some r) ∧ Aside0 (kq ≤ kj28) ∧ Aside0 (wc.heap[g141]? = some (.cells #[.int .i64 a0_0, .int .i64 a0_1, .int .i64 a0_2, .string a0_3, .int .i64 a0_4, .int .i64 a0_5, .int .i64 a0_6, .int .u32 a0_7, .int .i64 a0_8, .int .i64 a0_9, .int .i64 a0_10, (.slice A0_11 l0_11.length c0_11)] 42 (0, 0))) ∧ Aside0 (Below w.heap.size w wc))
        case first =>
         have H := HC38.out
         clear HC38
         by_cases c39 : x3_19 = true
         ·subst c39
          have H1 : (hogsheadref15_May.j3 kj28 (!x4_28) a0_0 a0_1 a0_2 a0_3 a0_4 a0_5 a0_6 a0_7 a0_8 a0_9 a0_10 l0_11) = some r := by rw [if_pos rfl] at H; exact H
          clear H
          have H := H1
          clear H1
          have H' := qM H
          clear H
          go_wp2
          go_meet
          case rel => exact ⟨_, (!x4_28), (by first | rfl | (simp; done) | (simp [*]; done)), H', ⟨by have := HJ1.out; have := HJ19.out; have := HJ28.out; first | omega | exact Nat.le_refl _⟩, ⟨by (with_reducible repeat first | refine qN ?_ _ | refine qD ?_ | refine qA ?_ _); exact B141.out⟩, ⟨by repeat (first | (with_reducible first | exact HB.out | apply eA | apply eN | apply eD | refine eS ?_ GE141.out) | exact HB.out)⟩⟩
         ·replace c39 := Bool.eq_false_iff.mpr c39
          subst c39
          have H1 : (hogsheadref15_May.j3 kj28 true a0_0 a0_1 a0_2 a0_3 a0_4 a0_5 a0_6 a0_7 a0_8 a0_9 a0_10 l0_11) = some r := by rw [if_neg (show ¬ (false = true) by decide)] at H; exact H
          clear H
          have H := H1
          clear H1
          have H' := qM H
          clear H
          go_wp2
          go_meet
          case rel => exact ⟨_, (true), (by first | rfl | (simp; done) | (simp [*]; done)), H', ⟨by have := HJ1.out; have := HJ19.out; have := HJ28.out; first | omega | exact Nat.le_refl _⟩, ⟨by (with_reducible repeat first | refine qN ?_ _ | refine qD ?_ | refine qA ?_ _); exact B141.out⟩, ⟨by repeat (first | (with_reducible first | exact HB.out | apply eA | apply eN | apply eD | refine eS ?_ GE141.out) | exact HB.out)⟩⟩
        case rest =>
         clear HC38
         try clear c1
         try clear c2
         try clear p2
         try clear c3
         try clear c4
         try clear c4b0
         try clear c6
         try clear c6b0
         try clear c8
         try clear c8b0
         try clear c10
         try clear c10b0
         try clear c12
         try clear c12b0
         try clear c14
         try clear c14b0
         try clear c16
         try clear c16b0
         try clear c16b1
         try clear c18
         try clear c19
         try clear c22
         try clear c24
         try clear c26
         try clear c31
         try clear c33
         try clear c39
         try clear z11_0
         try clear z11_1
         try clear z11_10
         try clear z11_11
         try clear z11_2
         try clear z11_3
         try clear z11_4
         try clear z11_5
         try clear z11_6
         try clear z11_7
         try clear z11_8
         try clear z11_9
         try clear z13_0
         try clear z13_1
         try clear z13_10
         try clear z13_11
         try clear z13_2
         try clear z13_3
         try clear z13_4
         try clear z13_5
         try clear z13_6
         try clear z13_7
         try clear z13_8
         try clear z13_9
         try clear z15_0
         try clear z15_1
         try clear z15_10
         try clear z15_11
         try clear z15_2
         try clear z15_3
         try clear z15_4
         try clear z15_5
         try clear z15_6
         try clear z15_7
         try clear z15_8
         try clear z15_9
         try clear z17_0
         try clear z17_1
         try clear z17_10
         try clear z17_11
         try clear z17_2
         try clear z17_3
         try clear z17_4
         try clear z17_5
         try clear z17_6
         try clear z17_7
         try clear z17_8
         try clear z17_9
         try clear z18_0
         try clear z18_1
         try clear z18_10
         try clear z18_11
         try clear z18_2
         try clear z18_3
         try clear z18_4
         try clear z18_5
         try clear z18_6
         try clear z18_7
         try clear z18_8
         try clear z18_9
         try clear z26_0
         try clear z26_1
         try clear z26_10
         try clear z26_11
         try clear z26_2
         try clear z26_3
         try clear z26_4
         try clear z26_5
         try clear z26_6
         try clear z26_7
         try clear z26_8
         try clear z26_9
         try clear z27_0
         try clear z27_1
         try clear z27_10
         try clear z27_11
         try clear z27_2
         try clear z27_3
         try clear z27_4
         try clear z27_5
         try clear z27_6
         try clear z27_7
         try clear z27_8
         try clear z27_9
         try clear z28_0
         try clear z28_1
         try clear z28_10
         try clear z28_11
         try clear z28_2
         try clear z28_3
         try clear z28_4
         try clear z28_5
         try clear z28_6
         try clear z28_7
         try clear z28_8
         try clear z28_9
         try clear z35_0
         try clear z35_1
         try clear z35_10
         try clear z35_11
         try clear z35_2
         try clear z35_3
         try clear z35_4
         try clear z35_5
         try clear z35_6
         try clear z35_7
         try clear z35_8
         try clear z35_9
         try clear z36_0
         try clear z36_1
         try clear z36_10
         try clear z36_11
         try clear z36_2
         try clear z36_3
         try clear z36_4
         try clear z36_5
         try clear z36_6
         try clear z36_7
         try clear z36_8
         try clear z36_9
         try clear z37_0
         try clear z37_1
         try clear z37_10
         try clear z37_11
         try clear z37_2
         try clear z37_3
         try clear z37_4
         try clear z37_5
         try clear z37_6
         try clear z37_7
         try clear z37_8
         try clear z37_9
         try clear z5_0
         try clear z5_1
         try clear z5_10
         try clear z5_11
         try clear z5_2
         try clear z5_3
         try clear z5_4
         try clear z5_5
         try clear z5_6
         try clear z5_7
         try clear z5_8
         try clear z5_9
         try clear z7_0
         try clear z7_1
         try clear z7_10
         try clear z7_11
         try clear z7_2
         try clear z7_3
         try clear z7_4
         try clear z7_5
         try clear z7_6
         try clear z7_7
         try clear z7_8
         try clear z7_9
         try clear z9_0
         try clear z9_1
         try clear z9_10
         try clear z9_11
         try clear z9_2
         try clear z9_3
         try clear z9_4
         try clear z9_5
         try clear z9_6
         try clear z9_7
         try clear z9_8
         try clear z9_9
         try clear f11_0
         try clear f11_1
         try clear f11_10
         try clear f11_11
         try clear f11_2
         try clear f11_3
         try clear f11_4
         try clear f11_5
         try clear f11_6
         try clear f11_7
         try clear f11_8
         try clear f11_9
         try clear f13_0
         try clear f13_1
         try clear f13_10
         try clear f13_11
         try clear f13_2
         try clear f13_3
         try clear f13_4
         try clear f13_5
         try clear f13_6
         try clear f13_7
         try clear f13_8
         try clear f13_9
         try clear f15_0
         try clear f15_1
         try clear f15_10
         try clear f15_11
         try clear f15_2
         try clear f15_3
         try clear f15_4
         try clear f15_5
         try clear f15_6
         try clear f15_7
         try clear f15_8
         try clear f15_9
         try clear f17_0
         try clear f17_1
         try clear f17_10
         try clear f17_11
         try clear f17_2
         try clear f17_3
         try clear f17_4
         try clear f17_5
         try clear f17_6
         try clear f17_7
         try clear f17_8
         try clear f17_9
         try clear f18_0
         try clear f18_1
         try clear f18_10
         try clear f18_11
         try clear f18_2
         try clear f18_3
         try clear f18_4
         try clear f18_5
         try clear f18_6
         try clear f18_7
         try clear f18_8
         try clear f18_9
         try clear f26_0
         try clear f26_1
         try clear f26_10
         try clear f26_11
         try clear f26_2
         try clear f26_3
         try clear f26_4
         try clear f26_5
         try clear f26_6
         try clear f26_7
         try clear f26_8
         try clear f26_9
         try clear f27_0
         try clear f27_1
         try clear f27_10
         try clear f27_11
         try clear f27_2
         try clear f27_3
         try clear f27_4
         try clear f27_5
         try clear f27_6
         try clear f27_7
         try clear f27_8
         try clear f27_9
         try clear f28_0
         try clear f28_1
         try clear f28_10
         try clear f28_11
         try clear f28_2
         try clear f28_3
         try clear f28_4
         try clear f28_5
         try clear f28_6
         try clear f28_7
         try clear f28_8
         try clear f28_9
         try clear f35_0
         try clear f35_1
         try clear f35_10
         try clear f35_11
         try clear f35_2
         try clear f35_3
         try clear f35_4
         try clear f35_5
         try clear f35_6
         try clear f35_7
         try clear f35_8
         try clear f35_9
         try clear f36_0
         try clear f36_1
         try clear f36_10
         try clear f36_11
         try clear f36_2
         try clear f36_3
         try clear f36_4
         try clear f36_5
         try clear f36_6
         try clear f36_7
         try clear f36_8
         try clear f36_9
         try clear f37_0
         try clear f37_1
         try clear f37_10
         try clear f37_11
         try clear f37_2
         try clear f37_3
         try clear f37_4
         try clear f37_5
         try clear f37_6
         try clear f37_7
         try clear f37_8
         try clear f37_9
         try clear f5_0
         try clear f5_1
         try clear f5_10
         try clear f5_11
         try clear f5_2
         try clear f5_3
         try clear f5_4
         try clear f5_5
         try clear f5_6
         try clear f5_7
         try clear f5_8
         try clear f5_9
         try clear f7_0
         try clear f7_1
         try clear f7_10
         try clear f7_11
         try clear f7_2
         try clear f7_3
         try clear f7_4
         try clear f7_5
         try clear f7_6
         try clear f7_7
         try clear f7_8
         try clear f7_9
         try clear f9_0
         try clear f9_1
         try clear f9_10
         try clear f9_11
         try clear f9_2
         try clear f9_3
         try clear f9_4
         try clear f9_5
         try clear f9_6
         try clear f9_7
         try clear f9_8
         try clear f9_9
         try clear p2
         obtain ⟨kq, x78_37, rfl, HA, HJ37, B141, HB⟩ := hcut
         cases kq with
         | zero => exact absurd HA.out (by simp [hogsheadref15_May.j3])
         | succ kj37 =>
          have H := HA.out
          clear HA
          simp only [hogsheadref15_May.j3] at H
          by_cases c40 : x78_37 = true
          ·subst c40
           have H1 : (some false) = some r := by rw [if_pos rfl] at H; exact H
           clear H
           have H := H1
           clear H1
           obtain rfl := Option.some.inj H
           go_wp2
           go_ret
           exact ⟨by first | rfl | (simp [errW_none, errW_some] <;> rfl) | (simp [*, errW_none, errW_some] <;> rfl), by repeat (first | (with_reducible first | exact HB.out | apply eA | apply eN | apply eD | refine eS ?_ GE141.out) | exact HB.out)⟩
          ·replace c40 := Bool.eq_false_iff.mpr c40
           subst c40
           have H1 : (hogsheadref15_May.l0 kj37 0 a0_0 a0_1 a0_2 a0_3 a0_4 a0_5 a0_6 a0_7 a0_8 a0_9 a0_10 l0_11) = some r := by rw [if_neg (show ¬ (false = true) by decide)] at H; exact H
           clear H
           have H := H1
           clear H1
           have H' := qM H
           clear H
           go_wp2
           go_loopg [5] kj37 (fun kq v5 w' => ∃ (x5_5 : Int), v5 = .int .i64 x5_5 ∧ Aside0 (hogsheadref15_May.l0 kq x5_5 a0_0 a0_1 a0_2 a0_3 a0_4 a0_5 a0_6 a0_7 a0_8 a0_9 a0_10 l0_11 = some r) ∧ Aside0 (kq ≤ kj37) ∧ Aside0 (w'.heap[g141]? = some (.cells #[.int .i64 a0_0, .int .i64 a0_1, .int .i64 a0_2, .string a0_3, .int .i64 a0_4, .int .i64 a0_5, .int .i64 a0_6, .int .u32 a0_7, .int .i64 a0_8, .int .i64 a0_9, .int .i64 a0_10, (.slice A0_11 l0_11.length c0_11)] 42 (0, 0))) ∧ Aside0 (Below w.heap.size w w'))
           case atStart => exact ⟨(0), (by first | rfl | (simp; done) | (simp [*]; done)), H', ⟨Nat.le_refl _⟩, ⟨by (with_reducible repeat first | refine qN ?_ _ | refine qD ?_ | refine qA ?_ _); exact B141.out⟩, ⟨by repeat (first | (with_reducible first | exact HB.out | apply eA | apply eN | apply eD | refine eS ?_ GE141.out) | exact HB.out)⟩⟩
           case round =>
            clear H'
            try clear c1
            try clear c2
            try clear p2
            try clear c3
            try clear c4
            try clear c4b0
            try clear c6
            try clear c6b0
            try clear c8
            try clear c8b0
            try clear c10
            try clear c10b0
            try clear c12
            try clear c12b0
            try clear c14
            try clear c14b0
            try clear c16
            try clear c16b0
            try clear c16b1
            try clear c18
            try clear c19
            try clear c22
            try clear c24
            try clear c26
            try clear c31
            try clear c33
            try clear c39
            try clear c40
            try clear z11_0
            try clear z11_1
            try clear z11_10
            try clear z11_11
            try clear z11_2
            try clear z11_3
            try clear z11_4
            try clear z11_5
            try clear z11_6
            try clear z11_7
            try clear z11_8
            try clear z11_9
            try clear z13_0
            try clear z13_1
            try clear z13_10
            try clear z13_11
            try clear z13_2
            try clear z13_3
            try clear z13_4
            try clear z13_5
            try clear z13_6
            try clear z13_7
            try clear z13_8
            try clear z13_9
            try clear z15_0
            try clear z15_1
            try clear z15_10
            try clear z15_11
            try clear z15_2
            try clear z15_3
            try clear z15_4
            try clear z15_5
            try clear z15_6
            try clear z15_7
            try clear z15_8
            try clear z15_9
            try clear z17_0
            try clear z17_1
            try clear z17_10
            try clear z17_11
            try clear z17_2
            try clear z17_3
            try clear z17_4
            try clear z17_5
            try clear z17_6
            try clear z17_7
            try clear z17_8
            try clear z17_9
            try clear z18_0
            try clear z18_1
            try clear z18_10
            try clear z18_11
            try clear z18_2
            try clear z18_3
            try clear z18_4
            try clear z18_5
            try clear z18_6
            try clear z18_7
            try clear z18_8
            try clear z18_9
            try clear z26_0
            try clear z26_1
            try clear z26_10
            try clear z26_11
            try clear z26_2
            try clear z26_3
            try clear z26_4
            try clear z26_5
            try clear z26_6
            try clear z26_7
            try clear z26_8
            try clear z26_9
            try clear z27_0
            try clear z27_1
            try clear z27_10
            try clear z27_11
            try clear z27_2
            try clear z27_3
            try clear z27_4
            try clear z27_5
            try clear z27_6
            try clear z27_7
            try clear z27_8
            try clear z27_9
            try clear z28_0
            try clear z28_1
            try clear z28_10
            try clear z28_11
            try clear z28_2
            try clear z28_3
            try clear z28_4
            try clear z28_5
            try clear z28_6
            try clear z28_7
            try clear z28_8
            try clear z28_9
            try clear z35_0
            try clear z35_1
            try clear z35_10
            try clear z35_11
            try clear z35_2
            try clear z35_3
            try clear z35_4
            try clear z35_5
            try clear z35_6
            try clear z35_7
            try clear z35_8
            try clear z35_9
            try clear z36_0
            try clear z36_1
            try clear z36_10
            try clear z36_11
            try clear z36_2
            try clear z36_3
            try clear z36_4
            try clear z36_5
            try clear z36_6
            try clear z36_7
            try clear z36_8
            try clear z36_9
            try clear z37_0
            try clear z37_1
            try clear z37_10
            try clear z37_11
            try clear z37_2
            try clear z37_3
            try clear z37_4
            try clear z37_5
            try clear z37_6
            try clear z37_7
            try clear z37_8
            try clear z37_9
            try clear z5_0
            try clear z5_1
            try clear z5_10
            try clear z5_11
            try clear z5_2
            try clear z5_3
            try clear z5_4
            try clear z5_5
            try clear z5_6
            try clear z5_7
            try clear z5_8
            try clear z5_9
            try clear z7_0
            try clear z7_1
            try clear z7_10
            try clear z7_11
            try clear z7_2
            try clear z7_3
            try clear z7_4
            try clear z7_5
            try clear z7_6
            try clear z7_7
            try clear z7_8
            try clear z7_9
            try clear z9_0
            try clear z9_1
            try clear z9_10
            try clear z9_11
            try clear z9_2
            try clear z9_3
            try clear z9_4
            try clear z9_5
            try clear z9_6
            try clear z9_7
            try clear z9_8
            try clear z9_9
            try clear f11_0
            try clear f11_1
            try clear f11_10
            try clear f11_11
            try clear f11_2
            try clear f11_3
            try clear f11_4
            try clear f11_5
            try clear f11_6
            try clear f11_7
            try clear f11_8
            try clear f11_9
            try clear f13_0
            try clear f13_1
            try clear f13_10
            try clear f13_11
            try clear f13_2
            try clear f13_3
            try clear f13_4
            try clear f13_5
            try clear f13_6
            try clear f13_7
            try clear f13_8
            try clear f13_9
            try clear f15_0
            try clear f15_1
            try clear f15_10
            try clear f15_11
            try clear f15_2
            try clear f15_3
            try clear f15_4
            try clear f15_5
            try clear f15_6
            try clear f15_7
            try clear f15_8
            try clear f15_9
            try clear f17_0
            try clear f17_1
            try clear f17_10
            try clear f17_11
            try clear f17_2
            try clear f17_3
            try clear f17_4
            try clear f17_5
            try clear f17_6
            try clear f17_7
            try clear f17_8
            try clear f17_9
            try clear f18_0
            try clear f18_1
            try clear f18_10
            try clear f18_11
            try clear f18_2
            try clear f18_3
            try clear f18_4
            try clear f18_5
            try clear f18_6
            try clear f18_7
            try clear f18_8
            try clear f18_9
            try clear f26_0
            try clear f26_1
            try clear f26_10
            try clear f26_11
            try clear f26_2
            try clear f26_3
            try clear f26_4
            try clear f26_5
            try clear f26_6
            try clear f26_7
            try clear f26_8
            try clear f26_9
            try clear f27_0
            try clear f27_1
            try clear f27_10
            try clear f27_11
            try clear f27_2
            try clear f27_3
            try clear f27_4
            try clear f27_5
            try clear f27_6
            try clear f27_7
            try clear f27_8
            try clear f27_9
            try clear f28_0
            try clear f28_1
            try clear f28_10
            try clear f28_11
            try clear f28_2
            try clear f28_3
            try clear f28_4
            try clear f28_5
            try clear f28_6
            try clear f28_7
            try clear f28_8
            try clear f28_9
            try clear f35_0
            try clear f35_1
            try clear f35_10
            try clear f35_11
            try clear f35_2
            try clear f35_3
            try clear f35_4
            try clear f35_5
            try clear f35_6
            try clear f35_7
            try clear f35_8
            try clear f35_9
            try clear f36_0
            try clear f36_1
            try clear f36_10
            try clear f36_11
            try clear f36_2
            try clear f36_3
            try clear f36_4
            try clear f36_5
            try clear f36_6
            try clear f36_7
            try clear f36_8
            try clear f36_9
            try clear f37_0
            try clear f37_1
            try clear f37_10
            try clear f37_11
            try clear f37_2
            try clear f37_3
            try clear f37_4
            try clear f37_5
            try clear f37_6
            try clear f37_7
            try clear f37_8
            try clear f37_9
            try clear f5_0
            try clear f5_1
            try clear f5_10
            try clear f5_11
            try clear f5_2
            try clear f5_3
            try clear f5_4
            try clear f5_5
            try clear f5_6
            try clear f5_7
            try clear f5_8
            try clear f5_9
            try clear f7_0
            try clear f7_1
            try clear f7_10
            try clear f7_11
            try clear f7_2
            try clear f7_3
            try clear f7_4
            try clear f7_5
            try clear f7_6
            try clear f7_7
            try clear f7_8
            try clear f7_9
            try clear f9_0
            try clear f9_1
            try clear f9_10
            try clear f9_11
            try clear f9_2
            try clear f9_3
            try clear f9_4
            try clear f9_5
            try clear f9_6
            try clear f9_7
            try clear f9_8
            try clear f9_9
            try clear p2
            obtain ⟨x5_5, rfl, HA, HK5, B141, HB⟩ := hrel
            cases gk with
            | zero => exact absurd HA.out (by simp [hogsheadref15_May.l0])
            | succ k5 =>
             have H := HA.out
             clear HA
             simp only [hogsheadref15_May.l0] at H
             by_cases c41 : x5_5 < (l0_11.length : Int)
             ·rw [if_pos c41] at H
              have c41b0 : decide (x5_5 < (l0_11.length : Int)) = true := decide_eq_true c41
              clear c41
              by_cases c42 : 0 ≤ x5_5
              ·rw [if_pos c42] at H
               have c42b0 : decide (0 ≤ x5_5) = true := decide_eq_true c42
               clear c42
               by_cases c43 : ((rd_T75 l0_11 x5_5).f0) < 1
               ·rw [if_pos c43] at H
                have c43b0 : decide (((rd_T75 l0_11 x5_5).f0) < 1) = true := decide_eq_true c43
                clear c43
                obtain rfl := Option.some.inj H
                obtain ⟨z44_0, z44_1, z44_2, z44_3, z44_4, z44_5, z44_6, z44_7, z44_8, z44_9, z44_10, z44_11, f44_0, f44_1, f44_2, f44_3, f44_4, f44_5, f44_6, f44_7, f44_8, f44_9, f44_10, f44_11⟩ := cells12 B141.out
                have p148 : 0 ≤ (x5_5 : Int) := of_decide_eq_true (by first | (with_reducible assumption) | assumption)
                have q148 : x5_5 < (l0_11.length : Int) := of_decide_eq_true (by first | (with_reducible assumption) | assumption)
                obtain ⟨ad148, e148, hx148_0, hx148_1⟩ := at_T75 HR0_11.out x5_5 p148 q148
                cases e148
                replace hx148_0 := (HB.out.cell (World.block_lt_of_cell? w _ hx148_0)).trans hx148_0
                replace hx148_1 := (HB.out.cell (World.block_lt_of_cell? w _ hx148_1)).trans hx148_1
                replace p148 := eq_true p148
                replace q148 := eq_true q148
                go_wp2_with (first | ((with_reducible refine gate_dst (N := 6) rfl ?_); (try (refine gate_guard (by rfl) ?_; dsimp only)); refine box_event ?hg (N := 6) ?hd (cs := #[.int .i64 0, .int .i64 0]) (t := 75) ?hr ?_; (case hd => rfl); (case hg => rfl); (case hr => first | (go_simp; done) | (go_simp; rfl)); intro g149 hg w45 hbox hb; have n0_ := qM (qB (g := g141) (by (with_reducible repeat first | refine qN ?_ _ | refine qD ?_ | refine qA ?_ _); exact B141.out) hb); have n1_ := qM (eT (by repeat (first | (with_reducible first | exact HB.out | apply eA | apply eN | apply eD | refine eU ?_ (by assumption)) | exact HB.out)) hb); have n2_ := qM (hbox); have n3_ := qM ((by rw [hg]; exact (eZ (by repeat (first | (with_reducible first | exact HB.out | apply eA | apply eN | apply eD | refine eU ?_ (by assumption)) | exact HB.out))) : w.heap.size ≤ g149)); have n4_ := n3_; have n5_ := qM ((by rw [hg]; exact Nat.ne_of_lt (qL (g := g141) (by (with_reducible repeat first | refine qN ?_ _ | refine qD ?_ | refine qA ?_ _); exact B141.out)) : g141 ≠ g149)); have n6_ := qM (Ne.symm n5_.out); clear B141 HB; have B141 := n0_; have HB := n1_; have B149 := n2_; have GW149 := n3_; have GE149 := n4_; have NB141_149 := n5_; have NB149_141 := n6_; clear n0_ n1_ n2_ n3_ n4_ n5_ n6_; clear hb hbox hg; have hnb46 := NB149_141.out; have hnc46 := NB141_149.out; have z47_0 : w45.cell? ⟨g149, 0, none⟩ = some (.int .i64 0) := (qC B149.out 0).trans rfl; have z47_1 : w45.cell? ⟨g149, 1, none⟩ = some (.int .i64 0) := (qC B149.out 1).trans rfl; have f47_0 := qF B149.out 0; have f47_1 := qF B149.out 1))
                go_ret
                exact ⟨by first | rfl | (simp [errW_none, errW_some] <;> rfl) | (simp [*, errW_none, errW_some] <;> rfl), by repeat (first | (with_reducible first | exact HB.out | apply eA | apply eN | apply eD | refine eS ?_ GE141.out | refine eS ?_ GE149.out) | exact HB.out)⟩
               ·rw [if_neg c43] at H
                have c43b0 : decide (((rd_T75 l0_11 x5_5).f0) < 1) = false := decide_eq_false c43
                clear c43
                by_cases c48 : ((rd_T75 l0_11 x5_5).f0) > 3
                ·rw [if_pos c48] at H
                 have c48b0 : decide (3 < ((rd_T75 l0_11 x5_5).f0)) = true := decide_eq_true c48
                 clear c48
                 obtain rfl := Option.some.inj H
                 obtain ⟨z49_0, z49_1, z49_2, z49_3, z49_4, z49_5, z49_6, z49_7, z49_8, z49_9, z49_10, z49_11, f49_0, f49_1, f49_2, f49_3, f49_4, f49_5, f49_6, f49_7, f49_8, f49_9, f49_10, f49_11⟩ := cells12 B141.out
                 have p148 : 0 ≤ (x5_5 : Int) := of_decide_eq_true (by first | (with_reducible assumption) | assumption)
                 have q148 : x5_5 < (l0_11.length : Int) := of_decide_eq_true (by first | (with_reducible assumption) | assumption)
                 obtain ⟨ad148, e148, hx148_0, hx148_1⟩ := at_T75 HR0_11.out x5_5 p148 q148
                 cases e148
                 replace hx148_0 := (HB.out.cell (World.block_lt_of_cell? w _ hx148_0)).trans hx148_0
                 replace hx148_1 := (HB.out.cell (World.block_lt_of_cell? w _ hx148_1)).trans hx148_1
                 replace p148 := eq_true p148
                 replace q148 := eq_true q148
                 go_wp2_with (first | ((with_reducible refine gate_dst (N := 6) rfl ?_); (try (refine gate_guard (by rfl) ?_; dsimp only)); refine box_event ?hg (N := 6) ?hd (cs := #[.int .i64 0, .int .i64 0]) (t := 75) ?hr ?_; (case hd => rfl); (case hg => rfl); (case hr => first | (go_simp; done) | (go_simp; rfl)); intro g149 hg w50 hbox hb; have n0_ := qM (qB (g := g141) (by (with_reducible repeat first | refine qN ?_ _ | refine qD ?_ | refine qA ?_ _); exact B141.out) hb); have n1_ := qM (eT (by repeat (first | (with_reducible first | exact HB.out | apply eA | apply eN | apply eD | refine eU ?_ (by assumption)) | exact HB.out)) hb); have n2_ := qM (hbox); have n3_ := qM ((by rw [hg]; exact (eZ (by repeat (first | (with_reducible first | exact HB.out | apply eA | apply eN | apply eD | refine eU ?_ (by assumption)) | exact HB.out))) : w.heap.size ≤ g149)); have n4_ := n3_; have n5_ := qM ((by rw [hg]; exact Nat.ne_of_lt (qL (g := g141) (by (with_reducible repeat first | refine qN ?_ _ | refine qD ?_ | refine qA ?_ _); exact B141.out)) : g141 ≠ g149)); have n6_ := qM (Ne.symm n5_.out); clear B141 HB; have B141 := n0_; have HB := n1_; have B149 := n2_; have GW149 := n3_; have GE149 := n4_; have NB141_149 := n5_; have NB149_141 := n6_; clear n0_ n1_ n2_ n3_ n4_ n5_ n6_; clear hb hbox hg; have hnb51 := NB149_141.out; have hnc51 := NB141_149.out; have z52_0 : w50.cell? ⟨g149, 0, none⟩ = some (.int .i64 0) := (qC B149.out 0).trans rfl; have z52_1 : w50.cell? ⟨g149, 1, none⟩ = some (.int .i64 0) := (qC B149.out 1).trans rfl; have f52_0 := qF B149.out 0; have f52_1 := qF B149.out 1))
                 go_ret
                 exact ⟨by first | rfl | (simp [errW_none, errW_some] <;> rfl) | (simp [*, errW_none, errW_some] <;> rfl), by repeat (first | (with_reducible first | exact HB.out | apply eA | apply eN | apply eD | refine eS ?_ GE141.out | refine eS ?_ GE149.out) | exact HB.out)⟩
                ·rw [if_neg c48] at H
                 have c48b0 : decide (3 < ((rd_T75 l0_11 x5_5).f0)) = false := decide_eq_false c48
                 clear c48
                 by_cases c53 : ((rd_T75 l0_11 x5_5).f1) < 0
                 ·rw [if_pos c53] at H
                  have c53b0 : decide (((rd_T75 l0_11 x5_5).f1) < 0) = true := decide_eq_true c53
                  clear c53
                  obtain rfl := Option.some.inj H
                  obtain ⟨z54_0, z54_1, z54_2, z54_3, z54_4, z54_5, z54_6, z54_7, z54_8, z54_9, z54_10, z54_11, f54_0, f54_1, f54_2, f54_3, f54_4, f54_5, f54_6, f54_7, f54_8, f54_9, f54_10, f54_11⟩ := cells12 B141.out
                  have p148 : 0 ≤ (x5_5 : Int) := of_decide_eq_true (by first | (with_reducible assumption) | assumption)
                  have q148 : x5_5 < (l0_11.length : Int) := of_decide_eq_true (by first | (with_reducible assumption) | assumption)
                  obtain ⟨ad148, e148, hx148_0, hx148_1⟩ := at_T75 HR0_11.out x5_5 p148 q148
                  cases e148
                  replace hx148_0 := (HB.out.cell (World.block_lt_of_cell? w _ hx148_0)).trans hx148_0
                  replace hx148_1 := (HB.out.cell (World.block_lt_of_cell? w _ hx148_1)).trans hx148_1
                  replace p148 := eq_true p148
                  replace q148 := eq_true q148
                  go_wp2_with (first | ((with_reducible refine gate_dst (N := 6) rfl ?_); (try (refine gate_guard (by rfl) ?_; dsimp only)); refine box_event ?hg (N := 6) ?hd (cs := #[.int .i64 0, .int .i64 0]) (t := 75) ?hr ?_; (case hd => rfl); (case hg => rfl); (case hr => first | (go_simp; done) | (go_simp; rfl)); intro g149 hg w55 hbox hb; have n0_ := qM (qB (g := g141) (by (with_reducible repeat first | refine qN ?_ _ | refine qD ?_ | refine qA ?_ _); exact B141.out) hb); have n1_ := qM (eT (by repeat (first | (with_reducible first | exact HB.out | apply eA | apply eN | apply eD | refine eU ?_ (by assumption)) | exact HB.out)) hb); have n2_ := qM (hbox); have n3_ := qM ((by rw [hg]; exact (eZ (by repeat (first | (with_reducible first | exact HB.out | apply eA | apply eN | apply eD | refine eU ?_ (by assumption)) | exact HB.out))) : w.heap.size ≤ g149)); have n4_ := n3_; have n5_ := qM ((by rw [hg]; exact Nat.ne_of_lt (qL (g := g141) (by (with_reducible repeat first | refine qN ?_ _ | refine qD ?_ | refine qA ?_ _); exact B141.out)) : g141 ≠ g149)); have n6_ := qM (Ne.symm n5_.out); clear B141 HB; have B141 := n0_; have HB := n1_; have B149 := n2_; have GW149 := n3_; have GE149 := n4_; have NB141_149 := n5_; have NB149_141 := n6_; clear n0_ n1_ n2_ n3_ n4_ n5_ n6_; clear hb hbox hg; have hnb56 := NB149_141.out; have hnc56 := NB141_149.out; have z57_0 : w55.cell? ⟨g149, 0, none⟩ = some (.int .i64 0) := (qC B149.out 0).trans rfl; have z57_1 : w55.cell? ⟨g149, 1, none⟩ = some (.int .i64 0) := (qC B149.out 1).trans rfl; have f57_0 := qF B149.out 0; have f57_1 := qF B149.out 1))
                  go_ret
                  exact ⟨by first | rfl | (simp [errW_none, errW_some] <;> rfl) | (simp [*, errW_none, errW_some] <;> rfl), by repeat (first | (with_reducible first | exact HB.out | apply eA | apply eN | apply eD | refine eS ?_ GE141.out | refine eS ?_ GE149.out) | exact HB.out)⟩
                 ·rw [if_neg c53] at H
                  have c53b0 : decide (((rd_T75 l0_11 x5_5).f1) < 0) = false := decide_eq_false c53
                  clear c53
                  by_cases c58 : ((rd_T75 l0_11 x5_5).f1) > 63
                  ·rw [if_pos c58] at H
                   have c58b0 : decide (63 < ((rd_T75 l0_11 x5_5).f1)) = true := decide_eq_true c58
                   clear c58
                   obtain rfl := Option.some.inj H
                   obtain ⟨z59_0, z59_1, z59_2, z59_3, z59_4, z59_5, z59_6, z59_7, z59_8, z59_9, z59_10, z59_11, f59_0, f59_1, f59_2, f59_3, f59_4, f59_5, f59_6, f59_7, f59_8, f59_9, f59_10, f59_11⟩ := cells12 B141.out
                   have p148 : 0 ≤ (x5_5 : Int) := of_decide_eq_true (by first | (with_reducible assumption) | assumption)
                   have q148 : x5_5 < (l0_11.length : Int) := of_decide_eq_true (by first | (with_reducible assumption) | assumption)
                   obtain ⟨ad148, e148, hx148_0, hx148_1⟩ := at_T75 HR0_11.out x5_5 p148 q148
                   cases e148
                   replace hx148_0 := (HB.out.cell (World.block_lt_of_cell? w _ hx148_0)).trans hx148_0
                   replace hx148_1 := (HB.out.cell (World.block_lt_of_cell? w _ hx148_1)).trans hx148_1
                   replace p148 := eq_true p148
                   replace q148 := eq_true q148
                   go_wp2_with (first | ((with_reducible refine gate_dst (N := 6) rfl ?_); (try (refine gate_guard (by rfl) ?_; dsimp only)); refine box_event ?hg (N := 6) ?hd (cs := #[.int .i64 0, .int .i64 0]) (t := 75) ?hr ?_; (case hd => rfl); (case hg => rfl); (case hr => first | (go_simp; done) | (go_simp; rfl)); intro g149 hg w60 hbox hb; have n0_ := qM (qB (g := g141) (by (with_reducible repeat first | refine qN ?_ _ | refine qD ?_ | refine qA ?_ _); exact B141.out) hb); have n1_ := qM (eT (by repeat (first | (with_reducible first | exact HB.out | apply eA | apply eN | apply eD | refine eU ?_ (by assumption)) | exact HB.out)) hb); have n2_ := qM (hbox); have n3_ := qM ((by rw [hg]; exact (eZ (by repeat (first | (with_reducible first | exact HB.out | apply eA | apply eN | apply eD | refine eU ?_ (by assumption)) | exact HB.out))) : w.heap.size ≤ g149)); have n4_ := n3_; have n5_ := qM ((by rw [hg]; exact Nat.ne_of_lt (qL (g := g141) (by (with_reducible repeat first | refine qN ?_ _ | refine qD ?_ | refine qA ?_ _); exact B141.out)) : g141 ≠ g149)); have n6_ := qM (Ne.symm n5_.out); clear B141 HB; have B141 := n0_; have HB := n1_; have B149 := n2_; have GW149 := n3_; have GE149 := n4_; have NB141_149 := n5_; have NB149_141 := n6_; clear n0_ n1_ n2_ n3_ n4_ n5_ n6_; clear hb hbox hg; have hnb61 := NB149_141.out; have hnc61 := NB141_149.out; have z62_0 : w60.cell? ⟨g149, 0, none⟩ = some (.int .i64 0) := (qC B149.out 0).trans rfl; have z62_1 : w60.cell? ⟨g149, 1, none⟩ = some (.int .i64 0) := (qC B149.out 1).trans rfl; have f62_0 := qF B149.out 0; have f62_1 := qF B149.out 1))
                   go_ret
                   exact ⟨by first | rfl | (simp [errW_none, errW_some] <;> rfl) | (simp [*, errW_none, errW_some] <;> rfl), by repeat (first | (with_reducible first | exact HB.out | apply eA | apply eN | apply eD | refine eS ?_ GE141.out | refine eS ?_ GE149.out) | exact HB.out)⟩
                  ·rw [if_neg c58] at H
                   have c58b0 : decide (63 < ((rd_T75 l0_11 x5_5).f1)) = false := decide_eq_false c58
                   clear c58
                   have H' := qM H
                   clear H
                   obtain ⟨z63_0, z63_1, z63_2, z63_3, z63_4, z63_5, z63_6, z63_7, z63_8, z63_9, z63_10, z63_11, f63_0, f63_1, f63_2, f63_3, f63_4, f63_5, f63_6, f63_7, f63_8, f63_9, f63_10, f63_11⟩ := cells12 B141.out
                   have p148 : 0 ≤ (x5_5 : Int) := of_decide_eq_true (by first | (with_reducible assumption) | assumption)
                   have q148 : x5_5 < (l0_11.length : Int) := of_decide_eq_true (by first | (with_reducible assumption) | assumption)
                   obtain ⟨ad148, e148, hx148_0, hx148_1⟩ := at_T75 HR0_11.out x5_5 p148 q148
                   cases e148
                   replace hx148_0 := (HB.out.cell (World.block_lt_of_cell? w _ hx148_0)).trans hx148_0
                   replace hx148_1 := (HB.out.cell (World.block_lt_of_cell? w _ hx148_1)).trans hx148_1
                   replace p148 := eq_true p148
                   replace q148 := eq_true q148
                   go_wp2_with (first | ((with_reducible refine gate_dst (N := 6) rfl ?_); (try (refine gate_guard (by rfl) ?_; dsimp only)); refine box_event ?hg (N := 6) ?hd (cs := #[.int .i64 0, .int .i64 0]) (t := 75) ?hr ?_; (case hd => rfl); (case hg => rfl); (case hr => first | (go_simp; done) | (go_simp; rfl)); intro g149 hg w64 hbox hb; have n0_ := qM (qB (g := g141) (by (with_reducible repeat first | refine qN ?_ _ | refine qD ?_ | refine qA ?_ _); exact B141.out) hb); have n1_ := qM (eT (by repeat (first | (with_reducible first | exact HB.out | apply eA | apply eN | apply eD | refine eU ?_ (by assumption)) | exact HB.out)) hb); have n2_ := qM (hbox); have n3_ := qM ((by rw [hg]; exact (eZ (by repeat (first | (with_reducible first | exact HB.out | apply eA | apply eN | apply eD | refine eU ?_ (by assumption)) | exact HB.out))) : w.heap.size ≤ g149)); have n4_ := n3_; have n5_ := qM ((by rw [hg]; exact Nat.ne_of_lt (qL (g := g141) (by (with_reducible repeat first | refine qN ?_ _ | refine qD ?_ | refine qA ?_ _); exact B141.out)) : g141 ≠ g149)); have n6_ := qM (Ne.symm n5_.out); clear B141 HB; have B141 := n0_; have HB := n1_; have B149 := n2_; have GW149 := n3_; have GE149 := n4_; have NB141_149 := n5_; have NB149_141 := n6_; clear n0_ n1_ n2_ n3_ n4_ n5_ n6_; clear hb hbox hg; have hnb65 := NB149_141.out; have hnc65 := NB141_149.out; have z66_0 : w64.cell? ⟨g149, 0, none⟩ = some (.int .i64 0) := (qC B149.out 0).trans rfl; have z66_1 : w64.cell? ⟨g149, 1, none⟩ = some (.int .i64 0) := (qC B149.out 1).trans rfl; have f66_0 := qF B149.out 0; have f66_1 := qF B149.out 1))
                   go_roundg k5
                   case measure => have := HJ1.out; have := HJ19.out; have := HJ28.out; have := HJ37.out; have := HK5.out; omega
                   case rel => exact ⟨(wrap64 (x5_5 + 1)), (by first | rfl | (simp; done) | (simp [*]; done)), H', ⟨by have := HJ1.out; have := HJ19.out; have := HJ28.out; have := HJ37.out; have := HK5.out; omega⟩, ⟨by (with_reducible repeat first | refine qN ?_ _ | refine qD ?_ | refine qA ?_ _); (iterate 2 (refine qR ?_ NB141_149.out _; (with_reducible repeat first | refine qN ?_ _ | refine qD ?_ | refine qA ?_ _))); exact B141.out⟩, ⟨by repeat (first | (with_reducible first | exact HB.out | apply eA | apply eN | apply eD | refine eS ?_ GE141.out | refine eS ?_ GE149.out) | exact HB.out)⟩⟩
              ·rw [if_neg c42] at H
               exact absurd H (by simp)
             ·rw [if_neg c41] at H
              have c41b0 : decide (x5_5 < (l0_11.length : Int)) = false := decide_eq_false c41
              clear c41
              obtain rfl := Option.some.inj H
              obtain ⟨z67_0, z67_1, z67_2, z67_3, z67_4, z67_5, z67_6, z67_7, z67_8, z67_9, z67_10, z67_11, f67_0, f67_1, f67_2, f67_3, f67_4, f67_5, f67_6, f67_7, f67_8, f67_9, f67_10, f67_11⟩ := cells12 B141.out
              go_wp2
              go_ret
              exact ⟨by first | rfl | (simp [errW_none, errW_some] <;> rfl) | (simp [*, errW_none, errW_some] <;> rfl), by repeat (first | (with_reducible first | exact HB.out | apply eA | apply eN | apply eD | refine eS ?_ GE141.out) | exact HB.out)⟩

end Go.Proofs.Ytlfonfceaiiinaa.PAll
