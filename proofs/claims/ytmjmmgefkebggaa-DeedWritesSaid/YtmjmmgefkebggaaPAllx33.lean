/- Functions of the program as plain Lean functions, and that each call comes to what they say. Laid by a program of this session (hprint.py); Lean checks it. -/
import Derived.Test.YtmjmmgefkebggaaPAllx0
import Derived.Test.YtmjmmgefkebggaaPAllx3
import Derived.Test.YtmjmmgefkebggaaPAllx8
import Derived.Test.YtmjmmgefkebggaaPAllx11
import Derived.Test.YtmjmmgefkebggaaPAllx15
import Derived.Test.YtmjmmgefkebggaaPAllx31
namespace Go.Proofs.Ytmjmmgefkebggaa.PAll
open Go.RowKit Go.Proofs.YtmjmmgefkebggaaW.PrintWords Go.Proofs.YtmjmmgefkebggaaW.PrintLast Go.Proofs.YtmjmmgefkebggaaW.PrintMore
attribute [local go_sem] max2_int min2_int max_two min_two max_three min_three max_four min_four   -- for this text's walks alone
set_option linter.unusedVariables false
set_option linter.unusedSimpArgs false
attribute [local irreducible] World.setCell

/-! ### hogsheadlaw17_DeedWrites: function 7 -/
mutual
def hogsheadlaw17_DeedWrites.l0 : Nat → ByteArray → ByteArray → List (S54) → Bool → Int → Int → Int → Int → ByteArray → ByteArray → Int → Int → Int → Int → Int → Int → Int → Int → ByteArray → Bool → Option (Bool)
 | 0, _, _, _, _, _, _, _, _, _, _, _, _, _, _, _, _, _, _, _, _ => none
 | k + 1, x0, x1, x2, x7, x10, x11, x765000, x765001, x765002, x765003, x765004, x765005, x765006, x765007, x765008, x765009, x765010, x765011, x765012, x765013 => if x11 < (x2.length : Int) then (if x765005 = 3 then (if 0 ≤ x11 then (if ((rd_T54 x2 x11).f0) = 3 then (hogsheadlaw17_DeedWrites.j1 k x0 x1 x2 x7 x10 x11 (((rd_T54 x2 x11).f4) == 0) x765000 x765001 x765002 x765003 x765004 x765005 x765006 x765007 x765008 x765009 x765010 x765011 x765012 x765013) else (hogsheadlaw17_DeedWrites.j1 k x0 x1 x2 x7 x10 x11 false x765000 x765001 x765002 x765003 x765004 x765005 x765006 x765007 x765008 x765009 x765010 x765011 x765012 x765013)) else (none)) else (hogsheadlaw17_DeedWrites.j1 k x0 x1 x2 x7 x10 x11 false x765000 x765001 x765002 x765003 x765004 x765005 x765006 x765007 x765008 x765009 x765010 x765011 x765012 x765013)) else (some x7)
def hogsheadlaw17_DeedWrites.j1 : Nat → ByteArray → ByteArray → List (S54) → Bool → Int → Int → Bool → Int → Int → ByteArray → ByteArray → Int → Int → Int → Int → Int → Int → Int → Int → ByteArray → Bool → Option (Bool)
 | 0, _, _, _, _, _, _, _, _, _, _, _, _, _, _, _, _, _, _, _, _, _ => none
 | k + 1, x0, x1, x2, x7, x10, x11, x48, x765000, x765001, x765002, x765003, x765004, x765005, x765006, x765007, x765008, x765009, x765010, x765011, x765012, x765013 => if x48 = true then (hogsheadlaw17_DeedWrites.j2 k x0 x1 x2 x7 (wrap64 (x10 + 1)) x11 x765000 x765001 x765002 x765003 x765004 x765005 x765006 x765007 x765008 x765009 x765010 x765011 x765012 x765013) else (hogsheadlaw17_DeedWrites.j2 k x0 x1 x2 x7 x10 x11 x765000 x765001 x765002 x765003 x765004 x765005 x765006 x765007 x765008 x765009 x765010 x765011 x765012 x765013)
def hogsheadlaw17_DeedWrites.j2 : Nat → ByteArray → ByteArray → List (S54) → Bool → Int → Int → Int → Int → ByteArray → ByteArray → Int → Int → Int → Int → Int → Int → Int → Int → ByteArray → Bool → Option (Bool)
 | 0, _, _, _, _, _, _, _, _, _, _, _, _, _, _, _, _, _, _, _, _ => none
 | k + 1, x0, x1, x2, x7, x10, x11, x765000, x765001, x765002, x765003, x765004, x765005, x765006, x765007, x765008, x765009, x765010, x765011, x765012, x765013 => if 0 ≤ x11 then (if x11 < (x2.length : Int) then ((hogsheadlaw17_comes.f k x765000 x765001 x765002 x765003 x765004 x765005 x765006 x765007 x765008 x765009 x765010 x765011 x765012 x765013 ((rd_T54 x2 x11).f0) ((rd_T54 x2 x11).f1) ((rd_T54 x2 x11).f2.f0) ((rd_T54 x2 x11).f2.f1) ((rd_T54 x2 x11).f2.f2) ((rd_T54 x2 x11).f2.f3) ((rd_T54 x2 x11).f2.f4) ((rd_T54 x2 x11).f2.f5) ((rd_T54 x2 x11).f3) ((rd_T54 x2 x11).f4)).bind fun bt768 => ((deed_Want.f bt768.1 bt768.2.1 bt768.2.2.1 bt768.2.2.2.1 bt768.2.2.2.2.1 bt768.2.2.2.2.2.1 bt768.2.2.2.2.2.2.1 bt768.2.2.2.2.2.2.2.1 bt768.2.2.2.2.2.2.2.2.1 bt768.2.2.2.2.2.2.2.2.2.1 bt768.2.2.2.2.2.2.2.2.2.2.1 bt768.2.2.2.2.2.2.2.2.2.2.2.1 bt768.2.2.2.2.2.2.2.2.2.2.2.2.1 bt768.2.2.2.2.2.2.2.2.2.2.2.2.2).bind fun bt782 => (if bt782.2.2.2.2.2.2.2.2.2.2.2.2 = true then (if bt782.1 = 3 then (if x10 = 4 then ((hogsheadref02_Sum.f k x1).bind fun t798 => (if bt782.2.2.2.2.2.2.2.1 = t798 then (if bt782.2.2.2.2.2.2.1 = (x1.size : Int) then (if bt782.2.2.2.1.toList = x0.toList then (hogsheadlaw17_DeedWrites.j3 k x0 x1 x2 x7 x10 x11 (bt782.2.2.1 != 1) bt768.1 bt768.2.1 bt768.2.2.1 bt768.2.2.2.1 bt768.2.2.2.2.1 bt768.2.2.2.2.2.1 bt768.2.2.2.2.2.2.1 bt768.2.2.2.2.2.2.2.1 bt768.2.2.2.2.2.2.2.2.1 bt768.2.2.2.2.2.2.2.2.2.1 bt768.2.2.2.2.2.2.2.2.2.2.1 bt768.2.2.2.2.2.2.2.2.2.2.2.1 bt768.2.2.2.2.2.2.2.2.2.2.2.2.1 bt768.2.2.2.2.2.2.2.2.2.2.2.2.2) else (hogsheadlaw17_DeedWrites.j3 k x0 x1 x2 x7 x10 x11 true bt768.1 bt768.2.1 bt768.2.2.1 bt768.2.2.2.1 bt768.2.2.2.2.1 bt768.2.2.2.2.2.1 bt768.2.2.2.2.2.2.1 bt768.2.2.2.2.2.2.2.1 bt768.2.2.2.2.2.2.2.2.1 bt768.2.2.2.2.2.2.2.2.2.1 bt768.2.2.2.2.2.2.2.2.2.2.1 bt768.2.2.2.2.2.2.2.2.2.2.2.1 bt768.2.2.2.2.2.2.2.2.2.2.2.2.1 bt768.2.2.2.2.2.2.2.2.2.2.2.2.2)) else (hogsheadlaw17_DeedWrites.j3 k x0 x1 x2 x7 x10 x11 true bt768.1 bt768.2.1 bt768.2.2.1 bt768.2.2.2.1 bt768.2.2.2.2.1 bt768.2.2.2.2.2.1 bt768.2.2.2.2.2.2.1 bt768.2.2.2.2.2.2.2.1 bt768.2.2.2.2.2.2.2.2.1 bt768.2.2.2.2.2.2.2.2.2.1 bt768.2.2.2.2.2.2.2.2.2.2.1 bt768.2.2.2.2.2.2.2.2.2.2.2.1 bt768.2.2.2.2.2.2.2.2.2.2.2.2.1 bt768.2.2.2.2.2.2.2.2.2.2.2.2.2)) else (hogsheadlaw17_DeedWrites.j3 k x0 x1 x2 x7 x10 x11 true bt768.1 bt768.2.1 bt768.2.2.1 bt768.2.2.2.1 bt768.2.2.2.2.1 bt768.2.2.2.2.2.1 bt768.2.2.2.2.2.2.1 bt768.2.2.2.2.2.2.2.1 bt768.2.2.2.2.2.2.2.2.1 bt768.2.2.2.2.2.2.2.2.2.1 bt768.2.2.2.2.2.2.2.2.2.2.1 bt768.2.2.2.2.2.2.2.2.2.2.2.1 bt768.2.2.2.2.2.2.2.2.2.2.2.2.1 bt768.2.2.2.2.2.2.2.2.2.2.2.2.2))) else (hogsheadlaw17_DeedWrites.j3 k x0 x1 x2 x7 x10 x11 true bt768.1 bt768.2.1 bt768.2.2.1 bt768.2.2.2.1 bt768.2.2.2.2.1 bt768.2.2.2.2.2.1 bt768.2.2.2.2.2.2.1 bt768.2.2.2.2.2.2.2.1 bt768.2.2.2.2.2.2.2.2.1 bt768.2.2.2.2.2.2.2.2.2.1 bt768.2.2.2.2.2.2.2.2.2.2.1 bt768.2.2.2.2.2.2.2.2.2.2.2.1 bt768.2.2.2.2.2.2.2.2.2.2.2.2.1 bt768.2.2.2.2.2.2.2.2.2.2.2.2.2)) else (hogsheadlaw17_DeedWrites.j3 k x0 x1 x2 x7 x10 x11 false bt768.1 bt768.2.1 bt768.2.2.1 bt768.2.2.2.1 bt768.2.2.2.2.1 bt768.2.2.2.2.2.1 bt768.2.2.2.2.2.2.1 bt768.2.2.2.2.2.2.2.1 bt768.2.2.2.2.2.2.2.2.1 bt768.2.2.2.2.2.2.2.2.2.1 bt768.2.2.2.2.2.2.2.2.2.2.1 bt768.2.2.2.2.2.2.2.2.2.2.2.1 bt768.2.2.2.2.2.2.2.2.2.2.2.2.1 bt768.2.2.2.2.2.2.2.2.2.2.2.2.2)) else (hogsheadlaw17_DeedWrites.j3 k x0 x1 x2 x7 x10 x11 false bt768.1 bt768.2.1 bt768.2.2.1 bt768.2.2.2.1 bt768.2.2.2.2.1 bt768.2.2.2.2.2.1 bt768.2.2.2.2.2.2.1 bt768.2.2.2.2.2.2.2.1 bt768.2.2.2.2.2.2.2.2.1 bt768.2.2.2.2.2.2.2.2.2.1 bt768.2.2.2.2.2.2.2.2.2.2.1 bt768.2.2.2.2.2.2.2.2.2.2.2.1 bt768.2.2.2.2.2.2.2.2.2.2.2.2.1 bt768.2.2.2.2.2.2.2.2.2.2.2.2.2)))) else (none)) else (none)
def hogsheadlaw17_DeedWrites.j3 : Nat → ByteArray → ByteArray → List (S54) → Bool → Int → Int → Bool → Int → Int → ByteArray → ByteArray → Int → Int → Int → Int → Int → Int → Int → Int → ByteArray → Bool → Option (Bool)
 | 0, _, _, _, _, _, _, _, _, _, _, _, _, _, _, _, _, _, _, _, _, _ => none
 | k + 1, x0, x1, x2, x7, x10, x11, x96, x765000, x765001, x765002, x765003, x765004, x765005, x765006, x765007, x765008, x765009, x765010, x765011, x765012, x765013 => if x96 = true then (some false) else (hogsheadlaw17_DeedWrites.l0 k x0 x1 x2 x7 x10 (wrap64 (x11 + 1)) x765000 x765001 x765002 x765003 x765004 x765005 x765006 x765007 x765008 x765009 x765010 x765011 x765012 x765013)
end
def hogsheadlaw17_DeedWrites.f (k : Nat) (a0 : ByteArray) (a1 : ByteArray) (l2 : List (S54)) : Option (Bool) := (hogsheadlaw17_shown.f k).bind fun t748 => ((deed_New.f k 1 1 a0 a1 0).bind fun bt749 => (if bt749.2.2.2.2.2.2.2.2.2.2.2.2.2.2 = 0 then (hogsheadlaw17_DeedWrites.l0 k a0 a1 l2 t748 0 0 bt749.1 bt749.2.1 bt749.2.2.1 bt749.2.2.2.1 bt749.2.2.2.2.1 bt749.2.2.2.2.2.1 bt749.2.2.2.2.2.2.1 bt749.2.2.2.2.2.2.2.1 bt749.2.2.2.2.2.2.2.2.1 bt749.2.2.2.2.2.2.2.2.2.1 bt749.2.2.2.2.2.2.2.2.2.2.1 bt749.2.2.2.2.2.2.2.2.2.2.2.1 bt749.2.2.2.2.2.2.2.2.2.2.2.2.1 bt749.2.2.2.2.2.2.2.2.2.2.2.2.2.1) else (some t748)))
theorem hogsheadlaw17_DeedWrites.mono_l : ∀ k, (∀ y0 y1 y2 y3 y4 y5 y6 y7 y8 y9 y10 y11 y12 y13 y14 y15 y16 y17 y18 y19, LeO (hogsheadlaw17_DeedWrites.l0 k y0 y1 y2 y3 y4 y5 y6 y7 y8 y9 y10 y11 y12 y13 y14 y15 y16 y17 y18 y19) (hogsheadlaw17_DeedWrites.l0 (k + 1) y0 y1 y2 y3 y4 y5 y6 y7 y8 y9 y10 y11 y12 y13 y14 y15 y16 y17 y18 y19)) ∧ (∀ y0 y1 y2 y3 y4 y5 y6 y7 y8 y9 y10 y11 y12 y13 y14 y15 y16 y17 y18 y19 y20, LeO (hogsheadlaw17_DeedWrites.j1 k y0 y1 y2 y3 y4 y5 y6 y7 y8 y9 y10 y11 y12 y13 y14 y15 y16 y17 y18 y19 y20) (hogsheadlaw17_DeedWrites.j1 (k + 1) y0 y1 y2 y3 y4 y5 y6 y7 y8 y9 y10 y11 y12 y13 y14 y15 y16 y17 y18 y19 y20)) ∧ (∀ y0 y1 y2 y3 y4 y5 y6 y7 y8 y9 y10 y11 y12 y13 y14 y15 y16 y17 y18 y19, LeO (hogsheadlaw17_DeedWrites.j2 k y0 y1 y2 y3 y4 y5 y6 y7 y8 y9 y10 y11 y12 y13 y14 y15 y16 y17 y18 y19) (hogsheadlaw17_DeedWrites.j2 (k + 1) y0 y1 y2 y3 y4 y5 y6 y7 y8 y9 y10 y11 y12 y13 y14 y15 y16 y17 y18 y19)) ∧ (∀ y0 y1 y2 y3 y4 y5 y6 y7 y8 y9 y10 y11 y12 y13 y14 y15 y16 y17 y18 y19 y20, LeO (hogsheadlaw17_DeedWrites.j3 k y0 y1 y2 y3 y4 y5 y6 y7 y8 y9 y10 y11 y12 y13 y14 y15 y16 y17 y18 y19 y20) (hogsheadlaw17_DeedWrites.j3 (k + 1) y0 y1 y2 y3 y4 y5 y6 y7 y8 y9 y10 y11 y12 y13 y14 y15 y16 y17 y18 y19 y20))
 | 0 => ⟨fun _ _ _ _ _ _ _ _ _ _ _ _ _ _ _ _ _ _ _ _ r h => by simp [hogsheadlaw17_DeedWrites.l0] at h, fun _ _ _ _ _ _ _ _ _ _ _ _ _ _ _ _ _ _ _ _ _ r h => by simp [hogsheadlaw17_DeedWrites.j1] at h, fun _ _ _ _ _ _ _ _ _ _ _ _ _ _ _ _ _ _ _ _ r h => by simp [hogsheadlaw17_DeedWrites.j2] at h, fun _ _ _ _ _ _ _ _ _ _ _ _ _ _ _ _ _ _ _ _ _ r h => by simp [hogsheadlaw17_DeedWrites.j3] at h⟩
 | k + 1 => by
  obtain ⟨ih0, ih1, ih2, ih3⟩ := hogsheadlaw17_DeedWrites.mono_l k
  refine ⟨?_, ?_, ?_, ?_⟩
  ·intro y0 y1 y2 y3 y4 y5 y6 y7 y8 y9 y10 y11 y12 y13 y14 y15 y16 y17 y18 y19
   unfold hogsheadlaw17_DeedWrites.l0
   repeat' first
   | (with_reducible exact ih0 _ _ _ _ _ _ _ _ _ _ _ _ _ _ _ _ _ _ _ _)
   | (with_reducible exact ih1 _ _ _ _ _ _ _ _ _ _ _ _ _ _ _ _ _ _ _ _ _)
   | (with_reducible exact ih2 _ _ _ _ _ _ _ _ _ _ _ _ _ _ _ _ _ _ _ _)
   | (with_reducible exact ih3 _ _ _ _ _ _ _ _ _ _ _ _ _ _ _ _ _ _ _ _ _)
   | (with_reducible exact deed_New.mono _ _ _ _ _ _)
   | (with_reducible exact hogsheadlaw17_comes.mono _ _ _ _ _ _ _ _ _ _ _ _ _ _ _ _ _ _ _ _ _ _ _ _ _)
   | (with_reducible exact hogsheadlaw17_shown.mono _)
   | (with_reducible exact hogsheadref02_Sum.mono _ _)
   | (with_reducible exact LeO.refl _)
   | (with_reducible exact LeO.none _)
   | (with_reducible refine LeO.ite ?_ ?_)
   | (with_reducible refine LeO.bind ?_ (fun _ => ?_))
   | exact ih0 _ _ _ _ _ _ _ _ _ _ _ _ _ _ _ _ _ _ _ _
   | exact ih1 _ _ _ _ _ _ _ _ _ _ _ _ _ _ _ _ _ _ _ _ _
   | exact ih2 _ _ _ _ _ _ _ _ _ _ _ _ _ _ _ _ _ _ _ _
   | exact ih3 _ _ _ _ _ _ _ _ _ _ _ _ _ _ _ _ _ _ _ _ _
   | exact deed_New.mono _ _ _ _ _ _
   | exact hogsheadlaw17_comes.mono _ _ _ _ _ _ _ _ _ _ _ _ _ _ _ _ _ _ _ _ _ _ _ _ _
   | exact hogsheadlaw17_shown.mono _
   | exact hogsheadref02_Sum.mono _ _
   | exact LeO.none _
   | refine LeO.ite ?_ ?_
   | refine LeO.bind ?_ (fun _ => ?_)
  ·intro y0 y1 y2 y3 y4 y5 y6 y7 y8 y9 y10 y11 y12 y13 y14 y15 y16 y17 y18 y19 y20
   unfold hogsheadlaw17_DeedWrites.j1
   repeat' first
   | (with_reducible exact ih0 _ _ _ _ _ _ _ _ _ _ _ _ _ _ _ _ _ _ _ _)
   | (with_reducible exact ih1 _ _ _ _ _ _ _ _ _ _ _ _ _ _ _ _ _ _ _ _ _)
   | (with_reducible exact ih2 _ _ _ _ _ _ _ _ _ _ _ _ _ _ _ _ _ _ _ _)
   | (with_reducible exact ih3 _ _ _ _ _ _ _ _ _ _ _ _ _ _ _ _ _ _ _ _ _)
   | (with_reducible exact deed_New.mono _ _ _ _ _ _)
   | (with_reducible exact hogsheadlaw17_comes.mono _ _ _ _ _ _ _ _ _ _ _ _ _ _ _ _ _ _ _ _ _ _ _ _ _)
   | (with_reducible exact hogsheadlaw17_shown.mono _)
   | (with_reducible exact hogsheadref02_Sum.mono _ _)
   | (with_reducible exact LeO.refl _)
   | (with_reducible exact LeO.none _)
   | (with_reducible refine LeO.ite ?_ ?_)
   | (with_reducible refine LeO.bind ?_ (fun _ => ?_))
   | exact ih0 _ _ _ _ _ _ _ _ _ _ _ _ _ _ _ _ _ _ _ _
   | exact ih1 _ _ _ _ _ _ _ _ _ _ _ _ _ _ _ _ _ _ _ _ _
   | exact ih2 _ _ _ _ _ _ _ _ _ _ _ _ _ _ _ _ _ _ _ _
   | exact ih3 _ _ _ _ _ _ _ _ _ _ _ _ _ _ _ _ _ _ _ _ _
   | exact deed_New.mono _ _ _ _ _ _
   | exact hogsheadlaw17_comes.mono _ _ _ _ _ _ _ _ _ _ _ _ _ _ _ _ _ _ _ _ _ _ _ _ _
   | exact hogsheadlaw17_shown.mono _
   | exact hogsheadref02_Sum.mono _ _
   | exact LeO.none _
   | refine LeO.ite ?_ ?_
   | refine LeO.bind ?_ (fun _ => ?_)
  ·intro y0 y1 y2 y3 y4 y5 y6 y7 y8 y9 y10 y11 y12 y13 y14 y15 y16 y17 y18 y19
   unfold hogsheadlaw17_DeedWrites.j2
   repeat' first
   | (with_reducible exact ih0 _ _ _ _ _ _ _ _ _ _ _ _ _ _ _ _ _ _ _ _)
   | (with_reducible exact ih1 _ _ _ _ _ _ _ _ _ _ _ _ _ _ _ _ _ _ _ _ _)
   | (with_reducible exact ih2 _ _ _ _ _ _ _ _ _ _ _ _ _ _ _ _ _ _ _ _)
   | (with_reducible exact ih3 _ _ _ _ _ _ _ _ _ _ _ _ _ _ _ _ _ _ _ _ _)
   | (with_reducible exact deed_New.mono _ _ _ _ _ _)
   | (with_reducible exact hogsheadlaw17_comes.mono _ _ _ _ _ _ _ _ _ _ _ _ _ _ _ _ _ _ _ _ _ _ _ _ _)
   | (with_reducible exact hogsheadlaw17_shown.mono _)
   | (with_reducible exact hogsheadref02_Sum.mono _ _)
   | (with_reducible exact LeO.refl _)
   | (with_reducible exact LeO.none _)
   | (with_reducible refine LeO.ite ?_ ?_)
   | (with_reducible refine LeO.bind ?_ (fun _ => ?_))
   | exact ih0 _ _ _ _ _ _ _ _ _ _ _ _ _ _ _ _ _ _ _ _
   | exact ih1 _ _ _ _ _ _ _ _ _ _ _ _ _ _ _ _ _ _ _ _ _
   | exact ih2 _ _ _ _ _ _ _ _ _ _ _ _ _ _ _ _ _ _ _ _
   | exact ih3 _ _ _ _ _ _ _ _ _ _ _ _ _ _ _ _ _ _ _ _ _
   | exact deed_New.mono _ _ _ _ _ _
   | exact hogsheadlaw17_comes.mono _ _ _ _ _ _ _ _ _ _ _ _ _ _ _ _ _ _ _ _ _ _ _ _ _
   | exact hogsheadlaw17_shown.mono _
   | exact hogsheadref02_Sum.mono _ _
   | exact LeO.none _
   | refine LeO.ite ?_ ?_
   | refine LeO.bind ?_ (fun _ => ?_)
  ·intro y0 y1 y2 y3 y4 y5 y6 y7 y8 y9 y10 y11 y12 y13 y14 y15 y16 y17 y18 y19 y20
   unfold hogsheadlaw17_DeedWrites.j3
   repeat' first
   | (with_reducible exact ih0 _ _ _ _ _ _ _ _ _ _ _ _ _ _ _ _ _ _ _ _)
   | (with_reducible exact ih1 _ _ _ _ _ _ _ _ _ _ _ _ _ _ _ _ _ _ _ _ _)
   | (with_reducible exact ih2 _ _ _ _ _ _ _ _ _ _ _ _ _ _ _ _ _ _ _ _)
   | (with_reducible exact ih3 _ _ _ _ _ _ _ _ _ _ _ _ _ _ _ _ _ _ _ _ _)
   | (with_reducible exact deed_New.mono _ _ _ _ _ _)
   | (with_reducible exact hogsheadlaw17_comes.mono _ _ _ _ _ _ _ _ _ _ _ _ _ _ _ _ _ _ _ _ _ _ _ _ _)
   | (with_reducible exact hogsheadlaw17_shown.mono _)
   | (with_reducible exact hogsheadref02_Sum.mono _ _)
   | (with_reducible exact LeO.refl _)
   | (with_reducible exact LeO.none _)
   | (with_reducible refine LeO.ite ?_ ?_)
   | (with_reducible refine LeO.bind ?_ (fun _ => ?_))
   | exact ih0 _ _ _ _ _ _ _ _ _ _ _ _ _ _ _ _ _ _ _ _
   | exact ih1 _ _ _ _ _ _ _ _ _ _ _ _ _ _ _ _ _ _ _ _ _
   | exact ih2 _ _ _ _ _ _ _ _ _ _ _ _ _ _ _ _ _ _ _ _
   | exact ih3 _ _ _ _ _ _ _ _ _ _ _ _ _ _ _ _ _ _ _ _ _
   | exact deed_New.mono _ _ _ _ _ _
   | exact hogsheadlaw17_comes.mono _ _ _ _ _ _ _ _ _ _ _ _ _ _ _ _ _ _ _ _ _ _ _ _ _
   | exact hogsheadlaw17_shown.mono _
   | exact hogsheadref02_Sum.mono _ _
   | exact LeO.none _
   | refine LeO.ite ?_ ?_
   | refine LeO.bind ?_ (fun _ => ?_)
theorem hogsheadlaw17_DeedWrites.mono : ∀ a0 a1 a2 k, LeO (hogsheadlaw17_DeedWrites.f k a0 a1 a2) (hogsheadlaw17_DeedWrites.f (k + 1) a0 a1 a2) := by
 intro a0 a1 a2 k
 obtain ⟨ih0, ih1, ih2, ih3⟩ := hogsheadlaw17_DeedWrites.mono_l k
 unfold hogsheadlaw17_DeedWrites.f
 repeat' first
   | (with_reducible exact ih0 _ _ _ _ _ _ _ _ _ _ _ _ _ _ _ _ _ _ _ _)
   | (with_reducible exact ih1 _ _ _ _ _ _ _ _ _ _ _ _ _ _ _ _ _ _ _ _ _)
   | (with_reducible exact ih2 _ _ _ _ _ _ _ _ _ _ _ _ _ _ _ _ _ _ _ _)
   | (with_reducible exact ih3 _ _ _ _ _ _ _ _ _ _ _ _ _ _ _ _ _ _ _ _ _)
   | (with_reducible exact deed_New.mono _ _ _ _ _ _)
   | (with_reducible exact hogsheadlaw17_comes.mono _ _ _ _ _ _ _ _ _ _ _ _ _ _ _ _ _ _ _ _ _ _ _ _ _)
   | (with_reducible exact hogsheadlaw17_shown.mono _)
   | (with_reducible exact hogsheadref02_Sum.mono _ _)
   | (with_reducible exact LeO.refl _)
   | (with_reducible exact LeO.none _)
   | (with_reducible refine LeO.ite ?_ ?_)
   | (with_reducible refine LeO.bind ?_ (fun _ => ?_))
   | exact ih0 _ _ _ _ _ _ _ _ _ _ _ _ _ _ _ _ _ _ _ _
   | exact ih1 _ _ _ _ _ _ _ _ _ _ _ _ _ _ _ _ _ _ _ _ _
   | exact ih2 _ _ _ _ _ _ _ _ _ _ _ _ _ _ _ _ _ _ _ _
   | exact ih3 _ _ _ _ _ _ _ _ _ _ _ _ _ _ _ _ _ _ _ _ _
   | exact deed_New.mono _ _ _ _ _ _
   | exact hogsheadlaw17_comes.mono _ _ _ _ _ _ _ _ _ _ _ _ _ _ _ _ _ _ _ _ _ _ _ _ _
   | exact hogsheadlaw17_shown.mono _
   | exact hogsheadref02_Sum.mono _ _
   | exact LeO.none _
   | refine LeO.ite ?_ ?_
   | refine LeO.bind ?_ (fun _ => ?_)
def hogsheadlaw17_DeedWrites.T13 : Bool × List (List Nat × List Nat) := (true, [([], []), ([0], [0]), ([1], [1]), ([2, 1], [1, 2]), ([3, 1], [1, 3]), ([1, 4], [1, 4]), ([5, 1], [5]), ([6], [6]), ([7, 6], [6, 7]), ([8, 6, 6], [6, 8]), ([9], [9]), ([10, 9], [9, 10]), ([9], [9]), ([12, 9, 9], [9, 12]), ([11, 13, 9], [9, 11, 13]), ([9, 14, 6], [6, 9, 14]), ([15, 13, 6], [6, 15]), ([16], [16]), ([17, 16], [16, 17]), ([16], [16]), ([19, 16], [16, 19]), ([18, 20, 16], [16, 18, 20]), ([16, 21, 6], [6, 16, 21]), ([22, 16, 6], [6, 22]), ([23], [23]), ([24, 23], [23, 24]), ([23], [23]), ([25, 26, 23], [23, 25, 26]), ([23, 27, 6], [6, 23, 27]), ([28, 23, 6], [6, 28]), ([29], [29]), ([30, 29], [29, 30]), ([31, 29], [29, 31]), ([29, 32, 6], [6, 29, 32]), ([6, 33], [6, 33])])
def hogsheadlaw17_DeedWrites.B13 : List Nat := [0, 1, 3, 7, 15, 31, 63, 127, 255, 511, 1023, 2047, 1023, 5119, 16383, 32767, 65535, 131071, 262143, 131071, 655359, 2097151, 4194303, 8388607, 16777215, 33554431, 16777215, 134217727, 268435455, 536870911, 1073741823, 2147483647, 4294967295, 8589934591, 17179869183]
theorem hogsheadlaw17_DeedWrites.tab13 : rtab .any (opsOf Try.f7 13) = hogsheadlaw17_DeedWrites.T13 := by kernel_rfl
theorem hogsheadlaw17_DeedWrites.bits13 : waitsOk hogsheadlaw17_DeedWrites.T13.2 hogsheadlaw17_DeedWrites.B13 = true := by kernel_rfl
set_option maxHeartbeats 40000000 in
set_option maxRecDepth 100000 in
theorem hogsheadlaw17_DeedWrites.calls (k : Nat) (a0 : ByteArray) (a1 : ByteArray) (A2 : Option Addr) (c2 : Nat) (l2 : List (S54)) (r : Bool) (w : World) (hr2 : Kd.C k54 w A2 l2.length l2) (hc2 : l2.length ≤ c2) (h : hogsheadlaw17_DeedWrites.f k a0 a1 l2 = some r) :
  Calls Try.prog 7 #[.string a0, .string a1, .slice A2 l2.length c2] w fun e w' => e = .returned (.bool r) ∧ Below w.heap.size w w' := by
 have hu28 := Try.underlying28
 have hu54 := Try.underlying54
 have hu36 := Try.underlying36
 have HR2 := qM hr2
 have HC2 := qM hc2
 clear hr2 hc2
 have HB := qM (Below.refl w.heap.size w)
 have H : ((hogsheadlaw17_shown.f k).bind fun t748 => ((deed_New.f k 1 1 a0 a1 0).bind fun bt749 => (if bt749.2.2.2.2.2.2.2.2.2.2.2.2.2.2 = 0 then (hogsheadlaw17_DeedWrites.l0 k a0 a1 l2 t748 0 0 bt749.1 bt749.2.1 bt749.2.2.1 bt749.2.2.2.1 bt749.2.2.2.2.1 bt749.2.2.2.2.2.1 bt749.2.2.2.2.2.2.1 bt749.2.2.2.2.2.2.2.1 bt749.2.2.2.2.2.2.2.2.1 bt749.2.2.2.2.2.2.2.2.2.1 bt749.2.2.2.2.2.2.2.2.2.2.1 bt749.2.2.2.2.2.2.2.2.2.2.2.1 bt749.2.2.2.2.2.2.2.2.2.2.2.2.1 bt749.2.2.2.2.2.2.2.2.2.2.2.2.2.1) else (some t748)))) = some r := h
 clear h
 replace H := Option.bind_eq_some_iff.mp H
 obtain ⟨t748, A40, H⟩ := H
 replace H : ((deed_New.f k 1 1 a0 a1 0).bind fun bt749 => (if bt749.2.2.2.2.2.2.2.2.2.2.2.2.2.2 = 0 then (hogsheadlaw17_DeedWrites.l0 k a0 a1 l2 t748 0 0 bt749.1 bt749.2.1 bt749.2.2.1 bt749.2.2.2.1 bt749.2.2.2.2.1 bt749.2.2.2.2.2.1 bt749.2.2.2.2.2.2.1 bt749.2.2.2.2.2.2.2.1 bt749.2.2.2.2.2.2.2.2.1 bt749.2.2.2.2.2.2.2.2.2.1 bt749.2.2.2.2.2.2.2.2.2.2.1 bt749.2.2.2.2.2.2.2.2.2.2.2.1 bt749.2.2.2.2.2.2.2.2.2.2.2.2.1 bt749.2.2.2.2.2.2.2.2.2.2.2.2.2.1) else (some t748))) = some r := H
 have A4 := qM A40
 clear A40
 replace H := Option.bind_eq_some_iff.mp H
 obtain ⟨⟨t749, t750, t751, t752, t753, t754, t755, t756, t757, t758, t759, t760, t761, t762, t763⟩, A50, H⟩ := H
 replace H : (if t763 = 0 then (hogsheadlaw17_DeedWrites.l0 k a0 a1 l2 t748 0 0 t749 t750 t751 t752 t753 t754 t755 t756 t757 t758 t759 t760 t761 t762) else (some t748)) = some r := H
 have A5 := qM A50
 clear A50
 by_cases c6 : t763 = 0
 ·rw [if_pos c6] at H
  have c6b0 : (t763 == 0) = true := beq_iff_eq.mpr c6
  have c6b1 : (t763 != 0) = false := bne_eq_false_iff_eq.mpr c6
  clear c6
  have H' := qM H
  clear H
  go_enter Try.func7, Try.ntmps7
  go_wp2_with (first | ((with_reducible refine gate_callee (f := 9) rfl ?_); refine goesL_ (some 14) rfl rfl Try.func9 (by kernel_rfl) rfl #[] rfl (by (try simp only [List.map_toArray, List.map_cons, List.map_nil]); first | done | rfl | (simp only [List.length_drop, List.length_take]; rfl)) ?_; (with_reducible refine (hogsheadlaw17_shown.calls k  t748 _ A4.out).mono ?_); rintro e w7 ⟨rfl, hb⟩; refine ⟨_, rfl, ?_⟩; have n0_ := qM (eT (by repeat (first | (with_reducible first | exact HB.out | apply eA | apply eN | apply eD) | exact HB.out)) hb); clear HB; have HB := n0_; clear n0_; (try clear hb); (try clear hb2); (try clear hk); (try clear hi)) | ((with_reducible refine gate_callee (f := 10) rfl ?_); refine goesL_ (some 18) rfl rfl Try.func10 (by kernel_rfl) rfl #[.int .i64 1, .int .i64 1, .string a0, .string a1, .int .i64 0] rfl (by (try simp only [List.map_toArray, List.map_cons, List.map_nil]); first | done | rfl | (simp only [List.length_drop, List.length_take]; rfl)) ?_; (with_reducible refine (deed_New.calls k 1 1 a0 a1 0 t749 t750 t751 t752 t753 t754 t755 t756 t757 t758 t759 t760 t761 t762 t763 _ A5.out).mono ?_); rintro e w8 ⟨rfl, hb⟩; refine ⟨_, rfl, ?_⟩; have n0_ := qM (eT (by repeat (first | (with_reducible first | exact HB.out | apply eA | apply eN | apply eD) | exact HB.out)) hb); clear HB; have HB := n0_; clear n0_; (try clear hb); (try clear hb2); (try clear hk); (try clear hi)) | ((with_reducible refine gate_dst (N := 8) rfl ?_); (try (refine gate_guard (by rfl) ?_; dsimp only)); refine box_event ?hg (N := 8) ?hd (cs := #[.int .i64 0, .int .i64 0, .string (⟨#[]⟩ : ByteArray), .string (⟨#[]⟩ : ByteArray), .int .i64 0, .int .i64 0, .int .i64 0, .int .i64 0, .int .i64 0, .int .u32 0, .int .i64 0, .int .i64 0, .string (⟨#[]⟩ : ByteArray), .bool false]) (t := 28) ?hr ?_; (case hd => rfl); (case hg => rfl); (case hr => first | (go_simp; done) | (go_simp; rfl)); intro g764 hg w9 hbox hb; have n0_ := qM (eT (by repeat (first | (with_reducible first | exact HB.out | apply eA | apply eN | apply eD) | exact HB.out)) hb); have n1_ := qM (hbox); have n2_ := qM ((by rw [hg]; exact (eZ (by repeat (first | (with_reducible first | exact HB.out | apply eA | apply eN | apply eD) | exact HB.out))) : w.heap.size ≤ g764)); have n3_ := n2_; clear HB; have HB := n0_; have B764 := n1_; have GW764 := n2_; have GE764 := n3_; clear n0_ n1_ n2_ n3_; clear hb hbox hg; obtain ⟨z10_0, z10_1, z10_2, z10_3, z10_4, z10_5, z10_6, z10_7, z10_8, z10_9, z10_10, z10_11, z10_12, z10_13, f10_0, f10_1, f10_2, f10_3, f10_4, f10_5, f10_6, f10_7, f10_8, f10_9, f10_10, f10_11, f10_12, f10_13⟩ := cells14 B764.out))
  go_loopg [10, 11] k (fun kq v10 v11 w' => ∃ (x10_1 : Int) (x11_1 : Int) (x765000_1 : Int) (x765001_1 : Int) (x765002_1 : ByteArray) (x765003_1 : ByteArray) (x765004_1 : Int) (x765005_1 : Int) (x765006_1 : Int) (x765007_1 : Int) (x765008_1 : Int) (x765009_1 : Int) (x765010_1 : Int) (x765011_1 : Int) (x765012_1 : ByteArray) (x765013_1 : Bool), v10 = .int .i64 x10_1 ∧ v11 = .int .i64 x11_1 ∧ Aside0 (hogsheadlaw17_DeedWrites.l0 kq a0 a1 l2 t748 x10_1 x11_1 x765000_1 x765001_1 x765002_1 x765003_1 x765004_1 x765005_1 x765006_1 x765007_1 x765008_1 x765009_1 x765010_1 x765011_1 x765012_1 x765013_1 = some r) ∧ Aside0 (kq ≤ k) ∧ Aside0 (w'.heap[g764]? = some (.cells #[.int .i64 x765000_1, .int .i64 x765001_1, .string x765002_1, .string x765003_1, .int .i64 x765004_1, .int .i64 x765005_1, .int .i64 x765006_1, .int .i64 x765007_1, .int .i64 x765008_1, .int .u32 x765009_1, .int .i64 x765010_1, .int .i64 x765011_1, .string x765012_1, .bool x765013_1] 28 (0, 0))) ∧ Aside0 (Below w.heap.size w w'))
  case atStart => exact ⟨(0), (0), (t749), (t750), (t751), (t752), (t753), (t754), (t755), (t756), (t757), (t758), (t759), (t760), (t761), (t762), (by first | rfl | (simp; done) | (simp [*]; done)), (by first | rfl | (simp; done) | (simp [*]; done)), H', ⟨Nat.le_refl _⟩, ⟨by (with_reducible repeat first | refine qN ?_ _ | refine qD ?_ | refine qA ?_ _); apply puts14; (with_reducible repeat first | refine qN ?_ _ | refine qD ?_ | refine qA ?_ _); exact B764.out⟩, ⟨by repeat (first | (with_reducible first | exact HB.out | apply eA | apply eN | apply eD | refine eS ?_ GE764.out) | exact HB.out)⟩⟩
  case round =>
   clear H'
   try clear c1
   try clear c2
   try clear p2
   try clear c6
   try clear c6b0
   try clear c6b1
   try clear c7
   try clear c9
   try clear c10
   try clear z10_0
   try clear z10_1
   try clear z10_10
   try clear z10_11
   try clear z10_12
   try clear z10_13
   try clear z10_2
   try clear z10_3
   try clear z10_4
   try clear z10_5
   try clear z10_6
   try clear z10_7
   try clear z10_8
   try clear z10_9
   try clear f10_0
   try clear f10_1
   try clear f10_10
   try clear f10_11
   try clear f10_12
   try clear f10_13
   try clear f10_2
   try clear f10_3
   try clear f10_4
   try clear f10_5
   try clear f10_6
   try clear f10_7
   try clear f10_8
   try clear f10_9
   obtain ⟨x10_1, x11_1, x765000_1, x765001_1, x765002_1, x765003_1, x765004_1, x765005_1, x765006_1, x765007_1, x765008_1, x765009_1, x765010_1, x765011_1, x765012_1, x765013_1, rfl, rfl, HA, HK1, B764, HB⟩ := hrel
   cases gk with
   | zero => exact absurd HA.out (by simp [hogsheadlaw17_DeedWrites.l0])
   | succ k1 =>
    have H := HA.out
    clear HA
    simp only [hogsheadlaw17_DeedWrites.l0] at H
    by_cases c11 : x11_1 < (l2.length : Int)
    ·rw [if_pos c11] at H
     have c11b0 : decide (x11_1 < (l2.length : Int)) = true := decide_eq_true c11
     clear c11
     have HC12 := qM H
     clear H
     go_upto_region 9 with (fail)
     go_cut [48] (fun v48 wc => ∃ (kq : Nat) (x48_11 : Bool), v48 = .bool x48_11 ∧ Aside0 (hogsheadlaw17_DeedWrites.j1 kq a0 a1 l2 t748 x10_1 x11_1 x48_11 x765000_1 x765001_1 x765002_1 x765003_1 x765004_1 x765005_1 x765006_1 x765007_1 x765008_1 x765009_1 x765010_1 x765011_1 x765012_1 x765013_1 = some r) ∧ Aside0 (kq ≤ k1) ∧ Aside0 (wc.heap[g764]? = some (.cells #[.int .i64 x765000_1, .int .i64 x765001_1, .string x765002_1, .string x765003_1, .int .i64 x765004_1, .int .i64 x765005_1, .int .i64 x765006_1, .int .i64 x765007_1, .int .i64 x765008_1, .int .u32 x765009_1, .int .i64 x765010_1, .int .i64 x765011_1, .string x765012_1, .bool x765013_1] 28 (0, 0))) ∧ Aside0 (Below w.heap.size w wc))
     case first =>
      have H := HC12.out
      clear HC12
      by_cases c13 : x765005_1 = 3
      ·rw [if_pos c13] at H
       have c13b0 : (x765005_1 == 3) = true := beq_iff_eq.mpr c13
       have c13b1 : (x765005_1 != 3) = false := bne_eq_false_iff_eq.mpr c13
       clear c13
       (first | rw [c13b0] | (simp only [i64_w, i32_w]; rw [c13b0]) | skip)
       by_cases c14 : 0 ≤ x11_1
       ·rw [if_pos c14] at H
        have c14b0 : decide (0 ≤ x11_1) = true := decide_eq_true c14
        clear c14
        by_cases c15 : ((rd_T54 l2 x11_1).f0) = 3
        ·rw [if_pos c15] at H
         have c15b0 : (((rd_T54 l2 x11_1).f0) == 3) = true := beq_iff_eq.mpr c15
         have c15b1 : (((rd_T54 l2 x11_1).f0) != 3) = false := bne_eq_false_iff_eq.mpr c15
         clear c15
         have H' := qM H
         clear H
         obtain ⟨z16_0, z16_1, z16_2, z16_3, z16_4, z16_5, z16_6, z16_7, z16_8, z16_9, z16_10, z16_11, z16_12, z16_13, f16_0, f16_1, f16_2, f16_3, f16_4, f16_5, f16_6, f16_7, f16_8, f16_9, f16_10, f16_11, f16_12, f16_13⟩ := cells14 B764.out
         have p765 : 0 ≤ (x11_1 : Int) := of_decide_eq_true (by first | (with_reducible assumption) | assumption)
         have q765 : x11_1 < (l2.length : Int) := of_decide_eq_true (by first | (with_reducible assumption) | assumption)
         obtain ⟨ad765, e765, hx765_0, hx765_1, hx765_2, hx765_3, hx765_4, hx765_5, hx765_6, hx765_7, hx765_8, hx765_9⟩ := at_T54 HR2.out x11_1 p765 q765
         cases e765
         replace hx765_0 := (HB.out.cell (World.block_lt_of_cell? w _ hx765_0)).trans hx765_0
         replace hx765_1 := (HB.out.cell (World.block_lt_of_cell? w _ hx765_1)).trans hx765_1
         replace hx765_2 := (HB.out.cell (World.block_lt_of_cell? w _ hx765_2)).trans hx765_2
         replace hx765_3 := (HB.out.cell (World.block_lt_of_cell? w _ hx765_3)).trans hx765_3
         replace hx765_4 := (HB.out.cell (World.block_lt_of_cell? w _ hx765_4)).trans hx765_4
         replace hx765_5 := (HB.out.cell (World.block_lt_of_cell? w _ hx765_5)).trans hx765_5
         replace hx765_6 := (HB.out.cell (World.block_lt_of_cell? w _ hx765_6)).trans hx765_6
         replace hx765_7 := (HB.out.cell (World.block_lt_of_cell? w _ hx765_7)).trans hx765_7
         replace hx765_8 := (HB.out.cell (World.block_lt_of_cell? w _ hx765_8)).trans hx765_8
         replace hx765_9 := (HB.out.cell (World.block_lt_of_cell? w _ hx765_9)).trans hx765_9
         replace p765 := eq_true p765
         replace q765 := eq_true q765
         have p766 : 0 ≤ (x11_1 : Int) := of_decide_eq_true (by first | (with_reducible assumption) | assumption)
         have q766 : x11_1 < (l2.length : Int) := of_decide_eq_true (by first | (with_reducible assumption) | assumption)
         obtain ⟨ad766, e766, hx766_0, hx766_1, hx766_2, hx766_3, hx766_4, hx766_5, hx766_6, hx766_7, hx766_8, hx766_9⟩ := at_T54 HR2.out x11_1 p766 q766
         obtain rfl : ad765 = ad766 := (by injection e766)
         replace hx766_0 := (HB.out.cell (World.block_lt_of_cell? w _ hx766_0)).trans hx766_0
         replace hx766_1 := (HB.out.cell (World.block_lt_of_cell? w _ hx766_1)).trans hx766_1
         replace hx766_2 := (HB.out.cell (World.block_lt_of_cell? w _ hx766_2)).trans hx766_2
         replace hx766_3 := (HB.out.cell (World.block_lt_of_cell? w _ hx766_3)).trans hx766_3
         replace hx766_4 := (HB.out.cell (World.block_lt_of_cell? w _ hx766_4)).trans hx766_4
         replace hx766_5 := (HB.out.cell (World.block_lt_of_cell? w _ hx766_5)).trans hx766_5
         replace hx766_6 := (HB.out.cell (World.block_lt_of_cell? w _ hx766_6)).trans hx766_6
         replace hx766_7 := (HB.out.cell (World.block_lt_of_cell? w _ hx766_7)).trans hx766_7
         replace hx766_8 := (HB.out.cell (World.block_lt_of_cell? w _ hx766_8)).trans hx766_8
         replace hx766_9 := (HB.out.cell (World.block_lt_of_cell? w _ hx766_9)).trans hx766_9
         replace p766 := eq_true p766
         replace q766 := eq_true q766
         go_wp2
         go_meet
         case rel => exact ⟨_, ((((rd_T54 l2 x11_1).f4) == 0)), (by first | rfl | (simp; done) | (simp [*]; done)), H', ⟨by have := HK1.out; first | omega | exact Nat.le_refl _⟩, ⟨by (with_reducible repeat first | refine qN ?_ _ | refine qD ?_ | refine qA ?_ _); exact B764.out⟩, ⟨by repeat (first | (with_reducible first | exact HB.out | apply eA | apply eN | apply eD | refine eS ?_ GE764.out) | exact HB.out)⟩⟩
        ·rw [if_neg c15] at H
         have c15b0 : (((rd_T54 l2 x11_1).f0) == 3) = false := beq_eq_false_iff_ne.mpr c15
         have c15b1 : (((rd_T54 l2 x11_1).f0) != 3) = true := bne_iff_ne.mpr c15
         have H' := qM H
         clear H
         obtain ⟨z17_0, z17_1, z17_2, z17_3, z17_4, z17_5, z17_6, z17_7, z17_8, z17_9, z17_10, z17_11, z17_12, z17_13, f17_0, f17_1, f17_2, f17_3, f17_4, f17_5, f17_6, f17_7, f17_8, f17_9, f17_10, f17_11, f17_12, f17_13⟩ := cells14 B764.out
         have p765 : 0 ≤ (x11_1 : Int) := of_decide_eq_true (by first | (with_reducible assumption) | assumption)
         have q765 : x11_1 < (l2.length : Int) := of_decide_eq_true (by first | (with_reducible assumption) | assumption)
         obtain ⟨ad765, e765, hx765_0, hx765_1, hx765_2, hx765_3, hx765_4, hx765_5, hx765_6, hx765_7, hx765_8, hx765_9⟩ := at_T54 HR2.out x11_1 p765 q765
         cases e765
         replace hx765_0 := (HB.out.cell (World.block_lt_of_cell? w _ hx765_0)).trans hx765_0
         replace hx765_1 := (HB.out.cell (World.block_lt_of_cell? w _ hx765_1)).trans hx765_1
         replace hx765_2 := (HB.out.cell (World.block_lt_of_cell? w _ hx765_2)).trans hx765_2
         replace hx765_3 := (HB.out.cell (World.block_lt_of_cell? w _ hx765_3)).trans hx765_3
         replace hx765_4 := (HB.out.cell (World.block_lt_of_cell? w _ hx765_4)).trans hx765_4
         replace hx765_5 := (HB.out.cell (World.block_lt_of_cell? w _ hx765_5)).trans hx765_5
         replace hx765_6 := (HB.out.cell (World.block_lt_of_cell? w _ hx765_6)).trans hx765_6
         replace hx765_7 := (HB.out.cell (World.block_lt_of_cell? w _ hx765_7)).trans hx765_7
         replace hx765_8 := (HB.out.cell (World.block_lt_of_cell? w _ hx765_8)).trans hx765_8
         replace hx765_9 := (HB.out.cell (World.block_lt_of_cell? w _ hx765_9)).trans hx765_9
         replace p765 := eq_true p765
         replace q765 := eq_true q765
         go_wp2
         go_meet
         case rel => exact ⟨_, (false), (by first | rfl | (simp; done) | (simp [*]; done)), H', ⟨by have := HK1.out; first | omega | exact Nat.le_refl _⟩, ⟨by (with_reducible repeat first | refine qN ?_ _ | refine qD ?_ | refine qA ?_ _); exact B764.out⟩, ⟨by repeat (first | (with_reducible first | exact HB.out | apply eA | apply eN | apply eD | refine eS ?_ GE764.out) | exact HB.out)⟩⟩
       ·rw [if_neg c14] at H
        exact absurd H (by simp)
      ·rw [if_neg c13] at H
       have c13b0 : (x765005_1 == 3) = false := beq_eq_false_iff_ne.mpr c13
       have c13b1 : (x765005_1 != 3) = true := bne_iff_ne.mpr c13
       (first | rw [c13b0] | (simp only [i64_w, i32_w]; rw [c13b0]) | skip)
       have H' := qM H
       clear H
       obtain ⟨z18_0, z18_1, z18_2, z18_3, z18_4, z18_5, z18_6, z18_7, z18_8, z18_9, z18_10, z18_11, z18_12, z18_13, f18_0, f18_1, f18_2, f18_3, f18_4, f18_5, f18_6, f18_7, f18_8, f18_9, f18_10, f18_11, f18_12, f18_13⟩ := cells14 B764.out
       go_wp2
       go_meet
       case rel => exact ⟨_, (false), (by first | rfl | (simp; done) | (simp [*]; done)), H', ⟨by have := HK1.out; first | omega | exact Nat.le_refl _⟩, ⟨by (with_reducible repeat first | refine qN ?_ _ | refine qD ?_ | refine qA ?_ _); exact B764.out⟩, ⟨by repeat (first | (with_reducible first | exact HB.out | apply eA | apply eN | apply eD | refine eS ?_ GE764.out) | exact HB.out)⟩⟩
     case rest =>
      clear HC12
      try clear c1
      try clear c2
      try clear p2
      try clear c6
      try clear c6b0
      try clear c6b1
      try clear c7
      try clear p7
      try clear q7
      try clear hx7
      try clear c9
      try clear c10
      try clear c11
      try clear c11b0
      try clear c13
      try clear c13b0
      try clear c13b1
      try clear c14
      try clear c14b0
      try clear c15
      try clear c15b0
      try clear c15b1
      try clear z10_0
      try clear z10_1
      try clear z10_10
      try clear z10_11
      try clear z10_12
      try clear z10_13
      try clear z10_2
      try clear z10_3
      try clear z10_4
      try clear z10_5
      try clear z10_6
      try clear z10_7
      try clear z10_8
      try clear z10_9
      try clear z16_0
      try clear z16_1
      try clear z16_10
      try clear z16_11
      try clear z16_12
      try clear z16_13
      try clear z16_2
      try clear z16_3
      try clear z16_4
      try clear z16_5
      try clear z16_6
      try clear z16_7
      try clear z16_8
      try clear z16_9
      try clear z17_0
      try clear z17_1
      try clear z17_10
      try clear z17_11
      try clear z17_12
      try clear z17_13
      try clear z17_2
      try clear z17_3
      try clear z17_4
      try clear z17_5
      try clear z17_6
      try clear z17_7
      try clear z17_8
      try clear z17_9
      try clear z18_0
      try clear z18_1
      try clear z18_10
      try clear z18_11
      try clear z18_12
      try clear z18_13
      try clear z18_2
      try clear z18_3
      try clear z18_4
      try clear z18_5
      try clear z18_6
      try clear z18_7
      try clear z18_8
      try clear z18_9
      try clear f10_0
      try clear f10_1
      try clear f10_10
      try clear f10_11
      try clear f10_12
      try clear f10_13
      try clear f10_2
      try clear f10_3
      try clear f10_4
      try clear f10_5
      try clear f10_6
      try clear f10_7
      try clear f10_8
      try clear f10_9
      try clear f16_0
      try clear f16_1
      try clear f16_10
      try clear f16_11
      try clear f16_12
      try clear f16_13
      try clear f16_2
      try clear f16_3
      try clear f16_4
      try clear f16_5
      try clear f16_6
      try clear f16_7
      try clear f16_8
      try clear f16_9
      try clear f17_0
      try clear f17_1
      try clear f17_10
      try clear f17_11
      try clear f17_12
      try clear f17_13
      try clear f17_2
      try clear f17_3
      try clear f17_4
      try clear f17_5
      try clear f17_6
      try clear f17_7
      try clear f17_8
      try clear f17_9
      try clear f18_0
      try clear f18_1
      try clear f18_10
      try clear f18_11
      try clear f18_12
      try clear f18_13
      try clear f18_2
      try clear f18_3
      try clear f18_4
      try clear f18_5
      try clear f18_6
      try clear f18_7
      try clear f18_8
      try clear f18_9
      try clear hx765_0
      try clear hx765_1
      try clear hx765_2
      try clear hx765_3
      try clear hx765_4
      try clear hx765_5
      try clear hx765_6
      try clear hx765_7
      try clear hx765_8
      try clear hx765_9
      try clear hx766_0
      try clear hx766_1
      try clear hx766_2
      try clear hx766_3
      try clear hx766_4
      try clear hx766_5
      try clear hx766_6
      try clear hx766_7
      try clear hx766_8
      try clear hx766_9
      try clear p2
      try clear p765
      try clear p766
      try clear q765
      try clear q766
      obtain ⟨kq, x48_11, rfl, HA, HJ11, B764, HB⟩ := hcut
      cases kq with
      | zero => exact absurd HA.out (by simp [hogsheadlaw17_DeedWrites.j1])
      | succ kj11 =>
       have H := HA.out
       clear HA
       simp only [hogsheadlaw17_DeedWrites.j1] at H
       have HC19 := qM H
       clear H
       go_upto_if 48 with (fail)
       go_cut [10] (fun v10 wc => ∃ (kq : Nat) (x10_18 : Int), v10 = .int .i64 x10_18 ∧ Aside0 (hogsheadlaw17_DeedWrites.j2 kq a0 a1 l2 t748 x10_18 x11_1 x765000_1 x765001_1 x765002_1 x765003_1 x765004_1 x765005_1 x765006_1 x765007_1 x765008_1 x765009_1 x765010_1 x765011_1 x765012_1 x765013_1 = some r) ∧ Aside0 (kq ≤ kj11) ∧ Aside0 (wc.heap[g764]? = some (.cells #[.int .i64 x765000_1, .int .i64 x765001_1, .string x765002_1, .string x765003_1, .int .i64 x765004_1, .int .i64 x765005_1, .int .i64 x765006_1, .int .i64 x765007_1, .int .i64 x765008_1, .int .u32 x765009_1, .int .i64 x765010_1, .int .i64 x765011_1, .string x765012_1, .bool x765013_1] 28 (0, 0))) ∧ Aside0 (Below w.heap.size w wc))
       case first =>
        have H := HC19.out
        clear HC19
        by_cases c20 : x48_11 = true
        ·subst c20
         have H1 : (hogsheadlaw17_DeedWrites.j2 kj11 a0 a1 l2 t748 (wrap64 (x10_1 + 1)) x11_1 x765000_1 x765001_1 x765002_1 x765003_1 x765004_1 x765005_1 x765006_1 x765007_1 x765008_1 x765009_1 x765010_1 x765011_1 x765012_1 x765013_1) = some r := by rw [if_pos rfl] at H; exact H
         clear H
         have H := H1
         clear H1
         have H' := qM H
         clear H
         go_wp2
         go_meet
         case rel => exact ⟨_, (wrap64 (x10_1 + 1)), (by first | rfl | (simp; done) | (simp [*]; done)), H', ⟨by have := HK1.out; have := HJ11.out; first | omega | exact Nat.le_refl _⟩, ⟨by (with_reducible repeat first | refine qN ?_ _ | refine qD ?_ | refine qA ?_ _); exact B764.out⟩, ⟨by repeat (first | (with_reducible first | exact HB.out | apply eA | apply eN | apply eD | refine eS ?_ GE764.out) | exact HB.out)⟩⟩
        ·replace c20 := Bool.eq_false_iff.mpr c20
         subst c20
         have H1 : (hogsheadlaw17_DeedWrites.j2 kj11 a0 a1 l2 t748 x10_1 x11_1 x765000_1 x765001_1 x765002_1 x765003_1 x765004_1 x765005_1 x765006_1 x765007_1 x765008_1 x765009_1 x765010_1 x765011_1 x765012_1 x765013_1) = some r := by rw [if_neg (show ¬ (false = true) by decide)] at H; exact H
         clear H
         have H := H1
         clear H1
         have H' := qM H
         clear H
         go_wp2
         go_meet
         case rel => exact ⟨_, (x10_1), (by first | rfl | (simp; done) | (simp [*]; done)), H', ⟨by have := HK1.out; have := HJ11.out; first | omega | exact Nat.le_refl _⟩, ⟨by (with_reducible repeat first | refine qN ?_ _ | refine qD ?_ | refine qA ?_ _); exact B764.out⟩, ⟨by repeat (first | (with_reducible first | exact HB.out | apply eA | apply eN | apply eD | refine eS ?_ GE764.out) | exact HB.out)⟩⟩
       case rest =>
        clear HC19
        try clear c1
        try clear c2
        try clear p2
        try clear c6
        try clear c6b0
        try clear c6b1
        try clear p6
        try clear c7
        try clear p7
        try clear q7
        try clear hx7
        try clear c9
        try clear c10
        try clear c11
        try clear c11b0
        try clear c13
        try clear c13b0
        try clear c13b1
        try clear c14
        try clear c14b0
        try clear c15
        try clear c15b0
        try clear c15b1
        try clear c20
        try clear z10_0
        try clear z10_1
        try clear z10_10
        try clear z10_11
        try clear z10_12
        try clear z10_13
        try clear z10_2
        try clear z10_3
        try clear z10_4
        try clear z10_5
        try clear z10_6
        try clear z10_7
        try clear z10_8
        try clear z10_9
        try clear z16_0
        try clear z16_1
        try clear z16_10
        try clear z16_11
        try clear z16_12
        try clear z16_13
        try clear z16_2
        try clear z16_3
        try clear z16_4
        try clear z16_5
        try clear z16_6
        try clear z16_7
        try clear z16_8
        try clear z16_9
        try clear z17_0
        try clear z17_1
        try clear z17_10
        try clear z17_11
        try clear z17_12
        try clear z17_13
        try clear z17_2
        try clear z17_3
        try clear z17_4
        try clear z17_5
        try clear z17_6
        try clear z17_7
        try clear z17_8
        try clear z17_9
        try clear z18_0
        try clear z18_1
        try clear z18_10
        try clear z18_11
        try clear z18_12
        try clear z18_13
        try clear z18_2
        try clear z18_3
        try clear z18_4
        try clear z18_5
        try clear z18_6
        try clear z18_7
        try clear z18_8
        try clear z18_9
        try clear f10_0
        try clear f10_1
        try clear f10_10
        try clear f10_11
        try clear f10_12
        try clear f10_13
        try clear f10_2
        try clear f10_3
        try clear f10_4
        try clear f10_5
        try clear f10_6
        try clear f10_7
        try clear f10_8
        try clear f10_9
        try clear f16_0
        try clear f16_1
        try clear f16_10
        try clear f16_11
        try clear f16_12
        try clear f16_13
        try clear f16_2
        try clear f16_3
        try clear f16_4
        try clear f16_5
        try clear f16_6
        try clear f16_7
        try clear f16_8
        try clear f16_9
        try clear f17_0
        try clear f17_1
        try clear f17_10
        try clear f17_11
        try clear f17_12
        try clear f17_13
        try clear f17_2
        try clear f17_3
        try clear f17_4
        try clear f17_5
        try clear f17_6
        try clear f17_7
        try clear f17_8
        try clear f17_9
        try clear f18_0
        try clear f18_1
        try clear f18_10
        try clear f18_11
        try clear f18_12
        try clear f18_13
        try clear f18_2
        try clear f18_3
        try clear f18_4
        try clear f18_5
        try clear f18_6
        try clear f18_7
        try clear f18_8
        try clear f18_9
        try clear hx765_0
        try clear hx765_1
        try clear hx765_2
        try clear hx765_3
        try clear hx765_4
        try clear hx765_5
        try clear hx765_6
        try clear hx765_7
        try clear hx765_8
        try clear hx765_9
        try clear hx766_0
        try clear hx766_1
        try clear hx766_2
        try clear hx766_3
        try clear hx766_4
        try clear hx766_5
        try clear hx766_6
        try clear hx766_7
        try clear hx766_8
        try clear hx766_9
        try clear p2
        try clear p7
        try clear p765
        try clear p766
        try clear q7
        try clear q765
        try clear q766
        obtain ⟨kq, x10_18, rfl, HA, HJ18, B764, HB⟩ := hcut
        cases kq with
        | zero => exact absurd HA.out (by simp [hogsheadlaw17_DeedWrites.j2])
        | succ kj18 =>
         have H := HA.out
         clear HA
         simp only [hogsheadlaw17_DeedWrites.j2] at H
         by_cases c21 : 0 ≤ x11_1
         ·rw [if_pos c21] at H
          have c21b0 : decide (0 ≤ x11_1) = true := decide_eq_true c21
          clear c21
          by_cases c22 : x11_1 < (l2.length : Int)
          ·rw [if_pos c22] at H
           have c22b0 : decide (x11_1 < (l2.length : Int)) = true := decide_eq_true c22
           clear c22
           replace H := Option.bind_eq_some_iff.mp H
           obtain ⟨⟨t768, t769, t770, t771, t772, t773, t774, t775, t776, t777, t778, t779, t780, t781⟩, A230, H⟩ := H
           replace H : ((deed_Want.f t768 t769 t770 t771 t772 t773 t774 t775 t776 t777 t778 t779 t780 t781).bind fun bt782 => (if bt782.2.2.2.2.2.2.2.2.2.2.2.2 = true then (if bt782.1 = 3 then (if x10_18 = 4 then ((hogsheadref02_Sum.f kj18 a1).bind fun t798 => (if bt782.2.2.2.2.2.2.2.1 = t798 then (if bt782.2.2.2.2.2.2.1 = (a1.size : Int) then (if bt782.2.2.2.1.toList = a0.toList then (hogsheadlaw17_DeedWrites.j3 kj18 a0 a1 l2 t748 x10_18 x11_1 (bt782.2.2.1 != 1) t768 t769 t770 t771 t772 t773 t774 t775 t776 t777 t778 t779 t780 t781) else (hogsheadlaw17_DeedWrites.j3 kj18 a0 a1 l2 t748 x10_18 x11_1 true t768 t769 t770 t771 t772 t773 t774 t775 t776 t777 t778 t779 t780 t781)) else (hogsheadlaw17_DeedWrites.j3 kj18 a0 a1 l2 t748 x10_18 x11_1 true t768 t769 t770 t771 t772 t773 t774 t775 t776 t777 t778 t779 t780 t781)) else (hogsheadlaw17_DeedWrites.j3 kj18 a0 a1 l2 t748 x10_18 x11_1 true t768 t769 t770 t771 t772 t773 t774 t775 t776 t777 t778 t779 t780 t781))) else (hogsheadlaw17_DeedWrites.j3 kj18 a0 a1 l2 t748 x10_18 x11_1 true t768 t769 t770 t771 t772 t773 t774 t775 t776 t777 t778 t779 t780 t781)) else (hogsheadlaw17_DeedWrites.j3 kj18 a0 a1 l2 t748 x10_18 x11_1 false t768 t769 t770 t771 t772 t773 t774 t775 t776 t777 t778 t779 t780 t781)) else (hogsheadlaw17_DeedWrites.j3 kj18 a0 a1 l2 t748 x10_18 x11_1 false t768 t769 t770 t771 t772 t773 t774 t775 t776 t777 t778 t779 t780 t781))) = some r := H
           have A23 := qM A230
           clear A230
           replace H := Option.bind_eq_some_iff.mp H
           obtain ⟨⟨t782, t783, t784, t785, t786, t787, t788, t789, t790, t791, t792, t793, t796⟩, A240, H⟩ := H
           replace H : (if t796 = true then (if t782 = 3 then (if x10_18 = 4 then ((hogsheadref02_Sum.f kj18 a1).bind fun t798 => (if t789 = t798 then (if t788 = (a1.size : Int) then (if t785.toList = a0.toList then (hogsheadlaw17_DeedWrites.j3 kj18 a0 a1 l2 t748 x10_18 x11_1 (t784 != 1) t768 t769 t770 t771 t772 t773 t774 t775 t776 t777 t778 t779 t780 t781) else (hogsheadlaw17_DeedWrites.j3 kj18 a0 a1 l2 t748 x10_18 x11_1 true t768 t769 t770 t771 t772 t773 t774 t775 t776 t777 t778 t779 t780 t781)) else (hogsheadlaw17_DeedWrites.j3 kj18 a0 a1 l2 t748 x10_18 x11_1 true t768 t769 t770 t771 t772 t773 t774 t775 t776 t777 t778 t779 t780 t781)) else (hogsheadlaw17_DeedWrites.j3 kj18 a0 a1 l2 t748 x10_18 x11_1 true t768 t769 t770 t771 t772 t773 t774 t775 t776 t777 t778 t779 t780 t781))) else (hogsheadlaw17_DeedWrites.j3 kj18 a0 a1 l2 t748 x10_18 x11_1 true t768 t769 t770 t771 t772 t773 t774 t775 t776 t777 t778 t779 t780 t781)) else (hogsheadlaw17_DeedWrites.j3 kj18 a0 a1 l2 t748 x10_18 x11_1 false t768 t769 t770 t771 t772 t773 t774 t775 t776 t777 t778 t779 t780 t781)) else (hogsheadlaw17_DeedWrites.j3 kj18 a0 a1 l2 t748 x10_18 x11_1 false t768 t769 t770 t771 t772 t773 t774 t775 t776 t777 t778 t779 t780 t781)) = some r := H
           have A24 := qM A240
           clear A240
           have HC25 := qM H
           clear H
           try go_wp2
           have n0_ := qM (blk_drew B764.out)
           have n1_ := qM (below_drew1 HB.out)
           clear B764
           clear HB
           have B764 := n0_
           have HB := n1_
           clear n0_ n1_
           have p767 : 0 ≤ (x11_1 : Int) := of_decide_eq_true (by first | (with_reducible assumption) | assumption)
           have q767 : x11_1 < (l2.length : Int) := of_decide_eq_true (by first | (with_reducible assumption) | assumption)
           obtain ⟨ad767, e767, hx767_0, hx767_1, hx767_2, hx767_3, hx767_4, hx767_5, hx767_6, hx767_7, hx767_8, hx767_9⟩ := at_T54 HR2.out x11_1 p767 q767
           have hw767_9 := hx767_9
           have hw767_8 := hx767_8
           have hw767_7 := hx767_7
           have hw767_6 := hx767_6
           have hw767_5 := hx767_5
           have hw767_4 := hx767_4
           have hw767_3 := hx767_3
           have hw767_2 := hx767_2
           have hw767_1 := hx767_1
           have hw767_0 := hx767_0
           cases e767
           replace hx767_0 := (HB.out.cell (World.block_lt_of_cell? w _ hx767_0)).trans hx767_0
           replace hx767_1 := (HB.out.cell (World.block_lt_of_cell? w _ hx767_1)).trans hx767_1
           replace hx767_2 := (HB.out.cell (World.block_lt_of_cell? w _ hx767_2)).trans hx767_2
           replace hx767_3 := (HB.out.cell (World.block_lt_of_cell? w _ hx767_3)).trans hx767_3
           replace hx767_4 := (HB.out.cell (World.block_lt_of_cell? w _ hx767_4)).trans hx767_4
           replace hx767_5 := (HB.out.cell (World.block_lt_of_cell? w _ hx767_5)).trans hx767_5
           replace hx767_6 := (HB.out.cell (World.block_lt_of_cell? w _ hx767_6)).trans hx767_6
           replace hx767_7 := (HB.out.cell (World.block_lt_of_cell? w _ hx767_7)).trans hx767_7
           replace hx767_8 := (HB.out.cell (World.block_lt_of_cell? w _ hx767_8)).trans hx767_8
           replace hx767_9 := (HB.out.cell (World.block_lt_of_cell? w _ hx767_9)).trans hx767_9
           replace p767 := eq_true p767
           replace q767 := eq_true q767
           refine start_ (n := 7) (S := fun w' => w'.cell? ⟨g764, 0, none⟩ = some (.int .i64 x765000_1) ∧ w'.cell? ⟨g764, 1, none⟩ = some (.int .i64 x765001_1) ∧ w'.cell? ⟨g764, 2, none⟩ = some (.string x765002_1) ∧ w'.cell? ⟨g764, 3, none⟩ = some (.string x765003_1) ∧ w'.cell? ⟨g764, 4, none⟩ = some (.int .i64 x765004_1) ∧ w'.cell? ⟨g764, 5, none⟩ = some (.int .i64 x765005_1) ∧ w'.cell? ⟨g764, 6, none⟩ = some (.int .i64 x765006_1) ∧ w'.cell? ⟨g764, 7, none⟩ = some (.int .i64 x765007_1) ∧ w'.cell? ⟨g764, 8, none⟩ = some (.int .i64 x765008_1) ∧ w'.cell? ⟨g764, 9, none⟩ = some (.int .u32 x765009_1) ∧ w'.cell? ⟨g764, 10, none⟩ = some (.int .i64 x765010_1) ∧ w'.cell? ⟨g764, 11, none⟩ = some (.int .i64 x765011_1) ∧ w'.cell? ⟨g764, 12, none⟩ = some (.string x765012_1) ∧ w'.cell? ⟨g764, 13, none⟩ = some (.bool x765013_1) ∧ w'.cell? (ad767.add ((x11_1).toNat * 10)) = some (.int .i64 ((rd_T54 l2 x11_1).f0)) ∧ w'.cell? ⟨(ad767.add ((x11_1).toNat * 10)).block, (ad767.add ((x11_1).toNat * 10)).off + 1, none⟩ = some (.int .i64 ((rd_T54 l2 x11_1).f1)) ∧ w'.cell? ⟨(ad767.add ((x11_1).toNat * 10)).block, (ad767.add ((x11_1).toNat * 10)).off + 2, none⟩ = some (.int .i64 ((rd_T54 l2 x11_1).f2.f0)) ∧ w'.cell? ⟨(ad767.add ((x11_1).toNat * 10)).block, (ad767.add ((x11_1).toNat * 10)).off + 3, none⟩ = some (.int .i64 ((rd_T54 l2 x11_1).f2.f1)) ∧ w'.cell? ⟨(ad767.add ((x11_1).toNat * 10)).block, (ad767.add ((x11_1).toNat * 10)).off + 4, none⟩ = some (.int .i64 ((rd_T54 l2 x11_1).f2.f2)) ∧ w'.cell? ⟨(ad767.add ((x11_1).toNat * 10)).block, (ad767.add ((x11_1).toNat * 10)).off + 5, none⟩ = some (.int .i64 ((rd_T54 l2 x11_1).f2.f3)) ∧ w'.cell? ⟨(ad767.add ((x11_1).toNat * 10)).block, (ad767.add ((x11_1).toNat * 10)).off + 6, none⟩ = some (.int .u32 ((rd_T54 l2 x11_1).f2.f4)) ∧ w'.cell? ⟨(ad767.add ((x11_1).toNat * 10)).block, (ad767.add ((x11_1).toNat * 10)).off + 7, none⟩ = some (.bool ((rd_T54 l2 x11_1).f2.f5)) ∧ w'.cell? ⟨(ad767.add ((x11_1).toNat * 10)).block, (ad767.add ((x11_1).toNat * 10)).off + 8, none⟩ = some (.string ((rd_T54 l2 x11_1).f3)) ∧ w'.cell? ⟨(ad767.add ((x11_1).toNat * 10)).block, (ad767.add ((x11_1).toNat * 10)).off + 9, none⟩ = some (.int .i64 ((rd_T54 l2 x11_1).f4))) (ds := [6]) #[false, false, false, false, false, false, false] (by kernel_rfl) rfl rfl ⟨(qC B764.out 0).trans rfl, (qC B764.out 1).trans rfl, (qC B764.out 2).trans rfl, (qC B764.out 3).trans rfl, (qC B764.out 4).trans rfl, (qC B764.out 5).trans rfl, (qC B764.out 6).trans rfl, (qC B764.out 7).trans rfl, (qC B764.out 8).trans rfl, (qC B764.out 9).trans rfl, (qC B764.out 10).trans rfl, (qC B764.out 11).trans rfl, (qC B764.out 12).trans rfl, (qC B764.out 13).trans rfl, ((HB.out.cell (World.block_lt_of_cell? w _ hw767_0)).trans hw767_0), ((HB.out.cell (World.block_lt_of_cell? w _ hw767_1)).trans hw767_1), ((HB.out.cell (World.block_lt_of_cell? w _ hw767_2)).trans hw767_2), ((HB.out.cell (World.block_lt_of_cell? w _ hw767_3)).trans hw767_3), ((HB.out.cell (World.block_lt_of_cell? w _ hw767_4)).trans hw767_4), ((HB.out.cell (World.block_lt_of_cell? w _ hw767_5)).trans hw767_5), ((HB.out.cell (World.block_lt_of_cell? w _ hw767_6)).trans hw767_6), ((HB.out.cell (World.block_lt_of_cell? w _ hw767_7)).trans hw767_7), ((HB.out.cell (World.block_lt_of_cell? w _ hw767_8)).trans hw767_8), ((HB.out.cell (World.block_lt_of_cell? w _ hw767_9)).trans hw767_9)⟩ (fun hHeld => ?_)
           generalize wc.drew = w26 at B764 HB hx767_0 hx767_1 hx767_2 hx767_3 hx767_4 hx767_5 hx767_6 hx767_7 hx767_8 hx767_9 hHeld ⊢
           refine pure_ (i := 1) (N := some 52) (v := ?_) (a' := ?_) #[false, true, false, false, false, false, false] rfl rfl (by kernel_rfl) (fun _ _ _ h => h) (Or.inl ⟨by rfl, ?_⟩) ?_ ?_
           rotate_left
           ·intro w'; go_simp; with_reducible rfl
           rotate_left
           ·simp only [Act.put, xA, xZ, xS, i64_w, i32_w]; rfl
           refine pure_ (i := 2) (N := some 53) (v := ?_) (a' := ?_) #[false, true, true, false, false, false, false] rfl rfl (by kernel_rfl) (fun _ _ _ h => h) (Or.inl ⟨by rfl, ?_⟩) ?_ ?_
           rotate_left
           ·intro w'; go_simp; with_reducible rfl
           rotate_left
           ·simp only [Act.put, xA, xZ, xS, i64_w, i32_w]; rfl
           refine pure_ (i := 3) (N := some 54) (v := ?_) (a' := ?_) #[false, true, true, true, false, false, false] rfl rfl (by kernel_rfl) (fun _ _ _ h => h) (Or.inl ⟨by rfl, ?_⟩) ?_ ?_
           rotate_left
           ·intro w'; go_simp; with_reducible rfl
           rotate_left
           ·simp only [Act.put, xA, xZ, xS, i64_w, i32_w]; rfl
           refine take_ (i := 0) (N := some 51) (v := ?_) (a' := ?_) #[true, true, true, true, false, false, false] rfl rfl (by kernel_rfl) (fun _ _ _ h => h) (Or.inl ⟨by rfl, ?_⟩) hHeld ?_ ?_
           rotate_left
           ·rintro w' ⟨s0, s1, s2, s3, s4, s5, s6, s7, s8, s9, s10, s11, s12, s13, s14, s15, s16, s17, s18, s19, s20, s21, s22, s23⟩; go_simp; with_reducible rfl
           rotate_left
           ·simp only [Act.put, xA, xZ, xS, i64_w, i32_w]; rfl
           refine take_ (i := 4) (N := some 55) (v := ?_) (a' := ?_) #[true, true, true, true, true, false, false] rfl rfl (by kernel_rfl) (fun _ _ _ h => h) (Or.inl ⟨by rfl, ?_⟩) hHeld ?_ ?_
           rotate_left
           ·rintro w' ⟨s0, s1, s2, s3, s4, s5, s6, s7, s8, s9, s10, s11, s12, s13, s14, s15, s16, s17, s18, s19, s20, s21, s22, s23⟩; go_simp; with_reducible rfl
           rotate_left
           ·simp only [Act.put, xA, xZ, xS, i64_w, i32_w]; rfl
           refine one_ (i := 5) (N := some 56) #[true, true, true, true, true, true, false] rfl rfl (by kernel_rfl) (by decide) (fun K hK => ?_)
           refine goes_ Try.func25 (by kernel_rfl) rfl #[.agg #[.int .i64 x765000_1, .int .i64 x765001_1, .string x765002_1, .string x765003_1, .int .i64 x765004_1, .int .i64 x765005_1, .int .i64 x765006_1, .int .i64 x765007_1, .int .i64 x765008_1, .int .u32 x765009_1, .int .i64 x765010_1, .int .i64 x765011_1, .string x765012_1, .bool x765013_1], .agg #[.int .i64 ((rd_T54 l2 x11_1).f0), .int .i64 ((rd_T54 l2 x11_1).f1), .int .i64 ((rd_T54 l2 x11_1).f2.f0), .int .i64 ((rd_T54 l2 x11_1).f2.f1), .int .i64 ((rd_T54 l2 x11_1).f2.f2), .int .i64 ((rd_T54 l2 x11_1).f2.f3), .int .u32 ((rd_T54 l2 x11_1).f2.f4), .bool ((rd_T54 l2 x11_1).f2.f5), .string ((rd_T54 l2 x11_1).f3), .int .i64 ((rd_T54 l2 x11_1).f4)]] (by rfl) rfl rfl (by (try simp only [List.map_toArray, List.map_cons, List.map_nil]); first | done | rfl | (simp only [List.length_drop, List.length_take]; rfl)) ?_
           with_reducible refine (hogsheadlaw17_comes.calls kj18 x765000_1 x765001_1 x765002_1 x765003_1 x765004_1 x765005_1 x765006_1 x765007_1 x765008_1 x765009_1 x765010_1 x765011_1 x765012_1 x765013_1 ((rd_T54 l2 x11_1).f0) ((rd_T54 l2 x11_1).f1) ((rd_T54 l2 x11_1).f2.f0) ((rd_T54 l2 x11_1).f2.f1) ((rd_T54 l2 x11_1).f2.f2) ((rd_T54 l2 x11_1).f2.f3) ((rd_T54 l2 x11_1).f2.f4) ((rd_T54 l2 x11_1).f2.f5) ((rd_T54 l2 x11_1).f3) ((rd_T54 l2 x11_1).f4) t768 t769 t770 t771 t772 t773 t774 t775 t776 t777 t778 t779 t780 t781 _ A23.out).mono ?_
           rintro e w27 ⟨rfl, hb⟩
           refine ⟨_, rfl, ?_⟩
           have n0_ := qM (qB (g := g764) (by (with_reducible repeat first | refine qN ?_ _ | refine qD ?_ | refine qA ?_ _); exact B764.out) hb)
           have n1_ := qM (eT (by repeat (first | (with_reducible first | exact HB.out | apply eA | apply eN | apply eD | refine eS ?_ GE764.out) | exact HB.out)) hb)
           clear B764
           clear HB
           have B764 := n0_
           have HB := n1_
           clear n0_ n1_
           (try clear hb)
           (try clear hb2)
           (try clear hk)
           (try clear hi)
           refine hK.out _ _ ⟨(qC B764.out 0).trans rfl, (qC B764.out 1).trans rfl, (qC B764.out 2).trans rfl, (qC B764.out 3).trans rfl, (qC B764.out 4).trans rfl, (qC B764.out 5).trans rfl, (qC B764.out 6).trans rfl, (qC B764.out 7).trans rfl, (qC B764.out 8).trans rfl, (qC B764.out 9).trans rfl, (qC B764.out 10).trans rfl, (qC B764.out 11).trans rfl, (qC B764.out 12).trans rfl, (qC B764.out 13).trans rfl, ((HB.out.cell (World.block_lt_of_cell? w _ hw767_0)).trans hw767_0), ((HB.out.cell (World.block_lt_of_cell? w _ hw767_1)).trans hw767_1), ((HB.out.cell (World.block_lt_of_cell? w _ hw767_2)).trans hw767_2), ((HB.out.cell (World.block_lt_of_cell? w _ hw767_3)).trans hw767_3), ((HB.out.cell (World.block_lt_of_cell? w _ hw767_4)).trans hw767_4), ((HB.out.cell (World.block_lt_of_cell? w _ hw767_5)).trans hw767_5), ((HB.out.cell (World.block_lt_of_cell? w _ hw767_6)).trans hw767_6), ((HB.out.cell (World.block_lt_of_cell? w _ hw767_7)).trans hw767_7), ((HB.out.cell (World.block_lt_of_cell? w _ hw767_8)).trans hw767_8), ((HB.out.cell (World.block_lt_of_cell? w _ hw767_9)).trans hw767_9)⟩ (fun hHeld => ?_)
           clear hK K
           refine norm_ (a' := ?_) ?_ ?_
           rotate_left
           ·show Act.put _ (some 56) _ = _
            simp only [Act.put, xA, xZ, xS, i64_w, i32_w]
            rfl
           refine last_ (i := 6) (N := none) #[true, true, true, true, true, true, true] rfl rfl (by kernel_rfl) (by decide) (fun K hK => ?_)
           have hs28 : w27.cell? ⟨g764, 0, none⟩ = some (.int .i64 x765000_1) := (qC B764.out 0).trans rfl
           have hfs28 := qF B764.out 0
           have hs29 : w27.cell? ⟨g764, 1, none⟩ = some (.int .i64 x765001_1) := (qC B764.out 1).trans rfl
           have hfs29 := qF B764.out 1
           have hs30 : w27.cell? ⟨g764, 2, none⟩ = some (.string x765002_1) := (qC B764.out 2).trans rfl
           have hfs30 := qF B764.out 2
           have hs31 : w27.cell? ⟨g764, 3, none⟩ = some (.string x765003_1) := (qC B764.out 3).trans rfl
           have hfs31 := qF B764.out 3
           have hs32 : w27.cell? ⟨g764, 4, none⟩ = some (.int .i64 x765004_1) := (qC B764.out 4).trans rfl
           have hfs32 := qF B764.out 4
           have hs33 : w27.cell? ⟨g764, 5, none⟩ = some (.int .i64 x765005_1) := (qC B764.out 5).trans rfl
           have hfs33 := qF B764.out 5
           have hs34 : w27.cell? ⟨g764, 6, none⟩ = some (.int .i64 x765006_1) := (qC B764.out 6).trans rfl
           have hfs34 := qF B764.out 6
           have hs35 : w27.cell? ⟨g764, 7, none⟩ = some (.int .i64 x765007_1) := (qC B764.out 7).trans rfl
           have hfs35 := qF B764.out 7
           have hs36 : w27.cell? ⟨g764, 8, none⟩ = some (.int .i64 x765008_1) := (qC B764.out 8).trans rfl
           have hfs36 := qF B764.out 8
           have hs37 : w27.cell? ⟨g764, 9, none⟩ = some (.int .u32 x765009_1) := (qC B764.out 9).trans rfl
           have hfs37 := qF B764.out 9
           have hs38 : w27.cell? ⟨g764, 10, none⟩ = some (.int .i64 x765010_1) := (qC B764.out 10).trans rfl
           have hfs38 := qF B764.out 10
           have hs39 : w27.cell? ⟨g764, 11, none⟩ = some (.int .i64 x765011_1) := (qC B764.out 11).trans rfl
           have hfs39 := qF B764.out 11
           have hs40 : w27.cell? ⟨g764, 12, none⟩ = some (.string x765012_1) := (qC B764.out 12).trans rfl
           have hfs40 := qF B764.out 12
           have hs41 : w27.cell? ⟨g764, 13, none⟩ = some (.bool x765013_1) := (qC B764.out 13).trans rfl
           have hfs41 := qF B764.out 13
           refine skip_ (w1 := ?_) (by rfl) rfl ?_ ?_
           rotate_left
           ·go_simp; rfl
           refine hK.out _ _ ?_
           clear hK K
           refine done_ (by kernel_rfl) ?_
           obtain ⟨z42_0, z42_1, z42_2, z42_3, z42_4, z42_5, z42_6, z42_7, z42_8, z42_9, z42_10, z42_11, z42_12, z42_13, f42_0, f42_1, f42_2, f42_3, f42_4, f42_5, f42_6, f42_7, f42_8, f42_9, f42_10, f42_11, f42_12, f42_13⟩ := cells14 B764.out
           go_upto_region 13 with (first | ((with_reducible refine gate_callee (f := 12) rfl ?_); refine goesL_ (some 59) rfl rfl Try.func12 (by kernel_rfl) rfl #[.agg #[.int .i64 t768, .int .i64 t769, .string t770, .string t771, .int .i64 t772, .int .i64 t773, .int .i64 t774, .int .i64 t775, .int .i64 t776, .int .u32 t777, .int .i64 t778, .int .i64 t779, .string t780, .bool t781]] rfl (by (try simp only [List.map_toArray, List.map_cons, List.map_nil]); first | done | rfl | (simp only [List.length_drop, List.length_take]; rfl)) ?_; (with_reducible refine (deed_Want.calls t768 t769 t770 t771 t772 t773 t774 t775 t776 t777 t778 t779 t780 t781 t782 t783 t784 t785 t786 t787 t788 t789 t790 t791 t792 t793 t796 _ A24.out).mono ?_); rintro e w43 ⟨v794, rfl, ho0, hb⟩; refine ⟨_, rfl, ?_⟩; have n0_ := qM (Kd.R_lower ho0 (eZ (by repeat (first | (with_reducible first | exact HB.out | apply eA | apply eN | apply eD | refine eS ?_ GE764.out) | exact HB.out)))); have n1_ := qM (qB (g := g764) (by (with_reducible repeat first | refine qN ?_ _ | refine qD ?_ | refine qA ?_ _); apply puts14; (with_reducible repeat first | refine qN ?_ _ | refine qD ?_ | refine qA ?_ _); exact B764.out) hb); have n2_ := qM (eT (by repeat (first | (with_reducible first | exact HB.out | apply eA | apply eN | apply eD | refine eS ?_ GE764.out) | exact HB.out)) hb); clear B764; clear HB; have HO795 := n0_; have B764 := n1_; have HB := n2_; clear n0_ n1_ n2_; (try clear hb); (try clear hb2); (try clear hk); (try clear hi); (try clear ho0)) | ((with_reducible refine gate_dst (N := 12) rfl ?_); (try (refine gate_guard (by rfl) ?_; dsimp only)); refine box_event ?hg (N := 12) ?hd (cs := #[.int .i64 0, .int .i64 0, .int .i64 0, .string (⟨#[]⟩ : ByteArray), .int .i64 0, .int .i64 0, .int .i64 0, .int .u32 0, .int .i64 0, .int .i64 0, .int .i64 0, .slice none 0 0]) (t := 36) ?hr ?_; (case hd => rfl); (case hg => rfl); (case hr => first | (go_simp; done) | (go_simp; rfl)); intro g797 hg w44 hbox hb; have n0_ := qM (Kd.R_below (by (with_reducible repeat first | apply RA | apply RN | apply RD); exact HO795.out) hb); have n1_ := qM (qB (g := g764) (by (with_reducible repeat first | refine qN ?_ _ | refine qD ?_ | refine qA ?_ _); exact B764.out) hb); have n2_ := qM (eT (by repeat (first | (with_reducible first | exact HB.out | apply eA | apply eN | apply eD | refine eS ?_ GE764.out) | exact HB.out)) hb); have n3_ := qM (hbox); have n4_ := qM ((by rw [hg]; exact (eZ (by repeat (first | (with_reducible first | exact HB.out | apply eA | apply eN | apply eD | refine eS ?_ GE764.out) | exact HB.out))) : w.heap.size ≤ g797)); have n5_ := n4_; have n6_ := qM ((by rw [hg]; exact Nat.ne_of_lt (qL (g := g764) (by (with_reducible repeat first | refine qN ?_ _ | refine qD ?_ | refine qA ?_ _); exact B764.out)) : g764 ≠ g797)); have n7_ := qM (Ne.symm n6_.out); clear HO795; clear B764; clear HB; have HO795 := n0_; have B764 := n1_; have HB := n2_; have B797 := n3_; have GW797 := n4_; have GE797 := n5_; have NB764_797 := n6_; have NB797_764 := n7_; clear n0_ n1_ n2_ n3_ n4_ n5_ n6_ n7_; clear hb hbox hg; have hnb45 := NB797_764.out; have hnc45 := NB764_797.out; obtain ⟨z46_0, z46_1, z46_2, z46_3, z46_4, z46_5, z46_6, z46_7, z46_8, z46_9, z46_10, z46_11, f46_0, f46_1, f46_2, f46_3, f46_4, f46_5, f46_6, f46_7, f46_8, f46_9, f46_10, f46_11⟩ := cells12 B797.out; obtain ⟨Ao47, co47, eo47⟩ := Kd.R_slice HO795.out; subst eo47))
           (try simp only [Act.put, List.setIfInBounds_toArray, List.set_cons_zero, List.set_cons_succ])
           go_cut [96] (fun v96 wc => ∃ (kq : Nat) (x96_24 : Bool), v96 = .bool x96_24 ∧ Aside0 (hogsheadlaw17_DeedWrites.j3 kq a0 a1 l2 t748 x10_18 x11_1 x96_24 t768 t769 t770 t771 t772 t773 t774 t775 t776 t777 t778 t779 t780 t781 = some r) ∧ Aside0 (kq ≤ kj18) ∧ Aside0 (Kd.R k69 69 wc w.heap.size (fun _ => True) (.slice Ao47 t793.length co47) t793) ∧ Aside0 (wc.heap[g764]? = some (.cells #[.int .i64 t768, .int .i64 t769, .string t770, .string t771, .int .i64 t772, .int .i64 t773, .int .i64 t774, .int .i64 t775, .int .i64 t776, .int .u32 t777, .int .i64 t778, .int .i64 t779, .string t780, .bool t781] 28 (0, 0))) ∧ Aside0 (wc.heap[g797]? = some (.cells #[.int .i64 t782, .int .i64 t783, .int .i64 t784, .string t785, .int .i64 t786, .int .i64 t787, .int .i64 t788, .int .u32 t789, .int .i64 t790, .int .i64 t791, .int .i64 t792, (.slice Ao47 t793.length co47)] 36 (0, 0))) ∧ Aside0 (Below w.heap.size w wc))
           case first =>
            have H := HC25.out
            clear HC25
            by_cases c48 : t796 = true
            ·subst c48
             have H1 : (if t782 = 3 then (if x10_18 = 4 then ((hogsheadref02_Sum.f kj18 a1).bind fun t798 => (if t789 = t798 then (if t788 = (a1.size : Int) then (if t785.toList = a0.toList then (hogsheadlaw17_DeedWrites.j3 kj18 a0 a1 l2 t748 x10_18 x11_1 (t784 != 1) t768 t769 t770 t771 t772 t773 t774 t775 t776 t777 t778 t779 t780 t781) else (hogsheadlaw17_DeedWrites.j3 kj18 a0 a1 l2 t748 x10_18 x11_1 true t768 t769 t770 t771 t772 t773 t774 t775 t776 t777 t778 t779 t780 t781)) else (hogsheadlaw17_DeedWrites.j3 kj18 a0 a1 l2 t748 x10_18 x11_1 true t768 t769 t770 t771 t772 t773 t774 t775 t776 t777 t778 t779 t780 t781)) else (hogsheadlaw17_DeedWrites.j3 kj18 a0 a1 l2 t748 x10_18 x11_1 true t768 t769 t770 t771 t772 t773 t774 t775 t776 t777 t778 t779 t780 t781))) else (hogsheadlaw17_DeedWrites.j3 kj18 a0 a1 l2 t748 x10_18 x11_1 true t768 t769 t770 t771 t772 t773 t774 t775 t776 t777 t778 t779 t780 t781)) else (hogsheadlaw17_DeedWrites.j3 kj18 a0 a1 l2 t748 x10_18 x11_1 false t768 t769 t770 t771 t772 t773 t774 t775 t776 t777 t778 t779 t780 t781)) = some r := by rw [if_pos rfl] at H; exact H
             clear H
             have H := H1
             clear H1
             by_cases c49 : t782 = 3
             ·rw [if_pos c49] at H
              have c49b0 : (t782 == 3) = true := beq_iff_eq.mpr c49
              have c49b1 : (t782 != 3) = false := bne_eq_false_iff_eq.mpr c49
              clear c49
              (first | rw [c49b0] | (simp only [i64_w, i32_w]; rw [c49b0]) | skip)
              by_cases c50 : x10_18 = 4
              ·rw [if_pos c50] at H
               have c50b0 : (x10_18 == 4) = true := beq_iff_eq.mpr c50
               have c50b1 : (x10_18 != 4) = false := bne_eq_false_iff_eq.mpr c50
               clear c50
               replace H := Option.bind_eq_some_iff.mp H
               obtain ⟨t798, A510, H⟩ := H
               replace H : (if t789 = t798 then (if t788 = (a1.size : Int) then (if t785.toList = a0.toList then (hogsheadlaw17_DeedWrites.j3 kj18 a0 a1 l2 t748 x10_18 x11_1 (t784 != 1) t768 t769 t770 t771 t772 t773 t774 t775 t776 t777 t778 t779 t780 t781) else (hogsheadlaw17_DeedWrites.j3 kj18 a0 a1 l2 t748 x10_18 x11_1 true t768 t769 t770 t771 t772 t773 t774 t775 t776 t777 t778 t779 t780 t781)) else (hogsheadlaw17_DeedWrites.j3 kj18 a0 a1 l2 t748 x10_18 x11_1 true t768 t769 t770 t771 t772 t773 t774 t775 t776 t777 t778 t779 t780 t781)) else (hogsheadlaw17_DeedWrites.j3 kj18 a0 a1 l2 t748 x10_18 x11_1 true t768 t769 t770 t771 t772 t773 t774 t775 t776 t777 t778 t779 t780 t781)) = some r := H
               have A51 := qM A510
               clear A510
               by_cases c52 : t789 = t798
               ·rw [if_pos c52] at H
                have c52b0 : (t789 == t798) = true := beq_iff_eq.mpr c52
                have c52b1 : (t789 != t798) = false := bne_eq_false_iff_eq.mpr c52
                clear c52
                by_cases c53 : t788 = (a1.size : Int)
                ·rw [if_pos c53] at H
                 have c53b0 : (t788 == (a1.size : Int)) = true := beq_iff_eq.mpr c53
                 have c53b1 : (t788 != (a1.size : Int)) = false := bne_eq_false_iff_eq.mpr c53
                 clear c53
                 by_cases c54 : t785.toList = a0.toList
                 ·rw [if_pos c54] at H
                  have c54b0 : (t785.toList == a0.toList) = true := beq_iff_eq.mpr c54
                  have c54b1 : (t785.toList != a0.toList) = false := bne_eq_false_iff_eq.mpr c54
                  clear c54
                  have H' := qM H
                  clear H
                  try go_wp2
                  have n0_ : Aside0 (Kd.R k69 69 ((((((((((((w44.setCell ⟨g797, 0, none⟩ (.int .i64 t782)).setCell ⟨g797, 1, none⟩ (.int .i64 t783)).setCell ⟨g797, 2, none⟩ (.int .i64 t784)).setCell ⟨g797, 3, none⟩ (.string t785)).setCell ⟨g797, 4, none⟩ (.int .i64 t786)).setCell ⟨g797, 5, none⟩ (.int .i64 t787)).setCell ⟨g797, 6, none⟩ (.int .i64 t788)).setCell ⟨g797, 7, none⟩ (.int .u32 t789)).setCell ⟨g797, 8, none⟩ (.int .i64 t790)).setCell ⟨g797, 9, none⟩ (.int .i64 t791)).setCell ⟨g797, 10, none⟩ (.int .i64 t792)).setCell ⟨g797, 11, none⟩ (.slice Ao47 t793.length co47)) w.heap.size (fun _ => True) (.slice Ao47 t793.length co47) t793) := ⟨by (with_reducible repeat first | apply RA | apply RN | apply RD); exact Kd.R_mono (Kd.R_far (p := ⟨g797, 11, none⟩) (Kd.R_far (p := ⟨g797, 10, none⟩) (Kd.R_far (p := ⟨g797, 9, none⟩) (Kd.R_far (p := ⟨g797, 8, none⟩) (Kd.R_far (p := ⟨g797, 7, none⟩) (Kd.R_far (p := ⟨g797, 6, none⟩) (Kd.R_far (p := ⟨g797, 5, none⟩) (Kd.R_far (p := ⟨g797, 4, none⟩) (Kd.R_far (p := ⟨g797, 3, none⟩) (Kd.R_far (p := ⟨g797, 2, none⟩) (Kd.R_far (p := ⟨g797, 1, none⟩) (Kd.R_far (p := ⟨g797, 0, none⟩) (Kd.R_types HO795.out B797.out (by decide)) (fun _ hk => hk.2) (.int .i64 t782)) (fun _ hk => hk.2) (.int .i64 t783)) (fun _ hk => hk.2) (.int .i64 t784)) (fun _ hk => hk.2) (.string t785)) (fun _ hk => hk.2) (.int .i64 t786)) (fun _ hk => hk.2) (.int .i64 t787)) (fun _ hk => hk.2) (.int .i64 t788)) (fun _ hk => hk.2) (.int .u32 t789)) (fun _ hk => hk.2) (.int .i64 t790)) (fun _ hk => hk.2) (.int .i64 t791)) (fun _ hk => hk.2) (.int .i64 t792)) (fun _ hk => hk.2) (.slice Ao47 t793.length co47)) (fun _ hk => trivial)⟩
                  have n1_ : Aside0 (((((((((((((w44.setCell ⟨g797, 0, none⟩ (.int .i64 t782)).setCell ⟨g797, 1, none⟩ (.int .i64 t783)).setCell ⟨g797, 2, none⟩ (.int .i64 t784)).setCell ⟨g797, 3, none⟩ (.string t785)).setCell ⟨g797, 4, none⟩ (.int .i64 t786)).setCell ⟨g797, 5, none⟩ (.int .i64 t787)).setCell ⟨g797, 6, none⟩ (.int .i64 t788)).setCell ⟨g797, 7, none⟩ (.int .u32 t789)).setCell ⟨g797, 8, none⟩ (.int .i64 t790)).setCell ⟨g797, 9, none⟩ (.int .i64 t791)).setCell ⟨g797, 10, none⟩ (.int .i64 t792)).setCell ⟨g797, 11, none⟩ (.slice Ao47 t793.length co47)).heap[g764]? = some (.cells #[.int .i64 t768, .int .i64 t769, .string t770, .string t771, .int .i64 t772, .int .i64 t773, .int .i64 t774, .int .i64 t775, .int .i64 t776, .int .u32 t777, .int .i64 t778, .int .i64 t779, .string t780, .bool t781] 28 (0, 0))) := ⟨by (with_reducible repeat first | refine qN ?_ _ | refine qD ?_ | refine qA ?_ _); (iterate 12 (refine qR ?_ NB764_797.out _; (with_reducible repeat first | refine qN ?_ _ | refine qD ?_ | refine qA ?_ _))); exact B764.out⟩
                  have n2_ : Aside0 (((((((((((((w44.setCell ⟨g797, 0, none⟩ (.int .i64 t782)).setCell ⟨g797, 1, none⟩ (.int .i64 t783)).setCell ⟨g797, 2, none⟩ (.int .i64 t784)).setCell ⟨g797, 3, none⟩ (.string t785)).setCell ⟨g797, 4, none⟩ (.int .i64 t786)).setCell ⟨g797, 5, none⟩ (.int .i64 t787)).setCell ⟨g797, 6, none⟩ (.int .i64 t788)).setCell ⟨g797, 7, none⟩ (.int .u32 t789)).setCell ⟨g797, 8, none⟩ (.int .i64 t790)).setCell ⟨g797, 9, none⟩ (.int .i64 t791)).setCell ⟨g797, 10, none⟩ (.int .i64 t792)).setCell ⟨g797, 11, none⟩ (.slice Ao47 t793.length co47)).heap[g797]? = some (.cells #[.int .i64 t782, .int .i64 t783, .int .i64 t784, .string t785, .int .i64 t786, .int .i64 t787, .int .i64 t788, .int .u32 t789, .int .i64 t790, .int .i64 t791, .int .i64 t792, .slice Ao47 t793.length co47] 36 (0, 0))) := ⟨by (with_reducible repeat first | refine qN ?_ _ | refine qD ?_ | refine qA ?_ _); apply puts12; (with_reducible repeat first | refine qN ?_ _ | refine qD ?_ | refine qA ?_ _); exact B797.out⟩
                  have n3_ : Aside0 (Below w.heap.size w ((((((((((((w44.setCell ⟨g797, 0, none⟩ (.int .i64 t782)).setCell ⟨g797, 1, none⟩ (.int .i64 t783)).setCell ⟨g797, 2, none⟩ (.int .i64 t784)).setCell ⟨g797, 3, none⟩ (.string t785)).setCell ⟨g797, 4, none⟩ (.int .i64 t786)).setCell ⟨g797, 5, none⟩ (.int .i64 t787)).setCell ⟨g797, 6, none⟩ (.int .i64 t788)).setCell ⟨g797, 7, none⟩ (.int .u32 t789)).setCell ⟨g797, 8, none⟩ (.int .i64 t790)).setCell ⟨g797, 9, none⟩ (.int .i64 t791)).setCell ⟨g797, 10, none⟩ (.int .i64 t792)).setCell ⟨g797, 11, none⟩ (.slice Ao47 t793.length co47))) := ⟨by repeat (first | (with_reducible first | exact HB.out | apply eA | apply eN | apply eD | refine eS ?_ GE764.out | refine eS ?_ GE797.out) | exact HB.out)⟩
                  (try clear HO795)
                  (try clear B764)
                  (try clear B797)
                  (try clear HB)
                  generalize ((((((((((((w44.setCell ⟨g797, 0, none⟩ (.int .i64 t782)).setCell ⟨g797, 1, none⟩ (.int .i64 t783)).setCell ⟨g797, 2, none⟩ (.int .i64 t784)).setCell ⟨g797, 3, none⟩ (.string t785)).setCell ⟨g797, 4, none⟩ (.int .i64 t786)).setCell ⟨g797, 5, none⟩ (.int .i64 t787)).setCell ⟨g797, 6, none⟩ (.int .i64 t788)).setCell ⟨g797, 7, none⟩ (.int .u32 t789)).setCell ⟨g797, 8, none⟩ (.int .i64 t790)).setCell ⟨g797, 9, none⟩ (.int .i64 t791)).setCell ⟨g797, 10, none⟩ (.int .i64 t792)).setCell ⟨g797, 11, none⟩ (.slice Ao47 t793.length co47)) = w55 at n0_ n1_ n2_ n3_ ⊢
                  have HO795 := n0_
                  have B764 := n1_
                  have B797 := n2_
                  have HB := n3_
                  clear n0_ n1_ n2_ n3_
                  have n0_ := qM (Kd.R_drew HO795.out)
                  have n1_ := qM (blk_drew B764.out)
                  have n2_ := qM (blk_drew B797.out)
                  have n3_ := qM (below_drew1 HB.out)
                  clear HO795
                  clear B764
                  clear B797
                  clear HB
                  have HO795 := n0_
                  have B764 := n1_
                  have B797 := n2_
                  have HB := n3_
                  clear n0_ n1_ n2_ n3_
                  refine start_ (n := 35) (S := fun w' => w'.cell? ⟨g797, 0, none⟩ = some (.int .i64 t782) ∧ w'.cell? ⟨g797, 1, none⟩ = some (.int .i64 t783) ∧ w'.cell? ⟨g797, 2, none⟩ = some (.int .i64 t784) ∧ w'.cell? ⟨g797, 3, none⟩ = some (.string t785) ∧ w'.cell? ⟨g797, 4, none⟩ = some (.int .i64 t786) ∧ w'.cell? ⟨g797, 5, none⟩ = some (.int .i64 t787) ∧ w'.cell? ⟨g797, 6, none⟩ = some (.int .i64 t788) ∧ w'.cell? ⟨g797, 7, none⟩ = some (.int .u32 t789) ∧ w'.cell? ⟨g797, 8, none⟩ = some (.int .i64 t790) ∧ w'.cell? ⟨g797, 9, none⟩ = some (.int .i64 t791) ∧ w'.cell? ⟨g797, 10, none⟩ = some (.int .i64 t792) ∧ w'.cell? ⟨g797, 11, none⟩ = some (.slice Ao47 t793.length co47)) (ds := []) #[false, false, false, false, false, false, false, false, false, false, false, false, false, false, false, false, false, false, false, false, false, false, false, false, false, false, false, false, false, false, false, false, false, false, false] (by kernel_rfl) rfl rfl ⟨(qC B797.out 0).trans rfl, (qC B797.out 1).trans rfl, (qC B797.out 2).trans rfl, (qC B797.out 3).trans rfl, (qC B797.out 4).trans rfl, (qC B797.out 5).trans rfl, (qC B797.out 6).trans rfl, (qC B797.out 7).trans rfl, (qC B797.out 8).trans rfl, (qC B797.out 9).trans rfl, (qC B797.out 10).trans rfl, (qC B797.out 11).trans rfl⟩ (fun hHeld => ?_); refine with_tabW hogsheadlaw17_DeedWrites.tab13 hogsheadlaw17_DeedWrites.bits13 (fun HT_ HW_ => ?_)
                  generalize w55.drew = w56 at HO795 B764 B797 HB hHeld ⊢
                  refine pure_ (i := 0) (N := some 62) (v := ?_) (a' := ?_) #[true, false, false, false, false, false, false, false, false, false, false, false, false, false, false, false, false, false, false, false, false, false, false, false, false, false, false, false, false, false, false, false, false, false, false] rfl rfl (any_of HT_.out (by kernel_rfl)) (fun _ _ _ h => h) (Or.inl ⟨by rfl, ?_⟩) ?_ ?_
                  rotate_left
                  ·intro w'; go_simp; with_reducible rfl
                  rotate_left
                  ·simp only [Act.put, xA, xZ, xS, i64_w, i32_w]; rfl
                  refine pure_ (i := 1) (N := some 63) (v := ?_) (a' := ?_) #[true, true, false, false, false, false, false, false, false, false, false, false, false, false, false, false, false, false, false, false, false, false, false, false, false, false, false, false, false, false, false, false, false, false, false] rfl rfl (any_of HT_.out (by kernel_rfl)) (fun _ _ _ h => h) (Or.inl ⟨by rfl, ?_⟩) ?_ ?_
                  rotate_left
                  ·intro w'; go_simp; with_reducible rfl
                  rotate_left
                  ·simp only [Act.put, xA, xZ, xS, i64_w, i32_w]; rfl
                  refine pure_ (i := 2) (N := some 64) (v := ?_) (a' := ?_) #[true, true, true, false, false, false, false, false, false, false, false, false, false, false, false, false, false, false, false, false, false, false, false, false, false, false, false, false, false, false, false, false, false, false, false] rfl rfl (any_of HT_.out (by kernel_rfl)) (fun _ _ _ h => h) (Or.inl ⟨by rfl, ?_⟩) ?_ ?_
                  rotate_left
                  ·intro w'; go_simp; with_reducible rfl
                  rotate_left
                  ·simp only [Act.put, xA, xZ, xS, i64_w, i32_w]; rfl
                  refine take_ (i := 3) (N := some 65) (v := ?_) (a' := ?_) #[true, true, true, true, false, false, false, false, false, false, false, false, false, false, false, false, false, false, false, false, false, false, false, false, false, false, false, false, false, false, false, false, false, false, false] rfl rfl (take_ofW HT_.out HW_.out (by kernel_rfl)) (fun _ _ _ h => h) (Or.inl ⟨by rfl, ?_⟩) hHeld ?_ ?_
                  rotate_left
                  ·rintro w' ⟨s0, s1, s2, s3, s4, s5, s6, s7, s8, s9, s10, s11⟩; go_simp; with_reducible rfl
                  rotate_left
                  ·simp only [Act.put, xA, xZ, xS, i64_w, i32_w]; rfl
                  refine pure_ (i := 4) (N := some 66) (v := ?_) (a' := ?_) #[true, true, true, true, true, false, false, false, false, false, false, false, false, false, false, false, false, false, false, false, false, false, false, false, false, false, false, false, false, false, false, false, false, false, false] rfl rfl (any_of HT_.out (by kernel_rfl)) (fun _ _ _ h => h) (Or.inl ⟨by rfl, ?_⟩) ?_ ?_
                  rotate_left
                  ·intro w'; go_simp; with_reducible rfl
                  rotate_left
                  ·simp only [Act.put, xA, xZ, xS, i64_w, i32_w]; rfl
                  refine pure_ (i := 5) (N := some 67) (v := ?_) (a' := ?_) #[true, true, true, true, true, true, false, false, false, false, false, false, false, false, false, false, false, false, false, false, false, false, false, false, false, false, false, false, false, false, false, false, false, false, false] rfl rfl (any_of HT_.out (by kernel_rfl)) (fun _ _ _ h => h) (Or.inl ⟨by rfl, ?_⟩) ?_ ?_
                  rotate_left
                  ·intro w'; go_simp; with_reducible rfl
                  rotate_left
                  ·simp only [Act.put, xA, xZ, xS, i64_w, i32_w]; rfl
                  refine pure_ (i := 6) (N := some 68) (v := ?_) (a' := ?_) #[true, true, true, true, true, true, true, false, false, false, false, false, false, false, false, false, false, false, false, false, false, false, false, false, false, false, false, false, false, false, false, false, false, false, false] rfl rfl (any_of HT_.out (by kernel_rfl)) (fun _ _ _ h => h) (Or.inl ⟨by rfl, ?_⟩) ?_ ?_
                  rotate_left
                  ·intro w'; go_simp; with_reducible rfl
                  rotate_left
                  ·simp only [Act.put, xA, xZ, xS, i64_w, i32_w]; rfl
                  refine pure_ (i := 7) (N := some 69) (v := ?_) (a' := ?_) #[true, true, true, true, true, true, true, true, false, false, false, false, false, false, false, false, false, false, false, false, false, false, false, false, false, false, false, false, false, false, false, false, false, false, false] rfl rfl (any_of HT_.out (by kernel_rfl)) (fun _ _ _ h => h) (Or.inl ⟨by rfl, ?_⟩) ?_ ?_
                  rotate_left
                  ·intro w'; go_simp; with_reducible rfl
                  rotate_left
                  ·simp only [Act.put, xA, xZ, xS, i64_w, i32_w]; rfl
                  refine pure_ (i := 8) (N := some 70) (v := ?_) (a' := ?_) #[true, true, true, true, true, true, true, true, true, false, false, false, false, false, false, false, false, false, false, false, false, false, false, false, false, false, false, false, false, false, false, false, false, false, false] rfl rfl (any_of HT_.out (by kernel_rfl)) (fun _ _ _ h => h) (Or.inl ⟨by rfl, ?_⟩) ?_ ?_
                  rotate_left
                  ·intro w'; go_simp; with_reducible rfl
                  rotate_left
                  ·simp only [Act.put, xA, xZ, xS, i64_w, i32_w]; rfl
                  refine pure_ (i := 9) (N := some 71) (v := ?_) (a' := ?_) #[true, true, true, true, true, true, true, true, true, true, false, false, false, false, false, false, false, false, false, false, false, false, false, false, false, false, false, false, false, false, false, false, false, false, false] rfl rfl (any_of HT_.out (by kernel_rfl)) (fun _ _ _ h => h) (Or.inl ⟨by rfl, ?_⟩) ?_ ?_
                  rotate_left
                  ·intro w'; go_simp; with_reducible rfl
                  rotate_left
                  ·simp only [Act.put, xA, xZ, xS, i64_w, i32_w]; rfl
                  refine pure_ (i := 10) (N := some 72) (v := ?_) (a' := ?_) #[true, true, true, true, true, true, true, true, true, true, true, false, false, false, false, false, false, false, false, false, false, false, false, false, false, false, false, false, false, false, false, false, false, false, false] rfl rfl (any_of HT_.out (by kernel_rfl)) (fun _ _ _ h => h) (Or.inl ⟨by rfl, ?_⟩) ?_ ?_
                  rotate_left
                  ·intro w'; go_simp; with_reducible rfl
                  rotate_left
                  ·simp only [Act.put, xA, xZ, xS, i64_w, i32_w]; rfl
                  refine pure_ (i := 12) (N := some 74) (v := ?_) (a' := ?_) #[true, true, true, true, true, true, true, true, true, true, true, false, true, false, false, false, false, false, false, false, false, false, false, false, false, false, false, false, false, false, false, false, false, false, false] rfl rfl (any_of HT_.out (by kernel_rfl)) (fun _ _ _ h => h) (Or.inl ⟨by rfl, ?_⟩) ?_ ?_
                  rotate_left
                  ·intro w'; go_simp; with_reducible rfl
                  rotate_left
                  ·simp only [Act.put, xA, xZ, xS, i64_w, i32_w]; rfl
                  refine take_ (i := 11) (N := some 73) (v := ?_) (a' := ?_) #[true, true, true, true, true, true, true, true, true, true, true, true, true, false, false, false, false, false, false, false, false, false, false, false, false, false, false, false, false, false, false, false, false, false, false] rfl rfl (take_ofW HT_.out HW_.out (by kernel_rfl)) (fun _ _ _ h => h) (Or.inl ⟨by rfl, ?_⟩) hHeld ?_ ?_
                  rotate_left
                  ·rintro w' ⟨s0, s1, s2, s3, s4, s5, s6, s7, s8, s9, s10, s11⟩; go_simp; with_reducible rfl
                  rotate_left
                  ·simp only [Act.put, xA, xZ, xS, i64_w, i32_w]; rfl
                  refine one_ (i := 13) (N := some 75) #[true, true, true, true, true, true, true, true, true, true, true, true, true, true, false, false, false, false, false, false, false, false, false, false, false, false, false, false, false, false, false, false, false, false, false] rfl rfl (one_of HT_.out (by kernel_rfl)) (by decide) (fun K hK => ?_)
                  refine goes_ Try.func26 (by kernel_rfl) rfl #[.string a1] (by rfl) rfl rfl (by (try simp only [List.map_toArray, List.map_cons, List.map_nil]); first | done | rfl | (simp only [List.length_drop, List.length_take]; rfl)) ?_
                  with_reducible refine (hogsheadref02_Sum.calls kj18 a1 t798 _ A51.out).mono ?_
                  rintro e w' ⟨rfl, ⟨nd, rfl⟩⟩
                  refine ⟨_, rfl, ?_⟩
                  refine hK.out _ _ ⟨(qC B797.out 0).trans rfl, (qC B797.out 1).trans rfl, (qC B797.out 2).trans rfl, (qC B797.out 3).trans rfl, (qC B797.out 4).trans rfl, (qC B797.out 5).trans rfl, (qC B797.out 6).trans rfl, (qC B797.out 7).trans rfl, (qC B797.out 8).trans rfl, (qC B797.out 9).trans rfl, (qC B797.out 10).trans rfl, (qC B797.out 11).trans rfl⟩ (fun hHeld => ?_)
                  clear hK K
                  refine norm_ (a' := ?_) ?_ ?_
                  rotate_left
                  ·show Act.put _ (some 75) _ = _
                   simp only [Act.put, xA, xZ, xS, i64_w, i32_w]
                   rfl
                  refine pure_ (i := 14) (N := some 76) (v := ?_) (a' := ?_) #[true, true, true, true, true, true, true, true, true, true, true, true, true, true, true, false, false, false, false, false, false, false, false, false, false, false, false, false, false, false, false, false, false, false, false] rfl rfl (any_of HT_.out (by kernel_rfl)) (fun _ _ _ h => h) (Or.inl ⟨by rfl, ?_⟩) ?_ ?_
                  rotate_left
                  ·intro w'; go_simp; with_reducible rfl
                  rotate_left
                  ·simp only [Act.put, xA, xZ, xS, i64_w, i32_w]; rfl
                  refine pure_ (i := 15) (N := some 77) (v := ?_) (a' := ?_) #[true, true, true, true, true, true, true, true, true, true, true, true, true, true, true, true, false, false, false, false, false, false, false, false, false, false, false, false, false, false, false, false, false, false, false] rfl rfl (any_of HT_.out (by kernel_rfl)) (fun _ _ _ h => h) (Or.inl ⟨by rfl, ?_⟩) ?_ ?_
                  rotate_left
                  ·intro w'; go_simp; with_reducible rfl
                  rotate_left
                  ·simp only [Act.put, xA, xZ, xS, i64_w, i32_w]; rfl
                  refine pure_ (i := 16) (N := some 78) (v := ?_) (a' := ?_) #[true, true, true, true, true, true, true, true, true, true, true, true, true, true, true, true, true, false, false, false, false, false, false, false, false, false, false, false, false, false, false, false, false, false, false] rfl rfl (any_of HT_.out (by kernel_rfl)) (fun _ _ _ h => h) (Or.inl ⟨by rfl, ?_⟩) ?_ ?_
                  rotate_left
                  ·intro w'; go_simp; with_reducible rfl
                  rotate_left
                  ·simp only [Act.put, xA, xZ, xS, i64_w, i32_w]; rfl
                  refine pure_ (i := 17) (N := some 79) (v := ?_) (a' := ?_) #[true, true, true, true, true, true, true, true, true, true, true, true, true, true, true, true, true, true, false, false, false, false, false, false, false, false, false, false, false, false, false, false, false, false, false] rfl rfl (any_of HT_.out (by kernel_rfl)) (fun _ _ _ h => h) (Or.inl ⟨by rfl, ?_⟩) ?_ ?_
                  rotate_left
                  ·intro w'; go_simp; with_reducible rfl
                  rotate_left
                  ·simp only [Act.put, xA, xZ, xS, i64_w, i32_w]; rfl
                  refine pure_ (i := 19) (N := some 81) (v := ?_) (a' := ?_) #[true, true, true, true, true, true, true, true, true, true, true, true, true, true, true, true, true, true, false, true, false, false, false, false, false, false, false, false, false, false, false, false, false, false, false] rfl rfl (any_of HT_.out (by kernel_rfl)) (fun _ _ _ h => h) (Or.inl ⟨by rfl, ?_⟩) ?_ ?_
                  rotate_left
                  ·intro w'; go_simp; with_reducible rfl
                  rotate_left
                  ·simp only [Act.put, xA, xZ, xS, i64_w, i32_w]; rfl
                  refine pure_ (i := 20) (N := some 82) (v := ?_) (a' := ?_) #[true, true, true, true, true, true, true, true, true, true, true, true, true, true, true, true, true, true, false, true, true, false, false, false, false, false, false, false, false, false, false, false, false, false, false] rfl rfl (any_of HT_.out (by kernel_rfl)) (fun _ _ _ h => h) (Or.inl ⟨by rfl, ?_⟩) ?_ ?_
                  rotate_left
                  ·intro w'; go_simp; with_reducible rfl
                  rotate_left
                  ·simp only [Act.put, xA, xZ, xS, i64_w, i32_w]; rfl
                  refine take_ (i := 18) (N := some 80) (v := ?_) (a' := ?_) #[true, true, true, true, true, true, true, true, true, true, true, true, true, true, true, true, true, true, true, true, true, false, false, false, false, false, false, false, false, false, false, false, false, false, false] rfl rfl (take_ofW HT_.out HW_.out (by kernel_rfl)) (fun _ _ _ h => h) (Or.inl ⟨by rfl, ?_⟩) hHeld ?_ ?_
                  rotate_left
                  ·rintro w' ⟨s0, s1, s2, s3, s4, s5, s6, s7, s8, s9, s10, s11⟩; go_simp; with_reducible rfl
                  rotate_left
                  ·simp only [Act.put, xA, xZ, xS, i64_w, i32_w]; rfl
                  refine pure_ (i := 21) (N := some 83) (v := ?_) (a' := ?_) #[true, true, true, true, true, true, true, true, true, true, true, true, true, true, true, true, true, true, true, true, true, true, false, false, false, false, false, false, false, false, false, false, false, false, false] rfl rfl (any_of HT_.out (by kernel_rfl)) (fun _ _ _ h => h) (Or.inl ⟨by rfl, ?_⟩) ?_ ?_
                  rotate_left
                  ·intro w'; go_simp; with_reducible rfl
                  rotate_left
                  ·simp only [Act.put, xA, xZ, xS, i64_w, i32_w]; rfl
                  refine pure_ (i := 22) (N := some 84) (v := ?_) (a' := ?_) #[true, true, true, true, true, true, true, true, true, true, true, true, true, true, true, true, true, true, true, true, true, true, true, false, false, false, false, false, false, false, false, false, false, false, false] rfl rfl (any_of HT_.out (by kernel_rfl)) (fun _ _ _ h => h) (Or.inl ⟨by rfl, ?_⟩) ?_ ?_
                  rotate_left
                  ·intro w'; go_simp; with_reducible rfl
                  rotate_left
                  ·simp only [Act.put, xA, xZ, xS, i64_w, i32_w]; rfl
                  refine pure_ (i := 23) (N := some 85) (v := ?_) (a' := ?_) #[true, true, true, true, true, true, true, true, true, true, true, true, true, true, true, true, true, true, true, true, true, true, true, true, false, false, false, false, false, false, false, false, false, false, false] rfl rfl (any_of HT_.out (by kernel_rfl)) (fun _ _ _ h => h) (Or.inl ⟨by rfl, ?_⟩) ?_ ?_
                  rotate_left
                  ·intro w'; go_simp; with_reducible rfl
                  rotate_left
                  ·simp only [Act.put, xA, xZ, xS, i64_w, i32_w]; rfl
                  refine pure_ (i := 24) (N := some 86) (v := ?_) (a' := ?_) #[true, true, true, true, true, true, true, true, true, true, true, true, true, true, true, true, true, true, true, true, true, true, true, true, true, false, false, false, false, false, false, false, false, false, false] rfl rfl (any_of HT_.out (by kernel_rfl)) (fun _ _ _ h => h) (Or.inl ⟨by rfl, ?_⟩) ?_ ?_
                  rotate_left
                  ·intro w'; go_simp; with_reducible rfl
                  rotate_left
                  ·simp only [Act.put, xA, xZ, xS, i64_w, i32_w]; rfl
                  refine pure_ (i := 26) (N := some 88) (v := ?_) (a' := ?_) #[true, true, true, true, true, true, true, true, true, true, true, true, true, true, true, true, true, true, true, true, true, true, true, true, true, false, true, false, false, false, false, false, false, false, false] rfl rfl (any_of HT_.out (by kernel_rfl)) (fun _ _ _ h => h) (Or.inl ⟨by rfl, ?_⟩) ?_ ?_
                  rotate_left
                  ·intro w'; go_simp; with_reducible rfl
                  rotate_left
                  ·simp only [Act.put, xA, xZ, xS, i64_w, i32_w]; rfl
                  refine take_ (i := 25) (N := some 87) (v := ?_) (a' := ?_) #[true, true, true, true, true, true, true, true, true, true, true, true, true, true, true, true, true, true, true, true, true, true, true, true, true, true, true, false, false, false, false, false, false, false, false] rfl rfl (take_ofW HT_.out HW_.out (by kernel_rfl)) (fun _ _ _ h => h) (Or.inl ⟨by rfl, ?_⟩) hHeld ?_ ?_
                  rotate_left
                  ·rintro w' ⟨s0, s1, s2, s3, s4, s5, s6, s7, s8, s9, s10, s11⟩; go_simp; with_reducible rfl
                  rotate_left
                  ·simp only [Act.put, xA, xZ, xS, i64_w, i32_w]; rfl
                  refine pure_ (i := 27) (N := some 89) (v := ?_) (a' := ?_) #[true, true, true, true, true, true, true, true, true, true, true, true, true, true, true, true, true, true, true, true, true, true, true, true, true, true, true, true, false, false, false, false, false, false, false] rfl rfl (any_of HT_.out (by kernel_rfl)) (fun _ _ _ h => h) (Or.inl ⟨by rfl, ?_⟩) ?_ ?_
                  rotate_left
                  ·intro w'; go_simp; with_reducible rfl
                  rotate_left
                  ·simp only [Act.put, xA, xZ, xS, i64_w, i32_w]; rfl
                  refine pure_ (i := 28) (N := some 90) (v := ?_) (a' := ?_) #[true, true, true, true, true, true, true, true, true, true, true, true, true, true, true, true, true, true, true, true, true, true, true, true, true, true, true, true, true, false, false, false, false, false, false] rfl rfl (any_of HT_.out (by kernel_rfl)) (fun _ _ _ h => h) (Or.inl ⟨by rfl, ?_⟩) ?_ ?_
                  rotate_left
                  ·intro w'; go_simp; with_reducible rfl
                  rotate_left
                  ·simp only [Act.put, xA, xZ, xS, i64_w, i32_w]; rfl
                  refine pure_ (i := 29) (N := some 91) (v := ?_) (a' := ?_) #[true, true, true, true, true, true, true, true, true, true, true, true, true, true, true, true, true, true, true, true, true, true, true, true, true, true, true, true, true, true, false, false, false, false, false] rfl rfl (any_of HT_.out (by kernel_rfl)) (fun _ _ _ h => h) (Or.inl ⟨by rfl, ?_⟩) ?_ ?_
                  rotate_left
                  ·intro w'; go_simp; with_reducible rfl
                  rotate_left
                  ·simp only [Act.put, xA, xZ, xS, i64_w, i32_w]; rfl
                  refine pure_ (i := 30) (N := some 92) (v := ?_) (a' := ?_) #[true, true, true, true, true, true, true, true, true, true, true, true, true, true, true, true, true, true, true, true, true, true, true, true, true, true, true, true, true, true, true, false, false, false, false] rfl rfl (any_of HT_.out (by kernel_rfl)) (fun _ _ _ h => h) (Or.inl ⟨by rfl, ?_⟩) ?_ ?_
                  rotate_left
                  ·intro w'; go_simp; with_reducible rfl
                  rotate_left
                  ·simp only [Act.put, xA, xZ, xS, i64_w, i32_w]; rfl
                  refine take_ (i := 31) (N := some 93) (v := ?_) (a' := ?_) #[true, true, true, true, true, true, true, true, true, true, true, true, true, true, true, true, true, true, true, true, true, true, true, true, true, true, true, true, true, true, true, true, false, false, false] rfl rfl (take_ofW HT_.out HW_.out (by kernel_rfl)) (fun _ _ _ h => h) (Or.inl ⟨by rfl, ?_⟩) hHeld ?_ ?_
                  rotate_left
                  ·rintro w' ⟨s0, s1, s2, s3, s4, s5, s6, s7, s8, s9, s10, s11⟩; go_simp; with_reducible rfl
                  rotate_left
                  ·simp only [Act.put, xA, xZ, xS, i64_w, i32_w]; rfl
                  refine pure_ (i := 32) (N := some 94) (v := ?_) (a' := ?_) #[true, true, true, true, true, true, true, true, true, true, true, true, true, true, true, true, true, true, true, true, true, true, true, true, true, true, true, true, true, true, true, true, true, false, false] rfl rfl (any_of HT_.out (by kernel_rfl)) (fun _ _ _ h => h) (Or.inl ⟨by rfl, ?_⟩) ?_ ?_
                  rotate_left
                  ·intro w'; go_simp; with_reducible rfl
                  rotate_left
                  ·simp only [Act.put, xA, xZ, xS, i64_w, i32_w]; rfl
                  refine pure_ (i := 33) (N := some 95) (v := ?_) (a' := ?_) #[true, true, true, true, true, true, true, true, true, true, true, true, true, true, true, true, true, true, true, true, true, true, true, true, true, true, true, true, true, true, true, true, true, true, false] rfl rfl (any_of HT_.out (by kernel_rfl)) (fun _ _ _ h => h) (Or.inl ⟨by rfl, ?_⟩) ?_ ?_
                  rotate_left
                  ·intro w'; go_simp; with_reducible rfl
                  rotate_left
                  ·simp only [Act.put, xA, xZ, xS, i64_w, i32_w]; rfl
                  refine pure_ (i := 34) (N := some 96) (v := ?_) (a' := ?_) #[true, true, true, true, true, true, true, true, true, true, true, true, true, true, true, true, true, true, true, true, true, true, true, true, true, true, true, true, true, true, true, true, true, true, true] rfl rfl (any_of HT_.out (by kernel_rfl)) (fun _ _ _ h => h) (Or.inl ⟨by rfl, ?_⟩) ?_ ?_
                  rotate_left
                  ·intro w'; go_simp; with_reducible rfl
                  rotate_left
                  ·simp only [Act.put, xA, xZ, xS, i64_w, i32_w]; rfl
                  refine done_ (done_of HT_.out (by kernel_rfl)) ?_
                  try go_wp2
                  go_meet
                  case rel => exact ⟨_, ((t784 != 1)), (by first | rfl | (simp; done) | (simp [*]; done)), H', ⟨by have := HK1.out; have := HJ11.out; have := HJ18.out; first | omega | exact Nat.le_refl _⟩, ⟨by (with_reducible repeat first | apply RA | apply RN | apply RD); exact HO795.out⟩, ⟨by (with_reducible repeat first | refine qN ?_ _ | refine qD ?_ | refine qA ?_ _); exact B764.out⟩, ⟨by (with_reducible repeat first | refine qN ?_ _ | refine qD ?_ | refine qA ?_ _); exact B797.out⟩, ⟨by repeat (first | (with_reducible first | exact HB.out | apply eA | apply eN | apply eD | refine eS ?_ GE764.out | refine eS ?_ GE797.out) | exact HB.out)⟩⟩
                 ·rw [if_neg c54] at H
                  have c54b0 : (t785.toList == a0.toList) = false := beq_eq_false_iff_ne.mpr c54
                  have c54b1 : (t785.toList != a0.toList) = true := bne_iff_ne.mpr c54
                  have H' := qM H
                  clear H
                  try go_wp2
                  have n0_ : Aside0 (Kd.R k69 69 ((((((((((((w44.setCell ⟨g797, 0, none⟩ (.int .i64 t782)).setCell ⟨g797, 1, none⟩ (.int .i64 t783)).setCell ⟨g797, 2, none⟩ (.int .i64 t784)).setCell ⟨g797, 3, none⟩ (.string t785)).setCell ⟨g797, 4, none⟩ (.int .i64 t786)).setCell ⟨g797, 5, none⟩ (.int .i64 t787)).setCell ⟨g797, 6, none⟩ (.int .i64 t788)).setCell ⟨g797, 7, none⟩ (.int .u32 t789)).setCell ⟨g797, 8, none⟩ (.int .i64 t790)).setCell ⟨g797, 9, none⟩ (.int .i64 t791)).setCell ⟨g797, 10, none⟩ (.int .i64 t792)).setCell ⟨g797, 11, none⟩ (.slice Ao47 t793.length co47)) w.heap.size (fun _ => True) (.slice Ao47 t793.length co47) t793) := ⟨by (with_reducible repeat first | apply RA | apply RN | apply RD); exact Kd.R_mono (Kd.R_far (p := ⟨g797, 11, none⟩) (Kd.R_far (p := ⟨g797, 10, none⟩) (Kd.R_far (p := ⟨g797, 9, none⟩) (Kd.R_far (p := ⟨g797, 8, none⟩) (Kd.R_far (p := ⟨g797, 7, none⟩) (Kd.R_far (p := ⟨g797, 6, none⟩) (Kd.R_far (p := ⟨g797, 5, none⟩) (Kd.R_far (p := ⟨g797, 4, none⟩) (Kd.R_far (p := ⟨g797, 3, none⟩) (Kd.R_far (p := ⟨g797, 2, none⟩) (Kd.R_far (p := ⟨g797, 1, none⟩) (Kd.R_far (p := ⟨g797, 0, none⟩) (Kd.R_types HO795.out B797.out (by decide)) (fun _ hk => hk.2) (.int .i64 t782)) (fun _ hk => hk.2) (.int .i64 t783)) (fun _ hk => hk.2) (.int .i64 t784)) (fun _ hk => hk.2) (.string t785)) (fun _ hk => hk.2) (.int .i64 t786)) (fun _ hk => hk.2) (.int .i64 t787)) (fun _ hk => hk.2) (.int .i64 t788)) (fun _ hk => hk.2) (.int .u32 t789)) (fun _ hk => hk.2) (.int .i64 t790)) (fun _ hk => hk.2) (.int .i64 t791)) (fun _ hk => hk.2) (.int .i64 t792)) (fun _ hk => hk.2) (.slice Ao47 t793.length co47)) (fun _ hk => trivial)⟩
                  have n1_ : Aside0 (((((((((((((w44.setCell ⟨g797, 0, none⟩ (.int .i64 t782)).setCell ⟨g797, 1, none⟩ (.int .i64 t783)).setCell ⟨g797, 2, none⟩ (.int .i64 t784)).setCell ⟨g797, 3, none⟩ (.string t785)).setCell ⟨g797, 4, none⟩ (.int .i64 t786)).setCell ⟨g797, 5, none⟩ (.int .i64 t787)).setCell ⟨g797, 6, none⟩ (.int .i64 t788)).setCell ⟨g797, 7, none⟩ (.int .u32 t789)).setCell ⟨g797, 8, none⟩ (.int .i64 t790)).setCell ⟨g797, 9, none⟩ (.int .i64 t791)).setCell ⟨g797, 10, none⟩ (.int .i64 t792)).setCell ⟨g797, 11, none⟩ (.slice Ao47 t793.length co47)).heap[g764]? = some (.cells #[.int .i64 t768, .int .i64 t769, .string t770, .string t771, .int .i64 t772, .int .i64 t773, .int .i64 t774, .int .i64 t775, .int .i64 t776, .int .u32 t777, .int .i64 t778, .int .i64 t779, .string t780, .bool t781] 28 (0, 0))) := ⟨by (with_reducible repeat first | refine qN ?_ _ | refine qD ?_ | refine qA ?_ _); (iterate 12 (refine qR ?_ NB764_797.out _; (with_reducible repeat first | refine qN ?_ _ | refine qD ?_ | refine qA ?_ _))); exact B764.out⟩
                  have n2_ : Aside0 (((((((((((((w44.setCell ⟨g797, 0, none⟩ (.int .i64 t782)).setCell ⟨g797, 1, none⟩ (.int .i64 t783)).setCell ⟨g797, 2, none⟩ (.int .i64 t784)).setCell ⟨g797, 3, none⟩ (.string t785)).setCell ⟨g797, 4, none⟩ (.int .i64 t786)).setCell ⟨g797, 5, none⟩ (.int .i64 t787)).setCell ⟨g797, 6, none⟩ (.int .i64 t788)).setCell ⟨g797, 7, none⟩ (.int .u32 t789)).setCell ⟨g797, 8, none⟩ (.int .i64 t790)).setCell ⟨g797, 9, none⟩ (.int .i64 t791)).setCell ⟨g797, 10, none⟩ (.int .i64 t792)).setCell ⟨g797, 11, none⟩ (.slice Ao47 t793.length co47)).heap[g797]? = some (.cells #[.int .i64 t782, .int .i64 t783, .int .i64 t784, .string t785, .int .i64 t786, .int .i64 t787, .int .i64 t788, .int .u32 t789, .int .i64 t790, .int .i64 t791, .int .i64 t792, .slice Ao47 t793.length co47] 36 (0, 0))) := ⟨by (with_reducible repeat first | refine qN ?_ _ | refine qD ?_ | refine qA ?_ _); apply puts12; (with_reducible repeat first | refine qN ?_ _ | refine qD ?_ | refine qA ?_ _); exact B797.out⟩
                  have n3_ : Aside0 (Below w.heap.size w ((((((((((((w44.setCell ⟨g797, 0, none⟩ (.int .i64 t782)).setCell ⟨g797, 1, none⟩ (.int .i64 t783)).setCell ⟨g797, 2, none⟩ (.int .i64 t784)).setCell ⟨g797, 3, none⟩ (.string t785)).setCell ⟨g797, 4, none⟩ (.int .i64 t786)).setCell ⟨g797, 5, none⟩ (.int .i64 t787)).setCell ⟨g797, 6, none⟩ (.int .i64 t788)).setCell ⟨g797, 7, none⟩ (.int .u32 t789)).setCell ⟨g797, 8, none⟩ (.int .i64 t790)).setCell ⟨g797, 9, none⟩ (.int .i64 t791)).setCell ⟨g797, 10, none⟩ (.int .i64 t792)).setCell ⟨g797, 11, none⟩ (.slice Ao47 t793.length co47))) := ⟨by repeat (first | (with_reducible first | exact HB.out | apply eA | apply eN | apply eD | refine eS ?_ GE764.out | refine eS ?_ GE797.out) | exact HB.out)⟩
                  (try clear HO795)
                  (try clear B764)
                  (try clear B797)
                  (try clear HB)
                  generalize ((((((((((((w44.setCell ⟨g797, 0, none⟩ (.int .i64 t782)).setCell ⟨g797, 1, none⟩ (.int .i64 t783)).setCell ⟨g797, 2, none⟩ (.int .i64 t784)).setCell ⟨g797, 3, none⟩ (.string t785)).setCell ⟨g797, 4, none⟩ (.int .i64 t786)).setCell ⟨g797, 5, none⟩ (.int .i64 t787)).setCell ⟨g797, 6, none⟩ (.int .i64 t788)).setCell ⟨g797, 7, none⟩ (.int .u32 t789)).setCell ⟨g797, 8, none⟩ (.int .i64 t790)).setCell ⟨g797, 9, none⟩ (.int .i64 t791)).setCell ⟨g797, 10, none⟩ (.int .i64 t792)).setCell ⟨g797, 11, none⟩ (.slice Ao47 t793.length co47)) = w57 at n0_ n1_ n2_ n3_ ⊢
                  have HO795 := n0_
                  have B764 := n1_
                  have B797 := n2_
                  have HB := n3_
                  clear n0_ n1_ n2_ n3_
                  have n0_ := qM (Kd.R_drew HO795.out)
                  have n1_ := qM (blk_drew B764.out)
                  have n2_ := qM (blk_drew B797.out)
                  have n3_ := qM (below_drew1 HB.out)
                  clear HO795
                  clear B764
                  clear B797
                  clear HB
                  have HO795 := n0_
                  have B764 := n1_
                  have B797 := n2_
                  have HB := n3_
                  clear n0_ n1_ n2_ n3_
                  refine start_ (n := 35) (S := fun w' => w'.cell? ⟨g797, 0, none⟩ = some (.int .i64 t782) ∧ w'.cell? ⟨g797, 1, none⟩ = some (.int .i64 t783) ∧ w'.cell? ⟨g797, 2, none⟩ = some (.int .i64 t784) ∧ w'.cell? ⟨g797, 3, none⟩ = some (.string t785) ∧ w'.cell? ⟨g797, 4, none⟩ = some (.int .i64 t786) ∧ w'.cell? ⟨g797, 5, none⟩ = some (.int .i64 t787) ∧ w'.cell? ⟨g797, 6, none⟩ = some (.int .i64 t788) ∧ w'.cell? ⟨g797, 7, none⟩ = some (.int .u32 t789) ∧ w'.cell? ⟨g797, 8, none⟩ = some (.int .i64 t790) ∧ w'.cell? ⟨g797, 9, none⟩ = some (.int .i64 t791) ∧ w'.cell? ⟨g797, 10, none⟩ = some (.int .i64 t792) ∧ w'.cell? ⟨g797, 11, none⟩ = some (.slice Ao47 t793.length co47)) (ds := []) #[false, false, false, false, false, false, false, false, false, false, false, false, false, false, false, false, false, false, false, false, false, false, false, false, false, false, false, false, false, false, false, false, false, false, false] (by kernel_rfl) rfl rfl ⟨(qC B797.out 0).trans rfl, (qC B797.out 1).trans rfl, (qC B797.out 2).trans rfl, (qC B797.out 3).trans rfl, (qC B797.out 4).trans rfl, (qC B797.out 5).trans rfl, (qC B797.out 6).trans rfl, (qC B797.out 7).trans rfl, (qC B797.out 8).trans rfl, (qC B797.out 9).trans rfl, (qC B797.out 10).trans rfl, (qC B797.out 11).trans rfl⟩ (fun hHeld => ?_); refine with_tabW hogsheadlaw17_DeedWrites.tab13 hogsheadlaw17_DeedWrites.bits13 (fun HT_ HW_ => ?_)
                  generalize w57.drew = w58 at HO795 B764 B797 HB hHeld ⊢
                  refine pure_ (i := 0) (N := some 62) (v := ?_) (a' := ?_) #[true, false, false, false, false, false, false, false, false, false, false, false, false, false, false, false, false, false, false, false, false, false, false, false, false, false, false, false, false, false, false, false, false, false, false] rfl rfl (any_of HT_.out (by kernel_rfl)) (fun _ _ _ h => h) (Or.inl ⟨by rfl, ?_⟩) ?_ ?_
                  rotate_left
                  ·intro w'; go_simp; with_reducible rfl
                  rotate_left
                  ·simp only [Act.put, xA, xZ, xS, i64_w, i32_w]; rfl
                  refine pure_ (i := 1) (N := some 63) (v := ?_) (a' := ?_) #[true, true, false, false, false, false, false, false, false, false, false, false, false, false, false, false, false, false, false, false, false, false, false, false, false, false, false, false, false, false, false, false, false, false, false] rfl rfl (any_of HT_.out (by kernel_rfl)) (fun _ _ _ h => h) (Or.inl ⟨by rfl, ?_⟩) ?_ ?_
                  rotate_left
                  ·intro w'; go_simp; with_reducible rfl
                  rotate_left
                  ·simp only [Act.put, xA, xZ, xS, i64_w, i32_w]; rfl
                  refine pure_ (i := 2) (N := some 64) (v := ?_) (a' := ?_) #[true, true, true, false, false, false, false, false, false, false, false, false, false, false, false, false, false, false, false, false, false, false, false, false, false, false, false, false, false, false, false, false, false, false, false] rfl rfl (any_of HT_.out (by kernel_rfl)) (fun _ _ _ h => h) (Or.inl ⟨by rfl, ?_⟩) ?_ ?_
                  rotate_left
                  ·intro w'; go_simp; with_reducible rfl
                  rotate_left
                  ·simp only [Act.put, xA, xZ, xS, i64_w, i32_w]; rfl
                  refine take_ (i := 3) (N := some 65) (v := ?_) (a' := ?_) #[true, true, true, true, false, false, false, false, false, false, false, false, false, false, false, false, false, false, false, false, false, false, false, false, false, false, false, false, false, false, false, false, false, false, false] rfl rfl (take_ofW HT_.out HW_.out (by kernel_rfl)) (fun _ _ _ h => h) (Or.inl ⟨by rfl, ?_⟩) hHeld ?_ ?_
                  rotate_left
                  ·rintro w' ⟨s0, s1, s2, s3, s4, s5, s6, s7, s8, s9, s10, s11⟩; go_simp; with_reducible rfl
                  rotate_left
                  ·simp only [Act.put, xA, xZ, xS, i64_w, i32_w]; rfl
                  refine pure_ (i := 4) (N := some 66) (v := ?_) (a' := ?_) #[true, true, true, true, true, false, false, false, false, false, false, false, false, false, false, false, false, false, false, false, false, false, false, false, false, false, false, false, false, false, false, false, false, false, false] rfl rfl (any_of HT_.out (by kernel_rfl)) (fun _ _ _ h => h) (Or.inl ⟨by rfl, ?_⟩) ?_ ?_
                  rotate_left
                  ·intro w'; go_simp; with_reducible rfl
                  rotate_left
                  ·simp only [Act.put, xA, xZ, xS, i64_w, i32_w]; rfl
                  refine pure_ (i := 5) (N := some 67) (v := ?_) (a' := ?_) #[true, true, true, true, true, true, false, false, false, false, false, false, false, false, false, false, false, false, false, false, false, false, false, false, false, false, false, false, false, false, false, false, false, false, false] rfl rfl (any_of HT_.out (by kernel_rfl)) (fun _ _ _ h => h) (Or.inl ⟨by rfl, ?_⟩) ?_ ?_
                  rotate_left
                  ·intro w'; go_simp; with_reducible rfl
                  rotate_left
                  ·simp only [Act.put, xA, xZ, xS, i64_w, i32_w]; rfl
                  refine pure_ (i := 6) (N := some 68) (v := ?_) (a' := ?_) #[true, true, true, true, true, true, true, false, false, false, false, false, false, false, false, false, false, false, false, false, false, false, false, false, false, false, false, false, false, false, false, false, false, false, false] rfl rfl (any_of HT_.out (by kernel_rfl)) (fun _ _ _ h => h) (Or.inl ⟨by rfl, ?_⟩) ?_ ?_
                  rotate_left
                  ·intro w'; go_simp; with_reducible rfl
                  rotate_left
                  ·simp only [Act.put, xA, xZ, xS, i64_w, i32_w]; rfl
                  refine pure_ (i := 7) (N := some 69) (v := ?_) (a' := ?_) #[true, true, true, true, true, true, true, true, false, false, false, false, false, false, false, false, false, false, false, false, false, false, false, false, false, false, false, false, false, false, false, false, false, false, false] rfl rfl (any_of HT_.out (by kernel_rfl)) (fun _ _ _ h => h) (Or.inl ⟨by rfl, ?_⟩) ?_ ?_
                  rotate_left
                  ·intro w'; go_simp; with_reducible rfl
                  rotate_left
                  ·simp only [Act.put, xA, xZ, xS, i64_w, i32_w]; rfl
                  refine pure_ (i := 8) (N := some 70) (v := ?_) (a' := ?_) #[true, true, true, true, true, true, true, true, true, false, false, false, false, false, false, false, false, false, false, false, false, false, false, false, false, false, false, false, false, false, false, false, false, false, false] rfl rfl (any_of HT_.out (by kernel_rfl)) (fun _ _ _ h => h) (Or.inl ⟨by rfl, ?_⟩) ?_ ?_
                  rotate_left
                  ·intro w'; go_simp; with_reducible rfl
                  rotate_left
                  ·simp only [Act.put, xA, xZ, xS, i64_w, i32_w]; rfl
                  refine pure_ (i := 9) (N := some 71) (v := ?_) (a' := ?_) #[true, true, true, true, true, true, true, true, true, true, false, false, false, false, false, false, false, false, false, false, false, false, false, false, false, false, false, false, false, false, false, false, false, false, false] rfl rfl (any_of HT_.out (by kernel_rfl)) (fun _ _ _ h => h) (Or.inl ⟨by rfl, ?_⟩) ?_ ?_
                  rotate_left
                  ·intro w'; go_simp; with_reducible rfl
                  rotate_left
                  ·simp only [Act.put, xA, xZ, xS, i64_w, i32_w]; rfl
                  refine pure_ (i := 10) (N := some 72) (v := ?_) (a' := ?_) #[true, true, true, true, true, true, true, true, true, true, true, false, false, false, false, false, false, false, false, false, false, false, false, false, false, false, false, false, false, false, false, false, false, false, false] rfl rfl (any_of HT_.out (by kernel_rfl)) (fun _ _ _ h => h) (Or.inl ⟨by rfl, ?_⟩) ?_ ?_
                  rotate_left
                  ·intro w'; go_simp; with_reducible rfl
                  rotate_left
                  ·simp only [Act.put, xA, xZ, xS, i64_w, i32_w]; rfl
                  refine pure_ (i := 12) (N := some 74) (v := ?_) (a' := ?_) #[true, true, true, true, true, true, true, true, true, true, true, false, true, false, false, false, false, false, false, false, false, false, false, false, false, false, false, false, false, false, false, false, false, false, false] rfl rfl (any_of HT_.out (by kernel_rfl)) (fun _ _ _ h => h) (Or.inl ⟨by rfl, ?_⟩) ?_ ?_
                  rotate_left
                  ·intro w'; go_simp; with_reducible rfl
                  rotate_left
                  ·simp only [Act.put, xA, xZ, xS, i64_w, i32_w]; rfl
                  refine take_ (i := 11) (N := some 73) (v := ?_) (a' := ?_) #[true, true, true, true, true, true, true, true, true, true, true, true, true, false, false, false, false, false, false, false, false, false, false, false, false, false, false, false, false, false, false, false, false, false, false] rfl rfl (take_ofW HT_.out HW_.out (by kernel_rfl)) (fun _ _ _ h => h) (Or.inl ⟨by rfl, ?_⟩) hHeld ?_ ?_
                  rotate_left
                  ·rintro w' ⟨s0, s1, s2, s3, s4, s5, s6, s7, s8, s9, s10, s11⟩; go_simp; with_reducible rfl
                  rotate_left
                  ·simp only [Act.put, xA, xZ, xS, i64_w, i32_w]; rfl
                  refine one_ (i := 13) (N := some 75) #[true, true, true, true, true, true, true, true, true, true, true, true, true, true, false, false, false, false, false, false, false, false, false, false, false, false, false, false, false, false, false, false, false, false, false] rfl rfl (one_of HT_.out (by kernel_rfl)) (by decide) (fun K hK => ?_)
                  refine goes_ Try.func26 (by kernel_rfl) rfl #[.string a1] (by rfl) rfl rfl (by (try simp only [List.map_toArray, List.map_cons, List.map_nil]); first | done | rfl | (simp only [List.length_drop, List.length_take]; rfl)) ?_
                  with_reducible refine (hogsheadref02_Sum.calls kj18 a1 t798 _ A51.out).mono ?_
                  rintro e w' ⟨rfl, ⟨nd, rfl⟩⟩
                  refine ⟨_, rfl, ?_⟩
                  refine hK.out _ _ ⟨(qC B797.out 0).trans rfl, (qC B797.out 1).trans rfl, (qC B797.out 2).trans rfl, (qC B797.out 3).trans rfl, (qC B797.out 4).trans rfl, (qC B797.out 5).trans rfl, (qC B797.out 6).trans rfl, (qC B797.out 7).trans rfl, (qC B797.out 8).trans rfl, (qC B797.out 9).trans rfl, (qC B797.out 10).trans rfl, (qC B797.out 11).trans rfl⟩ (fun hHeld => ?_)
                  clear hK K
                  refine norm_ (a' := ?_) ?_ ?_
                  rotate_left
                  ·show Act.put _ (some 75) _ = _
                   simp only [Act.put, xA, xZ, xS, i64_w, i32_w]
                   rfl
                  refine pure_ (i := 14) (N := some 76) (v := ?_) (a' := ?_) #[true, true, true, true, true, true, true, true, true, true, true, true, true, true, true, false, false, false, false, false, false, false, false, false, false, false, false, false, false, false, false, false, false, false, false] rfl rfl (any_of HT_.out (by kernel_rfl)) (fun _ _ _ h => h) (Or.inl ⟨by rfl, ?_⟩) ?_ ?_
                  rotate_left
                  ·intro w'; go_simp; with_reducible rfl
                  rotate_left
                  ·simp only [Act.put, xA, xZ, xS, i64_w, i32_w]; rfl
                  refine pure_ (i := 15) (N := some 77) (v := ?_) (a' := ?_) #[true, true, true, true, true, true, true, true, true, true, true, true, true, true, true, true, false, false, false, false, false, false, false, false, false, false, false, false, false, false, false, false, false, false, false] rfl rfl (any_of HT_.out (by kernel_rfl)) (fun _ _ _ h => h) (Or.inl ⟨by rfl, ?_⟩) ?_ ?_
                  rotate_left
                  ·intro w'; go_simp; with_reducible rfl
                  rotate_left
                  ·simp only [Act.put, xA, xZ, xS, i64_w, i32_w]; rfl
                  refine pure_ (i := 16) (N := some 78) (v := ?_) (a' := ?_) #[true, true, true, true, true, true, true, true, true, true, true, true, true, true, true, true, true, false, false, false, false, false, false, false, false, false, false, false, false, false, false, false, false, false, false] rfl rfl (any_of HT_.out (by kernel_rfl)) (fun _ _ _ h => h) (Or.inl ⟨by rfl, ?_⟩) ?_ ?_
                  rotate_left
                  ·intro w'; go_simp; with_reducible rfl
                  rotate_left
                  ·simp only [Act.put, xA, xZ, xS, i64_w, i32_w]; rfl
                  refine pure_ (i := 17) (N := some 79) (v := ?_) (a' := ?_) #[true, true, true, true, true, true, true, true, true, true, true, true, true, true, true, true, true, true, false, false, false, false, false, false, false, false, false, false, false, false, false, false, false, false, false] rfl rfl (any_of HT_.out (by kernel_rfl)) (fun _ _ _ h => h) (Or.inl ⟨by rfl, ?_⟩) ?_ ?_
                  rotate_left
                  ·intro w'; go_simp; with_reducible rfl
                  rotate_left
                  ·simp only [Act.put, xA, xZ, xS, i64_w, i32_w]; rfl
                  refine pure_ (i := 19) (N := some 81) (v := ?_) (a' := ?_) #[true, true, true, true, true, true, true, true, true, true, true, true, true, true, true, true, true, true, false, true, false, false, false, false, false, false, false, false, false, false, false, false, false, false, false] rfl rfl (any_of HT_.out (by kernel_rfl)) (fun _ _ _ h => h) (Or.inl ⟨by rfl, ?_⟩) ?_ ?_
                  rotate_left
                  ·intro w'; go_simp; with_reducible rfl
                  rotate_left
                  ·simp only [Act.put, xA, xZ, xS, i64_w, i32_w]; rfl
                  refine pure_ (i := 20) (N := some 82) (v := ?_) (a' := ?_) #[true, true, true, true, true, true, true, true, true, true, true, true, true, true, true, true, true, true, false, true, true, false, false, false, false, false, false, false, false, false, false, false, false, false, false] rfl rfl (any_of HT_.out (by kernel_rfl)) (fun _ _ _ h => h) (Or.inl ⟨by rfl, ?_⟩) ?_ ?_
                  rotate_left
                  ·intro w'; go_simp; with_reducible rfl
                  rotate_left
                  ·simp only [Act.put, xA, xZ, xS, i64_w, i32_w]; rfl
                  refine take_ (i := 18) (N := some 80) (v := ?_) (a' := ?_) #[true, true, true, true, true, true, true, true, true, true, true, true, true, true, true, true, true, true, true, true, true, false, false, false, false, false, false, false, false, false, false, false, false, false, false] rfl rfl (take_ofW HT_.out HW_.out (by kernel_rfl)) (fun _ _ _ h => h) (Or.inl ⟨by rfl, ?_⟩) hHeld ?_ ?_
                  rotate_left
                  ·rintro w' ⟨s0, s1, s2, s3, s4, s5, s6, s7, s8, s9, s10, s11⟩; go_simp; with_reducible rfl
                  rotate_left
                  ·simp only [Act.put, xA, xZ, xS, i64_w, i32_w]; rfl
                  refine pure_ (i := 21) (N := some 83) (v := ?_) (a' := ?_) #[true, true, true, true, true, true, true, true, true, true, true, true, true, true, true, true, true, true, true, true, true, true, false, false, false, false, false, false, false, false, false, false, false, false, false] rfl rfl (any_of HT_.out (by kernel_rfl)) (fun _ _ _ h => h) (Or.inl ⟨by rfl, ?_⟩) ?_ ?_
                  rotate_left
                  ·intro w'; go_simp; with_reducible rfl
                  rotate_left
                  ·simp only [Act.put, xA, xZ, xS, i64_w, i32_w]; rfl
                  refine pure_ (i := 22) (N := some 84) (v := ?_) (a' := ?_) #[true, true, true, true, true, true, true, true, true, true, true, true, true, true, true, true, true, true, true, true, true, true, true, false, false, false, false, false, false, false, false, false, false, false, false] rfl rfl (any_of HT_.out (by kernel_rfl)) (fun _ _ _ h => h) (Or.inl ⟨by rfl, ?_⟩) ?_ ?_
                  rotate_left
                  ·intro w'; go_simp; with_reducible rfl
                  rotate_left
                  ·simp only [Act.put, xA, xZ, xS, i64_w, i32_w]; rfl
                  refine pure_ (i := 23) (N := some 85) (v := ?_) (a' := ?_) #[true, true, true, true, true, true, true, true, true, true, true, true, true, true, true, true, true, true, true, true, true, true, true, true, false, false, false, false, false, false, false, false, false, false, false] rfl rfl (any_of HT_.out (by kernel_rfl)) (fun _ _ _ h => h) (Or.inl ⟨by rfl, ?_⟩) ?_ ?_
                  rotate_left
                  ·intro w'; go_simp; with_reducible rfl
                  rotate_left
                  ·simp only [Act.put, xA, xZ, xS, i64_w, i32_w]; rfl
                  refine pure_ (i := 24) (N := some 86) (v := ?_) (a' := ?_) #[true, true, true, true, true, true, true, true, true, true, true, true, true, true, true, true, true, true, true, true, true, true, true, true, true, false, false, false, false, false, false, false, false, false, false] rfl rfl (any_of HT_.out (by kernel_rfl)) (fun _ _ _ h => h) (Or.inl ⟨by rfl, ?_⟩) ?_ ?_
                  rotate_left
                  ·intro w'; go_simp; with_reducible rfl
                  rotate_left
                  ·simp only [Act.put, xA, xZ, xS, i64_w, i32_w]; rfl
                  refine pure_ (i := 26) (N := some 88) (v := ?_) (a' := ?_) #[true, true, true, true, true, true, true, true, true, true, true, true, true, true, true, true, true, true, true, true, true, true, true, true, true, false, true, false, false, false, false, false, false, false, false] rfl rfl (any_of HT_.out (by kernel_rfl)) (fun _ _ _ h => h) (Or.inl ⟨by rfl, ?_⟩) ?_ ?_
                  rotate_left
                  ·intro w'; go_simp; with_reducible rfl
                  rotate_left
                  ·simp only [Act.put, xA, xZ, xS, i64_w, i32_w]; rfl
                  refine take_ (i := 25) (N := some 87) (v := ?_) (a' := ?_) #[true, true, true, true, true, true, true, true, true, true, true, true, true, true, true, true, true, true, true, true, true, true, true, true, true, true, true, false, false, false, false, false, false, false, false] rfl rfl (take_ofW HT_.out HW_.out (by kernel_rfl)) (fun _ _ _ h => h) (Or.inl ⟨by rfl, ?_⟩) hHeld ?_ ?_
                  rotate_left
                  ·rintro w' ⟨s0, s1, s2, s3, s4, s5, s6, s7, s8, s9, s10, s11⟩; go_simp; with_reducible rfl
                  rotate_left
                  ·simp only [Act.put, xA, xZ, xS, i64_w, i32_w]; rfl
                  refine pure_ (i := 27) (N := some 89) (v := ?_) (a' := ?_) #[true, true, true, true, true, true, true, true, true, true, true, true, true, true, true, true, true, true, true, true, true, true, true, true, true, true, true, true, false, false, false, false, false, false, false] rfl rfl (any_of HT_.out (by kernel_rfl)) (fun _ _ _ h => h) (Or.inl ⟨by rfl, ?_⟩) ?_ ?_
                  rotate_left
                  ·intro w'; go_simp; with_reducible rfl
                  rotate_left
                  ·simp only [Act.put, xA, xZ, xS, i64_w, i32_w]; rfl
                  refine pure_ (i := 28) (N := some 90) (v := ?_) (a' := ?_) #[true, true, true, true, true, true, true, true, true, true, true, true, true, true, true, true, true, true, true, true, true, true, true, true, true, true, true, true, true, false, false, false, false, false, false] rfl rfl (any_of HT_.out (by kernel_rfl)) (fun _ _ _ h => h) (Or.inl ⟨by rfl, ?_⟩) ?_ ?_
                  rotate_left
                  ·intro w'; go_simp; with_reducible rfl
                  rotate_left
                  ·simp only [Act.put, xA, xZ, xS, i64_w, i32_w]; rfl
                  refine pure_ (i := 29) (N := some 91) (v := ?_) (a' := ?_) #[true, true, true, true, true, true, true, true, true, true, true, true, true, true, true, true, true, true, true, true, true, true, true, true, true, true, true, true, true, true, false, false, false, false, false] rfl rfl (any_of HT_.out (by kernel_rfl)) (fun _ _ _ h => h) (Or.inl ⟨by rfl, ?_⟩) ?_ ?_
                  rotate_left
                  ·intro w'; go_simp; with_reducible rfl
                  rotate_left
                  ·simp only [Act.put, xA, xZ, xS, i64_w, i32_w]; rfl
                  refine pure_ (i := 30) (N := some 92) (v := undef) (a' := ?_) #[true, true, true, true, true, true, true, true, true, true, true, true, true, true, true, true, true, true, true, true, true, true, true, true, true, true, true, true, true, true, true, false, false, false, false] rfl rfl (any_of HT_.out (by kernel_rfl)) (fun _ _ _ h => h) (Or.inr ⟨by rfl, rfl⟩) ?_ ?_
                  rotate_left
                  ·simp only [Act.put, xA, xZ, xS, i64_w, i32_w]; rfl
                  refine pure_ (i := 31) (N := some 93) (v := undef) (a' := ?_) #[true, true, true, true, true, true, true, true, true, true, true, true, true, true, true, true, true, true, true, true, true, true, true, true, true, true, true, true, true, true, true, true, false, false, false] rfl rfl (any_of HT_.out (by kernel_rfl)) (fun _ _ _ h => h) (Or.inr ⟨by rfl, rfl⟩) ?_ ?_
                  rotate_left
                  ·simp only [Act.put, xA, xZ, xS, i64_w, i32_w]; rfl
                  refine pure_ (i := 32) (N := some 94) (v := undef) (a' := ?_) #[true, true, true, true, true, true, true, true, true, true, true, true, true, true, true, true, true, true, true, true, true, true, true, true, true, true, true, true, true, true, true, true, true, false, false] rfl rfl (any_of HT_.out (by kernel_rfl)) (fun _ _ _ h => h) (Or.inr ⟨by rfl, rfl⟩) ?_ ?_
                  rotate_left
                  ·simp only [Act.put, xA, xZ, xS, i64_w, i32_w]; rfl
                  refine pure_ (i := 33) (N := some 95) (v := ?_) (a' := ?_) #[true, true, true, true, true, true, true, true, true, true, true, true, true, true, true, true, true, true, true, true, true, true, true, true, true, true, true, true, true, true, true, true, true, true, false] rfl rfl (any_of HT_.out (by kernel_rfl)) (fun _ _ _ h => h) (Or.inl ⟨by rfl, ?_⟩) ?_ ?_
                  rotate_left
                  ·intro w'; go_simp; with_reducible rfl
                  rotate_left
                  ·simp only [Act.put, xA, xZ, xS, i64_w, i32_w]; rfl
                  refine pure_ (i := 34) (N := some 96) (v := ?_) (a' := ?_) #[true, true, true, true, true, true, true, true, true, true, true, true, true, true, true, true, true, true, true, true, true, true, true, true, true, true, true, true, true, true, true, true, true, true, true] rfl rfl (any_of HT_.out (by kernel_rfl)) (fun _ _ _ h => h) (Or.inl ⟨by rfl, ?_⟩) ?_ ?_
                  rotate_left
                  ·intro w'; go_simp; with_reducible rfl
                  rotate_left
                  ·simp only [Act.put, xA, xZ, xS, i64_w, i32_w]; rfl
                  refine done_ (done_of HT_.out (by kernel_rfl)) ?_
                  try go_wp2
                  go_meet
                  case rel => exact ⟨_, (true), (by first | rfl | (simp; done) | (simp [*]; done)), H', ⟨by have := HK1.out; have := HJ11.out; have := HJ18.out; first | omega | exact Nat.le_refl _⟩, ⟨by (with_reducible repeat first | apply RA | apply RN | apply RD); exact HO795.out⟩, ⟨by (with_reducible repeat first | refine qN ?_ _ | refine qD ?_ | refine qA ?_ _); exact B764.out⟩, ⟨by (with_reducible repeat first | refine qN ?_ _ | refine qD ?_ | refine qA ?_ _); exact B797.out⟩, ⟨by repeat (first | (with_reducible first | exact HB.out | apply eA | apply eN | apply eD | refine eS ?_ GE764.out | refine eS ?_ GE797.out) | exact HB.out)⟩⟩
                ·rw [if_neg c53] at H
                 have c53b0 : (t788 == (a1.size : Int)) = false := beq_eq_false_iff_ne.mpr c53
                 have c53b1 : (t788 != (a1.size : Int)) = true := bne_iff_ne.mpr c53
                 have H' := qM H
                 clear H
                 try go_wp2
                 have n0_ : Aside0 (Kd.R k69 69 ((((((((((((w44.setCell ⟨g797, 0, none⟩ (.int .i64 t782)).setCell ⟨g797, 1, none⟩ (.int .i64 t783)).setCell ⟨g797, 2, none⟩ (.int .i64 t784)).setCell ⟨g797, 3, none⟩ (.string t785)).setCell ⟨g797, 4, none⟩ (.int .i64 t786)).setCell ⟨g797, 5, none⟩ (.int .i64 t787)).setCell ⟨g797, 6, none⟩ (.int .i64 t788)).setCell ⟨g797, 7, none⟩ (.int .u32 t789)).setCell ⟨g797, 8, none⟩ (.int .i64 t790)).setCell ⟨g797, 9, none⟩ (.int .i64 t791)).setCell ⟨g797, 10, none⟩ (.int .i64 t792)).setCell ⟨g797, 11, none⟩ (.slice Ao47 t793.length co47)) w.heap.size (fun _ => True) (.slice Ao47 t793.length co47) t793) := ⟨by (with_reducible repeat first | apply RA | apply RN | apply RD); exact Kd.R_mono (Kd.R_far (p := ⟨g797, 11, none⟩) (Kd.R_far (p := ⟨g797, 10, none⟩) (Kd.R_far (p := ⟨g797, 9, none⟩) (Kd.R_far (p := ⟨g797, 8, none⟩) (Kd.R_far (p := ⟨g797, 7, none⟩) (Kd.R_far (p := ⟨g797, 6, none⟩) (Kd.R_far (p := ⟨g797, 5, none⟩) (Kd.R_far (p := ⟨g797, 4, none⟩) (Kd.R_far (p := ⟨g797, 3, none⟩) (Kd.R_far (p := ⟨g797, 2, none⟩) (Kd.R_far (p := ⟨g797, 1, none⟩) (Kd.R_far (p := ⟨g797, 0, none⟩) (Kd.R_types HO795.out B797.out (by decide)) (fun _ hk => hk.2) (.int .i64 t782)) (fun _ hk => hk.2) (.int .i64 t783)) (fun _ hk => hk.2) (.int .i64 t784)) (fun _ hk => hk.2) (.string t785)) (fun _ hk => hk.2) (.int .i64 t786)) (fun _ hk => hk.2) (.int .i64 t787)) (fun _ hk => hk.2) (.int .i64 t788)) (fun _ hk => hk.2) (.int .u32 t789)) (fun _ hk => hk.2) (.int .i64 t790)) (fun _ hk => hk.2) (.int .i64 t791)) (fun _ hk => hk.2) (.int .i64 t792)) (fun _ hk => hk.2) (.slice Ao47 t793.length co47)) (fun _ hk => trivial)⟩
                 have n1_ : Aside0 (((((((((((((w44.setCell ⟨g797, 0, none⟩ (.int .i64 t782)).setCell ⟨g797, 1, none⟩ (.int .i64 t783)).setCell ⟨g797, 2, none⟩ (.int .i64 t784)).setCell ⟨g797, 3, none⟩ (.string t785)).setCell ⟨g797, 4, none⟩ (.int .i64 t786)).setCell ⟨g797, 5, none⟩ (.int .i64 t787)).setCell ⟨g797, 6, none⟩ (.int .i64 t788)).setCell ⟨g797, 7, none⟩ (.int .u32 t789)).setCell ⟨g797, 8, none⟩ (.int .i64 t790)).setCell ⟨g797, 9, none⟩ (.int .i64 t791)).setCell ⟨g797, 10, none⟩ (.int .i64 t792)).setCell ⟨g797, 11, none⟩ (.slice Ao47 t793.length co47)).heap[g764]? = some (.cells #[.int .i64 t768, .int .i64 t769, .string t770, .string t771, .int .i64 t772, .int .i64 t773, .int .i64 t774, .int .i64 t775, .int .i64 t776, .int .u32 t777, .int .i64 t778, .int .i64 t779, .string t780, .bool t781] 28 (0, 0))) := ⟨by (with_reducible repeat first | refine qN ?_ _ | refine qD ?_ | refine qA ?_ _); (iterate 12 (refine qR ?_ NB764_797.out _; (with_reducible repeat first | refine qN ?_ _ | refine qD ?_ | refine qA ?_ _))); exact B764.out⟩
                 have n2_ : Aside0 (((((((((((((w44.setCell ⟨g797, 0, none⟩ (.int .i64 t782)).setCell ⟨g797, 1, none⟩ (.int .i64 t783)).setCell ⟨g797, 2, none⟩ (.int .i64 t784)).setCell ⟨g797, 3, none⟩ (.string t785)).setCell ⟨g797, 4, none⟩ (.int .i64 t786)).setCell ⟨g797, 5, none⟩ (.int .i64 t787)).setCell ⟨g797, 6, none⟩ (.int .i64 t788)).setCell ⟨g797, 7, none⟩ (.int .u32 t789)).setCell ⟨g797, 8, none⟩ (.int .i64 t790)).setCell ⟨g797, 9, none⟩ (.int .i64 t791)).setCell ⟨g797, 10, none⟩ (.int .i64 t792)).setCell ⟨g797, 11, none⟩ (.slice Ao47 t793.length co47)).heap[g797]? = some (.cells #[.int .i64 t782, .int .i64 t783, .int .i64 t784, .string t785, .int .i64 t786, .int .i64 t787, .int .i64 t788, .int .u32 t789, .int .i64 t790, .int .i64 t791, .int .i64 t792, .slice Ao47 t793.length co47] 36 (0, 0))) := ⟨by (with_reducible repeat first | refine qN ?_ _ | refine qD ?_ | refine qA ?_ _); apply puts12; (with_reducible repeat first | refine qN ?_ _ | refine qD ?_ | refine qA ?_ _); exact B797.out⟩
                 have n3_ : Aside0 (Below w.heap.size w ((((((((((((w44.setCell ⟨g797, 0, none⟩ (.int .i64 t782)).setCell ⟨g797, 1, none⟩ (.int .i64 t783)).setCell ⟨g797, 2, none⟩ (.int .i64 t784)).setCell ⟨g797, 3, none⟩ (.string t785)).setCell ⟨g797, 4, none⟩ (.int .i64 t786)).setCell ⟨g797, 5, none⟩ (.int .i64 t787)).setCell ⟨g797, 6, none⟩ (.int .i64 t788)).setCell ⟨g797, 7, none⟩ (.int .u32 t789)).setCell ⟨g797, 8, none⟩ (.int .i64 t790)).setCell ⟨g797, 9, none⟩ (.int .i64 t791)).setCell ⟨g797, 10, none⟩ (.int .i64 t792)).setCell ⟨g797, 11, none⟩ (.slice Ao47 t793.length co47))) := ⟨by repeat (first | (with_reducible first | exact HB.out | apply eA | apply eN | apply eD | refine eS ?_ GE764.out | refine eS ?_ GE797.out) | exact HB.out)⟩
                 (try clear HO795)
                 (try clear B764)
                 (try clear B797)
                 (try clear HB)
                 generalize ((((((((((((w44.setCell ⟨g797, 0, none⟩ (.int .i64 t782)).setCell ⟨g797, 1, none⟩ (.int .i64 t783)).setCell ⟨g797, 2, none⟩ (.int .i64 t784)).setCell ⟨g797, 3, none⟩ (.string t785)).setCell ⟨g797, 4, none⟩ (.int .i64 t786)).setCell ⟨g797, 5, none⟩ (.int .i64 t787)).setCell ⟨g797, 6, none⟩ (.int .i64 t788)).setCell ⟨g797, 7, none⟩ (.int .u32 t789)).setCell ⟨g797, 8, none⟩ (.int .i64 t790)).setCell ⟨g797, 9, none⟩ (.int .i64 t791)).setCell ⟨g797, 10, none⟩ (.int .i64 t792)).setCell ⟨g797, 11, none⟩ (.slice Ao47 t793.length co47)) = w59 at n0_ n1_ n2_ n3_ ⊢
                 have HO795 := n0_
                 have B764 := n1_
                 have B797 := n2_
                 have HB := n3_
                 clear n0_ n1_ n2_ n3_
                 have n0_ := qM (Kd.R_drew HO795.out)
                 have n1_ := qM (blk_drew B764.out)
                 have n2_ := qM (blk_drew B797.out)
                 have n3_ := qM (below_drew1 HB.out)
                 clear HO795
                 clear B764
                 clear B797
                 clear HB
                 have HO795 := n0_
                 have B764 := n1_
                 have B797 := n2_
                 have HB := n3_
                 clear n0_ n1_ n2_ n3_
                 refine start_ (n := 35) (S := fun w' => w'.cell? ⟨g797, 0, none⟩ = some (.int .i64 t782) ∧ w'.cell? ⟨g797, 1, none⟩ = some (.int .i64 t783) ∧ w'.cell? ⟨g797, 2, none⟩ = some (.int .i64 t784) ∧ w'.cell? ⟨g797, 3, none⟩ = some (.string t785) ∧ w'.cell? ⟨g797, 4, none⟩ = some (.int .i64 t786) ∧ w'.cell? ⟨g797, 5, none⟩ = some (.int .i64 t787) ∧ w'.cell? ⟨g797, 6, none⟩ = some (.int .i64 t788) ∧ w'.cell? ⟨g797, 7, none⟩ = some (.int .u32 t789) ∧ w'.cell? ⟨g797, 8, none⟩ = some (.int .i64 t790) ∧ w'.cell? ⟨g797, 9, none⟩ = some (.int .i64 t791) ∧ w'.cell? ⟨g797, 10, none⟩ = some (.int .i64 t792) ∧ w'.cell? ⟨g797, 11, none⟩ = some (.slice Ao47 t793.length co47)) (ds := []) #[false, false, false, false, false, false, false, false, false, false, false, false, false, false, false, false, false, false, false, false, false, false, false, false, false, false, false, false, false, false, false, false, false, false, false] (by kernel_rfl) rfl rfl ⟨(qC B797.out 0).trans rfl, (qC B797.out 1).trans rfl, (qC B797.out 2).trans rfl, (qC B797.out 3).trans rfl, (qC B797.out 4).trans rfl, (qC B797.out 5).trans rfl, (qC B797.out 6).trans rfl, (qC B797.out 7).trans rfl, (qC B797.out 8).trans rfl, (qC B797.out 9).trans rfl, (qC B797.out 10).trans rfl, (qC B797.out 11).trans rfl⟩ (fun hHeld => ?_); refine with_tabW hogsheadlaw17_DeedWrites.tab13 hogsheadlaw17_DeedWrites.bits13 (fun HT_ HW_ => ?_)
                 generalize w59.drew = w60 at HO795 B764 B797 HB hHeld ⊢
                 refine pure_ (i := 0) (N := some 62) (v := ?_) (a' := ?_) #[true, false, false, false, false, false, false, false, false, false, false, false, false, false, false, false, false, false, false, false, false, false, false, false, false, false, false, false, false, false, false, false, false, false, false] rfl rfl (any_of HT_.out (by kernel_rfl)) (fun _ _ _ h => h) (Or.inl ⟨by rfl, ?_⟩) ?_ ?_
                 rotate_left
                 ·intro w'; go_simp; with_reducible rfl
                 rotate_left
                 ·simp only [Act.put, xA, xZ, xS, i64_w, i32_w]; rfl
                 refine pure_ (i := 1) (N := some 63) (v := ?_) (a' := ?_) #[true, true, false, false, false, false, false, false, false, false, false, false, false, false, false, false, false, false, false, false, false, false, false, false, false, false, false, false, false, false, false, false, false, false, false] rfl rfl (any_of HT_.out (by kernel_rfl)) (fun _ _ _ h => h) (Or.inl ⟨by rfl, ?_⟩) ?_ ?_
                 rotate_left
                 ·intro w'; go_simp; with_reducible rfl
                 rotate_left
                 ·simp only [Act.put, xA, xZ, xS, i64_w, i32_w]; rfl
                 refine pure_ (i := 2) (N := some 64) (v := ?_) (a' := ?_) #[true, true, true, false, false, false, false, false, false, false, false, false, false, false, false, false, false, false, false, false, false, false, false, false, false, false, false, false, false, false, false, false, false, false, false] rfl rfl (any_of HT_.out (by kernel_rfl)) (fun _ _ _ h => h) (Or.inl ⟨by rfl, ?_⟩) ?_ ?_
                 rotate_left
                 ·intro w'; go_simp; with_reducible rfl
                 rotate_left
                 ·simp only [Act.put, xA, xZ, xS, i64_w, i32_w]; rfl
                 refine take_ (i := 3) (N := some 65) (v := ?_) (a' := ?_) #[true, true, true, true, false, false, false, false, false, false, false, false, false, false, false, false, false, false, false, false, false, false, false, false, false, false, false, false, false, false, false, false, false, false, false] rfl rfl (take_ofW HT_.out HW_.out (by kernel_rfl)) (fun _ _ _ h => h) (Or.inl ⟨by rfl, ?_⟩) hHeld ?_ ?_
                 rotate_left
                 ·rintro w' ⟨s0, s1, s2, s3, s4, s5, s6, s7, s8, s9, s10, s11⟩; go_simp; with_reducible rfl
                 rotate_left
                 ·simp only [Act.put, xA, xZ, xS, i64_w, i32_w]; rfl
                 refine pure_ (i := 4) (N := some 66) (v := ?_) (a' := ?_) #[true, true, true, true, true, false, false, false, false, false, false, false, false, false, false, false, false, false, false, false, false, false, false, false, false, false, false, false, false, false, false, false, false, false, false] rfl rfl (any_of HT_.out (by kernel_rfl)) (fun _ _ _ h => h) (Or.inl ⟨by rfl, ?_⟩) ?_ ?_
                 rotate_left
                 ·intro w'; go_simp; with_reducible rfl
                 rotate_left
                 ·simp only [Act.put, xA, xZ, xS, i64_w, i32_w]; rfl
                 refine pure_ (i := 5) (N := some 67) (v := ?_) (a' := ?_) #[true, true, true, true, true, true, false, false, false, false, false, false, false, false, false, false, false, false, false, false, false, false, false, false, false, false, false, false, false, false, false, false, false, false, false] rfl rfl (any_of HT_.out (by kernel_rfl)) (fun _ _ _ h => h) (Or.inl ⟨by rfl, ?_⟩) ?_ ?_
                 rotate_left
                 ·intro w'; go_simp; with_reducible rfl
                 rotate_left
                 ·simp only [Act.put, xA, xZ, xS, i64_w, i32_w]; rfl
                 refine pure_ (i := 6) (N := some 68) (v := ?_) (a' := ?_) #[true, true, true, true, true, true, true, false, false, false, false, false, false, false, false, false, false, false, false, false, false, false, false, false, false, false, false, false, false, false, false, false, false, false, false] rfl rfl (any_of HT_.out (by kernel_rfl)) (fun _ _ _ h => h) (Or.inl ⟨by rfl, ?_⟩) ?_ ?_
                 rotate_left
                 ·intro w'; go_simp; with_reducible rfl
                 rotate_left
                 ·simp only [Act.put, xA, xZ, xS, i64_w, i32_w]; rfl
                 refine pure_ (i := 7) (N := some 69) (v := ?_) (a' := ?_) #[true, true, true, true, true, true, true, true, false, false, false, false, false, false, false, false, false, false, false, false, false, false, false, false, false, false, false, false, false, false, false, false, false, false, false] rfl rfl (any_of HT_.out (by kernel_rfl)) (fun _ _ _ h => h) (Or.inl ⟨by rfl, ?_⟩) ?_ ?_
                 rotate_left
                 ·intro w'; go_simp; with_reducible rfl
                 rotate_left
                 ·simp only [Act.put, xA, xZ, xS, i64_w, i32_w]; rfl
                 refine pure_ (i := 8) (N := some 70) (v := ?_) (a' := ?_) #[true, true, true, true, true, true, true, true, true, false, false, false, false, false, false, false, false, false, false, false, false, false, false, false, false, false, false, false, false, false, false, false, false, false, false] rfl rfl (any_of HT_.out (by kernel_rfl)) (fun _ _ _ h => h) (Or.inl ⟨by rfl, ?_⟩) ?_ ?_
                 rotate_left
                 ·intro w'; go_simp; with_reducible rfl
                 rotate_left
                 ·simp only [Act.put, xA, xZ, xS, i64_w, i32_w]; rfl
                 refine pure_ (i := 9) (N := some 71) (v := ?_) (a' := ?_) #[true, true, true, true, true, true, true, true, true, true, false, false, false, false, false, false, false, false, false, false, false, false, false, false, false, false, false, false, false, false, false, false, false, false, false] rfl rfl (any_of HT_.out (by kernel_rfl)) (fun _ _ _ h => h) (Or.inl ⟨by rfl, ?_⟩) ?_ ?_
                 rotate_left
                 ·intro w'; go_simp; with_reducible rfl
                 rotate_left
                 ·simp only [Act.put, xA, xZ, xS, i64_w, i32_w]; rfl
                 refine pure_ (i := 10) (N := some 72) (v := ?_) (a' := ?_) #[true, true, true, true, true, true, true, true, true, true, true, false, false, false, false, false, false, false, false, false, false, false, false, false, false, false, false, false, false, false, false, false, false, false, false] rfl rfl (any_of HT_.out (by kernel_rfl)) (fun _ _ _ h => h) (Or.inl ⟨by rfl, ?_⟩) ?_ ?_
                 rotate_left
                 ·intro w'; go_simp; with_reducible rfl
                 rotate_left
                 ·simp only [Act.put, xA, xZ, xS, i64_w, i32_w]; rfl
                 refine pure_ (i := 12) (N := some 74) (v := ?_) (a' := ?_) #[true, true, true, true, true, true, true, true, true, true, true, false, true, false, false, false, false, false, false, false, false, false, false, false, false, false, false, false, false, false, false, false, false, false, false] rfl rfl (any_of HT_.out (by kernel_rfl)) (fun _ _ _ h => h) (Or.inl ⟨by rfl, ?_⟩) ?_ ?_
                 rotate_left
                 ·intro w'; go_simp; with_reducible rfl
                 rotate_left
                 ·simp only [Act.put, xA, xZ, xS, i64_w, i32_w]; rfl
                 refine take_ (i := 11) (N := some 73) (v := ?_) (a' := ?_) #[true, true, true, true, true, true, true, true, true, true, true, true, true, false, false, false, false, false, false, false, false, false, false, false, false, false, false, false, false, false, false, false, false, false, false] rfl rfl (take_ofW HT_.out HW_.out (by kernel_rfl)) (fun _ _ _ h => h) (Or.inl ⟨by rfl, ?_⟩) hHeld ?_ ?_
                 rotate_left
                 ·rintro w' ⟨s0, s1, s2, s3, s4, s5, s6, s7, s8, s9, s10, s11⟩; go_simp; with_reducible rfl
                 rotate_left
                 ·simp only [Act.put, xA, xZ, xS, i64_w, i32_w]; rfl
                 refine one_ (i := 13) (N := some 75) #[true, true, true, true, true, true, true, true, true, true, true, true, true, true, false, false, false, false, false, false, false, false, false, false, false, false, false, false, false, false, false, false, false, false, false] rfl rfl (one_of HT_.out (by kernel_rfl)) (by decide) (fun K hK => ?_)
                 refine goes_ Try.func26 (by kernel_rfl) rfl #[.string a1] (by rfl) rfl rfl (by (try simp only [List.map_toArray, List.map_cons, List.map_nil]); first | done | rfl | (simp only [List.length_drop, List.length_take]; rfl)) ?_
                 with_reducible refine (hogsheadref02_Sum.calls kj18 a1 t798 _ A51.out).mono ?_
                 rintro e w' ⟨rfl, ⟨nd, rfl⟩⟩
                 refine ⟨_, rfl, ?_⟩
                 refine hK.out _ _ ⟨(qC B797.out 0).trans rfl, (qC B797.out 1).trans rfl, (qC B797.out 2).trans rfl, (qC B797.out 3).trans rfl, (qC B797.out 4).trans rfl, (qC B797.out 5).trans rfl, (qC B797.out 6).trans rfl, (qC B797.out 7).trans rfl, (qC B797.out 8).trans rfl, (qC B797.out 9).trans rfl, (qC B797.out 10).trans rfl, (qC B797.out 11).trans rfl⟩ (fun hHeld => ?_)
                 clear hK K
                 refine norm_ (a' := ?_) ?_ ?_
                 rotate_left
                 ·show Act.put _ (some 75) _ = _
                  simp only [Act.put, xA, xZ, xS, i64_w, i32_w]
                  rfl
                 refine pure_ (i := 14) (N := some 76) (v := ?_) (a' := ?_) #[true, true, true, true, true, true, true, true, true, true, true, true, true, true, true, false, false, false, false, false, false, false, false, false, false, false, false, false, false, false, false, false, false, false, false] rfl rfl (any_of HT_.out (by kernel_rfl)) (fun _ _ _ h => h) (Or.inl ⟨by rfl, ?_⟩) ?_ ?_
                 rotate_left
                 ·intro w'; go_simp; with_reducible rfl
                 rotate_left
                 ·simp only [Act.put, xA, xZ, xS, i64_w, i32_w]; rfl
                 refine pure_ (i := 15) (N := some 77) (v := ?_) (a' := ?_) #[true, true, true, true, true, true, true, true, true, true, true, true, true, true, true, true, false, false, false, false, false, false, false, false, false, false, false, false, false, false, false, false, false, false, false] rfl rfl (any_of HT_.out (by kernel_rfl)) (fun _ _ _ h => h) (Or.inl ⟨by rfl, ?_⟩) ?_ ?_
                 rotate_left
                 ·intro w'; go_simp; with_reducible rfl
                 rotate_left
                 ·simp only [Act.put, xA, xZ, xS, i64_w, i32_w]; rfl
                 refine pure_ (i := 16) (N := some 78) (v := ?_) (a' := ?_) #[true, true, true, true, true, true, true, true, true, true, true, true, true, true, true, true, true, false, false, false, false, false, false, false, false, false, false, false, false, false, false, false, false, false, false] rfl rfl (any_of HT_.out (by kernel_rfl)) (fun _ _ _ h => h) (Or.inl ⟨by rfl, ?_⟩) ?_ ?_
                 rotate_left
                 ·intro w'; go_simp; with_reducible rfl
                 rotate_left
                 ·simp only [Act.put, xA, xZ, xS, i64_w, i32_w]; rfl
                 refine pure_ (i := 17) (N := some 79) (v := ?_) (a' := ?_) #[true, true, true, true, true, true, true, true, true, true, true, true, true, true, true, true, true, true, false, false, false, false, false, false, false, false, false, false, false, false, false, false, false, false, false] rfl rfl (any_of HT_.out (by kernel_rfl)) (fun _ _ _ h => h) (Or.inl ⟨by rfl, ?_⟩) ?_ ?_
                 rotate_left
                 ·intro w'; go_simp; with_reducible rfl
                 rotate_left
                 ·simp only [Act.put, xA, xZ, xS, i64_w, i32_w]; rfl
                 refine pure_ (i := 19) (N := some 81) (v := ?_) (a' := ?_) #[true, true, true, true, true, true, true, true, true, true, true, true, true, true, true, true, true, true, false, true, false, false, false, false, false, false, false, false, false, false, false, false, false, false, false] rfl rfl (any_of HT_.out (by kernel_rfl)) (fun _ _ _ h => h) (Or.inl ⟨by rfl, ?_⟩) ?_ ?_
                 rotate_left
                 ·intro w'; go_simp; with_reducible rfl
                 rotate_left
                 ·simp only [Act.put, xA, xZ, xS, i64_w, i32_w]; rfl
                 refine pure_ (i := 20) (N := some 82) (v := ?_) (a' := ?_) #[true, true, true, true, true, true, true, true, true, true, true, true, true, true, true, true, true, true, false, true, true, false, false, false, false, false, false, false, false, false, false, false, false, false, false] rfl rfl (any_of HT_.out (by kernel_rfl)) (fun _ _ _ h => h) (Or.inl ⟨by rfl, ?_⟩) ?_ ?_
                 rotate_left
                 ·intro w'; go_simp; with_reducible rfl
                 rotate_left
                 ·simp only [Act.put, xA, xZ, xS, i64_w, i32_w]; rfl
                 refine take_ (i := 18) (N := some 80) (v := ?_) (a' := ?_) #[true, true, true, true, true, true, true, true, true, true, true, true, true, true, true, true, true, true, true, true, true, false, false, false, false, false, false, false, false, false, false, false, false, false, false] rfl rfl (take_ofW HT_.out HW_.out (by kernel_rfl)) (fun _ _ _ h => h) (Or.inl ⟨by rfl, ?_⟩) hHeld ?_ ?_
                 rotate_left
                 ·rintro w' ⟨s0, s1, s2, s3, s4, s5, s6, s7, s8, s9, s10, s11⟩; go_simp; with_reducible rfl
                 rotate_left
                 ·simp only [Act.put, xA, xZ, xS, i64_w, i32_w]; rfl
                 refine pure_ (i := 21) (N := some 83) (v := ?_) (a' := ?_) #[true, true, true, true, true, true, true, true, true, true, true, true, true, true, true, true, true, true, true, true, true, true, false, false, false, false, false, false, false, false, false, false, false, false, false] rfl rfl (any_of HT_.out (by kernel_rfl)) (fun _ _ _ h => h) (Or.inl ⟨by rfl, ?_⟩) ?_ ?_
                 rotate_left
                 ·intro w'; go_simp; with_reducible rfl
                 rotate_left
                 ·simp only [Act.put, xA, xZ, xS, i64_w, i32_w]; rfl
                 refine pure_ (i := 22) (N := some 84) (v := ?_) (a' := ?_) #[true, true, true, true, true, true, true, true, true, true, true, true, true, true, true, true, true, true, true, true, true, true, true, false, false, false, false, false, false, false, false, false, false, false, false] rfl rfl (any_of HT_.out (by kernel_rfl)) (fun _ _ _ h => h) (Or.inl ⟨by rfl, ?_⟩) ?_ ?_
                 rotate_left
                 ·intro w'; go_simp; with_reducible rfl
                 rotate_left
                 ·simp only [Act.put, xA, xZ, xS, i64_w, i32_w]; rfl
                 refine pure_ (i := 23) (N := some 85) (v := ?_) (a' := ?_) #[true, true, true, true, true, true, true, true, true, true, true, true, true, true, true, true, true, true, true, true, true, true, true, true, false, false, false, false, false, false, false, false, false, false, false] rfl rfl (any_of HT_.out (by kernel_rfl)) (fun _ _ _ h => h) (Or.inl ⟨by rfl, ?_⟩) ?_ ?_
                 rotate_left
                 ·intro w'; go_simp; with_reducible rfl
                 rotate_left
                 ·simp only [Act.put, xA, xZ, xS, i64_w, i32_w]; rfl
                 refine pure_ (i := 24) (N := some 86) (v := undef) (a' := ?_) #[true, true, true, true, true, true, true, true, true, true, true, true, true, true, true, true, true, true, true, true, true, true, true, true, true, false, false, false, false, false, false, false, false, false, false] rfl rfl (any_of HT_.out (by kernel_rfl)) (fun _ _ _ h => h) (Or.inr ⟨by rfl, rfl⟩) ?_ ?_
                 rotate_left
                 ·simp only [Act.put, xA, xZ, xS, i64_w, i32_w]; rfl
                 refine pure_ (i := 25) (N := some 87) (v := undef) (a' := ?_) #[true, true, true, true, true, true, true, true, true, true, true, true, true, true, true, true, true, true, true, true, true, true, true, true, true, true, false, false, false, false, false, false, false, false, false] rfl rfl (any_of HT_.out (by kernel_rfl)) (fun _ _ _ h => h) (Or.inr ⟨by rfl, rfl⟩) ?_ ?_
                 rotate_left
                 ·simp only [Act.put, xA, xZ, xS, i64_w, i32_w]; rfl
                 refine pure_ (i := 26) (N := some 88) (v := undef) (a' := ?_) #[true, true, true, true, true, true, true, true, true, true, true, true, true, true, true, true, true, true, true, true, true, true, true, true, true, true, true, false, false, false, false, false, false, false, false] rfl rfl (any_of HT_.out (by kernel_rfl)) (fun _ _ _ h => h) (Or.inr ⟨by rfl, rfl⟩) ?_ ?_
                 rotate_left
                 ·simp only [Act.put, xA, xZ, xS, i64_w, i32_w]; rfl
                 refine pure_ (i := 27) (N := some 89) (v := undef) (a' := ?_) #[true, true, true, true, true, true, true, true, true, true, true, true, true, true, true, true, true, true, true, true, true, true, true, true, true, true, true, true, false, false, false, false, false, false, false] rfl rfl (any_of HT_.out (by kernel_rfl)) (fun _ _ _ h => h) (Or.inr ⟨by rfl, rfl⟩) ?_ ?_
                 rotate_left
                 ·simp only [Act.put, xA, xZ, xS, i64_w, i32_w]; rfl
                 refine pure_ (i := 28) (N := some 90) (v := ?_) (a' := ?_) #[true, true, true, true, true, true, true, true, true, true, true, true, true, true, true, true, true, true, true, true, true, true, true, true, true, true, true, true, true, false, false, false, false, false, false] rfl rfl (any_of HT_.out (by kernel_rfl)) (fun _ _ _ h => h) (Or.inl ⟨by rfl, ?_⟩) ?_ ?_
                 rotate_left
                 ·intro w'; go_simp; with_reducible rfl
                 rotate_left
                 ·simp only [Act.put, xA, xZ, xS, i64_w, i32_w]; rfl
                 refine pure_ (i := 29) (N := some 91) (v := ?_) (a' := ?_) #[true, true, true, true, true, true, true, true, true, true, true, true, true, true, true, true, true, true, true, true, true, true, true, true, true, true, true, true, true, true, false, false, false, false, false] rfl rfl (any_of HT_.out (by kernel_rfl)) (fun _ _ _ h => h) (Or.inl ⟨by rfl, ?_⟩) ?_ ?_
                 rotate_left
                 ·intro w'; go_simp; with_reducible rfl
                 rotate_left
                 ·simp only [Act.put, xA, xZ, xS, i64_w, i32_w]; rfl
                 refine pure_ (i := 30) (N := some 92) (v := undef) (a' := ?_) #[true, true, true, true, true, true, true, true, true, true, true, true, true, true, true, true, true, true, true, true, true, true, true, true, true, true, true, true, true, true, true, false, false, false, false] rfl rfl (any_of HT_.out (by kernel_rfl)) (fun _ _ _ h => h) (Or.inr ⟨by rfl, rfl⟩) ?_ ?_
                 rotate_left
                 ·simp only [Act.put, xA, xZ, xS, i64_w, i32_w]; rfl
                 refine pure_ (i := 31) (N := some 93) (v := undef) (a' := ?_) #[true, true, true, true, true, true, true, true, true, true, true, true, true, true, true, true, true, true, true, true, true, true, true, true, true, true, true, true, true, true, true, true, false, false, false] rfl rfl (any_of HT_.out (by kernel_rfl)) (fun _ _ _ h => h) (Or.inr ⟨by rfl, rfl⟩) ?_ ?_
                 rotate_left
                 ·simp only [Act.put, xA, xZ, xS, i64_w, i32_w]; rfl
                 refine pure_ (i := 32) (N := some 94) (v := undef) (a' := ?_) #[true, true, true, true, true, true, true, true, true, true, true, true, true, true, true, true, true, true, true, true, true, true, true, true, true, true, true, true, true, true, true, true, true, false, false] rfl rfl (any_of HT_.out (by kernel_rfl)) (fun _ _ _ h => h) (Or.inr ⟨by rfl, rfl⟩) ?_ ?_
                 rotate_left
                 ·simp only [Act.put, xA, xZ, xS, i64_w, i32_w]; rfl
                 refine pure_ (i := 33) (N := some 95) (v := ?_) (a' := ?_) #[true, true, true, true, true, true, true, true, true, true, true, true, true, true, true, true, true, true, true, true, true, true, true, true, true, true, true, true, true, true, true, true, true, true, false] rfl rfl (any_of HT_.out (by kernel_rfl)) (fun _ _ _ h => h) (Or.inl ⟨by rfl, ?_⟩) ?_ ?_
                 rotate_left
                 ·intro w'; go_simp; with_reducible rfl
                 rotate_left
                 ·simp only [Act.put, xA, xZ, xS, i64_w, i32_w]; rfl
                 refine pure_ (i := 34) (N := some 96) (v := ?_) (a' := ?_) #[true, true, true, true, true, true, true, true, true, true, true, true, true, true, true, true, true, true, true, true, true, true, true, true, true, true, true, true, true, true, true, true, true, true, true] rfl rfl (any_of HT_.out (by kernel_rfl)) (fun _ _ _ h => h) (Or.inl ⟨by rfl, ?_⟩) ?_ ?_
                 rotate_left
                 ·intro w'; go_simp; with_reducible rfl
                 rotate_left
                 ·simp only [Act.put, xA, xZ, xS, i64_w, i32_w]; rfl
                 refine done_ (done_of HT_.out (by kernel_rfl)) ?_
                 try go_wp2
                 go_meet
                 case rel => exact ⟨_, (true), (by first | rfl | (simp; done) | (simp [*]; done)), H', ⟨by have := HK1.out; have := HJ11.out; have := HJ18.out; first | omega | exact Nat.le_refl _⟩, ⟨by (with_reducible repeat first | apply RA | apply RN | apply RD); exact HO795.out⟩, ⟨by (with_reducible repeat first | refine qN ?_ _ | refine qD ?_ | refine qA ?_ _); exact B764.out⟩, ⟨by (with_reducible repeat first | refine qN ?_ _ | refine qD ?_ | refine qA ?_ _); exact B797.out⟩, ⟨by repeat (first | (with_reducible first | exact HB.out | apply eA | apply eN | apply eD | refine eS ?_ GE764.out | refine eS ?_ GE797.out) | exact HB.out)⟩⟩
               ·rw [if_neg c52] at H
                have c52b0 : (t789 == t798) = false := beq_eq_false_iff_ne.mpr c52
                have c52b1 : (t789 != t798) = true := bne_iff_ne.mpr c52
                have H' := qM H
                clear H
                try go_wp2
                have n0_ : Aside0 (Kd.R k69 69 ((((((((((((w44.setCell ⟨g797, 0, none⟩ (.int .i64 t782)).setCell ⟨g797, 1, none⟩ (.int .i64 t783)).setCell ⟨g797, 2, none⟩ (.int .i64 t784)).setCell ⟨g797, 3, none⟩ (.string t785)).setCell ⟨g797, 4, none⟩ (.int .i64 t786)).setCell ⟨g797, 5, none⟩ (.int .i64 t787)).setCell ⟨g797, 6, none⟩ (.int .i64 t788)).setCell ⟨g797, 7, none⟩ (.int .u32 t789)).setCell ⟨g797, 8, none⟩ (.int .i64 t790)).setCell ⟨g797, 9, none⟩ (.int .i64 t791)).setCell ⟨g797, 10, none⟩ (.int .i64 t792)).setCell ⟨g797, 11, none⟩ (.slice Ao47 t793.length co47)) w.heap.size (fun _ => True) (.slice Ao47 t793.length co47) t793) := ⟨by (with_reducible repeat first | apply RA | apply RN | apply RD); exact Kd.R_mono (Kd.R_far (p := ⟨g797, 11, none⟩) (Kd.R_far (p := ⟨g797, 10, none⟩) (Kd.R_far (p := ⟨g797, 9, none⟩) (Kd.R_far (p := ⟨g797, 8, none⟩) (Kd.R_far (p := ⟨g797, 7, none⟩) (Kd.R_far (p := ⟨g797, 6, none⟩) (Kd.R_far (p := ⟨g797, 5, none⟩) (Kd.R_far (p := ⟨g797, 4, none⟩) (Kd.R_far (p := ⟨g797, 3, none⟩) (Kd.R_far (p := ⟨g797, 2, none⟩) (Kd.R_far (p := ⟨g797, 1, none⟩) (Kd.R_far (p := ⟨g797, 0, none⟩) (Kd.R_types HO795.out B797.out (by decide)) (fun _ hk => hk.2) (.int .i64 t782)) (fun _ hk => hk.2) (.int .i64 t783)) (fun _ hk => hk.2) (.int .i64 t784)) (fun _ hk => hk.2) (.string t785)) (fun _ hk => hk.2) (.int .i64 t786)) (fun _ hk => hk.2) (.int .i64 t787)) (fun _ hk => hk.2) (.int .i64 t788)) (fun _ hk => hk.2) (.int .u32 t789)) (fun _ hk => hk.2) (.int .i64 t790)) (fun _ hk => hk.2) (.int .i64 t791)) (fun _ hk => hk.2) (.int .i64 t792)) (fun _ hk => hk.2) (.slice Ao47 t793.length co47)) (fun _ hk => trivial)⟩
                have n1_ : Aside0 (((((((((((((w44.setCell ⟨g797, 0, none⟩ (.int .i64 t782)).setCell ⟨g797, 1, none⟩ (.int .i64 t783)).setCell ⟨g797, 2, none⟩ (.int .i64 t784)).setCell ⟨g797, 3, none⟩ (.string t785)).setCell ⟨g797, 4, none⟩ (.int .i64 t786)).setCell ⟨g797, 5, none⟩ (.int .i64 t787)).setCell ⟨g797, 6, none⟩ (.int .i64 t788)).setCell ⟨g797, 7, none⟩ (.int .u32 t789)).setCell ⟨g797, 8, none⟩ (.int .i64 t790)).setCell ⟨g797, 9, none⟩ (.int .i64 t791)).setCell ⟨g797, 10, none⟩ (.int .i64 t792)).setCell ⟨g797, 11, none⟩ (.slice Ao47 t793.length co47)).heap[g764]? = some (.cells #[.int .i64 t768, .int .i64 t769, .string t770, .string t771, .int .i64 t772, .int .i64 t773, .int .i64 t774, .int .i64 t775, .int .i64 t776, .int .u32 t777, .int .i64 t778, .int .i64 t779, .string t780, .bool t781] 28 (0, 0))) := ⟨by (with_reducible repeat first | refine qN ?_ _ | refine qD ?_ | refine qA ?_ _); (iterate 12 (refine qR ?_ NB764_797.out _; (with_reducible repeat first | refine qN ?_ _ | refine qD ?_ | refine qA ?_ _))); exact B764.out⟩
                have n2_ : Aside0 (((((((((((((w44.setCell ⟨g797, 0, none⟩ (.int .i64 t782)).setCell ⟨g797, 1, none⟩ (.int .i64 t783)).setCell ⟨g797, 2, none⟩ (.int .i64 t784)).setCell ⟨g797, 3, none⟩ (.string t785)).setCell ⟨g797, 4, none⟩ (.int .i64 t786)).setCell ⟨g797, 5, none⟩ (.int .i64 t787)).setCell ⟨g797, 6, none⟩ (.int .i64 t788)).setCell ⟨g797, 7, none⟩ (.int .u32 t789)).setCell ⟨g797, 8, none⟩ (.int .i64 t790)).setCell ⟨g797, 9, none⟩ (.int .i64 t791)).setCell ⟨g797, 10, none⟩ (.int .i64 t792)).setCell ⟨g797, 11, none⟩ (.slice Ao47 t793.length co47)).heap[g797]? = some (.cells #[.int .i64 t782, .int .i64 t783, .int .i64 t784, .string t785, .int .i64 t786, .int .i64 t787, .int .i64 t788, .int .u32 t789, .int .i64 t790, .int .i64 t791, .int .i64 t792, .slice Ao47 t793.length co47] 36 (0, 0))) := ⟨by (with_reducible repeat first | refine qN ?_ _ | refine qD ?_ | refine qA ?_ _); apply puts12; (with_reducible repeat first | refine qN ?_ _ | refine qD ?_ | refine qA ?_ _); exact B797.out⟩
                have n3_ : Aside0 (Below w.heap.size w ((((((((((((w44.setCell ⟨g797, 0, none⟩ (.int .i64 t782)).setCell ⟨g797, 1, none⟩ (.int .i64 t783)).setCell ⟨g797, 2, none⟩ (.int .i64 t784)).setCell ⟨g797, 3, none⟩ (.string t785)).setCell ⟨g797, 4, none⟩ (.int .i64 t786)).setCell ⟨g797, 5, none⟩ (.int .i64 t787)).setCell ⟨g797, 6, none⟩ (.int .i64 t788)).setCell ⟨g797, 7, none⟩ (.int .u32 t789)).setCell ⟨g797, 8, none⟩ (.int .i64 t790)).setCell ⟨g797, 9, none⟩ (.int .i64 t791)).setCell ⟨g797, 10, none⟩ (.int .i64 t792)).setCell ⟨g797, 11, none⟩ (.slice Ao47 t793.length co47))) := ⟨by repeat (first | (with_reducible first | exact HB.out | apply eA | apply eN | apply eD | refine eS ?_ GE764.out | refine eS ?_ GE797.out) | exact HB.out)⟩
                (try clear HO795)
                (try clear B764)
                (try clear B797)
                (try clear HB)
                generalize ((((((((((((w44.setCell ⟨g797, 0, none⟩ (.int .i64 t782)).setCell ⟨g797, 1, none⟩ (.int .i64 t783)).setCell ⟨g797, 2, none⟩ (.int .i64 t784)).setCell ⟨g797, 3, none⟩ (.string t785)).setCell ⟨g797, 4, none⟩ (.int .i64 t786)).setCell ⟨g797, 5, none⟩ (.int .i64 t787)).setCell ⟨g797, 6, none⟩ (.int .i64 t788)).setCell ⟨g797, 7, none⟩ (.int .u32 t789)).setCell ⟨g797, 8, none⟩ (.int .i64 t790)).setCell ⟨g797, 9, none⟩ (.int .i64 t791)).setCell ⟨g797, 10, none⟩ (.int .i64 t792)).setCell ⟨g797, 11, none⟩ (.slice Ao47 t793.length co47)) = w61 at n0_ n1_ n2_ n3_ ⊢
                have HO795 := n0_
                have B764 := n1_
                have B797 := n2_
                have HB := n3_
                clear n0_ n1_ n2_ n3_
                have n0_ := qM (Kd.R_drew HO795.out)
                have n1_ := qM (blk_drew B764.out)
                have n2_ := qM (blk_drew B797.out)
                have n3_ := qM (below_drew1 HB.out)
                clear HO795
                clear B764
                clear B797
                clear HB
                have HO795 := n0_
                have B764 := n1_
                have B797 := n2_
                have HB := n3_
                clear n0_ n1_ n2_ n3_
                refine start_ (n := 35) (S := fun w' => w'.cell? ⟨g797, 0, none⟩ = some (.int .i64 t782) ∧ w'.cell? ⟨g797, 1, none⟩ = some (.int .i64 t783) ∧ w'.cell? ⟨g797, 2, none⟩ = some (.int .i64 t784) ∧ w'.cell? ⟨g797, 3, none⟩ = some (.string t785) ∧ w'.cell? ⟨g797, 4, none⟩ = some (.int .i64 t786) ∧ w'.cell? ⟨g797, 5, none⟩ = some (.int .i64 t787) ∧ w'.cell? ⟨g797, 6, none⟩ = some (.int .i64 t788) ∧ w'.cell? ⟨g797, 7, none⟩ = some (.int .u32 t789) ∧ w'.cell? ⟨g797, 8, none⟩ = some (.int .i64 t790) ∧ w'.cell? ⟨g797, 9, none⟩ = some (.int .i64 t791) ∧ w'.cell? ⟨g797, 10, none⟩ = some (.int .i64 t792) ∧ w'.cell? ⟨g797, 11, none⟩ = some (.slice Ao47 t793.length co47)) (ds := []) #[false, false, false, false, false, false, false, false, false, false, false, false, false, false, false, false, false, false, false, false, false, false, false, false, false, false, false, false, false, false, false, false, false, false, false] (by kernel_rfl) rfl rfl ⟨(qC B797.out 0).trans rfl, (qC B797.out 1).trans rfl, (qC B797.out 2).trans rfl, (qC B797.out 3).trans rfl, (qC B797.out 4).trans rfl, (qC B797.out 5).trans rfl, (qC B797.out 6).trans rfl, (qC B797.out 7).trans rfl, (qC B797.out 8).trans rfl, (qC B797.out 9).trans rfl, (qC B797.out 10).trans rfl, (qC B797.out 11).trans rfl⟩ (fun hHeld => ?_); refine with_tabW hogsheadlaw17_DeedWrites.tab13 hogsheadlaw17_DeedWrites.bits13 (fun HT_ HW_ => ?_)
                generalize w61.drew = w62 at HO795 B764 B797 HB hHeld ⊢
                refine pure_ (i := 0) (N := some 62) (v := ?_) (a' := ?_) #[true, false, false, false, false, false, false, false, false, false, false, false, false, false, false, false, false, false, false, false, false, false, false, false, false, false, false, false, false, false, false, false, false, false, false] rfl rfl (any_of HT_.out (by kernel_rfl)) (fun _ _ _ h => h) (Or.inl ⟨by rfl, ?_⟩) ?_ ?_
                rotate_left
                ·intro w'; go_simp; with_reducible rfl
                rotate_left
                ·simp only [Act.put, xA, xZ, xS, i64_w, i32_w]; rfl
                refine pure_ (i := 1) (N := some 63) (v := ?_) (a' := ?_) #[true, true, false, false, false, false, false, false, false, false, false, false, false, false, false, false, false, false, false, false, false, false, false, false, false, false, false, false, false, false, false, false, false, false, false] rfl rfl (any_of HT_.out (by kernel_rfl)) (fun _ _ _ h => h) (Or.inl ⟨by rfl, ?_⟩) ?_ ?_
                rotate_left
                ·intro w'; go_simp; with_reducible rfl
                rotate_left
                ·simp only [Act.put, xA, xZ, xS, i64_w, i32_w]; rfl
                refine pure_ (i := 2) (N := some 64) (v := ?_) (a' := ?_) #[true, true, true, false, false, false, false, false, false, false, false, false, false, false, false, false, false, false, false, false, false, false, false, false, false, false, false, false, false, false, false, false, false, false, false] rfl rfl (any_of HT_.out (by kernel_rfl)) (fun _ _ _ h => h) (Or.inl ⟨by rfl, ?_⟩) ?_ ?_
                rotate_left
                ·intro w'; go_simp; with_reducible rfl
                rotate_left
                ·simp only [Act.put, xA, xZ, xS, i64_w, i32_w]; rfl
                refine take_ (i := 3) (N := some 65) (v := ?_) (a' := ?_) #[true, true, true, true, false, false, false, false, false, false, false, false, false, false, false, false, false, false, false, false, false, false, false, false, false, false, false, false, false, false, false, false, false, false, false] rfl rfl (take_ofW HT_.out HW_.out (by kernel_rfl)) (fun _ _ _ h => h) (Or.inl ⟨by rfl, ?_⟩) hHeld ?_ ?_
                rotate_left
                ·rintro w' ⟨s0, s1, s2, s3, s4, s5, s6, s7, s8, s9, s10, s11⟩; go_simp; with_reducible rfl
                rotate_left
                ·simp only [Act.put, xA, xZ, xS, i64_w, i32_w]; rfl
                refine pure_ (i := 4) (N := some 66) (v := ?_) (a' := ?_) #[true, true, true, true, true, false, false, false, false, false, false, false, false, false, false, false, false, false, false, false, false, false, false, false, false, false, false, false, false, false, false, false, false, false, false] rfl rfl (any_of HT_.out (by kernel_rfl)) (fun _ _ _ h => h) (Or.inl ⟨by rfl, ?_⟩) ?_ ?_
                rotate_left
                ·intro w'; go_simp; with_reducible rfl
                rotate_left
                ·simp only [Act.put, xA, xZ, xS, i64_w, i32_w]; rfl
                refine pure_ (i := 5) (N := some 67) (v := ?_) (a' := ?_) #[true, true, true, true, true, true, false, false, false, false, false, false, false, false, false, false, false, false, false, false, false, false, false, false, false, false, false, false, false, false, false, false, false, false, false] rfl rfl (any_of HT_.out (by kernel_rfl)) (fun _ _ _ h => h) (Or.inl ⟨by rfl, ?_⟩) ?_ ?_
                rotate_left
                ·intro w'; go_simp; with_reducible rfl
                rotate_left
                ·simp only [Act.put, xA, xZ, xS, i64_w, i32_w]; rfl
                refine pure_ (i := 6) (N := some 68) (v := ?_) (a' := ?_) #[true, true, true, true, true, true, true, false, false, false, false, false, false, false, false, false, false, false, false, false, false, false, false, false, false, false, false, false, false, false, false, false, false, false, false] rfl rfl (any_of HT_.out (by kernel_rfl)) (fun _ _ _ h => h) (Or.inl ⟨by rfl, ?_⟩) ?_ ?_
                rotate_left
                ·intro w'; go_simp; with_reducible rfl
                rotate_left
                ·simp only [Act.put, xA, xZ, xS, i64_w, i32_w]; rfl
                refine pure_ (i := 7) (N := some 69) (v := ?_) (a' := ?_) #[true, true, true, true, true, true, true, true, false, false, false, false, false, false, false, false, false, false, false, false, false, false, false, false, false, false, false, false, false, false, false, false, false, false, false] rfl rfl (any_of HT_.out (by kernel_rfl)) (fun _ _ _ h => h) (Or.inl ⟨by rfl, ?_⟩) ?_ ?_
                rotate_left
                ·intro w'; go_simp; with_reducible rfl
                rotate_left
                ·simp only [Act.put, xA, xZ, xS, i64_w, i32_w]; rfl
                refine pure_ (i := 8) (N := some 70) (v := ?_) (a' := ?_) #[true, true, true, true, true, true, true, true, true, false, false, false, false, false, false, false, false, false, false, false, false, false, false, false, false, false, false, false, false, false, false, false, false, false, false] rfl rfl (any_of HT_.out (by kernel_rfl)) (fun _ _ _ h => h) (Or.inl ⟨by rfl, ?_⟩) ?_ ?_
                rotate_left
                ·intro w'; go_simp; with_reducible rfl
                rotate_left
                ·simp only [Act.put, xA, xZ, xS, i64_w, i32_w]; rfl
                refine pure_ (i := 9) (N := some 71) (v := ?_) (a' := ?_) #[true, true, true, true, true, true, true, true, true, true, false, false, false, false, false, false, false, false, false, false, false, false, false, false, false, false, false, false, false, false, false, false, false, false, false] rfl rfl (any_of HT_.out (by kernel_rfl)) (fun _ _ _ h => h) (Or.inl ⟨by rfl, ?_⟩) ?_ ?_
                rotate_left
                ·intro w'; go_simp; with_reducible rfl
                rotate_left
                ·simp only [Act.put, xA, xZ, xS, i64_w, i32_w]; rfl
                refine pure_ (i := 10) (N := some 72) (v := ?_) (a' := ?_) #[true, true, true, true, true, true, true, true, true, true, true, false, false, false, false, false, false, false, false, false, false, false, false, false, false, false, false, false, false, false, false, false, false, false, false] rfl rfl (any_of HT_.out (by kernel_rfl)) (fun _ _ _ h => h) (Or.inl ⟨by rfl, ?_⟩) ?_ ?_
                rotate_left
                ·intro w'; go_simp; with_reducible rfl
                rotate_left
                ·simp only [Act.put, xA, xZ, xS, i64_w, i32_w]; rfl
                refine pure_ (i := 12) (N := some 74) (v := ?_) (a' := ?_) #[true, true, true, true, true, true, true, true, true, true, true, false, true, false, false, false, false, false, false, false, false, false, false, false, false, false, false, false, false, false, false, false, false, false, false] rfl rfl (any_of HT_.out (by kernel_rfl)) (fun _ _ _ h => h) (Or.inl ⟨by rfl, ?_⟩) ?_ ?_
                rotate_left
                ·intro w'; go_simp; with_reducible rfl
                rotate_left
                ·simp only [Act.put, xA, xZ, xS, i64_w, i32_w]; rfl
                refine take_ (i := 11) (N := some 73) (v := ?_) (a' := ?_) #[true, true, true, true, true, true, true, true, true, true, true, true, true, false, false, false, false, false, false, false, false, false, false, false, false, false, false, false, false, false, false, false, false, false, false] rfl rfl (take_ofW HT_.out HW_.out (by kernel_rfl)) (fun _ _ _ h => h) (Or.inl ⟨by rfl, ?_⟩) hHeld ?_ ?_
                rotate_left
                ·rintro w' ⟨s0, s1, s2, s3, s4, s5, s6, s7, s8, s9, s10, s11⟩; go_simp; with_reducible rfl
                rotate_left
                ·simp only [Act.put, xA, xZ, xS, i64_w, i32_w]; rfl
                refine one_ (i := 13) (N := some 75) #[true, true, true, true, true, true, true, true, true, true, true, true, true, true, false, false, false, false, false, false, false, false, false, false, false, false, false, false, false, false, false, false, false, false, false] rfl rfl (one_of HT_.out (by kernel_rfl)) (by decide) (fun K hK => ?_)
                refine goes_ Try.func26 (by kernel_rfl) rfl #[.string a1] (by rfl) rfl rfl (by (try simp only [List.map_toArray, List.map_cons, List.map_nil]); first | done | rfl | (simp only [List.length_drop, List.length_take]; rfl)) ?_
                with_reducible refine (hogsheadref02_Sum.calls kj18 a1 t798 _ A51.out).mono ?_
                rintro e w' ⟨rfl, ⟨nd, rfl⟩⟩
                refine ⟨_, rfl, ?_⟩
                refine hK.out _ _ ⟨(qC B797.out 0).trans rfl, (qC B797.out 1).trans rfl, (qC B797.out 2).trans rfl, (qC B797.out 3).trans rfl, (qC B797.out 4).trans rfl, (qC B797.out 5).trans rfl, (qC B797.out 6).trans rfl, (qC B797.out 7).trans rfl, (qC B797.out 8).trans rfl, (qC B797.out 9).trans rfl, (qC B797.out 10).trans rfl, (qC B797.out 11).trans rfl⟩ (fun hHeld => ?_)
                clear hK K
                refine norm_ (a' := ?_) ?_ ?_
                rotate_left
                ·show Act.put _ (some 75) _ = _
                 simp only [Act.put, xA, xZ, xS, i64_w, i32_w]
                 rfl
                refine pure_ (i := 14) (N := some 76) (v := ?_) (a' := ?_) #[true, true, true, true, true, true, true, true, true, true, true, true, true, true, true, false, false, false, false, false, false, false, false, false, false, false, false, false, false, false, false, false, false, false, false] rfl rfl (any_of HT_.out (by kernel_rfl)) (fun _ _ _ h => h) (Or.inl ⟨by rfl, ?_⟩) ?_ ?_
                rotate_left
                ·intro w'; go_simp; with_reducible rfl
                rotate_left
                ·simp only [Act.put, xA, xZ, xS, i64_w, i32_w]; rfl
                refine pure_ (i := 15) (N := some 77) (v := ?_) (a' := ?_) #[true, true, true, true, true, true, true, true, true, true, true, true, true, true, true, true, false, false, false, false, false, false, false, false, false, false, false, false, false, false, false, false, false, false, false] rfl rfl (any_of HT_.out (by kernel_rfl)) (fun _ _ _ h => h) (Or.inl ⟨by rfl, ?_⟩) ?_ ?_
                rotate_left
                ·intro w'; go_simp; with_reducible rfl
                rotate_left
                ·simp only [Act.put, xA, xZ, xS, i64_w, i32_w]; rfl
                refine pure_ (i := 16) (N := some 78) (v := ?_) (a' := ?_) #[true, true, true, true, true, true, true, true, true, true, true, true, true, true, true, true, true, false, false, false, false, false, false, false, false, false, false, false, false, false, false, false, false, false, false] rfl rfl (any_of HT_.out (by kernel_rfl)) (fun _ _ _ h => h) (Or.inl ⟨by rfl, ?_⟩) ?_ ?_
                rotate_left
                ·intro w'; go_simp; with_reducible rfl
                rotate_left
                ·simp only [Act.put, xA, xZ, xS, i64_w, i32_w]; rfl
                refine pure_ (i := 17) (N := some 79) (v := undef) (a' := ?_) #[true, true, true, true, true, true, true, true, true, true, true, true, true, true, true, true, true, true, false, false, false, false, false, false, false, false, false, false, false, false, false, false, false, false, false] rfl rfl (any_of HT_.out (by kernel_rfl)) (fun _ _ _ h => h) (Or.inr ⟨by rfl, rfl⟩) ?_ ?_
                rotate_left
                ·simp only [Act.put, xA, xZ, xS, i64_w, i32_w]; rfl
                refine pure_ (i := 18) (N := some 80) (v := undef) (a' := ?_) #[true, true, true, true, true, true, true, true, true, true, true, true, true, true, true, true, true, true, true, false, false, false, false, false, false, false, false, false, false, false, false, false, false, false, false] rfl rfl (any_of HT_.out (by kernel_rfl)) (fun _ _ _ h => h) (Or.inr ⟨by rfl, rfl⟩) ?_ ?_
                rotate_left
                ·simp only [Act.put, xA, xZ, xS, i64_w, i32_w]; rfl
                refine pure_ (i := 19) (N := some 81) (v := undef) (a' := ?_) #[true, true, true, true, true, true, true, true, true, true, true, true, true, true, true, true, true, true, true, true, false, false, false, false, false, false, false, false, false, false, false, false, false, false, false] rfl rfl (any_of HT_.out (by kernel_rfl)) (fun _ _ _ h => h) (Or.inr ⟨by rfl, rfl⟩) ?_ ?_
                rotate_left
                ·simp only [Act.put, xA, xZ, xS, i64_w, i32_w]; rfl
                refine pure_ (i := 20) (N := some 82) (v := undef) (a' := ?_) #[true, true, true, true, true, true, true, true, true, true, true, true, true, true, true, true, true, true, true, true, true, false, false, false, false, false, false, false, false, false, false, false, false, false, false] rfl rfl (any_of HT_.out (by kernel_rfl)) (fun _ _ _ h => h) (Or.inr ⟨by rfl, rfl⟩) ?_ ?_
                rotate_left
                ·simp only [Act.put, xA, xZ, xS, i64_w, i32_w]; rfl
                refine pure_ (i := 21) (N := some 83) (v := undef) (a' := ?_) #[true, true, true, true, true, true, true, true, true, true, true, true, true, true, true, true, true, true, true, true, true, true, false, false, false, false, false, false, false, false, false, false, false, false, false] rfl rfl (any_of HT_.out (by kernel_rfl)) (fun _ _ _ h => h) (Or.inr ⟨by rfl, rfl⟩) ?_ ?_
                rotate_left
                ·simp only [Act.put, xA, xZ, xS, i64_w, i32_w]; rfl
                refine pure_ (i := 22) (N := some 84) (v := ?_) (a' := ?_) #[true, true, true, true, true, true, true, true, true, true, true, true, true, true, true, true, true, true, true, true, true, true, true, false, false, false, false, false, false, false, false, false, false, false, false] rfl rfl (any_of HT_.out (by kernel_rfl)) (fun _ _ _ h => h) (Or.inl ⟨by rfl, ?_⟩) ?_ ?_
                rotate_left
                ·intro w'; go_simp; with_reducible rfl
                rotate_left
                ·simp only [Act.put, xA, xZ, xS, i64_w, i32_w]; rfl
                refine pure_ (i := 23) (N := some 85) (v := ?_) (a' := ?_) #[true, true, true, true, true, true, true, true, true, true, true, true, true, true, true, true, true, true, true, true, true, true, true, true, false, false, false, false, false, false, false, false, false, false, false] rfl rfl (any_of HT_.out (by kernel_rfl)) (fun _ _ _ h => h) (Or.inl ⟨by rfl, ?_⟩) ?_ ?_
                rotate_left
                ·intro w'; go_simp; with_reducible rfl
                rotate_left
                ·simp only [Act.put, xA, xZ, xS, i64_w, i32_w]; rfl
                refine pure_ (i := 24) (N := some 86) (v := undef) (a' := ?_) #[true, true, true, true, true, true, true, true, true, true, true, true, true, true, true, true, true, true, true, true, true, true, true, true, true, false, false, false, false, false, false, false, false, false, false] rfl rfl (any_of HT_.out (by kernel_rfl)) (fun _ _ _ h => h) (Or.inr ⟨by rfl, rfl⟩) ?_ ?_
                rotate_left
                ·simp only [Act.put, xA, xZ, xS, i64_w, i32_w]; rfl
                refine pure_ (i := 25) (N := some 87) (v := undef) (a' := ?_) #[true, true, true, true, true, true, true, true, true, true, true, true, true, true, true, true, true, true, true, true, true, true, true, true, true, true, false, false, false, false, false, false, false, false, false] rfl rfl (any_of HT_.out (by kernel_rfl)) (fun _ _ _ h => h) (Or.inr ⟨by rfl, rfl⟩) ?_ ?_
                rotate_left
                ·simp only [Act.put, xA, xZ, xS, i64_w, i32_w]; rfl
                refine pure_ (i := 26) (N := some 88) (v := undef) (a' := ?_) #[true, true, true, true, true, true, true, true, true, true, true, true, true, true, true, true, true, true, true, true, true, true, true, true, true, true, true, false, false, false, false, false, false, false, false] rfl rfl (any_of HT_.out (by kernel_rfl)) (fun _ _ _ h => h) (Or.inr ⟨by rfl, rfl⟩) ?_ ?_
                rotate_left
                ·simp only [Act.put, xA, xZ, xS, i64_w, i32_w]; rfl
                refine pure_ (i := 27) (N := some 89) (v := undef) (a' := ?_) #[true, true, true, true, true, true, true, true, true, true, true, true, true, true, true, true, true, true, true, true, true, true, true, true, true, true, true, true, false, false, false, false, false, false, false] rfl rfl (any_of HT_.out (by kernel_rfl)) (fun _ _ _ h => h) (Or.inr ⟨by rfl, rfl⟩) ?_ ?_
                rotate_left
                ·simp only [Act.put, xA, xZ, xS, i64_w, i32_w]; rfl
                refine pure_ (i := 28) (N := some 90) (v := ?_) (a' := ?_) #[true, true, true, true, true, true, true, true, true, true, true, true, true, true, true, true, true, true, true, true, true, true, true, true, true, true, true, true, true, false, false, false, false, false, false] rfl rfl (any_of HT_.out (by kernel_rfl)) (fun _ _ _ h => h) (Or.inl ⟨by rfl, ?_⟩) ?_ ?_
                rotate_left
                ·intro w'; go_simp; with_reducible rfl
                rotate_left
                ·simp only [Act.put, xA, xZ, xS, i64_w, i32_w]; rfl
                refine pure_ (i := 29) (N := some 91) (v := ?_) (a' := ?_) #[true, true, true, true, true, true, true, true, true, true, true, true, true, true, true, true, true, true, true, true, true, true, true, true, true, true, true, true, true, true, false, false, false, false, false] rfl rfl (any_of HT_.out (by kernel_rfl)) (fun _ _ _ h => h) (Or.inl ⟨by rfl, ?_⟩) ?_ ?_
                rotate_left
                ·intro w'; go_simp; with_reducible rfl
                rotate_left
                ·simp only [Act.put, xA, xZ, xS, i64_w, i32_w]; rfl
                refine pure_ (i := 30) (N := some 92) (v := undef) (a' := ?_) #[true, true, true, true, true, true, true, true, true, true, true, true, true, true, true, true, true, true, true, true, true, true, true, true, true, true, true, true, true, true, true, false, false, false, false] rfl rfl (any_of HT_.out (by kernel_rfl)) (fun _ _ _ h => h) (Or.inr ⟨by rfl, rfl⟩) ?_ ?_
                rotate_left
                ·simp only [Act.put, xA, xZ, xS, i64_w, i32_w]; rfl
                refine pure_ (i := 31) (N := some 93) (v := undef) (a' := ?_) #[true, true, true, true, true, true, true, true, true, true, true, true, true, true, true, true, true, true, true, true, true, true, true, true, true, true, true, true, true, true, true, true, false, false, false] rfl rfl (any_of HT_.out (by kernel_rfl)) (fun _ _ _ h => h) (Or.inr ⟨by rfl, rfl⟩) ?_ ?_
                rotate_left
                ·simp only [Act.put, xA, xZ, xS, i64_w, i32_w]; rfl
                refine pure_ (i := 32) (N := some 94) (v := undef) (a' := ?_) #[true, true, true, true, true, true, true, true, true, true, true, true, true, true, true, true, true, true, true, true, true, true, true, true, true, true, true, true, true, true, true, true, true, false, false] rfl rfl (any_of HT_.out (by kernel_rfl)) (fun _ _ _ h => h) (Or.inr ⟨by rfl, rfl⟩) ?_ ?_
                rotate_left
                ·simp only [Act.put, xA, xZ, xS, i64_w, i32_w]; rfl
                refine pure_ (i := 33) (N := some 95) (v := ?_) (a' := ?_) #[true, true, true, true, true, true, true, true, true, true, true, true, true, true, true, true, true, true, true, true, true, true, true, true, true, true, true, true, true, true, true, true, true, true, false] rfl rfl (any_of HT_.out (by kernel_rfl)) (fun _ _ _ h => h) (Or.inl ⟨by rfl, ?_⟩) ?_ ?_
                rotate_left
                ·intro w'; go_simp; with_reducible rfl
                rotate_left
                ·simp only [Act.put, xA, xZ, xS, i64_w, i32_w]; rfl
                refine pure_ (i := 34) (N := some 96) (v := ?_) (a' := ?_) #[true, true, true, true, true, true, true, true, true, true, true, true, true, true, true, true, true, true, true, true, true, true, true, true, true, true, true, true, true, true, true, true, true, true, true] rfl rfl (any_of HT_.out (by kernel_rfl)) (fun _ _ _ h => h) (Or.inl ⟨by rfl, ?_⟩) ?_ ?_
                rotate_left
                ·intro w'; go_simp; with_reducible rfl
                rotate_left
                ·simp only [Act.put, xA, xZ, xS, i64_w, i32_w]; rfl
                refine done_ (done_of HT_.out (by kernel_rfl)) ?_
                try go_wp2
                go_meet
                case rel => exact ⟨_, (true), (by first | rfl | (simp; done) | (simp [*]; done)), H', ⟨by have := HK1.out; have := HJ11.out; have := HJ18.out; first | omega | exact Nat.le_refl _⟩, ⟨by (with_reducible repeat first | apply RA | apply RN | apply RD); exact HO795.out⟩, ⟨by (with_reducible repeat first | refine qN ?_ _ | refine qD ?_ | refine qA ?_ _); exact B764.out⟩, ⟨by (with_reducible repeat first | refine qN ?_ _ | refine qD ?_ | refine qA ?_ _); exact B797.out⟩, ⟨by repeat (first | (with_reducible first | exact HB.out | apply eA | apply eN | apply eD | refine eS ?_ GE764.out | refine eS ?_ GE797.out) | exact HB.out)⟩⟩
              ·rw [if_neg c50] at H
               have c50b0 : (x10_18 == 4) = false := beq_eq_false_iff_ne.mpr c50
               have c50b1 : (x10_18 != 4) = true := bne_iff_ne.mpr c50
               have H' := qM H
               clear H
               try go_wp2
               have n0_ : Aside0 (Kd.R k69 69 ((((((((((((w44.setCell ⟨g797, 0, none⟩ (.int .i64 t782)).setCell ⟨g797, 1, none⟩ (.int .i64 t783)).setCell ⟨g797, 2, none⟩ (.int .i64 t784)).setCell ⟨g797, 3, none⟩ (.string t785)).setCell ⟨g797, 4, none⟩ (.int .i64 t786)).setCell ⟨g797, 5, none⟩ (.int .i64 t787)).setCell ⟨g797, 6, none⟩ (.int .i64 t788)).setCell ⟨g797, 7, none⟩ (.int .u32 t789)).setCell ⟨g797, 8, none⟩ (.int .i64 t790)).setCell ⟨g797, 9, none⟩ (.int .i64 t791)).setCell ⟨g797, 10, none⟩ (.int .i64 t792)).setCell ⟨g797, 11, none⟩ (.slice Ao47 t793.length co47)) w.heap.size (fun _ => True) (.slice Ao47 t793.length co47) t793) := ⟨by (with_reducible repeat first | apply RA | apply RN | apply RD); exact Kd.R_mono (Kd.R_far (p := ⟨g797, 11, none⟩) (Kd.R_far (p := ⟨g797, 10, none⟩) (Kd.R_far (p := ⟨g797, 9, none⟩) (Kd.R_far (p := ⟨g797, 8, none⟩) (Kd.R_far (p := ⟨g797, 7, none⟩) (Kd.R_far (p := ⟨g797, 6, none⟩) (Kd.R_far (p := ⟨g797, 5, none⟩) (Kd.R_far (p := ⟨g797, 4, none⟩) (Kd.R_far (p := ⟨g797, 3, none⟩) (Kd.R_far (p := ⟨g797, 2, none⟩) (Kd.R_far (p := ⟨g797, 1, none⟩) (Kd.R_far (p := ⟨g797, 0, none⟩) (Kd.R_types HO795.out B797.out (by decide)) (fun _ hk => hk.2) (.int .i64 t782)) (fun _ hk => hk.2) (.int .i64 t783)) (fun _ hk => hk.2) (.int .i64 t784)) (fun _ hk => hk.2) (.string t785)) (fun _ hk => hk.2) (.int .i64 t786)) (fun _ hk => hk.2) (.int .i64 t787)) (fun _ hk => hk.2) (.int .i64 t788)) (fun _ hk => hk.2) (.int .u32 t789)) (fun _ hk => hk.2) (.int .i64 t790)) (fun _ hk => hk.2) (.int .i64 t791)) (fun _ hk => hk.2) (.int .i64 t792)) (fun _ hk => hk.2) (.slice Ao47 t793.length co47)) (fun _ hk => trivial)⟩
               have n1_ : Aside0 (((((((((((((w44.setCell ⟨g797, 0, none⟩ (.int .i64 t782)).setCell ⟨g797, 1, none⟩ (.int .i64 t783)).setCell ⟨g797, 2, none⟩ (.int .i64 t784)).setCell ⟨g797, 3, none⟩ (.string t785)).setCell ⟨g797, 4, none⟩ (.int .i64 t786)).setCell ⟨g797, 5, none⟩ (.int .i64 t787)).setCell ⟨g797, 6, none⟩ (.int .i64 t788)).setCell ⟨g797, 7, none⟩ (.int .u32 t789)).setCell ⟨g797, 8, none⟩ (.int .i64 t790)).setCell ⟨g797, 9, none⟩ (.int .i64 t791)).setCell ⟨g797, 10, none⟩ (.int .i64 t792)).setCell ⟨g797, 11, none⟩ (.slice Ao47 t793.length co47)).heap[g764]? = some (.cells #[.int .i64 t768, .int .i64 t769, .string t770, .string t771, .int .i64 t772, .int .i64 t773, .int .i64 t774, .int .i64 t775, .int .i64 t776, .int .u32 t777, .int .i64 t778, .int .i64 t779, .string t780, .bool t781] 28 (0, 0))) := ⟨by (with_reducible repeat first | refine qN ?_ _ | refine qD ?_ | refine qA ?_ _); (iterate 12 (refine qR ?_ NB764_797.out _; (with_reducible repeat first | refine qN ?_ _ | refine qD ?_ | refine qA ?_ _))); exact B764.out⟩
               have n2_ : Aside0 (((((((((((((w44.setCell ⟨g797, 0, none⟩ (.int .i64 t782)).setCell ⟨g797, 1, none⟩ (.int .i64 t783)).setCell ⟨g797, 2, none⟩ (.int .i64 t784)).setCell ⟨g797, 3, none⟩ (.string t785)).setCell ⟨g797, 4, none⟩ (.int .i64 t786)).setCell ⟨g797, 5, none⟩ (.int .i64 t787)).setCell ⟨g797, 6, none⟩ (.int .i64 t788)).setCell ⟨g797, 7, none⟩ (.int .u32 t789)).setCell ⟨g797, 8, none⟩ (.int .i64 t790)).setCell ⟨g797, 9, none⟩ (.int .i64 t791)).setCell ⟨g797, 10, none⟩ (.int .i64 t792)).setCell ⟨g797, 11, none⟩ (.slice Ao47 t793.length co47)).heap[g797]? = some (.cells #[.int .i64 t782, .int .i64 t783, .int .i64 t784, .string t785, .int .i64 t786, .int .i64 t787, .int .i64 t788, .int .u32 t789, .int .i64 t790, .int .i64 t791, .int .i64 t792, .slice Ao47 t793.length co47] 36 (0, 0))) := ⟨by (with_reducible repeat first | refine qN ?_ _ | refine qD ?_ | refine qA ?_ _); apply puts12; (with_reducible repeat first | refine qN ?_ _ | refine qD ?_ | refine qA ?_ _); exact B797.out⟩
               have n3_ : Aside0 (Below w.heap.size w ((((((((((((w44.setCell ⟨g797, 0, none⟩ (.int .i64 t782)).setCell ⟨g797, 1, none⟩ (.int .i64 t783)).setCell ⟨g797, 2, none⟩ (.int .i64 t784)).setCell ⟨g797, 3, none⟩ (.string t785)).setCell ⟨g797, 4, none⟩ (.int .i64 t786)).setCell ⟨g797, 5, none⟩ (.int .i64 t787)).setCell ⟨g797, 6, none⟩ (.int .i64 t788)).setCell ⟨g797, 7, none⟩ (.int .u32 t789)).setCell ⟨g797, 8, none⟩ (.int .i64 t790)).setCell ⟨g797, 9, none⟩ (.int .i64 t791)).setCell ⟨g797, 10, none⟩ (.int .i64 t792)).setCell ⟨g797, 11, none⟩ (.slice Ao47 t793.length co47))) := ⟨by repeat (first | (with_reducible first | exact HB.out | apply eA | apply eN | apply eD | refine eS ?_ GE764.out | refine eS ?_ GE797.out) | exact HB.out)⟩
               (try clear HO795)
               (try clear B764)
               (try clear B797)
               (try clear HB)
               generalize ((((((((((((w44.setCell ⟨g797, 0, none⟩ (.int .i64 t782)).setCell ⟨g797, 1, none⟩ (.int .i64 t783)).setCell ⟨g797, 2, none⟩ (.int .i64 t784)).setCell ⟨g797, 3, none⟩ (.string t785)).setCell ⟨g797, 4, none⟩ (.int .i64 t786)).setCell ⟨g797, 5, none⟩ (.int .i64 t787)).setCell ⟨g797, 6, none⟩ (.int .i64 t788)).setCell ⟨g797, 7, none⟩ (.int .u32 t789)).setCell ⟨g797, 8, none⟩ (.int .i64 t790)).setCell ⟨g797, 9, none⟩ (.int .i64 t791)).setCell ⟨g797, 10, none⟩ (.int .i64 t792)).setCell ⟨g797, 11, none⟩ (.slice Ao47 t793.length co47)) = w63 at n0_ n1_ n2_ n3_ ⊢
               have HO795 := n0_
               have B764 := n1_
               have B797 := n2_
               have HB := n3_
               clear n0_ n1_ n2_ n3_
               have n0_ := qM (Kd.R_drew HO795.out)
               have n1_ := qM (blk_drew B764.out)
               have n2_ := qM (blk_drew B797.out)
               have n3_ := qM (below_drew1 HB.out)
               clear HO795
               clear B764
               clear B797
               clear HB
               have HO795 := n0_
               have B764 := n1_
               have B797 := n2_
               have HB := n3_
               clear n0_ n1_ n2_ n3_
               refine start_ (n := 35) (S := fun w' => w'.cell? ⟨g797, 0, none⟩ = some (.int .i64 t782) ∧ w'.cell? ⟨g797, 1, none⟩ = some (.int .i64 t783) ∧ w'.cell? ⟨g797, 2, none⟩ = some (.int .i64 t784) ∧ w'.cell? ⟨g797, 3, none⟩ = some (.string t785) ∧ w'.cell? ⟨g797, 4, none⟩ = some (.int .i64 t786) ∧ w'.cell? ⟨g797, 5, none⟩ = some (.int .i64 t787) ∧ w'.cell? ⟨g797, 6, none⟩ = some (.int .i64 t788) ∧ w'.cell? ⟨g797, 7, none⟩ = some (.int .u32 t789) ∧ w'.cell? ⟨g797, 8, none⟩ = some (.int .i64 t790) ∧ w'.cell? ⟨g797, 9, none⟩ = some (.int .i64 t791) ∧ w'.cell? ⟨g797, 10, none⟩ = some (.int .i64 t792) ∧ w'.cell? ⟨g797, 11, none⟩ = some (.slice Ao47 t793.length co47)) (ds := []) #[false, false, false, false, false, false, false, false, false, false, false, false, false, false, false, false, false, false, false, false, false, false, false, false, false, false, false, false, false, false, false, false, false, false, false] (by kernel_rfl) rfl rfl ⟨(qC B797.out 0).trans rfl, (qC B797.out 1).trans rfl, (qC B797.out 2).trans rfl, (qC B797.out 3).trans rfl, (qC B797.out 4).trans rfl, (qC B797.out 5).trans rfl, (qC B797.out 6).trans rfl, (qC B797.out 7).trans rfl, (qC B797.out 8).trans rfl, (qC B797.out 9).trans rfl, (qC B797.out 10).trans rfl, (qC B797.out 11).trans rfl⟩ (fun hHeld => ?_); refine with_tabW hogsheadlaw17_DeedWrites.tab13 hogsheadlaw17_DeedWrites.bits13 (fun HT_ HW_ => ?_)
               generalize w63.drew = w64 at HO795 B764 B797 HB hHeld ⊢
               refine pure_ (i := 0) (N := some 62) (v := ?_) (a' := ?_) #[true, false, false, false, false, false, false, false, false, false, false, false, false, false, false, false, false, false, false, false, false, false, false, false, false, false, false, false, false, false, false, false, false, false, false] rfl rfl (any_of HT_.out (by kernel_rfl)) (fun _ _ _ h => h) (Or.inl ⟨by rfl, ?_⟩) ?_ ?_
               rotate_left
               ·intro w'; go_simp; with_reducible rfl
               rotate_left
               ·simp only [Act.put, xA, xZ, xS, i64_w, i32_w]; rfl
               refine pure_ (i := 1) (N := some 63) (v := ?_) (a' := ?_) #[true, true, false, false, false, false, false, false, false, false, false, false, false, false, false, false, false, false, false, false, false, false, false, false, false, false, false, false, false, false, false, false, false, false, false] rfl rfl (any_of HT_.out (by kernel_rfl)) (fun _ _ _ h => h) (Or.inl ⟨by rfl, ?_⟩) ?_ ?_
               rotate_left
               ·intro w'; go_simp; with_reducible rfl
               rotate_left
               ·simp only [Act.put, xA, xZ, xS, i64_w, i32_w]; rfl
               refine pure_ (i := 2) (N := some 64) (v := ?_) (a' := ?_) #[true, true, true, false, false, false, false, false, false, false, false, false, false, false, false, false, false, false, false, false, false, false, false, false, false, false, false, false, false, false, false, false, false, false, false] rfl rfl (any_of HT_.out (by kernel_rfl)) (fun _ _ _ h => h) (Or.inl ⟨by rfl, ?_⟩) ?_ ?_
               rotate_left
               ·intro w'; go_simp; with_reducible rfl
               rotate_left
               ·simp only [Act.put, xA, xZ, xS, i64_w, i32_w]; rfl
               refine take_ (i := 3) (N := some 65) (v := ?_) (a' := ?_) #[true, true, true, true, false, false, false, false, false, false, false, false, false, false, false, false, false, false, false, false, false, false, false, false, false, false, false, false, false, false, false, false, false, false, false] rfl rfl (take_ofW HT_.out HW_.out (by kernel_rfl)) (fun _ _ _ h => h) (Or.inl ⟨by rfl, ?_⟩) hHeld ?_ ?_
               rotate_left
               ·rintro w' ⟨s0, s1, s2, s3, s4, s5, s6, s7, s8, s9, s10, s11⟩; go_simp; with_reducible rfl
               rotate_left
               ·simp only [Act.put, xA, xZ, xS, i64_w, i32_w]; rfl
               refine pure_ (i := 4) (N := some 66) (v := ?_) (a' := ?_) #[true, true, true, true, true, false, false, false, false, false, false, false, false, false, false, false, false, false, false, false, false, false, false, false, false, false, false, false, false, false, false, false, false, false, false] rfl rfl (any_of HT_.out (by kernel_rfl)) (fun _ _ _ h => h) (Or.inl ⟨by rfl, ?_⟩) ?_ ?_
               rotate_left
               ·intro w'; go_simp; with_reducible rfl
               rotate_left
               ·simp only [Act.put, xA, xZ, xS, i64_w, i32_w]; rfl
               refine pure_ (i := 5) (N := some 67) (v := ?_) (a' := ?_) #[true, true, true, true, true, true, false, false, false, false, false, false, false, false, false, false, false, false, false, false, false, false, false, false, false, false, false, false, false, false, false, false, false, false, false] rfl rfl (any_of HT_.out (by kernel_rfl)) (fun _ _ _ h => h) (Or.inl ⟨by rfl, ?_⟩) ?_ ?_
               rotate_left
               ·intro w'; go_simp; with_reducible rfl
               rotate_left
               ·simp only [Act.put, xA, xZ, xS, i64_w, i32_w]; rfl
               refine pure_ (i := 6) (N := some 68) (v := ?_) (a' := ?_) #[true, true, true, true, true, true, true, false, false, false, false, false, false, false, false, false, false, false, false, false, false, false, false, false, false, false, false, false, false, false, false, false, false, false, false] rfl rfl (any_of HT_.out (by kernel_rfl)) (fun _ _ _ h => h) (Or.inl ⟨by rfl, ?_⟩) ?_ ?_
               rotate_left
               ·intro w'; go_simp; with_reducible rfl
               rotate_left
               ·simp only [Act.put, xA, xZ, xS, i64_w, i32_w]; rfl
               refine pure_ (i := 7) (N := some 69) (v := ?_) (a' := ?_) #[true, true, true, true, true, true, true, true, false, false, false, false, false, false, false, false, false, false, false, false, false, false, false, false, false, false, false, false, false, false, false, false, false, false, false] rfl rfl (any_of HT_.out (by kernel_rfl)) (fun _ _ _ h => h) (Or.inl ⟨by rfl, ?_⟩) ?_ ?_
               rotate_left
               ·intro w'; go_simp; with_reducible rfl
               rotate_left
               ·simp only [Act.put, xA, xZ, xS, i64_w, i32_w]; rfl
               refine pure_ (i := 8) (N := some 70) (v := ?_) (a' := ?_) #[true, true, true, true, true, true, true, true, true, false, false, false, false, false, false, false, false, false, false, false, false, false, false, false, false, false, false, false, false, false, false, false, false, false, false] rfl rfl (any_of HT_.out (by kernel_rfl)) (fun _ _ _ h => h) (Or.inl ⟨by rfl, ?_⟩) ?_ ?_
               rotate_left
               ·intro w'; go_simp; with_reducible rfl
               rotate_left
               ·simp only [Act.put, xA, xZ, xS, i64_w, i32_w]; rfl
               refine pure_ (i := 9) (N := some 71) (v := ?_) (a' := ?_) #[true, true, true, true, true, true, true, true, true, true, false, false, false, false, false, false, false, false, false, false, false, false, false, false, false, false, false, false, false, false, false, false, false, false, false] rfl rfl (any_of HT_.out (by kernel_rfl)) (fun _ _ _ h => h) (Or.inl ⟨by rfl, ?_⟩) ?_ ?_
               rotate_left
               ·intro w'; go_simp; with_reducible rfl
               rotate_left
               ·simp only [Act.put, xA, xZ, xS, i64_w, i32_w]; rfl
               refine pure_ (i := 10) (N := some 72) (v := undef) (a' := ?_) #[true, true, true, true, true, true, true, true, true, true, true, false, false, false, false, false, false, false, false, false, false, false, false, false, false, false, false, false, false, false, false, false, false, false, false] rfl rfl (any_of HT_.out (by kernel_rfl)) (fun _ _ _ h => h) (Or.inr ⟨by rfl, rfl⟩) ?_ ?_
               rotate_left
               ·simp only [Act.put, xA, xZ, xS, i64_w, i32_w]; rfl
               refine pure_ (i := 11) (N := some 73) (v := undef) (a' := ?_) #[true, true, true, true, true, true, true, true, true, true, true, true, false, false, false, false, false, false, false, false, false, false, false, false, false, false, false, false, false, false, false, false, false, false, false] rfl rfl (any_of HT_.out (by kernel_rfl)) (fun _ _ _ h => h) (Or.inr ⟨by rfl, rfl⟩) ?_ ?_
               rotate_left
               ·simp only [Act.put, xA, xZ, xS, i64_w, i32_w]; rfl
               refine pure_ (i := 12) (N := some 74) (v := undef) (a' := ?_) #[true, true, true, true, true, true, true, true, true, true, true, true, true, false, false, false, false, false, false, false, false, false, false, false, false, false, false, false, false, false, false, false, false, false, false] rfl rfl (any_of HT_.out (by kernel_rfl)) (fun _ _ _ h => h) (Or.inr ⟨by rfl, rfl⟩) ?_ ?_
               rotate_left
               ·simp only [Act.put, xA, xZ, xS, i64_w, i32_w]; rfl
               refine pure_ (i := 13) (N := some 75) (v := undef) (a' := ?_) #[true, true, true, true, true, true, true, true, true, true, true, true, true, true, false, false, false, false, false, false, false, false, false, false, false, false, false, false, false, false, false, false, false, false, false] rfl rfl (any_of HT_.out (by kernel_rfl)) (fun _ _ _ h => h) (Or.inr ⟨by rfl, rfl⟩) ?_ ?_
               rotate_left
               ·simp only [Act.put, xA, xZ, xS, i64_w, i32_w]; rfl
               refine pure_ (i := 14) (N := some 76) (v := undef) (a' := ?_) #[true, true, true, true, true, true, true, true, true, true, true, true, true, true, true, false, false, false, false, false, false, false, false, false, false, false, false, false, false, false, false, false, false, false, false] rfl rfl (any_of HT_.out (by kernel_rfl)) (fun _ _ _ h => h) (Or.inr ⟨by rfl, rfl⟩) ?_ ?_
               rotate_left
               ·simp only [Act.put, xA, xZ, xS, i64_w, i32_w]; rfl
               refine pure_ (i := 15) (N := some 77) (v := ?_) (a' := ?_) #[true, true, true, true, true, true, true, true, true, true, true, true, true, true, true, true, false, false, false, false, false, false, false, false, false, false, false, false, false, false, false, false, false, false, false] rfl rfl (any_of HT_.out (by kernel_rfl)) (fun _ _ _ h => h) (Or.inl ⟨by rfl, ?_⟩) ?_ ?_
               rotate_left
               ·intro w'; go_simp; with_reducible rfl
               rotate_left
               ·simp only [Act.put, xA, xZ, xS, i64_w, i32_w]; rfl
               refine pure_ (i := 16) (N := some 78) (v := ?_) (a' := ?_) #[true, true, true, true, true, true, true, true, true, true, true, true, true, true, true, true, true, false, false, false, false, false, false, false, false, false, false, false, false, false, false, false, false, false, false] rfl rfl (any_of HT_.out (by kernel_rfl)) (fun _ _ _ h => h) (Or.inl ⟨by rfl, ?_⟩) ?_ ?_
               rotate_left
               ·intro w'; go_simp; with_reducible rfl
               rotate_left
               ·simp only [Act.put, xA, xZ, xS, i64_w, i32_w]; rfl
               refine pure_ (i := 17) (N := some 79) (v := undef) (a' := ?_) #[true, true, true, true, true, true, true, true, true, true, true, true, true, true, true, true, true, true, false, false, false, false, false, false, false, false, false, false, false, false, false, false, false, false, false] rfl rfl (any_of HT_.out (by kernel_rfl)) (fun _ _ _ h => h) (Or.inr ⟨by rfl, rfl⟩) ?_ ?_
               rotate_left
               ·simp only [Act.put, xA, xZ, xS, i64_w, i32_w]; rfl
               refine pure_ (i := 18) (N := some 80) (v := undef) (a' := ?_) #[true, true, true, true, true, true, true, true, true, true, true, true, true, true, true, true, true, true, true, false, false, false, false, false, false, false, false, false, false, false, false, false, false, false, false] rfl rfl (any_of HT_.out (by kernel_rfl)) (fun _ _ _ h => h) (Or.inr ⟨by rfl, rfl⟩) ?_ ?_
               rotate_left
               ·simp only [Act.put, xA, xZ, xS, i64_w, i32_w]; rfl
               refine pure_ (i := 19) (N := some 81) (v := undef) (a' := ?_) #[true, true, true, true, true, true, true, true, true, true, true, true, true, true, true, true, true, true, true, true, false, false, false, false, false, false, false, false, false, false, false, false, false, false, false] rfl rfl (any_of HT_.out (by kernel_rfl)) (fun _ _ _ h => h) (Or.inr ⟨by rfl, rfl⟩) ?_ ?_
               rotate_left
               ·simp only [Act.put, xA, xZ, xS, i64_w, i32_w]; rfl
               refine pure_ (i := 20) (N := some 82) (v := undef) (a' := ?_) #[true, true, true, true, true, true, true, true, true, true, true, true, true, true, true, true, true, true, true, true, true, false, false, false, false, false, false, false, false, false, false, false, false, false, false] rfl rfl (any_of HT_.out (by kernel_rfl)) (fun _ _ _ h => h) (Or.inr ⟨by rfl, rfl⟩) ?_ ?_
               rotate_left
               ·simp only [Act.put, xA, xZ, xS, i64_w, i32_w]; rfl
               refine pure_ (i := 21) (N := some 83) (v := undef) (a' := ?_) #[true, true, true, true, true, true, true, true, true, true, true, true, true, true, true, true, true, true, true, true, true, true, false, false, false, false, false, false, false, false, false, false, false, false, false] rfl rfl (any_of HT_.out (by kernel_rfl)) (fun _ _ _ h => h) (Or.inr ⟨by rfl, rfl⟩) ?_ ?_
               rotate_left
               ·simp only [Act.put, xA, xZ, xS, i64_w, i32_w]; rfl
               refine pure_ (i := 22) (N := some 84) (v := ?_) (a' := ?_) #[true, true, true, true, true, true, true, true, true, true, true, true, true, true, true, true, true, true, true, true, true, true, true, false, false, false, false, false, false, false, false, false, false, false, false] rfl rfl (any_of HT_.out (by kernel_rfl)) (fun _ _ _ h => h) (Or.inl ⟨by rfl, ?_⟩) ?_ ?_
               rotate_left
               ·intro w'; go_simp; with_reducible rfl
               rotate_left
               ·simp only [Act.put, xA, xZ, xS, i64_w, i32_w]; rfl
               refine pure_ (i := 23) (N := some 85) (v := ?_) (a' := ?_) #[true, true, true, true, true, true, true, true, true, true, true, true, true, true, true, true, true, true, true, true, true, true, true, true, false, false, false, false, false, false, false, false, false, false, false] rfl rfl (any_of HT_.out (by kernel_rfl)) (fun _ _ _ h => h) (Or.inl ⟨by rfl, ?_⟩) ?_ ?_
               rotate_left
               ·intro w'; go_simp; with_reducible rfl
               rotate_left
               ·simp only [Act.put, xA, xZ, xS, i64_w, i32_w]; rfl
               refine pure_ (i := 24) (N := some 86) (v := undef) (a' := ?_) #[true, true, true, true, true, true, true, true, true, true, true, true, true, true, true, true, true, true, true, true, true, true, true, true, true, false, false, false, false, false, false, false, false, false, false] rfl rfl (any_of HT_.out (by kernel_rfl)) (fun _ _ _ h => h) (Or.inr ⟨by rfl, rfl⟩) ?_ ?_
               rotate_left
               ·simp only [Act.put, xA, xZ, xS, i64_w, i32_w]; rfl
               refine pure_ (i := 25) (N := some 87) (v := undef) (a' := ?_) #[true, true, true, true, true, true, true, true, true, true, true, true, true, true, true, true, true, true, true, true, true, true, true, true, true, true, false, false, false, false, false, false, false, false, false] rfl rfl (any_of HT_.out (by kernel_rfl)) (fun _ _ _ h => h) (Or.inr ⟨by rfl, rfl⟩) ?_ ?_
               rotate_left
               ·simp only [Act.put, xA, xZ, xS, i64_w, i32_w]; rfl
               refine pure_ (i := 26) (N := some 88) (v := undef) (a' := ?_) #[true, true, true, true, true, true, true, true, true, true, true, true, true, true, true, true, true, true, true, true, true, true, true, true, true, true, true, false, false, false, false, false, false, false, false] rfl rfl (any_of HT_.out (by kernel_rfl)) (fun _ _ _ h => h) (Or.inr ⟨by rfl, rfl⟩) ?_ ?_
               rotate_left
               ·simp only [Act.put, xA, xZ, xS, i64_w, i32_w]; rfl
               refine pure_ (i := 27) (N := some 89) (v := undef) (a' := ?_) #[true, true, true, true, true, true, true, true, true, true, true, true, true, true, true, true, true, true, true, true, true, true, true, true, true, true, true, true, false, false, false, false, false, false, false] rfl rfl (any_of HT_.out (by kernel_rfl)) (fun _ _ _ h => h) (Or.inr ⟨by rfl, rfl⟩) ?_ ?_
               rotate_left
               ·simp only [Act.put, xA, xZ, xS, i64_w, i32_w]; rfl
               refine pure_ (i := 28) (N := some 90) (v := ?_) (a' := ?_) #[true, true, true, true, true, true, true, true, true, true, true, true, true, true, true, true, true, true, true, true, true, true, true, true, true, true, true, true, true, false, false, false, false, false, false] rfl rfl (any_of HT_.out (by kernel_rfl)) (fun _ _ _ h => h) (Or.inl ⟨by rfl, ?_⟩) ?_ ?_
               rotate_left
               ·intro w'; go_simp; with_reducible rfl
               rotate_left
               ·simp only [Act.put, xA, xZ, xS, i64_w, i32_w]; rfl
               refine pure_ (i := 29) (N := some 91) (v := ?_) (a' := ?_) #[true, true, true, true, true, true, true, true, true, true, true, true, true, true, true, true, true, true, true, true, true, true, true, true, true, true, true, true, true, true, false, false, false, false, false] rfl rfl (any_of HT_.out (by kernel_rfl)) (fun _ _ _ h => h) (Or.inl ⟨by rfl, ?_⟩) ?_ ?_
               rotate_left
               ·intro w'; go_simp; with_reducible rfl
               rotate_left
               ·simp only [Act.put, xA, xZ, xS, i64_w, i32_w]; rfl
               refine pure_ (i := 30) (N := some 92) (v := undef) (a' := ?_) #[true, true, true, true, true, true, true, true, true, true, true, true, true, true, true, true, true, true, true, true, true, true, true, true, true, true, true, true, true, true, true, false, false, false, false] rfl rfl (any_of HT_.out (by kernel_rfl)) (fun _ _ _ h => h) (Or.inr ⟨by rfl, rfl⟩) ?_ ?_
               rotate_left
               ·simp only [Act.put, xA, xZ, xS, i64_w, i32_w]; rfl
               refine pure_ (i := 31) (N := some 93) (v := undef) (a' := ?_) #[true, true, true, true, true, true, true, true, true, true, true, true, true, true, true, true, true, true, true, true, true, true, true, true, true, true, true, true, true, true, true, true, false, false, false] rfl rfl (any_of HT_.out (by kernel_rfl)) (fun _ _ _ h => h) (Or.inr ⟨by rfl, rfl⟩) ?_ ?_
               rotate_left
               ·simp only [Act.put, xA, xZ, xS, i64_w, i32_w]; rfl
               refine pure_ (i := 32) (N := some 94) (v := undef) (a' := ?_) #[true, true, true, true, true, true, true, true, true, true, true, true, true, true, true, true, true, true, true, true, true, true, true, true, true, true, true, true, true, true, true, true, true, false, false] rfl rfl (any_of HT_.out (by kernel_rfl)) (fun _ _ _ h => h) (Or.inr ⟨by rfl, rfl⟩) ?_ ?_
               rotate_left
               ·simp only [Act.put, xA, xZ, xS, i64_w, i32_w]; rfl
               refine pure_ (i := 33) (N := some 95) (v := ?_) (a' := ?_) #[true, true, true, true, true, true, true, true, true, true, true, true, true, true, true, true, true, true, true, true, true, true, true, true, true, true, true, true, true, true, true, true, true, true, false] rfl rfl (any_of HT_.out (by kernel_rfl)) (fun _ _ _ h => h) (Or.inl ⟨by rfl, ?_⟩) ?_ ?_
               rotate_left
               ·intro w'; go_simp; with_reducible rfl
               rotate_left
               ·simp only [Act.put, xA, xZ, xS, i64_w, i32_w]; rfl
               refine pure_ (i := 34) (N := some 96) (v := ?_) (a' := ?_) #[true, true, true, true, true, true, true, true, true, true, true, true, true, true, true, true, true, true, true, true, true, true, true, true, true, true, true, true, true, true, true, true, true, true, true] rfl rfl (any_of HT_.out (by kernel_rfl)) (fun _ _ _ h => h) (Or.inl ⟨by rfl, ?_⟩) ?_ ?_
               rotate_left
               ·intro w'; go_simp; with_reducible rfl
               rotate_left
               ·simp only [Act.put, xA, xZ, xS, i64_w, i32_w]; rfl
               refine done_ (done_of HT_.out (by kernel_rfl)) ?_
               try go_wp2
               go_meet
               case rel => exact ⟨_, (true), (by first | rfl | (simp; done) | (simp [*]; done)), H', ⟨by have := HK1.out; have := HJ11.out; have := HJ18.out; first | omega | exact Nat.le_refl _⟩, ⟨by (with_reducible repeat first | apply RA | apply RN | apply RD); exact HO795.out⟩, ⟨by (with_reducible repeat first | refine qN ?_ _ | refine qD ?_ | refine qA ?_ _); exact B764.out⟩, ⟨by (with_reducible repeat first | refine qN ?_ _ | refine qD ?_ | refine qA ?_ _); exact B797.out⟩, ⟨by repeat (first | (with_reducible first | exact HB.out | apply eA | apply eN | apply eD | refine eS ?_ GE764.out | refine eS ?_ GE797.out) | exact HB.out)⟩⟩
             ·rw [if_neg c49] at H
              have c49b0 : (t782 == 3) = false := beq_eq_false_iff_ne.mpr c49
              have c49b1 : (t782 != 3) = true := bne_iff_ne.mpr c49
              (first | rw [c49b0] | (simp only [i64_w, i32_w]; rw [c49b0]) | skip)
              have H' := qM H
              clear H
              try go_wp2
              have n0_ : Aside0 (Kd.R k69 69 ((((((((((((w44.setCell ⟨g797, 0, none⟩ (.int .i64 t782)).setCell ⟨g797, 1, none⟩ (.int .i64 t783)).setCell ⟨g797, 2, none⟩ (.int .i64 t784)).setCell ⟨g797, 3, none⟩ (.string t785)).setCell ⟨g797, 4, none⟩ (.int .i64 t786)).setCell ⟨g797, 5, none⟩ (.int .i64 t787)).setCell ⟨g797, 6, none⟩ (.int .i64 t788)).setCell ⟨g797, 7, none⟩ (.int .u32 t789)).setCell ⟨g797, 8, none⟩ (.int .i64 t790)).setCell ⟨g797, 9, none⟩ (.int .i64 t791)).setCell ⟨g797, 10, none⟩ (.int .i64 t792)).setCell ⟨g797, 11, none⟩ (.slice Ao47 t793.length co47)) w.heap.size (fun _ => True) (.slice Ao47 t793.length co47) t793) := ⟨by (with_reducible repeat first | apply RA | apply RN | apply RD); exact Kd.R_mono (Kd.R_far (p := ⟨g797, 11, none⟩) (Kd.R_far (p := ⟨g797, 10, none⟩) (Kd.R_far (p := ⟨g797, 9, none⟩) (Kd.R_far (p := ⟨g797, 8, none⟩) (Kd.R_far (p := ⟨g797, 7, none⟩) (Kd.R_far (p := ⟨g797, 6, none⟩) (Kd.R_far (p := ⟨g797, 5, none⟩) (Kd.R_far (p := ⟨g797, 4, none⟩) (Kd.R_far (p := ⟨g797, 3, none⟩) (Kd.R_far (p := ⟨g797, 2, none⟩) (Kd.R_far (p := ⟨g797, 1, none⟩) (Kd.R_far (p := ⟨g797, 0, none⟩) (Kd.R_types HO795.out B797.out (by decide)) (fun _ hk => hk.2) (.int .i64 t782)) (fun _ hk => hk.2) (.int .i64 t783)) (fun _ hk => hk.2) (.int .i64 t784)) (fun _ hk => hk.2) (.string t785)) (fun _ hk => hk.2) (.int .i64 t786)) (fun _ hk => hk.2) (.int .i64 t787)) (fun _ hk => hk.2) (.int .i64 t788)) (fun _ hk => hk.2) (.int .u32 t789)) (fun _ hk => hk.2) (.int .i64 t790)) (fun _ hk => hk.2) (.int .i64 t791)) (fun _ hk => hk.2) (.int .i64 t792)) (fun _ hk => hk.2) (.slice Ao47 t793.length co47)) (fun _ hk => trivial)⟩
              have n1_ : Aside0 (((((((((((((w44.setCell ⟨g797, 0, none⟩ (.int .i64 t782)).setCell ⟨g797, 1, none⟩ (.int .i64 t783)).setCell ⟨g797, 2, none⟩ (.int .i64 t784)).setCell ⟨g797, 3, none⟩ (.string t785)).setCell ⟨g797, 4, none⟩ (.int .i64 t786)).setCell ⟨g797, 5, none⟩ (.int .i64 t787)).setCell ⟨g797, 6, none⟩ (.int .i64 t788)).setCell ⟨g797, 7, none⟩ (.int .u32 t789)).setCell ⟨g797, 8, none⟩ (.int .i64 t790)).setCell ⟨g797, 9, none⟩ (.int .i64 t791)).setCell ⟨g797, 10, none⟩ (.int .i64 t792)).setCell ⟨g797, 11, none⟩ (.slice Ao47 t793.length co47)).heap[g764]? = some (.cells #[.int .i64 t768, .int .i64 t769, .string t770, .string t771, .int .i64 t772, .int .i64 t773, .int .i64 t774, .int .i64 t775, .int .i64 t776, .int .u32 t777, .int .i64 t778, .int .i64 t779, .string t780, .bool t781] 28 (0, 0))) := ⟨by (with_reducible repeat first | refine qN ?_ _ | refine qD ?_ | refine qA ?_ _); (iterate 12 (refine qR ?_ NB764_797.out _; (with_reducible repeat first | refine qN ?_ _ | refine qD ?_ | refine qA ?_ _))); exact B764.out⟩
              have n2_ : Aside0 (((((((((((((w44.setCell ⟨g797, 0, none⟩ (.int .i64 t782)).setCell ⟨g797, 1, none⟩ (.int .i64 t783)).setCell ⟨g797, 2, none⟩ (.int .i64 t784)).setCell ⟨g797, 3, none⟩ (.string t785)).setCell ⟨g797, 4, none⟩ (.int .i64 t786)).setCell ⟨g797, 5, none⟩ (.int .i64 t787)).setCell ⟨g797, 6, none⟩ (.int .i64 t788)).setCell ⟨g797, 7, none⟩ (.int .u32 t789)).setCell ⟨g797, 8, none⟩ (.int .i64 t790)).setCell ⟨g797, 9, none⟩ (.int .i64 t791)).setCell ⟨g797, 10, none⟩ (.int .i64 t792)).setCell ⟨g797, 11, none⟩ (.slice Ao47 t793.length co47)).heap[g797]? = some (.cells #[.int .i64 t782, .int .i64 t783, .int .i64 t784, .string t785, .int .i64 t786, .int .i64 t787, .int .i64 t788, .int .u32 t789, .int .i64 t790, .int .i64 t791, .int .i64 t792, .slice Ao47 t793.length co47] 36 (0, 0))) := ⟨by (with_reducible repeat first | refine qN ?_ _ | refine qD ?_ | refine qA ?_ _); apply puts12; (with_reducible repeat first | refine qN ?_ _ | refine qD ?_ | refine qA ?_ _); exact B797.out⟩
              have n3_ : Aside0 (Below w.heap.size w ((((((((((((w44.setCell ⟨g797, 0, none⟩ (.int .i64 t782)).setCell ⟨g797, 1, none⟩ (.int .i64 t783)).setCell ⟨g797, 2, none⟩ (.int .i64 t784)).setCell ⟨g797, 3, none⟩ (.string t785)).setCell ⟨g797, 4, none⟩ (.int .i64 t786)).setCell ⟨g797, 5, none⟩ (.int .i64 t787)).setCell ⟨g797, 6, none⟩ (.int .i64 t788)).setCell ⟨g797, 7, none⟩ (.int .u32 t789)).setCell ⟨g797, 8, none⟩ (.int .i64 t790)).setCell ⟨g797, 9, none⟩ (.int .i64 t791)).setCell ⟨g797, 10, none⟩ (.int .i64 t792)).setCell ⟨g797, 11, none⟩ (.slice Ao47 t793.length co47))) := ⟨by repeat (first | (with_reducible first | exact HB.out | apply eA | apply eN | apply eD | refine eS ?_ GE764.out | refine eS ?_ GE797.out) | exact HB.out)⟩
              (try clear HO795)
              (try clear B764)
              (try clear B797)
              (try clear HB)
              generalize ((((((((((((w44.setCell ⟨g797, 0, none⟩ (.int .i64 t782)).setCell ⟨g797, 1, none⟩ (.int .i64 t783)).setCell ⟨g797, 2, none⟩ (.int .i64 t784)).setCell ⟨g797, 3, none⟩ (.string t785)).setCell ⟨g797, 4, none⟩ (.int .i64 t786)).setCell ⟨g797, 5, none⟩ (.int .i64 t787)).setCell ⟨g797, 6, none⟩ (.int .i64 t788)).setCell ⟨g797, 7, none⟩ (.int .u32 t789)).setCell ⟨g797, 8, none⟩ (.int .i64 t790)).setCell ⟨g797, 9, none⟩ (.int .i64 t791)).setCell ⟨g797, 10, none⟩ (.int .i64 t792)).setCell ⟨g797, 11, none⟩ (.slice Ao47 t793.length co47)) = w65 at n0_ n1_ n2_ n3_ ⊢
              have HO795 := n0_
              have B764 := n1_
              have B797 := n2_
              have HB := n3_
              clear n0_ n1_ n2_ n3_
              have n0_ := qM (Kd.R_drew HO795.out)
              have n1_ := qM (blk_drew B764.out)
              have n2_ := qM (blk_drew B797.out)
              have n3_ := qM (below_drew1 HB.out)
              clear HO795
              clear B764
              clear B797
              clear HB
              have HO795 := n0_
              have B764 := n1_
              have B797 := n2_
              have HB := n3_
              clear n0_ n1_ n2_ n3_
              refine start_ (n := 35) (S := fun w' => w'.cell? ⟨g797, 0, none⟩ = some (.int .i64 t782) ∧ w'.cell? ⟨g797, 1, none⟩ = some (.int .i64 t783) ∧ w'.cell? ⟨g797, 2, none⟩ = some (.int .i64 t784) ∧ w'.cell? ⟨g797, 3, none⟩ = some (.string t785) ∧ w'.cell? ⟨g797, 4, none⟩ = some (.int .i64 t786) ∧ w'.cell? ⟨g797, 5, none⟩ = some (.int .i64 t787) ∧ w'.cell? ⟨g797, 6, none⟩ = some (.int .i64 t788) ∧ w'.cell? ⟨g797, 7, none⟩ = some (.int .u32 t789) ∧ w'.cell? ⟨g797, 8, none⟩ = some (.int .i64 t790) ∧ w'.cell? ⟨g797, 9, none⟩ = some (.int .i64 t791) ∧ w'.cell? ⟨g797, 10, none⟩ = some (.int .i64 t792) ∧ w'.cell? ⟨g797, 11, none⟩ = some (.slice Ao47 t793.length co47)) (ds := []) #[false, false, false, false, false, false, false, false, false, false, false, false, false, false, false, false, false, false, false, false, false, false, false, false, false, false, false, false, false, false, false, false, false, false, false] (by kernel_rfl) rfl rfl ⟨(qC B797.out 0).trans rfl, (qC B797.out 1).trans rfl, (qC B797.out 2).trans rfl, (qC B797.out 3).trans rfl, (qC B797.out 4).trans rfl, (qC B797.out 5).trans rfl, (qC B797.out 6).trans rfl, (qC B797.out 7).trans rfl, (qC B797.out 8).trans rfl, (qC B797.out 9).trans rfl, (qC B797.out 10).trans rfl, (qC B797.out 11).trans rfl⟩ (fun hHeld => ?_); refine with_tabW hogsheadlaw17_DeedWrites.tab13 hogsheadlaw17_DeedWrites.bits13 (fun HT_ HW_ => ?_)
              generalize w65.drew = w66 at HO795 B764 B797 HB hHeld ⊢
              refine pure_ (i := 0) (N := some 62) (v := ?_) (a' := ?_) #[true, false, false, false, false, false, false, false, false, false, false, false, false, false, false, false, false, false, false, false, false, false, false, false, false, false, false, false, false, false, false, false, false, false, false] rfl rfl (any_of HT_.out (by kernel_rfl)) (fun _ _ _ h => h) (Or.inl ⟨by rfl, ?_⟩) ?_ ?_
              rotate_left
              ·intro w'; go_simp; with_reducible rfl
              rotate_left
              ·simp only [Act.put, xA, xZ, xS, i64_w, i32_w]; rfl
              refine pure_ (i := 1) (N := some 63) (v := ?_) (a' := ?_) #[true, true, false, false, false, false, false, false, false, false, false, false, false, false, false, false, false, false, false, false, false, false, false, false, false, false, false, false, false, false, false, false, false, false, false] rfl rfl (any_of HT_.out (by kernel_rfl)) (fun _ _ _ h => h) (Or.inl ⟨by rfl, ?_⟩) ?_ ?_
              rotate_left
              ·intro w'; go_simp; with_reducible rfl
              rotate_left
              ·simp only [Act.put, xA, xZ, xS, i64_w, i32_w]; rfl
              refine pure_ (i := 2) (N := some 64) (v := ?_) (a' := ?_) #[true, true, true, false, false, false, false, false, false, false, false, false, false, false, false, false, false, false, false, false, false, false, false, false, false, false, false, false, false, false, false, false, false, false, false] rfl rfl (any_of HT_.out (by kernel_rfl)) (fun _ _ _ h => h) (Or.inl ⟨by rfl, ?_⟩) ?_ ?_
              rotate_left
              ·intro w'; go_simp; with_reducible rfl
              rotate_left
              ·simp only [Act.put, xA, xZ, xS, i64_w, i32_w]; rfl
              refine take_ (i := 3) (N := some 65) (v := ?_) (a' := ?_) #[true, true, true, true, false, false, false, false, false, false, false, false, false, false, false, false, false, false, false, false, false, false, false, false, false, false, false, false, false, false, false, false, false, false, false] rfl rfl (take_ofW HT_.out HW_.out (by kernel_rfl)) (fun _ _ _ h => h) (Or.inl ⟨by rfl, ?_⟩) hHeld ?_ ?_
              rotate_left
              ·rintro w' ⟨s0, s1, s2, s3, s4, s5, s6, s7, s8, s9, s10, s11⟩; go_simp; with_reducible rfl
              rotate_left
              ·simp only [Act.put, xA, xZ, xS, i64_w, i32_w]; rfl
              refine pure_ (i := 4) (N := some 66) (v := ?_) (a' := ?_) #[true, true, true, true, true, false, false, false, false, false, false, false, false, false, false, false, false, false, false, false, false, false, false, false, false, false, false, false, false, false, false, false, false, false, false] rfl rfl (any_of HT_.out (by kernel_rfl)) (fun _ _ _ h => h) (Or.inl ⟨by rfl, ?_⟩) ?_ ?_
              rotate_left
              ·intro w'; go_simp; with_reducible rfl
              rotate_left
              ·simp only [Act.put, xA, xZ, xS, i64_w, i32_w]; rfl
              refine pure_ (i := 5) (N := some 67) (v := ?_) (a' := ?_) #[true, true, true, true, true, true, false, false, false, false, false, false, false, false, false, false, false, false, false, false, false, false, false, false, false, false, false, false, false, false, false, false, false, false, false] rfl rfl (any_of HT_.out (by kernel_rfl)) (fun _ _ _ h => h) (Or.inl ⟨by rfl, ?_⟩) ?_ ?_
              rotate_left
              ·intro w'; go_simp; with_reducible rfl
              rotate_left
              ·simp only [Act.put, xA, xZ, xS, i64_w, i32_w]; rfl
              refine pure_ (i := 6) (N := some 68) (v := ?_) (a' := ?_) #[true, true, true, true, true, true, true, false, false, false, false, false, false, false, false, false, false, false, false, false, false, false, false, false, false, false, false, false, false, false, false, false, false, false, false] rfl rfl (any_of HT_.out (by kernel_rfl)) (fun _ _ _ h => h) (Or.inl ⟨by rfl, ?_⟩) ?_ ?_
              rotate_left
              ·intro w'; go_simp; with_reducible rfl
              rotate_left
              ·simp only [Act.put, xA, xZ, xS, i64_w, i32_w]; rfl
              refine pure_ (i := 7) (N := some 69) (v := undef) (a' := ?_) #[true, true, true, true, true, true, true, true, false, false, false, false, false, false, false, false, false, false, false, false, false, false, false, false, false, false, false, false, false, false, false, false, false, false, false] rfl rfl (any_of HT_.out (by kernel_rfl)) (fun _ _ _ h => h) (Or.inr ⟨by rfl, rfl⟩) ?_ ?_
              rotate_left
              ·simp only [Act.put, xA, xZ, xS, i64_w, i32_w]; rfl
              refine pure_ (i := 8) (N := some 70) (v := undef) (a' := ?_) #[true, true, true, true, true, true, true, true, true, false, false, false, false, false, false, false, false, false, false, false, false, false, false, false, false, false, false, false, false, false, false, false, false, false, false] rfl rfl (any_of HT_.out (by kernel_rfl)) (fun _ _ _ h => h) (Or.inr ⟨by rfl, rfl⟩) ?_ ?_
              rotate_left
              ·simp only [Act.put, xA, xZ, xS, i64_w, i32_w]; rfl
              refine pure_ (i := 9) (N := some 71) (v := undef) (a' := ?_) #[true, true, true, true, true, true, true, true, true, true, false, false, false, false, false, false, false, false, false, false, false, false, false, false, false, false, false, false, false, false, false, false, false, false, false] rfl rfl (any_of HT_.out (by kernel_rfl)) (fun _ _ _ h => h) (Or.inr ⟨by rfl, rfl⟩) ?_ ?_
              rotate_left
              ·simp only [Act.put, xA, xZ, xS, i64_w, i32_w]; rfl
              refine pure_ (i := 10) (N := some 72) (v := undef) (a' := ?_) #[true, true, true, true, true, true, true, true, true, true, true, false, false, false, false, false, false, false, false, false, false, false, false, false, false, false, false, false, false, false, false, false, false, false, false] rfl rfl (any_of HT_.out (by kernel_rfl)) (fun _ _ _ h => h) (Or.inr ⟨by rfl, rfl⟩) ?_ ?_
              rotate_left
              ·simp only [Act.put, xA, xZ, xS, i64_w, i32_w]; rfl
              refine pure_ (i := 11) (N := some 73) (v := undef) (a' := ?_) #[true, true, true, true, true, true, true, true, true, true, true, true, false, false, false, false, false, false, false, false, false, false, false, false, false, false, false, false, false, false, false, false, false, false, false] rfl rfl (any_of HT_.out (by kernel_rfl)) (fun _ _ _ h => h) (Or.inr ⟨by rfl, rfl⟩) ?_ ?_
              rotate_left
              ·simp only [Act.put, xA, xZ, xS, i64_w, i32_w]; rfl
              refine pure_ (i := 12) (N := some 74) (v := undef) (a' := ?_) #[true, true, true, true, true, true, true, true, true, true, true, true, true, false, false, false, false, false, false, false, false, false, false, false, false, false, false, false, false, false, false, false, false, false, false] rfl rfl (any_of HT_.out (by kernel_rfl)) (fun _ _ _ h => h) (Or.inr ⟨by rfl, rfl⟩) ?_ ?_
              rotate_left
              ·simp only [Act.put, xA, xZ, xS, i64_w, i32_w]; rfl
              refine pure_ (i := 13) (N := some 75) (v := undef) (a' := ?_) #[true, true, true, true, true, true, true, true, true, true, true, true, true, true, false, false, false, false, false, false, false, false, false, false, false, false, false, false, false, false, false, false, false, false, false] rfl rfl (any_of HT_.out (by kernel_rfl)) (fun _ _ _ h => h) (Or.inr ⟨by rfl, rfl⟩) ?_ ?_
              rotate_left
              ·simp only [Act.put, xA, xZ, xS, i64_w, i32_w]; rfl
              refine pure_ (i := 14) (N := some 76) (v := undef) (a' := ?_) #[true, true, true, true, true, true, true, true, true, true, true, true, true, true, true, false, false, false, false, false, false, false, false, false, false, false, false, false, false, false, false, false, false, false, false] rfl rfl (any_of HT_.out (by kernel_rfl)) (fun _ _ _ h => h) (Or.inr ⟨by rfl, rfl⟩) ?_ ?_
              rotate_left
              ·simp only [Act.put, xA, xZ, xS, i64_w, i32_w]; rfl
              refine pure_ (i := 15) (N := some 77) (v := undef) (a' := ?_) #[true, true, true, true, true, true, true, true, true, true, true, true, true, true, true, true, false, false, false, false, false, false, false, false, false, false, false, false, false, false, false, false, false, false, false] rfl rfl (any_of HT_.out (by kernel_rfl)) (fun _ _ _ h => h) (Or.inr ⟨by rfl, rfl⟩) ?_ ?_
              rotate_left
              ·simp only [Act.put, xA, xZ, xS, i64_w, i32_w]; rfl
              refine pure_ (i := 16) (N := some 78) (v := undef) (a' := ?_) #[true, true, true, true, true, true, true, true, true, true, true, true, true, true, true, true, true, false, false, false, false, false, false, false, false, false, false, false, false, false, false, false, false, false, false] rfl rfl (any_of HT_.out (by kernel_rfl)) (fun _ _ _ h => h) (Or.inr ⟨by rfl, rfl⟩) ?_ ?_
              rotate_left
              ·simp only [Act.put, xA, xZ, xS, i64_w, i32_w]; rfl
              refine pure_ (i := 17) (N := some 79) (v := undef) (a' := ?_) #[true, true, true, true, true, true, true, true, true, true, true, true, true, true, true, true, true, true, false, false, false, false, false, false, false, false, false, false, false, false, false, false, false, false, false] rfl rfl (any_of HT_.out (by kernel_rfl)) (fun _ _ _ h => h) (Or.inr ⟨by rfl, rfl⟩) ?_ ?_
              rotate_left
              ·simp only [Act.put, xA, xZ, xS, i64_w, i32_w]; rfl
              refine pure_ (i := 18) (N := some 80) (v := undef) (a' := ?_) #[true, true, true, true, true, true, true, true, true, true, true, true, true, true, true, true, true, true, true, false, false, false, false, false, false, false, false, false, false, false, false, false, false, false, false] rfl rfl (any_of HT_.out (by kernel_rfl)) (fun _ _ _ h => h) (Or.inr ⟨by rfl, rfl⟩) ?_ ?_
              rotate_left
              ·simp only [Act.put, xA, xZ, xS, i64_w, i32_w]; rfl
              refine pure_ (i := 19) (N := some 81) (v := undef) (a' := ?_) #[true, true, true, true, true, true, true, true, true, true, true, true, true, true, true, true, true, true, true, true, false, false, false, false, false, false, false, false, false, false, false, false, false, false, false] rfl rfl (any_of HT_.out (by kernel_rfl)) (fun _ _ _ h => h) (Or.inr ⟨by rfl, rfl⟩) ?_ ?_
              rotate_left
              ·simp only [Act.put, xA, xZ, xS, i64_w, i32_w]; rfl
              refine pure_ (i := 20) (N := some 82) (v := undef) (a' := ?_) #[true, true, true, true, true, true, true, true, true, true, true, true, true, true, true, true, true, true, true, true, true, false, false, false, false, false, false, false, false, false, false, false, false, false, false] rfl rfl (any_of HT_.out (by kernel_rfl)) (fun _ _ _ h => h) (Or.inr ⟨by rfl, rfl⟩) ?_ ?_
              rotate_left
              ·simp only [Act.put, xA, xZ, xS, i64_w, i32_w]; rfl
              refine pure_ (i := 21) (N := some 83) (v := undef) (a' := ?_) #[true, true, true, true, true, true, true, true, true, true, true, true, true, true, true, true, true, true, true, true, true, true, false, false, false, false, false, false, false, false, false, false, false, false, false] rfl rfl (any_of HT_.out (by kernel_rfl)) (fun _ _ _ h => h) (Or.inr ⟨by rfl, rfl⟩) ?_ ?_
              rotate_left
              ·simp only [Act.put, xA, xZ, xS, i64_w, i32_w]; rfl
              refine pure_ (i := 22) (N := some 84) (v := undef) (a' := ?_) #[true, true, true, true, true, true, true, true, true, true, true, true, true, true, true, true, true, true, true, true, true, true, true, false, false, false, false, false, false, false, false, false, false, false, false] rfl rfl (any_of HT_.out (by kernel_rfl)) (fun _ _ _ h => h) (Or.inr ⟨by rfl, rfl⟩) ?_ ?_
              rotate_left
              ·simp only [Act.put, xA, xZ, xS, i64_w, i32_w]; rfl
              refine pure_ (i := 23) (N := some 85) (v := undef) (a' := ?_) #[true, true, true, true, true, true, true, true, true, true, true, true, true, true, true, true, true, true, true, true, true, true, true, true, false, false, false, false, false, false, false, false, false, false, false] rfl rfl (any_of HT_.out (by kernel_rfl)) (fun _ _ _ h => h) (Or.inr ⟨by rfl, rfl⟩) ?_ ?_
              rotate_left
              ·simp only [Act.put, xA, xZ, xS, i64_w, i32_w]; rfl
              refine pure_ (i := 24) (N := some 86) (v := undef) (a' := ?_) #[true, true, true, true, true, true, true, true, true, true, true, true, true, true, true, true, true, true, true, true, true, true, true, true, true, false, false, false, false, false, false, false, false, false, false] rfl rfl (any_of HT_.out (by kernel_rfl)) (fun _ _ _ h => h) (Or.inr ⟨by rfl, rfl⟩) ?_ ?_
              rotate_left
              ·simp only [Act.put, xA, xZ, xS, i64_w, i32_w]; rfl
              refine pure_ (i := 25) (N := some 87) (v := undef) (a' := ?_) #[true, true, true, true, true, true, true, true, true, true, true, true, true, true, true, true, true, true, true, true, true, true, true, true, true, true, false, false, false, false, false, false, false, false, false] rfl rfl (any_of HT_.out (by kernel_rfl)) (fun _ _ _ h => h) (Or.inr ⟨by rfl, rfl⟩) ?_ ?_
              rotate_left
              ·simp only [Act.put, xA, xZ, xS, i64_w, i32_w]; rfl
              refine pure_ (i := 26) (N := some 88) (v := undef) (a' := ?_) #[true, true, true, true, true, true, true, true, true, true, true, true, true, true, true, true, true, true, true, true, true, true, true, true, true, true, true, false, false, false, false, false, false, false, false] rfl rfl (any_of HT_.out (by kernel_rfl)) (fun _ _ _ h => h) (Or.inr ⟨by rfl, rfl⟩) ?_ ?_
              rotate_left
              ·simp only [Act.put, xA, xZ, xS, i64_w, i32_w]; rfl
              refine pure_ (i := 27) (N := some 89) (v := undef) (a' := ?_) #[true, true, true, true, true, true, true, true, true, true, true, true, true, true, true, true, true, true, true, true, true, true, true, true, true, true, true, true, false, false, false, false, false, false, false] rfl rfl (any_of HT_.out (by kernel_rfl)) (fun _ _ _ h => h) (Or.inr ⟨by rfl, rfl⟩) ?_ ?_
              rotate_left
              ·simp only [Act.put, xA, xZ, xS, i64_w, i32_w]; rfl
              refine pure_ (i := 28) (N := some 90) (v := undef) (a' := ?_) #[true, true, true, true, true, true, true, true, true, true, true, true, true, true, true, true, true, true, true, true, true, true, true, true, true, true, true, true, true, false, false, false, false, false, false] rfl rfl (any_of HT_.out (by kernel_rfl)) (fun _ _ _ h => h) (Or.inr ⟨by rfl, rfl⟩) ?_ ?_
              rotate_left
              ·simp only [Act.put, xA, xZ, xS, i64_w, i32_w]; rfl
              refine pure_ (i := 29) (N := some 91) (v := undef) (a' := ?_) #[true, true, true, true, true, true, true, true, true, true, true, true, true, true, true, true, true, true, true, true, true, true, true, true, true, true, true, true, true, true, false, false, false, false, false] rfl rfl (any_of HT_.out (by kernel_rfl)) (fun _ _ _ h => h) (Or.inr ⟨by rfl, rfl⟩) ?_ ?_
              rotate_left
              ·simp only [Act.put, xA, xZ, xS, i64_w, i32_w]; rfl
              refine pure_ (i := 30) (N := some 92) (v := undef) (a' := ?_) #[true, true, true, true, true, true, true, true, true, true, true, true, true, true, true, true, true, true, true, true, true, true, true, true, true, true, true, true, true, true, true, false, false, false, false] rfl rfl (any_of HT_.out (by kernel_rfl)) (fun _ _ _ h => h) (Or.inr ⟨by rfl, rfl⟩) ?_ ?_
              rotate_left
              ·simp only [Act.put, xA, xZ, xS, i64_w, i32_w]; rfl
              refine pure_ (i := 31) (N := some 93) (v := undef) (a' := ?_) #[true, true, true, true, true, true, true, true, true, true, true, true, true, true, true, true, true, true, true, true, true, true, true, true, true, true, true, true, true, true, true, true, false, false, false] rfl rfl (any_of HT_.out (by kernel_rfl)) (fun _ _ _ h => h) (Or.inr ⟨by rfl, rfl⟩) ?_ ?_
              rotate_left
              ·simp only [Act.put, xA, xZ, xS, i64_w, i32_w]; rfl
              refine pure_ (i := 32) (N := some 94) (v := undef) (a' := ?_) #[true, true, true, true, true, true, true, true, true, true, true, true, true, true, true, true, true, true, true, true, true, true, true, true, true, true, true, true, true, true, true, true, true, false, false] rfl rfl (any_of HT_.out (by kernel_rfl)) (fun _ _ _ h => h) (Or.inr ⟨by rfl, rfl⟩) ?_ ?_
              rotate_left
              ·simp only [Act.put, xA, xZ, xS, i64_w, i32_w]; rfl
              refine pure_ (i := 33) (N := some 95) (v := undef) (a' := ?_) #[true, true, true, true, true, true, true, true, true, true, true, true, true, true, true, true, true, true, true, true, true, true, true, true, true, true, true, true, true, true, true, true, true, true, false] rfl rfl (any_of HT_.out (by kernel_rfl)) (fun _ _ _ h => h) (Or.inr ⟨by rfl, rfl⟩) ?_ ?_
              rotate_left
              ·simp only [Act.put, xA, xZ, xS, i64_w, i32_w]; rfl
              refine pure_ (i := 34) (N := some 96) (v := ?_) (a' := ?_) #[true, true, true, true, true, true, true, true, true, true, true, true, true, true, true, true, true, true, true, true, true, true, true, true, true, true, true, true, true, true, true, true, true, true, true] rfl rfl (any_of HT_.out (by kernel_rfl)) (fun _ _ _ h => h) (Or.inl ⟨by rfl, ?_⟩) ?_ ?_
              rotate_left
              ·intro w'; go_simp; with_reducible rfl
              rotate_left
              ·simp only [Act.put, xA, xZ, xS, i64_w, i32_w]; rfl
              refine done_ (done_of HT_.out (by kernel_rfl)) ?_
              try go_wp2
              go_meet
              case rel => exact ⟨_, (false), (by first | rfl | (simp; done) | (simp [*]; done)), H', ⟨by have := HK1.out; have := HJ11.out; have := HJ18.out; first | omega | exact Nat.le_refl _⟩, ⟨by (with_reducible repeat first | apply RA | apply RN | apply RD); exact HO795.out⟩, ⟨by (with_reducible repeat first | refine qN ?_ _ | refine qD ?_ | refine qA ?_ _); exact B764.out⟩, ⟨by (with_reducible repeat first | refine qN ?_ _ | refine qD ?_ | refine qA ?_ _); exact B797.out⟩, ⟨by repeat (first | (with_reducible first | exact HB.out | apply eA | apply eN | apply eD | refine eS ?_ GE764.out | refine eS ?_ GE797.out) | exact HB.out)⟩⟩
            ·replace c48 := Bool.eq_false_iff.mpr c48
             subst c48
             have H1 : (hogsheadlaw17_DeedWrites.j3 kj18 a0 a1 l2 t748 x10_18 x11_1 false t768 t769 t770 t771 t772 t773 t774 t775 t776 t777 t778 t779 t780 t781) = some r := by rw [if_neg (show ¬ (false = true) by decide)] at H; exact H
             clear H
             have H := H1
             clear H1
             have H' := qM H
             clear H
             try go_wp2
             have n0_ : Aside0 (Kd.R k69 69 ((((((((((((w44.setCell ⟨g797, 0, none⟩ (.int .i64 t782)).setCell ⟨g797, 1, none⟩ (.int .i64 t783)).setCell ⟨g797, 2, none⟩ (.int .i64 t784)).setCell ⟨g797, 3, none⟩ (.string t785)).setCell ⟨g797, 4, none⟩ (.int .i64 t786)).setCell ⟨g797, 5, none⟩ (.int .i64 t787)).setCell ⟨g797, 6, none⟩ (.int .i64 t788)).setCell ⟨g797, 7, none⟩ (.int .u32 t789)).setCell ⟨g797, 8, none⟩ (.int .i64 t790)).setCell ⟨g797, 9, none⟩ (.int .i64 t791)).setCell ⟨g797, 10, none⟩ (.int .i64 t792)).setCell ⟨g797, 11, none⟩ (.slice Ao47 t793.length co47)) w.heap.size (fun _ => True) (.slice Ao47 t793.length co47) t793) := ⟨by (with_reducible repeat first | apply RA | apply RN | apply RD); exact Kd.R_mono (Kd.R_far (p := ⟨g797, 11, none⟩) (Kd.R_far (p := ⟨g797, 10, none⟩) (Kd.R_far (p := ⟨g797, 9, none⟩) (Kd.R_far (p := ⟨g797, 8, none⟩) (Kd.R_far (p := ⟨g797, 7, none⟩) (Kd.R_far (p := ⟨g797, 6, none⟩) (Kd.R_far (p := ⟨g797, 5, none⟩) (Kd.R_far (p := ⟨g797, 4, none⟩) (Kd.R_far (p := ⟨g797, 3, none⟩) (Kd.R_far (p := ⟨g797, 2, none⟩) (Kd.R_far (p := ⟨g797, 1, none⟩) (Kd.R_far (p := ⟨g797, 0, none⟩) (Kd.R_types HO795.out B797.out (by decide)) (fun _ hk => hk.2) (.int .i64 t782)) (fun _ hk => hk.2) (.int .i64 t783)) (fun _ hk => hk.2) (.int .i64 t784)) (fun _ hk => hk.2) (.string t785)) (fun _ hk => hk.2) (.int .i64 t786)) (fun _ hk => hk.2) (.int .i64 t787)) (fun _ hk => hk.2) (.int .i64 t788)) (fun _ hk => hk.2) (.int .u32 t789)) (fun _ hk => hk.2) (.int .i64 t790)) (fun _ hk => hk.2) (.int .i64 t791)) (fun _ hk => hk.2) (.int .i64 t792)) (fun _ hk => hk.2) (.slice Ao47 t793.length co47)) (fun _ hk => trivial)⟩
             have n1_ : Aside0 (((((((((((((w44.setCell ⟨g797, 0, none⟩ (.int .i64 t782)).setCell ⟨g797, 1, none⟩ (.int .i64 t783)).setCell ⟨g797, 2, none⟩ (.int .i64 t784)).setCell ⟨g797, 3, none⟩ (.string t785)).setCell ⟨g797, 4, none⟩ (.int .i64 t786)).setCell ⟨g797, 5, none⟩ (.int .i64 t787)).setCell ⟨g797, 6, none⟩ (.int .i64 t788)).setCell ⟨g797, 7, none⟩ (.int .u32 t789)).setCell ⟨g797, 8, none⟩ (.int .i64 t790)).setCell ⟨g797, 9, none⟩ (.int .i64 t791)).setCell ⟨g797, 10, none⟩ (.int .i64 t792)).setCell ⟨g797, 11, none⟩ (.slice Ao47 t793.length co47)).heap[g764]? = some (.cells #[.int .i64 t768, .int .i64 t769, .string t770, .string t771, .int .i64 t772, .int .i64 t773, .int .i64 t774, .int .i64 t775, .int .i64 t776, .int .u32 t777, .int .i64 t778, .int .i64 t779, .string t780, .bool t781] 28 (0, 0))) := ⟨by (with_reducible repeat first | refine qN ?_ _ | refine qD ?_ | refine qA ?_ _); (iterate 12 (refine qR ?_ NB764_797.out _; (with_reducible repeat first | refine qN ?_ _ | refine qD ?_ | refine qA ?_ _))); exact B764.out⟩
             have n2_ : Aside0 (((((((((((((w44.setCell ⟨g797, 0, none⟩ (.int .i64 t782)).setCell ⟨g797, 1, none⟩ (.int .i64 t783)).setCell ⟨g797, 2, none⟩ (.int .i64 t784)).setCell ⟨g797, 3, none⟩ (.string t785)).setCell ⟨g797, 4, none⟩ (.int .i64 t786)).setCell ⟨g797, 5, none⟩ (.int .i64 t787)).setCell ⟨g797, 6, none⟩ (.int .i64 t788)).setCell ⟨g797, 7, none⟩ (.int .u32 t789)).setCell ⟨g797, 8, none⟩ (.int .i64 t790)).setCell ⟨g797, 9, none⟩ (.int .i64 t791)).setCell ⟨g797, 10, none⟩ (.int .i64 t792)).setCell ⟨g797, 11, none⟩ (.slice Ao47 t793.length co47)).heap[g797]? = some (.cells #[.int .i64 t782, .int .i64 t783, .int .i64 t784, .string t785, .int .i64 t786, .int .i64 t787, .int .i64 t788, .int .u32 t789, .int .i64 t790, .int .i64 t791, .int .i64 t792, .slice Ao47 t793.length co47] 36 (0, 0))) := ⟨by (with_reducible repeat first | refine qN ?_ _ | refine qD ?_ | refine qA ?_ _); apply puts12; (with_reducible repeat first | refine qN ?_ _ | refine qD ?_ | refine qA ?_ _); exact B797.out⟩
             have n3_ : Aside0 (Below w.heap.size w ((((((((((((w44.setCell ⟨g797, 0, none⟩ (.int .i64 t782)).setCell ⟨g797, 1, none⟩ (.int .i64 t783)).setCell ⟨g797, 2, none⟩ (.int .i64 t784)).setCell ⟨g797, 3, none⟩ (.string t785)).setCell ⟨g797, 4, none⟩ (.int .i64 t786)).setCell ⟨g797, 5, none⟩ (.int .i64 t787)).setCell ⟨g797, 6, none⟩ (.int .i64 t788)).setCell ⟨g797, 7, none⟩ (.int .u32 t789)).setCell ⟨g797, 8, none⟩ (.int .i64 t790)).setCell ⟨g797, 9, none⟩ (.int .i64 t791)).setCell ⟨g797, 10, none⟩ (.int .i64 t792)).setCell ⟨g797, 11, none⟩ (.slice Ao47 t793.length co47))) := ⟨by repeat (first | (with_reducible first | exact HB.out | apply eA | apply eN | apply eD | refine eS ?_ GE764.out | refine eS ?_ GE797.out) | exact HB.out)⟩
             (try clear HO795)
             (try clear B764)
             (try clear B797)
             (try clear HB)
             generalize ((((((((((((w44.setCell ⟨g797, 0, none⟩ (.int .i64 t782)).setCell ⟨g797, 1, none⟩ (.int .i64 t783)).setCell ⟨g797, 2, none⟩ (.int .i64 t784)).setCell ⟨g797, 3, none⟩ (.string t785)).setCell ⟨g797, 4, none⟩ (.int .i64 t786)).setCell ⟨g797, 5, none⟩ (.int .i64 t787)).setCell ⟨g797, 6, none⟩ (.int .i64 t788)).setCell ⟨g797, 7, none⟩ (.int .u32 t789)).setCell ⟨g797, 8, none⟩ (.int .i64 t790)).setCell ⟨g797, 9, none⟩ (.int .i64 t791)).setCell ⟨g797, 10, none⟩ (.int .i64 t792)).setCell ⟨g797, 11, none⟩ (.slice Ao47 t793.length co47)) = w67 at n0_ n1_ n2_ n3_ ⊢
             have HO795 := n0_
             have B764 := n1_
             have B797 := n2_
             have HB := n3_
             clear n0_ n1_ n2_ n3_
             have n0_ := qM (Kd.R_drew HO795.out)
             have n1_ := qM (blk_drew B764.out)
             have n2_ := qM (blk_drew B797.out)
             have n3_ := qM (below_drew1 HB.out)
             clear HO795
             clear B764
             clear B797
             clear HB
             have HO795 := n0_
             have B764 := n1_
             have B797 := n2_
             have HB := n3_
             clear n0_ n1_ n2_ n3_
             refine start_ (n := 35) (S := fun w' => True) (ds := []) #[false, false, false, false, false, false, false, false, false, false, false, false, false, false, false, false, false, false, false, false, false, false, false, false, false, false, false, false, false, false, false, false, false, false, false] (by kernel_rfl) rfl rfl trivial (fun hHeld => ?_); refine with_tabW hogsheadlaw17_DeedWrites.tab13 hogsheadlaw17_DeedWrites.bits13 (fun HT_ HW_ => ?_)
             generalize w67.drew = w68 at HO795 B764 B797 HB hHeld ⊢
             refine pure_ (i := 0) (N := some 62) (v := ?_) (a' := ?_) #[true, false, false, false, false, false, false, false, false, false, false, false, false, false, false, false, false, false, false, false, false, false, false, false, false, false, false, false, false, false, false, false, false, false, false] rfl rfl (any_of HT_.out (by kernel_rfl)) (fun _ _ _ h => h) (Or.inl ⟨by rfl, ?_⟩) ?_ ?_
             rotate_left
             ·intro w'; go_simp; with_reducible rfl
             rotate_left
             ·simp only [Act.put, xA, xZ, xS, i64_w, i32_w]; rfl
             refine pure_ (i := 1) (N := some 63) (v := ?_) (a' := ?_) #[true, true, false, false, false, false, false, false, false, false, false, false, false, false, false, false, false, false, false, false, false, false, false, false, false, false, false, false, false, false, false, false, false, false, false] rfl rfl (any_of HT_.out (by kernel_rfl)) (fun _ _ _ h => h) (Or.inl ⟨by rfl, ?_⟩) ?_ ?_
             rotate_left
             ·intro w'; go_simp; with_reducible rfl
             rotate_left
             ·simp only [Act.put, xA, xZ, xS, i64_w, i32_w]; rfl
             refine pure_ (i := 2) (N := some 64) (v := undef) (a' := ?_) #[true, true, true, false, false, false, false, false, false, false, false, false, false, false, false, false, false, false, false, false, false, false, false, false, false, false, false, false, false, false, false, false, false, false, false] rfl rfl (any_of HT_.out (by kernel_rfl)) (fun _ _ _ h => h) (Or.inr ⟨by rfl, rfl⟩) ?_ ?_
             rotate_left
             ·simp only [Act.put, xA, xZ, xS, i64_w, i32_w]; rfl
             refine pure_ (i := 3) (N := some 65) (v := undef) (a' := ?_) #[true, true, true, true, false, false, false, false, false, false, false, false, false, false, false, false, false, false, false, false, false, false, false, false, false, false, false, false, false, false, false, false, false, false, false] rfl rfl (any_of HT_.out (by kernel_rfl)) (fun _ _ _ h => h) (Or.inr ⟨by rfl, rfl⟩) ?_ ?_
             rotate_left
             ·simp only [Act.put, xA, xZ, xS, i64_w, i32_w]; rfl
             refine pure_ (i := 4) (N := some 66) (v := undef) (a' := ?_) #[true, true, true, true, true, false, false, false, false, false, false, false, false, false, false, false, false, false, false, false, false, false, false, false, false, false, false, false, false, false, false, false, false, false, false] rfl rfl (any_of HT_.out (by kernel_rfl)) (fun _ _ _ h => h) (Or.inr ⟨by rfl, rfl⟩) ?_ ?_
             rotate_left
             ·simp only [Act.put, xA, xZ, xS, i64_w, i32_w]; rfl
             refine pure_ (i := 5) (N := some 67) (v := ?_) (a' := ?_) #[true, true, true, true, true, true, false, false, false, false, false, false, false, false, false, false, false, false, false, false, false, false, false, false, false, false, false, false, false, false, false, false, false, false, false] rfl rfl (any_of HT_.out (by kernel_rfl)) (fun _ _ _ h => h) (Or.inl ⟨by rfl, ?_⟩) ?_ ?_
             rotate_left
             ·intro w'; go_simp; with_reducible rfl
             rotate_left
             ·simp only [Act.put, xA, xZ, xS, i64_w, i32_w]; rfl
             refine pure_ (i := 6) (N := some 68) (v := ?_) (a' := ?_) #[true, true, true, true, true, true, true, false, false, false, false, false, false, false, false, false, false, false, false, false, false, false, false, false, false, false, false, false, false, false, false, false, false, false, false] rfl rfl (any_of HT_.out (by kernel_rfl)) (fun _ _ _ h => h) (Or.inl ⟨by rfl, ?_⟩) ?_ ?_
             rotate_left
             ·intro w'; go_simp; with_reducible rfl
             rotate_left
             ·simp only [Act.put, xA, xZ, xS, i64_w, i32_w]; rfl
             refine pure_ (i := 7) (N := some 69) (v := undef) (a' := ?_) #[true, true, true, true, true, true, true, true, false, false, false, false, false, false, false, false, false, false, false, false, false, false, false, false, false, false, false, false, false, false, false, false, false, false, false] rfl rfl (any_of HT_.out (by kernel_rfl)) (fun _ _ _ h => h) (Or.inr ⟨by rfl, rfl⟩) ?_ ?_
             rotate_left
             ·simp only [Act.put, xA, xZ, xS, i64_w, i32_w]; rfl
             refine pure_ (i := 8) (N := some 70) (v := undef) (a' := ?_) #[true, true, true, true, true, true, true, true, true, false, false, false, false, false, false, false, false, false, false, false, false, false, false, false, false, false, false, false, false, false, false, false, false, false, false] rfl rfl (any_of HT_.out (by kernel_rfl)) (fun _ _ _ h => h) (Or.inr ⟨by rfl, rfl⟩) ?_ ?_
             rotate_left
             ·simp only [Act.put, xA, xZ, xS, i64_w, i32_w]; rfl
             refine pure_ (i := 9) (N := some 71) (v := undef) (a' := ?_) #[true, true, true, true, true, true, true, true, true, true, false, false, false, false, false, false, false, false, false, false, false, false, false, false, false, false, false, false, false, false, false, false, false, false, false] rfl rfl (any_of HT_.out (by kernel_rfl)) (fun _ _ _ h => h) (Or.inr ⟨by rfl, rfl⟩) ?_ ?_
             rotate_left
             ·simp only [Act.put, xA, xZ, xS, i64_w, i32_w]; rfl
             refine pure_ (i := 10) (N := some 72) (v := undef) (a' := ?_) #[true, true, true, true, true, true, true, true, true, true, true, false, false, false, false, false, false, false, false, false, false, false, false, false, false, false, false, false, false, false, false, false, false, false, false] rfl rfl (any_of HT_.out (by kernel_rfl)) (fun _ _ _ h => h) (Or.inr ⟨by rfl, rfl⟩) ?_ ?_
             rotate_left
             ·simp only [Act.put, xA, xZ, xS, i64_w, i32_w]; rfl
             refine pure_ (i := 11) (N := some 73) (v := undef) (a' := ?_) #[true, true, true, true, true, true, true, true, true, true, true, true, false, false, false, false, false, false, false, false, false, false, false, false, false, false, false, false, false, false, false, false, false, false, false] rfl rfl (any_of HT_.out (by kernel_rfl)) (fun _ _ _ h => h) (Or.inr ⟨by rfl, rfl⟩) ?_ ?_
             rotate_left
             ·simp only [Act.put, xA, xZ, xS, i64_w, i32_w]; rfl
             refine pure_ (i := 12) (N := some 74) (v := undef) (a' := ?_) #[true, true, true, true, true, true, true, true, true, true, true, true, true, false, false, false, false, false, false, false, false, false, false, false, false, false, false, false, false, false, false, false, false, false, false] rfl rfl (any_of HT_.out (by kernel_rfl)) (fun _ _ _ h => h) (Or.inr ⟨by rfl, rfl⟩) ?_ ?_
             rotate_left
             ·simp only [Act.put, xA, xZ, xS, i64_w, i32_w]; rfl
             refine pure_ (i := 13) (N := some 75) (v := undef) (a' := ?_) #[true, true, true, true, true, true, true, true, true, true, true, true, true, true, false, false, false, false, false, false, false, false, false, false, false, false, false, false, false, false, false, false, false, false, false] rfl rfl (any_of HT_.out (by kernel_rfl)) (fun _ _ _ h => h) (Or.inr ⟨by rfl, rfl⟩) ?_ ?_
             rotate_left
             ·simp only [Act.put, xA, xZ, xS, i64_w, i32_w]; rfl
             refine pure_ (i := 14) (N := some 76) (v := undef) (a' := ?_) #[true, true, true, true, true, true, true, true, true, true, true, true, true, true, true, false, false, false, false, false, false, false, false, false, false, false, false, false, false, false, false, false, false, false, false] rfl rfl (any_of HT_.out (by kernel_rfl)) (fun _ _ _ h => h) (Or.inr ⟨by rfl, rfl⟩) ?_ ?_
             rotate_left
             ·simp only [Act.put, xA, xZ, xS, i64_w, i32_w]; rfl
             refine pure_ (i := 15) (N := some 77) (v := undef) (a' := ?_) #[true, true, true, true, true, true, true, true, true, true, true, true, true, true, true, true, false, false, false, false, false, false, false, false, false, false, false, false, false, false, false, false, false, false, false] rfl rfl (any_of HT_.out (by kernel_rfl)) (fun _ _ _ h => h) (Or.inr ⟨by rfl, rfl⟩) ?_ ?_
             rotate_left
             ·simp only [Act.put, xA, xZ, xS, i64_w, i32_w]; rfl
             refine pure_ (i := 16) (N := some 78) (v := undef) (a' := ?_) #[true, true, true, true, true, true, true, true, true, true, true, true, true, true, true, true, true, false, false, false, false, false, false, false, false, false, false, false, false, false, false, false, false, false, false] rfl rfl (any_of HT_.out (by kernel_rfl)) (fun _ _ _ h => h) (Or.inr ⟨by rfl, rfl⟩) ?_ ?_
             rotate_left
             ·simp only [Act.put, xA, xZ, xS, i64_w, i32_w]; rfl
             refine pure_ (i := 17) (N := some 79) (v := undef) (a' := ?_) #[true, true, true, true, true, true, true, true, true, true, true, true, true, true, true, true, true, true, false, false, false, false, false, false, false, false, false, false, false, false, false, false, false, false, false] rfl rfl (any_of HT_.out (by kernel_rfl)) (fun _ _ _ h => h) (Or.inr ⟨by rfl, rfl⟩) ?_ ?_
             rotate_left
             ·simp only [Act.put, xA, xZ, xS, i64_w, i32_w]; rfl
             refine pure_ (i := 18) (N := some 80) (v := undef) (a' := ?_) #[true, true, true, true, true, true, true, true, true, true, true, true, true, true, true, true, true, true, true, false, false, false, false, false, false, false, false, false, false, false, false, false, false, false, false] rfl rfl (any_of HT_.out (by kernel_rfl)) (fun _ _ _ h => h) (Or.inr ⟨by rfl, rfl⟩) ?_ ?_
             rotate_left
             ·simp only [Act.put, xA, xZ, xS, i64_w, i32_w]; rfl
             refine pure_ (i := 19) (N := some 81) (v := undef) (a' := ?_) #[true, true, true, true, true, true, true, true, true, true, true, true, true, true, true, true, true, true, true, true, false, false, false, false, false, false, false, false, false, false, false, false, false, false, false] rfl rfl (any_of HT_.out (by kernel_rfl)) (fun _ _ _ h => h) (Or.inr ⟨by rfl, rfl⟩) ?_ ?_
             rotate_left
             ·simp only [Act.put, xA, xZ, xS, i64_w, i32_w]; rfl
             refine pure_ (i := 20) (N := some 82) (v := undef) (a' := ?_) #[true, true, true, true, true, true, true, true, true, true, true, true, true, true, true, true, true, true, true, true, true, false, false, false, false, false, false, false, false, false, false, false, false, false, false] rfl rfl (any_of HT_.out (by kernel_rfl)) (fun _ _ _ h => h) (Or.inr ⟨by rfl, rfl⟩) ?_ ?_
             rotate_left
             ·simp only [Act.put, xA, xZ, xS, i64_w, i32_w]; rfl
             refine pure_ (i := 21) (N := some 83) (v := undef) (a' := ?_) #[true, true, true, true, true, true, true, true, true, true, true, true, true, true, true, true, true, true, true, true, true, true, false, false, false, false, false, false, false, false, false, false, false, false, false] rfl rfl (any_of HT_.out (by kernel_rfl)) (fun _ _ _ h => h) (Or.inr ⟨by rfl, rfl⟩) ?_ ?_
             rotate_left
             ·simp only [Act.put, xA, xZ, xS, i64_w, i32_w]; rfl
             refine pure_ (i := 22) (N := some 84) (v := undef) (a' := ?_) #[true, true, true, true, true, true, true, true, true, true, true, true, true, true, true, true, true, true, true, true, true, true, true, false, false, false, false, false, false, false, false, false, false, false, false] rfl rfl (any_of HT_.out (by kernel_rfl)) (fun _ _ _ h => h) (Or.inr ⟨by rfl, rfl⟩) ?_ ?_
             rotate_left
             ·simp only [Act.put, xA, xZ, xS, i64_w, i32_w]; rfl
             refine pure_ (i := 23) (N := some 85) (v := undef) (a' := ?_) #[true, true, true, true, true, true, true, true, true, true, true, true, true, true, true, true, true, true, true, true, true, true, true, true, false, false, false, false, false, false, false, false, false, false, false] rfl rfl (any_of HT_.out (by kernel_rfl)) (fun _ _ _ h => h) (Or.inr ⟨by rfl, rfl⟩) ?_ ?_
             rotate_left
             ·simp only [Act.put, xA, xZ, xS, i64_w, i32_w]; rfl
             refine pure_ (i := 24) (N := some 86) (v := undef) (a' := ?_) #[true, true, true, true, true, true, true, true, true, true, true, true, true, true, true, true, true, true, true, true, true, true, true, true, true, false, false, false, false, false, false, false, false, false, false] rfl rfl (any_of HT_.out (by kernel_rfl)) (fun _ _ _ h => h) (Or.inr ⟨by rfl, rfl⟩) ?_ ?_
             rotate_left
             ·simp only [Act.put, xA, xZ, xS, i64_w, i32_w]; rfl
             refine pure_ (i := 25) (N := some 87) (v := undef) (a' := ?_) #[true, true, true, true, true, true, true, true, true, true, true, true, true, true, true, true, true, true, true, true, true, true, true, true, true, true, false, false, false, false, false, false, false, false, false] rfl rfl (any_of HT_.out (by kernel_rfl)) (fun _ _ _ h => h) (Or.inr ⟨by rfl, rfl⟩) ?_ ?_
             rotate_left
             ·simp only [Act.put, xA, xZ, xS, i64_w, i32_w]; rfl
             refine pure_ (i := 26) (N := some 88) (v := undef) (a' := ?_) #[true, true, true, true, true, true, true, true, true, true, true, true, true, true, true, true, true, true, true, true, true, true, true, true, true, true, true, false, false, false, false, false, false, false, false] rfl rfl (any_of HT_.out (by kernel_rfl)) (fun _ _ _ h => h) (Or.inr ⟨by rfl, rfl⟩) ?_ ?_
             rotate_left
             ·simp only [Act.put, xA, xZ, xS, i64_w, i32_w]; rfl
             refine pure_ (i := 27) (N := some 89) (v := undef) (a' := ?_) #[true, true, true, true, true, true, true, true, true, true, true, true, true, true, true, true, true, true, true, true, true, true, true, true, true, true, true, true, false, false, false, false, false, false, false] rfl rfl (any_of HT_.out (by kernel_rfl)) (fun _ _ _ h => h) (Or.inr ⟨by rfl, rfl⟩) ?_ ?_
             rotate_left
             ·simp only [Act.put, xA, xZ, xS, i64_w, i32_w]; rfl
             refine pure_ (i := 28) (N := some 90) (v := undef) (a' := ?_) #[true, true, true, true, true, true, true, true, true, true, true, true, true, true, true, true, true, true, true, true, true, true, true, true, true, true, true, true, true, false, false, false, false, false, false] rfl rfl (any_of HT_.out (by kernel_rfl)) (fun _ _ _ h => h) (Or.inr ⟨by rfl, rfl⟩) ?_ ?_
             rotate_left
             ·simp only [Act.put, xA, xZ, xS, i64_w, i32_w]; rfl
             refine pure_ (i := 29) (N := some 91) (v := undef) (a' := ?_) #[true, true, true, true, true, true, true, true, true, true, true, true, true, true, true, true, true, true, true, true, true, true, true, true, true, true, true, true, true, true, false, false, false, false, false] rfl rfl (any_of HT_.out (by kernel_rfl)) (fun _ _ _ h => h) (Or.inr ⟨by rfl, rfl⟩) ?_ ?_
             rotate_left
             ·simp only [Act.put, xA, xZ, xS, i64_w, i32_w]; rfl
             refine pure_ (i := 30) (N := some 92) (v := undef) (a' := ?_) #[true, true, true, true, true, true, true, true, true, true, true, true, true, true, true, true, true, true, true, true, true, true, true, true, true, true, true, true, true, true, true, false, false, false, false] rfl rfl (any_of HT_.out (by kernel_rfl)) (fun _ _ _ h => h) (Or.inr ⟨by rfl, rfl⟩) ?_ ?_
             rotate_left
             ·simp only [Act.put, xA, xZ, xS, i64_w, i32_w]; rfl
             refine pure_ (i := 31) (N := some 93) (v := undef) (a' := ?_) #[true, true, true, true, true, true, true, true, true, true, true, true, true, true, true, true, true, true, true, true, true, true, true, true, true, true, true, true, true, true, true, true, false, false, false] rfl rfl (any_of HT_.out (by kernel_rfl)) (fun _ _ _ h => h) (Or.inr ⟨by rfl, rfl⟩) ?_ ?_
             rotate_left
             ·simp only [Act.put, xA, xZ, xS, i64_w, i32_w]; rfl
             refine pure_ (i := 32) (N := some 94) (v := undef) (a' := ?_) #[true, true, true, true, true, true, true, true, true, true, true, true, true, true, true, true, true, true, true, true, true, true, true, true, true, true, true, true, true, true, true, true, true, false, false] rfl rfl (any_of HT_.out (by kernel_rfl)) (fun _ _ _ h => h) (Or.inr ⟨by rfl, rfl⟩) ?_ ?_
             rotate_left
             ·simp only [Act.put, xA, xZ, xS, i64_w, i32_w]; rfl
             refine pure_ (i := 33) (N := some 95) (v := undef) (a' := ?_) #[true, true, true, true, true, true, true, true, true, true, true, true, true, true, true, true, true, true, true, true, true, true, true, true, true, true, true, true, true, true, true, true, true, true, false] rfl rfl (any_of HT_.out (by kernel_rfl)) (fun _ _ _ h => h) (Or.inr ⟨by rfl, rfl⟩) ?_ ?_
             rotate_left
             ·simp only [Act.put, xA, xZ, xS, i64_w, i32_w]; rfl
             refine pure_ (i := 34) (N := some 96) (v := ?_) (a' := ?_) #[true, true, true, true, true, true, true, true, true, true, true, true, true, true, true, true, true, true, true, true, true, true, true, true, true, true, true, true, true, true, true, true, true, true, true] rfl rfl (any_of HT_.out (by kernel_rfl)) (fun _ _ _ h => h) (Or.inl ⟨by rfl, ?_⟩) ?_ ?_
             rotate_left
             ·intro w'; go_simp; with_reducible rfl
             rotate_left
             ·simp only [Act.put, xA, xZ, xS, i64_w, i32_w]; rfl
             refine done_ (done_of HT_.out (by kernel_rfl)) ?_
             try go_wp2
             go_meet
             case rel => exact ⟨_, (false), (by first | rfl | (simp; done) | (simp [*]; done)), H', ⟨by have := HK1.out; have := HJ11.out; have := HJ18.out; first | omega | exact Nat.le_refl _⟩, ⟨by (with_reducible repeat first | apply RA | apply RN | apply RD); exact HO795.out⟩, ⟨by (with_reducible repeat first | refine qN ?_ _ | refine qD ?_ | refine qA ?_ _); exact B764.out⟩, ⟨by (with_reducible repeat first | refine qN ?_ _ | refine qD ?_ | refine qA ?_ _); exact B797.out⟩, ⟨by repeat (first | (with_reducible first | exact HB.out | apply eA | apply eN | apply eD | refine eS ?_ GE764.out | refine eS ?_ GE797.out) | exact HB.out)⟩⟩
           case rest =>
            clear HC25
            try clear p2
            try clear c4
            try clear c48
            try clear c49
            try clear c49b0
            try clear c49b1
            obtain ⟨kq, x96_24, rfl, HA, HJ24, HO_798011, B764, B797, HB⟩ := hcut
            cases kq with
            | zero => exact absurd HA.out (by simp [hogsheadlaw17_DeedWrites.j3])
            | succ kj24 =>
             have H := HA.out
             clear HA
             simp only [hogsheadlaw17_DeedWrites.j3] at H
             by_cases c69 : x96_24 = true
             ·subst c69
              have H1 : (some false) = some r := by rw [if_pos rfl] at H; exact H
              clear H
              have H := H1
              clear H1
              obtain rfl := Option.some.inj H
              go_wp2
              go_ret
              exact ⟨by first | rfl | (simp [errW_none, errW_some] <;> rfl) | (simp [*, errW_none, errW_some] <;> rfl), by repeat (first | (with_reducible first | exact HB.out | apply eA | apply eN | apply eD | refine eS ?_ GE764.out | refine eS ?_ GE797.out) | exact HB.out)⟩
             ·replace c69 := Bool.eq_false_iff.mpr c69
              subst c69
              have H1 : (hogsheadlaw17_DeedWrites.l0 kj24 a0 a1 l2 t748 x10_18 (wrap64 (x11_1 + 1)) t768 t769 t770 t771 t772 t773 t774 t775 t776 t777 t778 t779 t780 t781) = some r := by rw [if_neg (show ¬ (false = true) by decide)] at H; exact H
              clear H
              have H := H1
              clear H1
              have H' := qM H
              clear H
              go_wp2
              go_roundg kj24
              case measure => have := HK1.out; have := HJ11.out; have := HJ18.out; have := HJ24.out; omega
              case rel => exact ⟨(x10_18), (wrap64 (x11_1 + 1)), (t768), (t769), (t770), (t771), (t772), (t773), (t774), (t775), (t776), (t777), (t778), (t779), (t780), (t781), (by first | rfl | (simp; done) | (simp [*]; done)), (by first | rfl | (simp; done) | (simp [*]; done)), H', ⟨by have := HK1.out; have := HJ11.out; have := HJ18.out; have := HJ24.out; omega⟩, ⟨by (with_reducible repeat first | refine qN ?_ _ | refine qD ?_ | refine qA ?_ _); exact B764.out⟩, ⟨by repeat (first | (with_reducible first | exact HB.out | apply eA | apply eN | apply eD | refine eS ?_ GE764.out | refine eS ?_ GE797.out) | exact HB.out)⟩⟩
          ·rw [if_neg c22] at H
           exact absurd H (by simp)
         ·rw [if_neg c21] at H
          exact absurd H (by simp)
    ·rw [if_neg c11] at H
     have c11b0 : decide (x11_1 < (l2.length : Int)) = false := decide_eq_false c11
     clear c11
     obtain rfl := Option.some.inj H
     go_wp2
     go_ret
     exact ⟨by first | rfl | (simp [errW_none, errW_some] <;> rfl) | (simp [*, errW_none, errW_some] <;> rfl), by repeat (first | (with_reducible first | exact HB.out | apply eA | apply eN | apply eD | refine eS ?_ GE764.out) | exact HB.out)⟩
 ·rw [if_neg c6] at H
  have c6b0 : (t763 == 0) = false := beq_eq_false_iff_ne.mpr c6
  have c6b1 : (t763 != 0) = true := bne_iff_ne.mpr c6
  obtain rfl := Option.some.inj H
  go_enter Try.func7, Try.ntmps7
  go_wp2_with (first | ((with_reducible refine gate_callee (f := 9) rfl ?_); refine goesL_ (some 14) rfl rfl Try.func9 (by kernel_rfl) rfl #[] rfl (by (try simp only [List.map_toArray, List.map_cons, List.map_nil]); first | done | rfl | (simp only [List.length_drop, List.length_take]; rfl)) ?_; (with_reducible refine (hogsheadlaw17_shown.calls k  t748 _ A4.out).mono ?_); rintro e w70 ⟨rfl, hb⟩; refine ⟨_, rfl, ?_⟩; have n0_ := qM (eT (by repeat (first | (with_reducible first | exact HB.out | apply eA | apply eN | apply eD) | exact HB.out)) hb); clear HB; have HB := n0_; clear n0_; (try clear hb); (try clear hb2); (try clear hk); (try clear hi)) | ((with_reducible refine gate_callee (f := 10) rfl ?_); refine goesL_ (some 18) rfl rfl Try.func10 (by kernel_rfl) rfl #[.int .i64 1, .int .i64 1, .string a0, .string a1, .int .i64 0] rfl (by (try simp only [List.map_toArray, List.map_cons, List.map_nil]); first | done | rfl | (simp only [List.length_drop, List.length_take]; rfl)) ?_; (with_reducible refine (deed_New.calls k 1 1 a0 a1 0 t749 t750 t751 t752 t753 t754 t755 t756 t757 t758 t759 t760 t761 t762 t763 _ A5.out).mono ?_); rintro e w71 ⟨rfl, hb⟩; refine ⟨_, rfl, ?_⟩; have n0_ := qM (eT (by repeat (first | (with_reducible first | exact HB.out | apply eA | apply eN | apply eD) | exact HB.out)) hb); clear HB; have HB := n0_; clear n0_; (try clear hb); (try clear hb2); (try clear hk); (try clear hi)) | ((with_reducible refine gate_dst (N := 8) rfl ?_); (try (refine gate_guard (by rfl) ?_; dsimp only)); refine box_event ?hg (N := 8) ?hd (cs := #[.int .i64 0, .int .i64 0, .string (⟨#[]⟩ : ByteArray), .string (⟨#[]⟩ : ByteArray), .int .i64 0, .int .i64 0, .int .i64 0, .int .i64 0, .int .i64 0, .int .u32 0, .int .i64 0, .int .i64 0, .string (⟨#[]⟩ : ByteArray), .bool false]) (t := 28) ?hr ?_; (case hd => rfl); (case hg => rfl); (case hr => first | (go_simp; done) | (go_simp; rfl)); intro g764 hg w72 hbox hb; have n0_ := qM (eT (by repeat (first | (with_reducible first | exact HB.out | apply eA | apply eN | apply eD) | exact HB.out)) hb); have n1_ := qM (hbox); have n2_ := qM ((by rw [hg]; exact (eZ (by repeat (first | (with_reducible first | exact HB.out | apply eA | apply eN | apply eD) | exact HB.out))) : w.heap.size ≤ g764)); have n3_ := n2_; clear HB; have HB := n0_; have B764 := n1_; have GW764 := n2_; have GE764 := n3_; clear n0_ n1_ n2_ n3_; clear hb hbox hg; obtain ⟨z73_0, z73_1, z73_2, z73_3, z73_4, z73_5, z73_6, z73_7, z73_8, z73_9, z73_10, z73_11, z73_12, z73_13, f73_0, f73_1, f73_2, f73_3, f73_4, f73_5, f73_6, f73_7, f73_8, f73_9, f73_10, f73_11, f73_12, f73_13⟩ := cells14 B764.out))
  go_ret
  exact ⟨by first | rfl | (simp [errW_none, errW_some] <;> rfl) | (simp [*, errW_none, errW_some] <;> rfl), by repeat (first | (with_reducible first | exact HB.out | apply eA | apply eN | apply eD | refine eS ?_ GE764.out) | exact HB.out)⟩

end Go.Proofs.Ytmjmmgefkebggaa.PAll
