/- Functions of the program as plain Lean functions, and that each call comes to what they say. Laid by a program of this session (hprint.py); Lean checks it. -/
import Derived.Test.YtmjmmgefkebggaaPAllx0
import Derived.Test.YtmjmmgefkebggaaPAllx1
import Derived.Test.YtmjmmgefkebggaaPAllx10
import Derived.Test.YtmjmmgefkebggaaPAllx11
import Derived.Test.YtmjmmgefkebggaaPAllx20
import Derived.Test.YtmjmmgefkebggaaPAllx22
import Derived.Test.YtmjmmgefkebggaaPAllx23
import Derived.Test.YtmjmmgefkebggaaPAllx24
import Derived.Test.YtmjmmgefkebggaaPAllx25
import Derived.Test.YtmjmmgefkebggaaPAllx26
import Derived.Test.YtmjmmgefkebggaaPAllx27
import Derived.Test.YtmjmmgefkebggaaPAllx28
import Derived.Test.YtmjmmgefkebggaaPAllx29
namespace Go.Proofs.Ytmjmmgefkebggaa.PAll
open Go.RowKit Go.Proofs.YtmjmmgefkebggaaW.PrintWords Go.Proofs.YtmjmmgefkebggaaW.PrintLast Go.Proofs.YtmjmmgefkebggaaW.PrintMore
attribute [local go_sem] max2_int min2_int max_two min_two max_three min_three max_four min_four   -- for this text's walks alone
set_option linter.unusedVariables false
set_option linter.unusedSimpArgs false
attribute [local irreducible] World.setCell

attribute [local go_sem high] eqA28
theorem ltS {W : World} {g : Nat} {p : Addr} {v : Value} (h : g < W.heap.size) : g < (W.setCell p v).heap.size := Nat.lt_of_lt_of_le h ((Below.refl 0 W).setCell (Nat.zero_le _) v).size
theorem ltN {W : World} {g n : Nat} (h : g < W.heap.size) : g < (W.drewN n).heap.size := h
theorem ltD {W : World} {g : Nat} (h : g < W.heap.size) : g < W.drew.heap.size := h
theorem ltA {W : World} {g : Nat} {o : Obj} (h : g < W.heap.size) : g < (W.alloc o).heap.size := by
  simp
  omega
/-! ### hogsheadlaw17_DeedGoes: function 5 -/
mutual
def hogsheadlaw17_DeedGoes.j0 : Nat → ByteArray → Int → Bool → Bool → Int → Int → ByteArray → ByteArray → Int → Int → Int → Int → Int → Int → Int → Int → ByteArray → Bool → Option (Bool)
 | 0, _, _, _, _, _, _, _, _, _, _, _, _, _, _, _, _, _, _ => none
 | k + 1, x6, x7, x8, x9, x514000, x514001, x514002, x514003, x514004, x514005, x514006, x514007, x514008, x514009, x514010, x514011, x514012, x514013 => (deed_Wrote.f x514000 x514001 x514002 x514003 x514004 x514005 x514006 x514007 x514008 x514009 x514010 x514011 x514012 x514013 x7).bind fun bt572 => ((hogsheadref17_Wrote.f x514000 x514001 x514002 x514003 x514004 x514005 x514006 x514007 x514008 x514009 x514010 x514011 x514012 x514013 x7).bind fun bt586 => (if (bt572.1 == bt586.1 && (bt572.2.1 == bt586.2.1 && (bt572.2.2.1.toList == bt586.2.2.1.toList && (bt572.2.2.2.1.toList == bt586.2.2.2.1.toList && (bt572.2.2.2.2.1 == bt586.2.2.2.2.1 && (bt572.2.2.2.2.2.1 == bt586.2.2.2.2.2.1 && (bt572.2.2.2.2.2.2.1 == bt586.2.2.2.2.2.2.1 && (bt572.2.2.2.2.2.2.2.1 == bt586.2.2.2.2.2.2.2.1 && (bt572.2.2.2.2.2.2.2.2.1 == bt586.2.2.2.2.2.2.2.2.1 && (bt572.2.2.2.2.2.2.2.2.2.1 == bt586.2.2.2.2.2.2.2.2.2.1 && (bt572.2.2.2.2.2.2.2.2.2.2.1 == bt586.2.2.2.2.2.2.2.2.2.2.1 && (bt572.2.2.2.2.2.2.2.2.2.2.2.1 == bt586.2.2.2.2.2.2.2.2.2.2.2.1 && (bt572.2.2.2.2.2.2.2.2.2.2.2.2.1.toList == bt586.2.2.2.2.2.2.2.2.2.2.2.2.1.toList && (bt572.2.2.2.2.2.2.2.2.2.2.2.2.2 == bt586.2.2.2.2.2.2.2.2.2.2.2.2.2)))))))))))))) = true then ((deed_Got.f k x514000 x514001 x514002 x514003 x514004 x514005 x514006 x514007 x514008 x514009 x514010 x514011 x514012 x514013 x6 x7).bind fun bt600 => ((hogsheadref17_Got.f k x514000 x514001 x514002 x514003 x514004 x514005 x514006 x514007 x514008 x514009 x514010 x514011 x514012 x514013 x6 x7).bind fun bt614 => (if (bt600.1 == bt614.1 && (bt600.2.1 == bt614.2.1 && (bt600.2.2.1.toList == bt614.2.2.1.toList && (bt600.2.2.2.1.toList == bt614.2.2.2.1.toList && (bt600.2.2.2.2.1 == bt614.2.2.2.2.1 && (bt600.2.2.2.2.2.1 == bt614.2.2.2.2.2.1 && (bt600.2.2.2.2.2.2.1 == bt614.2.2.2.2.2.2.1 && (bt600.2.2.2.2.2.2.2.1 == bt614.2.2.2.2.2.2.2.1 && (bt600.2.2.2.2.2.2.2.2.1 == bt614.2.2.2.2.2.2.2.2.1 && (bt600.2.2.2.2.2.2.2.2.2.1 == bt614.2.2.2.2.2.2.2.2.2.1 && (bt600.2.2.2.2.2.2.2.2.2.2.1 == bt614.2.2.2.2.2.2.2.2.2.2.1 && (bt600.2.2.2.2.2.2.2.2.2.2.2.1 == bt614.2.2.2.2.2.2.2.2.2.2.2.1 && (bt600.2.2.2.2.2.2.2.2.2.2.2.2.1.toList == bt614.2.2.2.2.2.2.2.2.2.2.2.2.1.toList && (bt600.2.2.2.2.2.2.2.2.2.2.2.2.2 == bt614.2.2.2.2.2.2.2.2.2.2.2.2.2)))))))))))))) = true then ((deed_Late.f x514000 x514001 x514002 x514003 x514004 x514005 x514006 x514007 x514008 x514009 x514010 x514011 x514012 x514013).bind fun bt628 => ((hogsheadref17_Late.f x514000 x514001 x514002 x514003 x514004 x514005 x514006 x514007 x514008 x514009 x514010 x514011 x514012 x514013).bind fun bt642 => (hogsheadlaw17_DeedGoes.j1 k x8 x9 (bt628.1 == bt642.1 && (bt628.2.1 == bt642.2.1 && (bt628.2.2.1.toList == bt642.2.2.1.toList && (bt628.2.2.2.1.toList == bt642.2.2.2.1.toList && (bt628.2.2.2.2.1 == bt642.2.2.2.2.1 && (bt628.2.2.2.2.2.1 == bt642.2.2.2.2.2.1 && (bt628.2.2.2.2.2.2.1 == bt642.2.2.2.2.2.2.1 && (bt628.2.2.2.2.2.2.2.1 == bt642.2.2.2.2.2.2.2.1 && (bt628.2.2.2.2.2.2.2.2.1 == bt642.2.2.2.2.2.2.2.2.1 && (bt628.2.2.2.2.2.2.2.2.2.1 == bt642.2.2.2.2.2.2.2.2.2.1 && (bt628.2.2.2.2.2.2.2.2.2.2.1 == bt642.2.2.2.2.2.2.2.2.2.2.1 && (bt628.2.2.2.2.2.2.2.2.2.2.2.1 == bt642.2.2.2.2.2.2.2.2.2.2.2.1 && (bt628.2.2.2.2.2.2.2.2.2.2.2.2.1.toList == bt642.2.2.2.2.2.2.2.2.2.2.2.2.1.toList && (bt628.2.2.2.2.2.2.2.2.2.2.2.2.2 == bt642.2.2.2.2.2.2.2.2.2.2.2.2.2))))))))))))))))) else (hogsheadlaw17_DeedGoes.j1 k x8 x9 false)))) else (hogsheadlaw17_DeedGoes.j1 k x8 x9 false)))
def hogsheadlaw17_DeedGoes.j1 : Nat → Bool → Bool → Bool → Option (Bool)
 | 0, _, _, _ => none
 | k + 1, x8, x9, x10 => if x8 = true then (if x9 = true then (hogsheadlaw17_DeedGoes.j2 k x10) else (hogsheadlaw17_DeedGoes.j2 k false)) else (hogsheadlaw17_DeedGoes.j2 k false)
def hogsheadlaw17_DeedGoes.j2 : Nat → Bool → Option (Bool)
 | 0, _ => none
 | k + 1, x2 => some x2
end
def hogsheadlaw17_DeedGoes.f (k : Nat) (a0_0 : Int) (a0_1 : Int) (a0_2 : ByteArray) (a0_3 : ByteArray) (a0_4 : Int) (a0_5 : Int) (a0_6 : Int) (a0_7 : Int) (a0_8 : Int) (a0_9 : Int) (a0_10 : Int) (a0_11 : Int) (a0_12 : ByteArray) (a0_13 : Bool) (a0_14 : Int) (a0_15 : Int) (a0_16 : Int) (a0_17 : Int) (a0_18 : Int) (a0_19 : Bool) (a0_20 : Int) (a0_21 : ByteArray) (a0_22 : Int) : Option (Bool) := (hogsheadlaw17_shown.f k).bind fun t515 => ((deed_Picked.f a0_0 a0_1 a0_2 a0_3 a0_4 a0_5 a0_6 a0_7 a0_8 a0_9 a0_10 a0_11 a0_12 a0_13 a0_20 a0_22).bind fun bt516 => ((hogsheadref17_Picked.f a0_0 a0_1 a0_2 a0_3 a0_4 a0_5 a0_6 a0_7 a0_8 a0_9 a0_10 a0_11 a0_12 a0_13 a0_20 a0_22).bind fun bt530 => (if (bt516.1 == bt530.1 && (bt516.2.1 == bt530.2.1 && (bt516.2.2.1.toList == bt530.2.2.1.toList && (bt516.2.2.2.1.toList == bt530.2.2.2.1.toList && (bt516.2.2.2.2.1 == bt530.2.2.2.2.1 && (bt516.2.2.2.2.2.1 == bt530.2.2.2.2.2.1 && (bt516.2.2.2.2.2.2.1 == bt530.2.2.2.2.2.2.1 && (bt516.2.2.2.2.2.2.2.1 == bt530.2.2.2.2.2.2.2.1 && (bt516.2.2.2.2.2.2.2.2.1 == bt530.2.2.2.2.2.2.2.2.1 && (bt516.2.2.2.2.2.2.2.2.2.1 == bt530.2.2.2.2.2.2.2.2.2.1 && (bt516.2.2.2.2.2.2.2.2.2.2.1 == bt530.2.2.2.2.2.2.2.2.2.2.1 && (bt516.2.2.2.2.2.2.2.2.2.2.2.1 == bt530.2.2.2.2.2.2.2.2.2.2.2.1 && (bt516.2.2.2.2.2.2.2.2.2.2.2.2.1.toList == bt530.2.2.2.2.2.2.2.2.2.2.2.2.1.toList && (bt516.2.2.2.2.2.2.2.2.2.2.2.2.2 == bt530.2.2.2.2.2.2.2.2.2.2.2.2.2)))))))))))))) = true then ((deed_Heard.f a0_0 a0_1 a0_2 a0_3 a0_4 a0_5 a0_6 a0_7 a0_8 a0_9 a0_10 a0_11 a0_12 a0_13 a0_14 a0_15 a0_16 a0_17 a0_18 a0_19).bind fun bt544 => ((hogsheadref17_Heard.f k a0_0 a0_1 a0_2 a0_3 a0_4 a0_5 a0_6 a0_7 a0_8 a0_9 a0_10 a0_11 a0_12 a0_13 a0_14 a0_15 a0_16 a0_17 a0_18 a0_19).bind fun bt558 => (hogsheadlaw17_DeedGoes.j0 k a0_21 a0_22 t515 (bt544.1 == bt558.1 && (bt544.2.1 == bt558.2.1 && (bt544.2.2.1.toList == bt558.2.2.1.toList && (bt544.2.2.2.1.toList == bt558.2.2.2.1.toList && (bt544.2.2.2.2.1 == bt558.2.2.2.2.1 && (bt544.2.2.2.2.2.1 == bt558.2.2.2.2.2.1 && (bt544.2.2.2.2.2.2.1 == bt558.2.2.2.2.2.2.1 && (bt544.2.2.2.2.2.2.2.1 == bt558.2.2.2.2.2.2.2.1 && (bt544.2.2.2.2.2.2.2.2.1 == bt558.2.2.2.2.2.2.2.2.1 && (bt544.2.2.2.2.2.2.2.2.2.1 == bt558.2.2.2.2.2.2.2.2.2.1 && (bt544.2.2.2.2.2.2.2.2.2.2.1 == bt558.2.2.2.2.2.2.2.2.2.2.1 && (bt544.2.2.2.2.2.2.2.2.2.2.2.1 == bt558.2.2.2.2.2.2.2.2.2.2.2.1 && (bt544.2.2.2.2.2.2.2.2.2.2.2.2.1.toList == bt558.2.2.2.2.2.2.2.2.2.2.2.2.1.toList && (bt544.2.2.2.2.2.2.2.2.2.2.2.2.2 == bt558.2.2.2.2.2.2.2.2.2.2.2.2.2)))))))))))))) a0_0 a0_1 a0_2 a0_3 a0_4 a0_5 a0_6 a0_7 a0_8 a0_9 a0_10 a0_11 a0_12 a0_13))) else (hogsheadlaw17_DeedGoes.j0 k a0_21 a0_22 t515 false a0_0 a0_1 a0_2 a0_3 a0_4 a0_5 a0_6 a0_7 a0_8 a0_9 a0_10 a0_11 a0_12 a0_13))))
theorem hogsheadlaw17_DeedGoes.mono_l : ∀ k, (∀ y0 y1 y2 y3 y4 y5 y6 y7 y8 y9 y10 y11 y12 y13 y14 y15 y16 y17, LeO (hogsheadlaw17_DeedGoes.j0 k y0 y1 y2 y3 y4 y5 y6 y7 y8 y9 y10 y11 y12 y13 y14 y15 y16 y17) (hogsheadlaw17_DeedGoes.j0 (k + 1) y0 y1 y2 y3 y4 y5 y6 y7 y8 y9 y10 y11 y12 y13 y14 y15 y16 y17)) ∧ (∀ y0 y1 y2, LeO (hogsheadlaw17_DeedGoes.j1 k y0 y1 y2) (hogsheadlaw17_DeedGoes.j1 (k + 1) y0 y1 y2)) ∧ (∀ y0, LeO (hogsheadlaw17_DeedGoes.j2 k y0) (hogsheadlaw17_DeedGoes.j2 (k + 1) y0))
 | 0 => ⟨fun _ _ _ _ _ _ _ _ _ _ _ _ _ _ _ _ _ _ r h => by simp [hogsheadlaw17_DeedGoes.j0] at h, fun _ _ _ r h => by simp [hogsheadlaw17_DeedGoes.j1] at h, fun _ r h => by simp [hogsheadlaw17_DeedGoes.j2] at h⟩
 | k + 1 => by
  obtain ⟨ih0, ih1, ih2⟩ := hogsheadlaw17_DeedGoes.mono_l k
  refine ⟨?_, ?_, ?_⟩
  ·intro y0 y1 y2 y3 y4 y5 y6 y7 y8 y9 y10 y11 y12 y13 y14 y15 y16 y17
   unfold hogsheadlaw17_DeedGoes.j0
   repeat' first
   | (with_reducible exact ih0 _ _ _ _ _ _ _ _ _ _ _ _ _ _ _ _ _ _)
   | (with_reducible exact ih1 _ _ _)
   | (with_reducible exact ih2 _)
   | (with_reducible exact deed_Got.mono _ _ _ _ _ _ _ _ _ _ _ _ _ _ _ _ _)
   | (with_reducible exact hogsheadlaw17_shown.mono _)
   | (with_reducible exact hogsheadref17_Got.mono _ _ _ _ _ _ _ _ _ _ _ _ _ _ _ _ _)
   | (with_reducible exact hogsheadref17_Heard.mono _ _ _ _ _ _ _ _ _ _ _ _ _ _ _ _ _ _ _ _ _)
   | (with_reducible exact LeO.refl _)
   | (with_reducible exact LeO.none _)
   | (with_reducible refine LeO.ite ?_ ?_)
   | (with_reducible refine LeO.bind ?_ (fun _ => ?_))
   | exact ih0 _ _ _ _ _ _ _ _ _ _ _ _ _ _ _ _ _ _
   | exact ih1 _ _ _
   | exact ih2 _
   | exact deed_Got.mono _ _ _ _ _ _ _ _ _ _ _ _ _ _ _ _ _
   | exact hogsheadlaw17_shown.mono _
   | exact hogsheadref17_Got.mono _ _ _ _ _ _ _ _ _ _ _ _ _ _ _ _ _
   | exact hogsheadref17_Heard.mono _ _ _ _ _ _ _ _ _ _ _ _ _ _ _ _ _ _ _ _ _
   | exact LeO.none _
   | refine LeO.ite ?_ ?_
   | refine LeO.bind ?_ (fun _ => ?_)
  ·intro y0 y1 y2
   unfold hogsheadlaw17_DeedGoes.j1
   repeat' first
   | (with_reducible exact ih0 _ _ _ _ _ _ _ _ _ _ _ _ _ _ _ _ _ _)
   | (with_reducible exact ih1 _ _ _)
   | (with_reducible exact ih2 _)
   | (with_reducible exact deed_Got.mono _ _ _ _ _ _ _ _ _ _ _ _ _ _ _ _ _)
   | (with_reducible exact hogsheadlaw17_shown.mono _)
   | (with_reducible exact hogsheadref17_Got.mono _ _ _ _ _ _ _ _ _ _ _ _ _ _ _ _ _)
   | (with_reducible exact hogsheadref17_Heard.mono _ _ _ _ _ _ _ _ _ _ _ _ _ _ _ _ _ _ _ _ _)
   | (with_reducible exact LeO.refl _)
   | (with_reducible exact LeO.none _)
   | (with_reducible refine LeO.ite ?_ ?_)
   | (with_reducible refine LeO.bind ?_ (fun _ => ?_))
   | exact ih0 _ _ _ _ _ _ _ _ _ _ _ _ _ _ _ _ _ _
   | exact ih1 _ _ _
   | exact ih2 _
   | exact deed_Got.mono _ _ _ _ _ _ _ _ _ _ _ _ _ _ _ _ _
   | exact hogsheadlaw17_shown.mono _
   | exact hogsheadref17_Got.mono _ _ _ _ _ _ _ _ _ _ _ _ _ _ _ _ _
   | exact hogsheadref17_Heard.mono _ _ _ _ _ _ _ _ _ _ _ _ _ _ _ _ _ _ _ _ _
   | exact LeO.none _
   | refine LeO.ite ?_ ?_
   | refine LeO.bind ?_ (fun _ => ?_)
  ·intro y0
   unfold hogsheadlaw17_DeedGoes.j2
   repeat' first
   | (with_reducible exact ih0 _ _ _ _ _ _ _ _ _ _ _ _ _ _ _ _ _ _)
   | (with_reducible exact ih1 _ _ _)
   | (with_reducible exact ih2 _)
   | (with_reducible exact deed_Got.mono _ _ _ _ _ _ _ _ _ _ _ _ _ _ _ _ _)
   | (with_reducible exact hogsheadlaw17_shown.mono _)
   | (with_reducible exact hogsheadref17_Got.mono _ _ _ _ _ _ _ _ _ _ _ _ _ _ _ _ _)
   | (with_reducible exact hogsheadref17_Heard.mono _ _ _ _ _ _ _ _ _ _ _ _ _ _ _ _ _ _ _ _ _)
   | (with_reducible exact LeO.refl _)
   | (with_reducible exact LeO.none _)
   | (with_reducible refine LeO.ite ?_ ?_)
   | (with_reducible refine LeO.bind ?_ (fun _ => ?_))
   | exact ih0 _ _ _ _ _ _ _ _ _ _ _ _ _ _ _ _ _ _
   | exact ih1 _ _ _
   | exact ih2 _
   | exact deed_Got.mono _ _ _ _ _ _ _ _ _ _ _ _ _ _ _ _ _
   | exact hogsheadlaw17_shown.mono _
   | exact hogsheadref17_Got.mono _ _ _ _ _ _ _ _ _ _ _ _ _ _ _ _ _
   | exact hogsheadref17_Heard.mono _ _ _ _ _ _ _ _ _ _ _ _ _ _ _ _ _ _ _ _ _
   | exact LeO.none _
   | refine LeO.ite ?_ ?_
   | refine LeO.bind ?_ (fun _ => ?_)
theorem hogsheadlaw17_DeedGoes.mono : ∀ a0 a1 a2 a3 a4 a5 a6 a7 a8 a9 a10 a11 a12 a13 a14 a15 a16 a17 a18 a19 a20 a21 a22 k, LeO (hogsheadlaw17_DeedGoes.f k a0 a1 a2 a3 a4 a5 a6 a7 a8 a9 a10 a11 a12 a13 a14 a15 a16 a17 a18 a19 a20 a21 a22) (hogsheadlaw17_DeedGoes.f (k + 1) a0 a1 a2 a3 a4 a5 a6 a7 a8 a9 a10 a11 a12 a13 a14 a15 a16 a17 a18 a19 a20 a21 a22) := by
 intro a0 a1 a2 a3 a4 a5 a6 a7 a8 a9 a10 a11 a12 a13 a14 a15 a16 a17 a18 a19 a20 a21 a22 k
 obtain ⟨ih0, ih1, ih2⟩ := hogsheadlaw17_DeedGoes.mono_l k
 unfold hogsheadlaw17_DeedGoes.f
 repeat' first
   | (with_reducible exact ih0 _ _ _ _ _ _ _ _ _ _ _ _ _ _ _ _ _ _)
   | (with_reducible exact ih1 _ _ _)
   | (with_reducible exact ih2 _)
   | (with_reducible exact deed_Got.mono _ _ _ _ _ _ _ _ _ _ _ _ _ _ _ _ _)
   | (with_reducible exact hogsheadlaw17_shown.mono _)
   | (with_reducible exact hogsheadref17_Got.mono _ _ _ _ _ _ _ _ _ _ _ _ _ _ _ _ _)
   | (with_reducible exact hogsheadref17_Heard.mono _ _ _ _ _ _ _ _ _ _ _ _ _ _ _ _ _ _ _ _ _)
   | (with_reducible exact LeO.refl _)
   | (with_reducible exact LeO.none _)
   | (with_reducible refine LeO.ite ?_ ?_)
   | (with_reducible refine LeO.bind ?_ (fun _ => ?_))
   | exact ih0 _ _ _ _ _ _ _ _ _ _ _ _ _ _ _ _ _ _
   | exact ih1 _ _ _
   | exact ih2 _
   | exact deed_Got.mono _ _ _ _ _ _ _ _ _ _ _ _ _ _ _ _ _
   | exact hogsheadlaw17_shown.mono _
   | exact hogsheadref17_Got.mono _ _ _ _ _ _ _ _ _ _ _ _ _ _ _ _ _
   | exact hogsheadref17_Heard.mono _ _ _ _ _ _ _ _ _ _ _ _ _ _ _ _ _ _ _ _ _
   | exact LeO.none _
   | refine LeO.ite ?_ ?_
   | refine LeO.bind ?_ (fun _ => ?_)
def hogsheadlaw17_DeedGoes.T7 : Bool × List (List Nat × List Nat) := (true, [([], []), ([], []), ([], []), ([0, 1, 2], [0, 1, 2]), ([], []), ([], []), ([], []), ([4, 5, 6, 3], [4, 5, 6]), ([3, 7], [3, 7]), ([8, 7], [8]), ([9], [9]), ([9], [9]), ([10, 11, 9, 9], [9, 10, 11]), ([9], [9]), ([9], [9]), ([13, 14, 12, 9], [9, 13, 14]), ([12, 15, 9], [9, 12, 15]), ([9, 16], [9, 16]), ([17, 15, 0, 1, 2, 3, 4, 5, 6, 7, 8, 9, 10, 11, 12, 13, 14, 15, 16, 17], [17])])
def hogsheadlaw17_DeedGoes.B7 : List Nat := [0, 0, 0, 7, 0, 0, 0, 127, 255, 511, 1023, 1023, 4095, 1023, 1023, 32767, 65535, 131071, 262143]
theorem hogsheadlaw17_DeedGoes.tab7 : rtab .any (opsOf Try.f5 7) = hogsheadlaw17_DeedGoes.T7 := by kernel_rfl
theorem hogsheadlaw17_DeedGoes.bits7 : waitsOk hogsheadlaw17_DeedGoes.T7.2 hogsheadlaw17_DeedGoes.B7 = true := by kernel_rfl
def hogsheadlaw17_DeedGoes.T8 : Bool × List (List Nat × List Nat) := (true, [([], []), ([], []), ([0, 1], [0, 1]), ([], []), ([], []), ([3, 4, 2], [3, 4]), ([2, 5], [2, 5]), ([6, 5], [6]), ([7], [7]), ([7], [7]), ([7], [7]), ([8, 9, 10, 7, 7], [7, 8, 9, 10]), ([7], [7]), ([7], [7]), ([7], [7]), ([12, 13, 14, 11, 7], [7, 12, 13, 14]), ([11, 15, 7], [7, 11, 15]), ([7, 16], [7, 16]), ([17, 15], [17]), ([18], [18]), ([19, 18, 18], [18, 19]), ([18], [18]), ([21, 20, 18], [18, 21]), ([20, 22, 18], [18, 20, 22]), ([18, 23], [18, 23]), ([24, 22, 0, 1, 2, 3, 4, 5, 6, 7, 8, 9, 10, 11, 12, 13, 14, 15, 16, 17, 18, 19, 20, 21, 22, 23, 24], [24])])
def hogsheadlaw17_DeedGoes.B8 : List Nat := [0, 0, 3, 0, 0, 31, 63, 127, 255, 255, 255, 2047, 255, 255, 255, 32767, 65535, 131071, 262143, 524287, 1048575, 524287, 4194303, 8388607, 16777215, 33554431]
theorem hogsheadlaw17_DeedGoes.tab8 : rtab .any (opsOf Try.f5 8) = hogsheadlaw17_DeedGoes.T8 := by kernel_rfl
theorem hogsheadlaw17_DeedGoes.bits8 : waitsOk hogsheadlaw17_DeedGoes.T8.2 hogsheadlaw17_DeedGoes.B8 = true := by kernel_rfl
set_option maxHeartbeats 40000000 in
set_option maxRecDepth 100000 in
theorem hogsheadlaw17_DeedGoes.calls (k : Nat) (a0_0 : Int) (a0_1 : Int) (a0_2 : ByteArray) (a0_3 : ByteArray) (a0_4 : Int) (a0_5 : Int) (a0_6 : Int) (a0_7 : Int) (a0_8 : Int) (a0_9 : Int) (a0_10 : Int) (a0_11 : Int) (a0_12 : ByteArray) (a0_13 : Bool) (a0_14 : Int) (a0_15 : Int) (a0_16 : Int) (a0_17 : Int) (a0_18 : Int) (a0_19 : Bool) (a0_20 : Int) (a0_21 : ByteArray) (a0_22 : Int) (r : Bool) (w : World) (h : hogsheadlaw17_DeedGoes.f k a0_0 a0_1 a0_2 a0_3 a0_4 a0_5 a0_6 a0_7 a0_8 a0_9 a0_10 a0_11 a0_12 a0_13 a0_14 a0_15 a0_16 a0_17 a0_18 a0_19 a0_20 a0_21 a0_22 = some r) :
  Calls Try.prog 5 #[.agg #[.int .i64 a0_0, .int .i64 a0_1, .string a0_2, .string a0_3, .int .i64 a0_4, .int .i64 a0_5, .int .i64 a0_6, .int .i64 a0_7, .int .i64 a0_8, .int .u32 a0_9, .int .i64 a0_10, .int .i64 a0_11, .string a0_12, .bool a0_13, .int .i64 a0_14, .int .i64 a0_15, .int .i64 a0_16, .int .i64 a0_17, .int .u32 a0_18, .bool a0_19, .int .i64 a0_20, .string a0_21, .int .i64 a0_22]] w fun e w' => e = .returned (.bool r) ∧ Below w.heap.size w w' := by
 have hu44 := Try.underlying44
 have hu28 := Try.underlying28
 have hu42 := Try.underlying42
 have HB := qM (Below.refl w.heap.size w)
 have H : ((hogsheadlaw17_shown.f k).bind fun t515 => ((deed_Picked.f a0_0 a0_1 a0_2 a0_3 a0_4 a0_5 a0_6 a0_7 a0_8 a0_9 a0_10 a0_11 a0_12 a0_13 a0_20 a0_22).bind fun bt516 => ((hogsheadref17_Picked.f a0_0 a0_1 a0_2 a0_3 a0_4 a0_5 a0_6 a0_7 a0_8 a0_9 a0_10 a0_11 a0_12 a0_13 a0_20 a0_22).bind fun bt530 => (if (bt516.1 == bt530.1 && (bt516.2.1 == bt530.2.1 && (bt516.2.2.1.toList == bt530.2.2.1.toList && (bt516.2.2.2.1.toList == bt530.2.2.2.1.toList && (bt516.2.2.2.2.1 == bt530.2.2.2.2.1 && (bt516.2.2.2.2.2.1 == bt530.2.2.2.2.2.1 && (bt516.2.2.2.2.2.2.1 == bt530.2.2.2.2.2.2.1 && (bt516.2.2.2.2.2.2.2.1 == bt530.2.2.2.2.2.2.2.1 && (bt516.2.2.2.2.2.2.2.2.1 == bt530.2.2.2.2.2.2.2.2.1 && (bt516.2.2.2.2.2.2.2.2.2.1 == bt530.2.2.2.2.2.2.2.2.2.1 && (bt516.2.2.2.2.2.2.2.2.2.2.1 == bt530.2.2.2.2.2.2.2.2.2.2.1 && (bt516.2.2.2.2.2.2.2.2.2.2.2.1 == bt530.2.2.2.2.2.2.2.2.2.2.2.1 && (bt516.2.2.2.2.2.2.2.2.2.2.2.2.1.toList == bt530.2.2.2.2.2.2.2.2.2.2.2.2.1.toList && (bt516.2.2.2.2.2.2.2.2.2.2.2.2.2 == bt530.2.2.2.2.2.2.2.2.2.2.2.2.2)))))))))))))) = true then ((deed_Heard.f a0_0 a0_1 a0_2 a0_3 a0_4 a0_5 a0_6 a0_7 a0_8 a0_9 a0_10 a0_11 a0_12 a0_13 a0_14 a0_15 a0_16 a0_17 a0_18 a0_19).bind fun bt544 => ((hogsheadref17_Heard.f k a0_0 a0_1 a0_2 a0_3 a0_4 a0_5 a0_6 a0_7 a0_8 a0_9 a0_10 a0_11 a0_12 a0_13 a0_14 a0_15 a0_16 a0_17 a0_18 a0_19).bind fun bt558 => (hogsheadlaw17_DeedGoes.j0 k a0_21 a0_22 t515 (bt544.1 == bt558.1 && (bt544.2.1 == bt558.2.1 && (bt544.2.2.1.toList == bt558.2.2.1.toList && (bt544.2.2.2.1.toList == bt558.2.2.2.1.toList && (bt544.2.2.2.2.1 == bt558.2.2.2.2.1 && (bt544.2.2.2.2.2.1 == bt558.2.2.2.2.2.1 && (bt544.2.2.2.2.2.2.1 == bt558.2.2.2.2.2.2.1 && (bt544.2.2.2.2.2.2.2.1 == bt558.2.2.2.2.2.2.2.1 && (bt544.2.2.2.2.2.2.2.2.1 == bt558.2.2.2.2.2.2.2.2.1 && (bt544.2.2.2.2.2.2.2.2.2.1 == bt558.2.2.2.2.2.2.2.2.2.1 && (bt544.2.2.2.2.2.2.2.2.2.2.1 == bt558.2.2.2.2.2.2.2.2.2.2.1 && (bt544.2.2.2.2.2.2.2.2.2.2.2.1 == bt558.2.2.2.2.2.2.2.2.2.2.2.1 && (bt544.2.2.2.2.2.2.2.2.2.2.2.2.1.toList == bt558.2.2.2.2.2.2.2.2.2.2.2.2.1.toList && (bt544.2.2.2.2.2.2.2.2.2.2.2.2.2 == bt558.2.2.2.2.2.2.2.2.2.2.2.2.2)))))))))))))) a0_0 a0_1 a0_2 a0_3 a0_4 a0_5 a0_6 a0_7 a0_8 a0_9 a0_10 a0_11 a0_12 a0_13))) else (hogsheadlaw17_DeedGoes.j0 k a0_21 a0_22 t515 false a0_0 a0_1 a0_2 a0_3 a0_4 a0_5 a0_6 a0_7 a0_8 a0_9 a0_10 a0_11 a0_12 a0_13))))) = some r := h
 clear h
 replace H := Option.bind_eq_some_iff.mp H
 obtain ⟨t515, A20, H⟩ := H
 replace H : ((deed_Picked.f a0_0 a0_1 a0_2 a0_3 a0_4 a0_5 a0_6 a0_7 a0_8 a0_9 a0_10 a0_11 a0_12 a0_13 a0_20 a0_22).bind fun bt516 => ((hogsheadref17_Picked.f a0_0 a0_1 a0_2 a0_3 a0_4 a0_5 a0_6 a0_7 a0_8 a0_9 a0_10 a0_11 a0_12 a0_13 a0_20 a0_22).bind fun bt530 => (if (bt516.1 == bt530.1 && (bt516.2.1 == bt530.2.1 && (bt516.2.2.1.toList == bt530.2.2.1.toList && (bt516.2.2.2.1.toList == bt530.2.2.2.1.toList && (bt516.2.2.2.2.1 == bt530.2.2.2.2.1 && (bt516.2.2.2.2.2.1 == bt530.2.2.2.2.2.1 && (bt516.2.2.2.2.2.2.1 == bt530.2.2.2.2.2.2.1 && (bt516.2.2.2.2.2.2.2.1 == bt530.2.2.2.2.2.2.2.1 && (bt516.2.2.2.2.2.2.2.2.1 == bt530.2.2.2.2.2.2.2.2.1 && (bt516.2.2.2.2.2.2.2.2.2.1 == bt530.2.2.2.2.2.2.2.2.2.1 && (bt516.2.2.2.2.2.2.2.2.2.2.1 == bt530.2.2.2.2.2.2.2.2.2.2.1 && (bt516.2.2.2.2.2.2.2.2.2.2.2.1 == bt530.2.2.2.2.2.2.2.2.2.2.2.1 && (bt516.2.2.2.2.2.2.2.2.2.2.2.2.1.toList == bt530.2.2.2.2.2.2.2.2.2.2.2.2.1.toList && (bt516.2.2.2.2.2.2.2.2.2.2.2.2.2 == bt530.2.2.2.2.2.2.2.2.2.2.2.2.2)))))))))))))) = true then ((deed_Heard.f a0_0 a0_1 a0_2 a0_3 a0_4 a0_5 a0_6 a0_7 a0_8 a0_9 a0_10 a0_11 a0_12 a0_13 a0_14 a0_15 a0_16 a0_17 a0_18 a0_19).bind fun bt544 => ((hogsheadref17_Heard.f k a0_0 a0_1 a0_2 a0_3 a0_4 a0_5 a0_6 a0_7 a0_8 a0_9 a0_10 a0_11 a0_12 a0_13 a0_14 a0_15 a0_16 a0_17 a0_18 a0_19).bind fun bt558 => (hogsheadlaw17_DeedGoes.j0 k a0_21 a0_22 t515 (bt544.1 == bt558.1 && (bt544.2.1 == bt558.2.1 && (bt544.2.2.1.toList == bt558.2.2.1.toList && (bt544.2.2.2.1.toList == bt558.2.2.2.1.toList && (bt544.2.2.2.2.1 == bt558.2.2.2.2.1 && (bt544.2.2.2.2.2.1 == bt558.2.2.2.2.2.1 && (bt544.2.2.2.2.2.2.1 == bt558.2.2.2.2.2.2.1 && (bt544.2.2.2.2.2.2.2.1 == bt558.2.2.2.2.2.2.2.1 && (bt544.2.2.2.2.2.2.2.2.1 == bt558.2.2.2.2.2.2.2.2.1 && (bt544.2.2.2.2.2.2.2.2.2.1 == bt558.2.2.2.2.2.2.2.2.2.1 && (bt544.2.2.2.2.2.2.2.2.2.2.1 == bt558.2.2.2.2.2.2.2.2.2.2.1 && (bt544.2.2.2.2.2.2.2.2.2.2.2.1 == bt558.2.2.2.2.2.2.2.2.2.2.2.1 && (bt544.2.2.2.2.2.2.2.2.2.2.2.2.1.toList == bt558.2.2.2.2.2.2.2.2.2.2.2.2.1.toList && (bt544.2.2.2.2.2.2.2.2.2.2.2.2.2 == bt558.2.2.2.2.2.2.2.2.2.2.2.2.2)))))))))))))) a0_0 a0_1 a0_2 a0_3 a0_4 a0_5 a0_6 a0_7 a0_8 a0_9 a0_10 a0_11 a0_12 a0_13))) else (hogsheadlaw17_DeedGoes.j0 k a0_21 a0_22 t515 false a0_0 a0_1 a0_2 a0_3 a0_4 a0_5 a0_6 a0_7 a0_8 a0_9 a0_10 a0_11 a0_12 a0_13)))) = some r := H
 have A2 := qM A20
 clear A20
 have HC3 := qM H
 clear H
 go_enter Try.func5, Try.ntmps5
 go_upto_region 7 with (first | ((with_reducible refine gate_dst (N := 1) rfl ?_); refine box_event ?hg (N := 1) ?hd (cs := #[.int .i64 a0_0, .int .i64 a0_1, .string a0_2, .string a0_3, .int .i64 a0_4, .int .i64 a0_5, .int .i64 a0_6, .int .i64 a0_7, .int .i64 a0_8, .int .u32 a0_9, .int .i64 a0_10, .int .i64 a0_11, .string a0_12, .bool a0_13, .int .i64 a0_14, .int .i64 a0_15, .int .i64 a0_16, .int .i64 a0_17, .int .u32 a0_18, .bool a0_19, .int .i64 a0_20, .string a0_21, .int .i64 a0_22]) (t := 44) ?hr ?_; (case hd => rfl); (case hg => rfl); (case hr => first | (go_simp; done) | (go_simp; rfl)); intro g512 hg w4 hbox hb; have n0_ := qM (eT (by repeat (first | (with_reducible first | exact HB.out | apply eA | apply eN | apply eD) | exact HB.out)) hb); have n1_ := qM (hbox); have n2_ := qM ((by rw [hg]; exact (eZ (by repeat (first | (with_reducible first | exact HB.out | apply eA | apply eN | apply eD) | exact HB.out))) : w.heap.size ≤ g512)); have n3_ := n2_; clear HB; have HB := n0_; have B512 := n1_; have GW512 := n2_; have GE512 := n3_; clear n0_ n1_ n2_ n3_; clear hb hbox hg; obtain ⟨z5_0, z5_1, z5_2, z5_3, z5_4, z5_5, z5_6, z5_7, z5_8, z5_9, z5_10, z5_11, z5_12, z5_13, z5_14, z5_15, z5_16, z5_17, z5_18, z5_19, z5_20, z5_21, z5_22, f5_0, f5_1, f5_2, f5_3, f5_4, f5_5, f5_6, f5_7, f5_8, f5_9, f5_10, f5_11, f5_12, f5_13, f5_14, f5_15, f5_16, f5_17, f5_18, f5_19, f5_20, f5_21, f5_22⟩ := cells23 B512.out) | ((with_reducible refine gate_dst (N := 3) rfl ?_); refine box_event ?hg (N := 3) ?hd (cs := #[.int .i64 0, .int .i64 0, .string (⟨#[]⟩ : ByteArray), .string (⟨#[]⟩ : ByteArray), .int .i64 0, .int .i64 0, .int .i64 0, .int .i64 0, .int .i64 0, .int .u32 0, .int .i64 0, .int .i64 0, .string (⟨#[]⟩ : ByteArray), .bool false]) (t := 28) ?hr ?_; (case hd => rfl); (case hg => rfl); (case hr => first | (go_simp; done) | (go_simp; rfl)); intro g513 hg w6 hbox hb; have n0_ := qM (qB (g := g512) (by (with_reducible repeat first | refine qN ?_ _ | refine qD ?_ | refine qA ?_ _); exact B512.out) hb); have n1_ := qM (eT (by repeat (first | (with_reducible first | exact HB.out | apply eA | apply eN | apply eD | refine eS ?_ GE512.out) | exact HB.out)) hb); have n2_ := qM (hbox); have n3_ := qM ((by rw [hg]; exact (eZ (by repeat (first | (with_reducible first | exact HB.out | apply eA | apply eN | apply eD | refine eS ?_ GE512.out) | exact HB.out))) : w.heap.size ≤ g513)); have n4_ := n3_; have n5_ := qM ((by rw [hg]; exact Nat.ne_of_lt (qL (g := g512) (by (with_reducible repeat first | refine qN ?_ _ | refine qD ?_ | refine qA ?_ _); exact B512.out)) : g512 ≠ g513)); have n6_ := qM (Ne.symm n5_.out); clear B512; clear HB; have B512 := n0_; have HB := n1_; have B513 := n2_; have GW513 := n3_; have GE513 := n4_; have NB512_513 := n5_; have NB513_512 := n6_; clear n0_ n1_ n2_ n3_ n4_ n5_ n6_; clear hb hbox hg; have hnb7 := NB513_512.out; have hnc7 := NB512_513.out; obtain ⟨z8_0, z8_1, z8_2, z8_3, z8_4, z8_5, z8_6, z8_7, z8_8, z8_9, z8_10, z8_11, z8_12, z8_13, f8_0, f8_1, f8_2, f8_3, f8_4, f8_5, f8_6, f8_7, f8_8, f8_9, f8_10, f8_11, f8_12, f8_13⟩ := cells14 B513.out; obtain ⟨z9_0, z9_1, z9_2, z9_3, z9_4, z9_5, z9_6, z9_7, z9_8, z9_9, z9_10, z9_11, z9_12, z9_13, z9_14, z9_15, z9_16, z9_17, z9_18, z9_19, z9_20, z9_21, z9_22, f9_0, f9_1, f9_2, f9_3, f9_4, f9_5, f9_6, f9_7, f9_8, f9_9, f9_10, f9_11, f9_12, f9_13, f9_14, f9_15, f9_16, f9_17, f9_18, f9_19, f9_20, f9_21, f9_22⟩ := cells23 B512.out) | ((with_reducible refine gate_dst (N := 4) rfl ?_); refine box_event ?hg (N := 4) ?hd (cs := #[.int .i64 0, .int .i64 0, .int .i64 0, .int .i64 0, .int .u32 0, .bool false]) (t := 42) ?hr ?_; (case hd => rfl); (case hg => rfl); (case hr => first | (go_simp; done) | (go_simp; rfl)); intro g514 hg w10 hbox hb; have n0_ := qM (qB (g := g512) (o := .cells #[.int .i64 a0_0, .int .i64 a0_1, .string a0_2, .string a0_3, .int .i64 a0_4, .int .i64 a0_5, .int .i64 a0_6, .int .i64 a0_7, .int .i64 a0_8, .int .u32 a0_9, .int .i64 a0_10, .int .i64 a0_11, .string a0_12, .bool a0_13, .int .i64 a0_14, .int .i64 a0_15, .int .i64 a0_16, .int .i64 a0_17, .int .u32 a0_18, .bool a0_19, .int .i64 a0_20, .string a0_21, .int .i64 a0_22] 44 (0, 0)) (by (with_reducible repeat first | refine qN ?_ _ | refine qD ?_ | refine qA ?_ _); (iterate 14 (refine qR ?_ NB512_513.out _; (with_reducible repeat first | refine qN ?_ _ | refine qD ?_ | refine qA ?_ _))); exact B512.out) hb); have n1_ := qM (qB (g := g513) (by (with_reducible repeat first | refine qN ?_ _ | refine qD ?_ | refine qA ?_ _); apply puts14; (with_reducible repeat first | refine qN ?_ _ | refine qD ?_ | refine qA ?_ _); exact B513.out) hb); have n2_ := qM (eT (by repeat (first | (with_reducible first | exact HB.out | apply eA | apply eN | apply eD | refine eS ?_ GE512.out | refine eS ?_ GE513.out) | exact HB.out)) hb); have n3_ := qM (hbox); have n4_ := qM ((by rw [hg]; exact (eZ (by repeat (first | (with_reducible first | exact HB.out | apply eA | apply eN | apply eD | refine eS ?_ GE512.out | refine eS ?_ GE513.out) | exact HB.out))) : w.heap.size ≤ g514)); have n5_ := n4_; have n6_ := qM ((by rw [hg]; exact Nat.ne_of_lt (by (with_reducible repeat first | refine ltS ?_ | refine ltN ?_ | refine ltD ?_ | refine ltA ?_); exact qL B512.out) : g512 ≠ g514)); have n7_ := qM ((by rw [hg]; exact Nat.ne_of_gt (by (with_reducible repeat first | refine ltS ?_ | refine ltN ?_ | refine ltD ?_ | refine ltA ?_); exact qL B512.out) : g514 ≠ g512)); have n8_ := qM ((by rw [hg]; exact Nat.ne_of_lt (qL (g := g513) (by (with_reducible repeat first | refine qN ?_ _ | refine qD ?_ | refine qA ?_ _); apply puts14; (with_reducible repeat first | refine qN ?_ _ | refine qD ?_ | refine qA ?_ _); exact B513.out)) : g513 ≠ g514)); have n9_ := qM ((by rw [hg]; exact Nat.ne_of_gt (qL (g := g513) (by (with_reducible repeat first | refine qN ?_ _ | refine qD ?_ | refine qA ?_ _); apply puts14; (with_reducible repeat first | refine qN ?_ _ | refine qD ?_ | refine qA ?_ _); exact B513.out)) : g514 ≠ g513)); clear B512; clear B513; clear HB; have B512 := n0_; have B513 := n1_; have HB := n2_; have B514 := n3_; have GW514 := n4_; have GE514 := n5_; have NB512_514 := n6_; have NB514_512 := n7_; have NB513_514 := n8_; have NB514_513 := n9_; clear n0_ n1_ n2_ n3_ n4_ n5_ n6_ n7_ n8_ n9_; clear hb hbox hg; have hnb11 := NB514_512.out; have hnc11 := NB512_514.out; have hnb12 := NB514_513.out; have hnc12 := NB513_514.out; obtain ⟨z13_0, z13_1, z13_2, z13_3, z13_4, z13_5, f13_0, f13_1, f13_2, f13_3, f13_4, f13_5⟩ := cells6 B514.out; obtain ⟨z14_0, z14_1, z14_2, z14_3, z14_4, z14_5, z14_6, z14_7, z14_8, z14_9, z14_10, z14_11, z14_12, z14_13, z14_14, z14_15, z14_16, z14_17, z14_18, z14_19, z14_20, z14_21, z14_22, f14_0, f14_1, f14_2, f14_3, f14_4, f14_5, f14_6, f14_7, f14_8, f14_9, f14_10, f14_11, f14_12, f14_13, f14_14, f14_15, f14_16, f14_17, f14_18, f14_19, f14_20, f14_21, f14_22⟩ := cells23 B512.out) | ((with_reducible refine gate_callee (f := 9) rfl ?_); refine goesL_ (some 21) rfl rfl Try.func9 (by kernel_rfl) rfl #[] rfl (by (try simp only [List.map_toArray, List.map_cons, List.map_nil]); first | done | rfl | (simp only [List.length_drop, List.length_take]; rfl)) ?_; (with_reducible refine (hogsheadlaw17_shown.calls k  t515 _ A2.out).mono ?_); rintro e w15 ⟨rfl, hb⟩; refine ⟨_, rfl, ?_⟩; have n0_ := qM (qB (g := g512) (o := .cells #[.int .i64 a0_0, .int .i64 a0_1, .string a0_2, .string a0_3, .int .i64 a0_4, .int .i64 a0_5, .int .i64 a0_6, .int .i64 a0_7, .int .i64 a0_8, .int .u32 a0_9, .int .i64 a0_10, .int .i64 a0_11, .string a0_12, .bool a0_13, .int .i64 a0_14, .int .i64 a0_15, .int .i64 a0_16, .int .i64 a0_17, .int .u32 a0_18, .bool a0_19, .int .i64 a0_20, .string a0_21, .int .i64 a0_22] 44 (0, 0)) (by (with_reducible repeat first | refine qN ?_ _ | refine qD ?_ | refine qA ?_ _); (iterate 6 (refine qR ?_ NB512_514.out _; (with_reducible repeat first | refine qN ?_ _ | refine qD ?_ | refine qA ?_ _))); exact B512.out) hb); have n1_ := qM (qB (g := g513) (o := .cells #[.int .i64 a0_0, .int .i64 a0_1, .string a0_2, .string a0_3, .int .i64 a0_4, .int .i64 a0_5, .int .i64 a0_6, .int .i64 a0_7, .int .i64 a0_8, .int .u32 a0_9, .int .i64 a0_10, .int .i64 a0_11, .string a0_12, .bool a0_13] 28 (0, 0)) (by (with_reducible repeat first | refine qN ?_ _ | refine qD ?_ | refine qA ?_ _); (iterate 6 (refine qR ?_ NB513_514.out _; (with_reducible repeat first | refine qN ?_ _ | refine qD ?_ | refine qA ?_ _))); exact B513.out) hb); have n2_ := qM (qB (g := g514) (by (with_reducible repeat first | refine qN ?_ _ | refine qD ?_ | refine qA ?_ _); apply puts6; (with_reducible repeat first | refine qN ?_ _ | refine qD ?_ | refine qA ?_ _); exact B514.out) hb); have n3_ := qM (eT (by repeat (first | (with_reducible first | exact HB.out | apply eA | apply eN | apply eD | refine eS ?_ GE512.out | refine eS ?_ GE513.out | refine eS ?_ GE514.out) | exact HB.out)) hb); clear B512; clear B513; clear B514; clear HB; have B512 := n0_; have B513 := n1_; have B514 := n2_; have HB := n3_; clear n0_ n1_ n2_ n3_; (try clear hb); (try clear hb2); (try clear hk); (try clear hi)))
 (try simp only [Act.put, List.setIfInBounds_toArray, List.set_cons_zero, List.set_cons_succ])
 go_cut [9] (fun v9 wc => ∃ (kq : Nat) (x9_2 : Bool), v9 = .bool x9_2 ∧ Aside0 (hogsheadlaw17_DeedGoes.j0 kq a0_21 a0_22 t515 x9_2 a0_0 a0_1 a0_2 a0_3 a0_4 a0_5 a0_6 a0_7 a0_8 a0_9 a0_10 a0_11 a0_12 a0_13 = some r) ∧ Aside0 (kq ≤ k) ∧ Aside0 (wc.heap[g512]? = some (.cells #[.int .i64 a0_0, .int .i64 a0_1, .string a0_2, .string a0_3, .int .i64 a0_4, .int .i64 a0_5, .int .i64 a0_6, .int .i64 a0_7, .int .i64 a0_8, .int .u32 a0_9, .int .i64 a0_10, .int .i64 a0_11, .string a0_12, .bool a0_13, .int .i64 a0_14, .int .i64 a0_15, .int .i64 a0_16, .int .i64 a0_17, .int .u32 a0_18, .bool a0_19, .int .i64 a0_20, .string a0_21, .int .i64 a0_22] 44 (0, 0))) ∧ Aside0 (wc.heap[g513]? = some (.cells #[.int .i64 a0_0, .int .i64 a0_1, .string a0_2, .string a0_3, .int .i64 a0_4, .int .i64 a0_5, .int .i64 a0_6, .int .i64 a0_7, .int .i64 a0_8, .int .u32 a0_9, .int .i64 a0_10, .int .i64 a0_11, .string a0_12, .bool a0_13] 28 (0, 0))) ∧ Aside0 (wc.heap[g514]? = some (.cells #[.int .i64 a0_14, .int .i64 a0_15, .int .i64 a0_16, .int .i64 a0_17, .int .u32 a0_18, .bool a0_19] 42 (0, 0))) ∧ Aside0 (Below w.heap.size w wc))
 case first =>
  have H := HC3.out
  clear HC3
  replace H := Option.bind_eq_some_iff.mp H
  obtain ⟨⟨t516, t517, t518, t519, t520, t521, t522, t523, t524, t525, t526, t527, t528, t529⟩, A160, H⟩ := H
  replace H : ((hogsheadref17_Picked.f a0_0 a0_1 a0_2 a0_3 a0_4 a0_5 a0_6 a0_7 a0_8 a0_9 a0_10 a0_11 a0_12 a0_13 a0_20 a0_22).bind fun bt530 => (if (t516 == bt530.1 && (t517 == bt530.2.1 && (t518.toList == bt530.2.2.1.toList && (t519.toList == bt530.2.2.2.1.toList && (t520 == bt530.2.2.2.2.1 && (t521 == bt530.2.2.2.2.2.1 && (t522 == bt530.2.2.2.2.2.2.1 && (t523 == bt530.2.2.2.2.2.2.2.1 && (t524 == bt530.2.2.2.2.2.2.2.2.1 && (t525 == bt530.2.2.2.2.2.2.2.2.2.1 && (t526 == bt530.2.2.2.2.2.2.2.2.2.2.1 && (t527 == bt530.2.2.2.2.2.2.2.2.2.2.2.1 && (t528.toList == bt530.2.2.2.2.2.2.2.2.2.2.2.2.1.toList && (t529 == bt530.2.2.2.2.2.2.2.2.2.2.2.2.2)))))))))))))) = true then ((deed_Heard.f a0_0 a0_1 a0_2 a0_3 a0_4 a0_5 a0_6 a0_7 a0_8 a0_9 a0_10 a0_11 a0_12 a0_13 a0_14 a0_15 a0_16 a0_17 a0_18 a0_19).bind fun bt544 => ((hogsheadref17_Heard.f k a0_0 a0_1 a0_2 a0_3 a0_4 a0_5 a0_6 a0_7 a0_8 a0_9 a0_10 a0_11 a0_12 a0_13 a0_14 a0_15 a0_16 a0_17 a0_18 a0_19).bind fun bt558 => (hogsheadlaw17_DeedGoes.j0 k a0_21 a0_22 t515 (bt544.1 == bt558.1 && (bt544.2.1 == bt558.2.1 && (bt544.2.2.1.toList == bt558.2.2.1.toList && (bt544.2.2.2.1.toList == bt558.2.2.2.1.toList && (bt544.2.2.2.2.1 == bt558.2.2.2.2.1 && (bt544.2.2.2.2.2.1 == bt558.2.2.2.2.2.1 && (bt544.2.2.2.2.2.2.1 == bt558.2.2.2.2.2.2.1 && (bt544.2.2.2.2.2.2.2.1 == bt558.2.2.2.2.2.2.2.1 && (bt544.2.2.2.2.2.2.2.2.1 == bt558.2.2.2.2.2.2.2.2.1 && (bt544.2.2.2.2.2.2.2.2.2.1 == bt558.2.2.2.2.2.2.2.2.2.1 && (bt544.2.2.2.2.2.2.2.2.2.2.1 == bt558.2.2.2.2.2.2.2.2.2.2.1 && (bt544.2.2.2.2.2.2.2.2.2.2.2.1 == bt558.2.2.2.2.2.2.2.2.2.2.2.1 && (bt544.2.2.2.2.2.2.2.2.2.2.2.2.1.toList == bt558.2.2.2.2.2.2.2.2.2.2.2.2.1.toList && (bt544.2.2.2.2.2.2.2.2.2.2.2.2.2 == bt558.2.2.2.2.2.2.2.2.2.2.2.2.2)))))))))))))) a0_0 a0_1 a0_2 a0_3 a0_4 a0_5 a0_6 a0_7 a0_8 a0_9 a0_10 a0_11 a0_12 a0_13))) else (hogsheadlaw17_DeedGoes.j0 k a0_21 a0_22 t515 false a0_0 a0_1 a0_2 a0_3 a0_4 a0_5 a0_6 a0_7 a0_8 a0_9 a0_10 a0_11 a0_12 a0_13))) = some r := H
  have A16 := qM A160
  clear A160
  replace H := Option.bind_eq_some_iff.mp H
  obtain ⟨⟨t530, t531, t532, t533, t534, t535, t536, t537, t538, t539, t540, t541, t542, t543⟩, A170, H⟩ := H
  replace H : (if (t516 == t530 && (t517 == t531 && (t518.toList == t532.toList && (t519.toList == t533.toList && (t520 == t534 && (t521 == t535 && (t522 == t536 && (t523 == t537 && (t524 == t538 && (t525 == t539 && (t526 == t540 && (t527 == t541 && (t528.toList == t542.toList && (t529 == t543)))))))))))))) = true then ((deed_Heard.f a0_0 a0_1 a0_2 a0_3 a0_4 a0_5 a0_6 a0_7 a0_8 a0_9 a0_10 a0_11 a0_12 a0_13 a0_14 a0_15 a0_16 a0_17 a0_18 a0_19).bind fun bt544 => ((hogsheadref17_Heard.f k a0_0 a0_1 a0_2 a0_3 a0_4 a0_5 a0_6 a0_7 a0_8 a0_9 a0_10 a0_11 a0_12 a0_13 a0_14 a0_15 a0_16 a0_17 a0_18 a0_19).bind fun bt558 => (hogsheadlaw17_DeedGoes.j0 k a0_21 a0_22 t515 (bt544.1 == bt558.1 && (bt544.2.1 == bt558.2.1 && (bt544.2.2.1.toList == bt558.2.2.1.toList && (bt544.2.2.2.1.toList == bt558.2.2.2.1.toList && (bt544.2.2.2.2.1 == bt558.2.2.2.2.1 && (bt544.2.2.2.2.2.1 == bt558.2.2.2.2.2.1 && (bt544.2.2.2.2.2.2.1 == bt558.2.2.2.2.2.2.1 && (bt544.2.2.2.2.2.2.2.1 == bt558.2.2.2.2.2.2.2.1 && (bt544.2.2.2.2.2.2.2.2.1 == bt558.2.2.2.2.2.2.2.2.1 && (bt544.2.2.2.2.2.2.2.2.2.1 == bt558.2.2.2.2.2.2.2.2.2.1 && (bt544.2.2.2.2.2.2.2.2.2.2.1 == bt558.2.2.2.2.2.2.2.2.2.2.1 && (bt544.2.2.2.2.2.2.2.2.2.2.2.1 == bt558.2.2.2.2.2.2.2.2.2.2.2.1 && (bt544.2.2.2.2.2.2.2.2.2.2.2.2.1.toList == bt558.2.2.2.2.2.2.2.2.2.2.2.2.1.toList && (bt544.2.2.2.2.2.2.2.2.2.2.2.2.2 == bt558.2.2.2.2.2.2.2.2.2.2.2.2.2)))))))))))))) a0_0 a0_1 a0_2 a0_3 a0_4 a0_5 a0_6 a0_7 a0_8 a0_9 a0_10 a0_11 a0_12 a0_13))) else (hogsheadlaw17_DeedGoes.j0 k a0_21 a0_22 t515 false a0_0 a0_1 a0_2 a0_3 a0_4 a0_5 a0_6 a0_7 a0_8 a0_9 a0_10 a0_11 a0_12 a0_13)) = some r := H
  have A17 := qM A170
  clear A170
  by_cases c18 : (t516 == t530 && (t517 == t531 && (t518.toList == t532.toList && (t519.toList == t533.toList && (t520 == t534 && (t521 == t535 && (t522 == t536 && (t523 == t537 && (t524 == t538 && (t525 == t539 && (t526 == t540 && (t527 == t541 && (t528.toList == t542.toList && (t529 == t543)))))))))))))) = true
  ·rw [if_pos c18] at H
   have c18b0 : (t516 == t530 && (t517 == t531 && (t518.toList == t532.toList && (t519.toList == t533.toList && (t520 == t534 && (t521 == t535 && (t522 == t536 && (t523 == t537 && (t524 == t538 && (t525 == t539 && (t526 == t540 && (t527 == t541 && (t528.toList == t542.toList && (t529 == t543)))))))))))))) = true := c18
   (try (have c18b1 : decide (t516 = t530 && (t517 == t531 && (t518.toList == t532.toList && (t519.toList == t533.toList && (t520 == t534 && (t521 == t535 && (t522 == t536 && (t523 == t537 && (t524 == t538 && (t525 == t539 && (t526 == t540 && (t527 == t541 && (t528.toList == t542.toList && (t529 == t543)))))))))))))) = true := by simpa using c18))
   (try (have c18b2 : (t516 == t530 && (t517 == t531 && (t518.toList == t532.toList && (t519.toList == t533.toList && (t520 == t534 && (t521 == t535 && (t522 == t536 && (t523 == t537 && (t524 == t538 && (t525 == t539 && (t526 == t540 && (t527 == t541 && (t528.toList == t542.toList && (t529 == t543)))))))))))))) = true := by simpa using c18))
   clear c18
   (first | rw [c18b0] | (simp only [i64_w, i32_w]; rw [c18b0]) | skip)
   replace H := Option.bind_eq_some_iff.mp H
   obtain ⟨⟨t544, t545, t546, t547, t548, t549, t550, t551, t552, t553, t554, t555, t556, t557⟩, A190, H⟩ := H
   replace H : ((hogsheadref17_Heard.f k a0_0 a0_1 a0_2 a0_3 a0_4 a0_5 a0_6 a0_7 a0_8 a0_9 a0_10 a0_11 a0_12 a0_13 a0_14 a0_15 a0_16 a0_17 a0_18 a0_19).bind fun bt558 => (hogsheadlaw17_DeedGoes.j0 k a0_21 a0_22 t515 (t544 == bt558.1 && (t545 == bt558.2.1 && (t546.toList == bt558.2.2.1.toList && (t547.toList == bt558.2.2.2.1.toList && (t548 == bt558.2.2.2.2.1 && (t549 == bt558.2.2.2.2.2.1 && (t550 == bt558.2.2.2.2.2.2.1 && (t551 == bt558.2.2.2.2.2.2.2.1 && (t552 == bt558.2.2.2.2.2.2.2.2.1 && (t553 == bt558.2.2.2.2.2.2.2.2.2.1 && (t554 == bt558.2.2.2.2.2.2.2.2.2.2.1 && (t555 == bt558.2.2.2.2.2.2.2.2.2.2.2.1 && (t556.toList == bt558.2.2.2.2.2.2.2.2.2.2.2.2.1.toList && (t557 == bt558.2.2.2.2.2.2.2.2.2.2.2.2.2)))))))))))))) a0_0 a0_1 a0_2 a0_3 a0_4 a0_5 a0_6 a0_7 a0_8 a0_9 a0_10 a0_11 a0_12 a0_13)) = some r := H
   have A19 := qM A190
   clear A190
   replace H := Option.bind_eq_some_iff.mp H
   obtain ⟨⟨t558, t559, t560, t561, t562, t563, t564, t565, t566, t567, t568, t569, t570, t571⟩, A200, H⟩ := H
   replace H : (hogsheadlaw17_DeedGoes.j0 k a0_21 a0_22 t515 (t544 == t558 && (t545 == t559 && (t546.toList == t560.toList && (t547.toList == t561.toList && (t548 == t562 && (t549 == t563 && (t550 == t564 && (t551 == t565 && (t552 == t566 && (t553 == t567 && (t554 == t568 && (t555 == t569 && (t556.toList == t570.toList && (t557 == t571)))))))))))))) a0_0 a0_1 a0_2 a0_3 a0_4 a0_5 a0_6 a0_7 a0_8 a0_9 a0_10 a0_11 a0_12 a0_13) = some r := H
   have A20 := qM A200
   clear A200
   have H' := qM H
   clear H
   try go_wp2
   have n0_ := qM (blk_drew B512.out)
   have n1_ := qM (blk_drew B513.out)
   have n2_ := qM (blk_drew B514.out)
   have n3_ := qM (below_drew1 HB.out)
   clear B512
   clear B513
   clear B514
   clear HB
   have B512 := n0_
   have B513 := n1_
   have B514 := n2_
   have HB := n3_
   clear n0_ n1_ n2_ n3_
   refine start_ (n := 19) (S := fun w' => w'.cell? ⟨g513, 0, none⟩ = some (.int .i64 a0_0) ∧ w'.cell? ⟨g513, 1, none⟩ = some (.int .i64 a0_1) ∧ w'.cell? ⟨g513, 2, none⟩ = some (.string a0_2) ∧ w'.cell? ⟨g513, 3, none⟩ = some (.string a0_3) ∧ w'.cell? ⟨g513, 4, none⟩ = some (.int .i64 a0_4) ∧ w'.cell? ⟨g513, 5, none⟩ = some (.int .i64 a0_5) ∧ w'.cell? ⟨g513, 6, none⟩ = some (.int .i64 a0_6) ∧ w'.cell? ⟨g513, 7, none⟩ = some (.int .i64 a0_7) ∧ w'.cell? ⟨g513, 8, none⟩ = some (.int .i64 a0_8) ∧ w'.cell? ⟨g513, 9, none⟩ = some (.int .u32 a0_9) ∧ w'.cell? ⟨g513, 10, none⟩ = some (.int .i64 a0_10) ∧ w'.cell? ⟨g513, 11, none⟩ = some (.int .i64 a0_11) ∧ w'.cell? ⟨g513, 12, none⟩ = some (.string a0_12) ∧ w'.cell? ⟨g513, 13, none⟩ = some (.bool a0_13) ∧ w'.cell? ⟨g514, 0, none⟩ = some (.int .i64 a0_14) ∧ w'.cell? ⟨g514, 1, none⟩ = some (.int .i64 a0_15) ∧ w'.cell? ⟨g514, 2, none⟩ = some (.int .i64 a0_16) ∧ w'.cell? ⟨g514, 3, none⟩ = some (.int .i64 a0_17) ∧ w'.cell? ⟨g514, 4, none⟩ = some (.int .u32 a0_18) ∧ w'.cell? ⟨g514, 5, none⟩ = some (.bool a0_19)) (ds := []) #[false, false, false, false, false, false, false, false, false, false, false, false, false, false, false, false, false, false, false] (by kernel_rfl) rfl rfl ⟨(qC B513.out 0).trans rfl, (qC B513.out 1).trans rfl, (qC B513.out 2).trans rfl, (qC B513.out 3).trans rfl, (qC B513.out 4).trans rfl, (qC B513.out 5).trans rfl, (qC B513.out 6).trans rfl, (qC B513.out 7).trans rfl, (qC B513.out 8).trans rfl, (qC B513.out 9).trans rfl, (qC B513.out 10).trans rfl, (qC B513.out 11).trans rfl, (qC B513.out 12).trans rfl, (qC B513.out 13).trans rfl, (qC B514.out 0).trans rfl, (qC B514.out 1).trans rfl, (qC B514.out 2).trans rfl, (qC B514.out 3).trans rfl, (qC B514.out 4).trans rfl, (qC B514.out 5).trans rfl⟩ (fun hHeld => ?_); refine with_tabW hogsheadlaw17_DeedGoes.tab7 hogsheadlaw17_DeedGoes.bits7 (fun HT_ HW_ => ?_)
   generalize w15.drew = w21 at B512 B513 B514 HB hHeld ⊢
   refine pure_ (i := 1) (N := some 23) (v := ?_) (a' := ?_) #[false, true, false, false, false, false, false, false, false, false, false, false, false, false, false, false, false, false, false] rfl rfl (any_of HT_.out (by kernel_rfl)) (fun _ _ _ h => h) (Or.inl ⟨by rfl, ?_⟩) ?_ ?_
   rotate_left
   ·intro w'; go_simp; with_reducible rfl
   rotate_left
   ·simp only [Act.put, xA, xZ, xS, i64_w, i32_w]; rfl
   refine pure_ (i := 2) (N := some 24) (v := ?_) (a' := ?_) #[false, true, true, false, false, false, false, false, false, false, false, false, false, false, false, false, false, false, false] rfl rfl (any_of HT_.out (by kernel_rfl)) (fun _ _ _ h => h) (Or.inl ⟨by rfl, ?_⟩) ?_ ?_
   rotate_left
   ·intro w'; go_simp; with_reducible rfl
   rotate_left
   ·simp only [Act.put, xA, xZ, xS, i64_w, i32_w]; rfl
   refine pure_ (i := 5) (N := some 27) (v := ?_) (a' := ?_) #[false, true, true, false, false, true, false, false, false, false, false, false, false, false, false, false, false, false, false] rfl rfl (any_of HT_.out (by kernel_rfl)) (fun _ _ _ h => h) (Or.inl ⟨by rfl, ?_⟩) ?_ ?_
   rotate_left
   ·intro w'; go_simp; with_reducible rfl
   rotate_left
   ·simp only [Act.put, xA, xZ, xS, i64_w, i32_w]; rfl
   refine pure_ (i := 6) (N := some 28) (v := ?_) (a' := ?_) #[false, true, true, false, false, true, true, false, false, false, false, false, false, false, false, false, false, false, false] rfl rfl (any_of HT_.out (by kernel_rfl)) (fun _ _ _ h => h) (Or.inl ⟨by rfl, ?_⟩) ?_ ?_
   rotate_left
   ·intro w'; go_simp; with_reducible rfl
   rotate_left
   ·simp only [Act.put, xA, xZ, xS, i64_w, i32_w]; rfl
   refine take_ (i := 0) (N := some 22) (v := ?_) (a' := ?_) #[true, true, true, false, false, true, true, false, false, false, false, false, false, false, false, false, false, false, false] rfl rfl (take_ofW HT_.out HW_.out (by kernel_rfl)) (fun _ _ _ h => h) (Or.inl ⟨by rfl, ?_⟩) hHeld ?_ ?_
   rotate_left
   ·rintro w' ⟨s0, s1, s2, s3, s4, s5, s6, s7, s8, s9, s10, s11, s12, s13, s14, s15, s16, s17, s18, s19⟩; go_simp; with_reducible rfl
   rotate_left
   ·simp only [Act.put, xA, xZ, xS, i64_w, i32_w]; rfl
   refine take_ (i := 4) (N := some 26) (v := ?_) (a' := ?_) #[true, true, true, false, true, true, true, false, false, false, false, false, false, false, false, false, false, false, false] rfl rfl (take_ofW HT_.out HW_.out (by kernel_rfl)) (fun _ _ _ h => h) (Or.inl ⟨by rfl, ?_⟩) hHeld ?_ ?_
   rotate_left
   ·rintro w' ⟨s0, s1, s2, s3, s4, s5, s6, s7, s8, s9, s10, s11, s12, s13, s14, s15, s16, s17, s18, s19⟩; go_simp; with_reducible rfl
   rotate_left
   ·simp only [Act.put, xA, xZ, xS, i64_w, i32_w]; rfl
   refine one_ (i := 3) (N := some 25) #[true, true, true, true, true, true, true, false, false, false, false, false, false, false, false, false, false, false, false] rfl rfl (one_of HT_.out (by kernel_rfl)) (by decide) (fun K hK => ?_)
   refine goes_ Try.func15 (by kernel_rfl) rfl #[.agg #[.int .i64 a0_0, .int .i64 a0_1, .string a0_2, .string a0_3, .int .i64 a0_4, .int .i64 a0_5, .int .i64 a0_6, .int .i64 a0_7, .int .i64 a0_8, .int .u32 a0_9, .int .i64 a0_10, .int .i64 a0_11, .string a0_12, .bool a0_13], .int .i64 a0_20, .int .i64 a0_22] (by rfl) rfl rfl (by (try simp only [List.map_toArray, List.map_cons, List.map_nil]); first | done | rfl | (simp only [List.length_drop, List.length_take]; rfl)) ?_
   with_reducible refine (deed_Picked.calls a0_0 a0_1 a0_2 a0_3 a0_4 a0_5 a0_6 a0_7 a0_8 a0_9 a0_10 a0_11 a0_12 a0_13 a0_20 a0_22 t516 t517 t518 t519 t520 t521 t522 t523 t524 t525 t526 t527 t528 t529 _ A16.out).mono ?_
   rintro e w22 ⟨rfl, hb⟩
   refine ⟨_, rfl, ?_⟩
   have n0_ := qM (qB (g := g512) (by (with_reducible repeat first | refine qN ?_ _ | refine qD ?_ | refine qA ?_ _); exact B512.out) hb)
   have n1_ := qM (qB (g := g513) (by (with_reducible repeat first | refine qN ?_ _ | refine qD ?_ | refine qA ?_ _); exact B513.out) hb)
   have n2_ := qM (qB (g := g514) (by (with_reducible repeat first | refine qN ?_ _ | refine qD ?_ | refine qA ?_ _); exact B514.out) hb)
   have n3_ := qM (eT (by repeat (first | (with_reducible first | exact HB.out | apply eA | apply eN | apply eD | refine eS ?_ GE512.out | refine eS ?_ GE513.out | refine eS ?_ GE514.out) | exact HB.out)) hb)
   clear B512
   clear B513
   clear B514
   clear HB
   have B512 := n0_
   have B513 := n1_
   have B514 := n2_
   have HB := n3_
   clear n0_ n1_ n2_ n3_
   (try clear hb)
   (try clear hb2)
   (try clear hk)
   (try clear hi)
   refine hK.out _ _ ⟨(qC B513.out 0).trans rfl, (qC B513.out 1).trans rfl, (qC B513.out 2).trans rfl, (qC B513.out 3).trans rfl, (qC B513.out 4).trans rfl, (qC B513.out 5).trans rfl, (qC B513.out 6).trans rfl, (qC B513.out 7).trans rfl, (qC B513.out 8).trans rfl, (qC B513.out 9).trans rfl, (qC B513.out 10).trans rfl, (qC B513.out 11).trans rfl, (qC B513.out 12).trans rfl, (qC B513.out 13).trans rfl, (qC B514.out 0).trans rfl, (qC B514.out 1).trans rfl, (qC B514.out 2).trans rfl, (qC B514.out 3).trans rfl, (qC B514.out 4).trans rfl, (qC B514.out 5).trans rfl⟩ (fun hHeld => ?_)
   clear hK K
   refine norm_ (a' := ?_) ?_ ?_
   rotate_left
   ·show Act.put _ (some 25) _ = _
    simp only [Act.put, xA, xZ, xS, i64_w, i32_w]
    rfl
   refine one_ (i := 7) (N := some 29) #[true, true, true, true, true, true, true, true, false, false, false, false, false, false, false, false, false, false, false] rfl rfl (one_of HT_.out (by kernel_rfl)) (by decide) (fun K hK => ?_)
   refine goes_ Try.func16 (by kernel_rfl) rfl #[.agg #[.int .i64 a0_0, .int .i64 a0_1, .string a0_2, .string a0_3, .int .i64 a0_4, .int .i64 a0_5, .int .i64 a0_6, .int .i64 a0_7, .int .i64 a0_8, .int .u32 a0_9, .int .i64 a0_10, .int .i64 a0_11, .string a0_12, .bool a0_13], .int .i64 a0_20, .int .i64 a0_22] (by rfl) rfl rfl (by (try simp only [List.map_toArray, List.map_cons, List.map_nil]); first | done | rfl | (simp only [List.length_drop, List.length_take]; rfl)) ?_
   with_reducible refine (hogsheadref17_Picked.calls a0_0 a0_1 a0_2 a0_3 a0_4 a0_5 a0_6 a0_7 a0_8 a0_9 a0_10 a0_11 a0_12 a0_13 a0_20 a0_22 t530 t531 t532 t533 t534 t535 t536 t537 t538 t539 t540 t541 t542 t543 _ A17.out).mono ?_
   rintro e w23 ⟨rfl, hb⟩
   refine ⟨_, rfl, ?_⟩
   have n0_ := qM (qB (g := g512) (by (with_reducible repeat first | refine qN ?_ _ | refine qD ?_ | refine qA ?_ _); exact B512.out) hb)
   have n1_ := qM (qB (g := g513) (by (with_reducible repeat first | refine qN ?_ _ | refine qD ?_ | refine qA ?_ _); exact B513.out) hb)
   have n2_ := qM (qB (g := g514) (by (with_reducible repeat first | refine qN ?_ _ | refine qD ?_ | refine qA ?_ _); exact B514.out) hb)
   have n3_ := qM (eT (by repeat (first | (with_reducible first | exact HB.out | apply eA | apply eN | apply eD | refine eS ?_ GE512.out | refine eS ?_ GE513.out | refine eS ?_ GE514.out) | exact HB.out)) hb)
   clear B512
   clear B513
   clear B514
   clear HB
   have B512 := n0_
   have B513 := n1_
   have B514 := n2_
   have HB := n3_
   clear n0_ n1_ n2_ n3_
   (try clear hb)
   (try clear hb2)
   (try clear hk)
   (try clear hi)
   refine hK.out _ _ ⟨(qC B513.out 0).trans rfl, (qC B513.out 1).trans rfl, (qC B513.out 2).trans rfl, (qC B513.out 3).trans rfl, (qC B513.out 4).trans rfl, (qC B513.out 5).trans rfl, (qC B513.out 6).trans rfl, (qC B513.out 7).trans rfl, (qC B513.out 8).trans rfl, (qC B513.out 9).trans rfl, (qC B513.out 10).trans rfl, (qC B513.out 11).trans rfl, (qC B513.out 12).trans rfl, (qC B513.out 13).trans rfl, (qC B514.out 0).trans rfl, (qC B514.out 1).trans rfl, (qC B514.out 2).trans rfl, (qC B514.out 3).trans rfl, (qC B514.out 4).trans rfl, (qC B514.out 5).trans rfl⟩ (fun hHeld => ?_)
   clear hK K
   refine norm_ (a' := ?_) ?_ ?_
   rotate_left
   ·show Act.put _ (some 29) _ = _
    simp only [Act.put, xA, xZ, xS, i64_w, i32_w]
    rfl
   refine pure_ (i := 8) (N := some 30) (v := ?_) (a' := ?_) #[true, true, true, true, true, true, true, true, true, false, false, false, false, false, false, false, false, false, false] rfl rfl (any_of HT_.out (by kernel_rfl)) (fun _ _ _ h => h) (Or.inl ⟨by rfl, ?_⟩) ?_ ?_
   rotate_left
   ·intro w'; go_simp; with_reducible rfl
   rotate_left
   ·simp only [Act.put, xA, xZ, xS, i64_w, i32_w]; rfl
   refine pure_ (i := 9) (N := some 31) (v := ?_) (a' := ?_) #[true, true, true, true, true, true, true, true, true, true, false, false, false, false, false, false, false, false, false] rfl rfl (any_of HT_.out (by kernel_rfl)) (fun _ _ _ h => h) (Or.inl ⟨by rfl, ?_⟩) ?_ ?_
   rotate_left
   ·intro w'; go_simp; with_reducible rfl
   rotate_left
   ·simp only [Act.put, xA, xZ, xS, i64_w, i32_w]; rfl
   refine take_ (i := 10) (N := some 32) (v := ?_) (a' := ?_) #[true, true, true, true, true, true, true, true, true, true, true, false, false, false, false, false, false, false, false] rfl rfl (take_ofW HT_.out HW_.out (by kernel_rfl)) (fun _ _ _ h => h) (Or.inl ⟨by rfl, ?_⟩) hHeld ?_ ?_
   rotate_left
   ·rintro w' ⟨s0, s1, s2, s3, s4, s5, s6, s7, s8, s9, s10, s11, s12, s13, s14, s15, s16, s17, s18, s19⟩; go_simp; with_reducible rfl
   rotate_left
   ·simp only [Act.put, xA, xZ, xS, i64_w, i32_w]; rfl
   refine take_ (i := 11) (N := some 33) (v := ?_) (a' := ?_) #[true, true, true, true, true, true, true, true, true, true, true, true, false, false, false, false, false, false, false] rfl rfl (take_ofW HT_.out HW_.out (by kernel_rfl)) (fun _ _ _ h => h) (Or.inl ⟨by rfl, ?_⟩) hHeld ?_ ?_
   rotate_left
   ·rintro w' ⟨s0, s1, s2, s3, s4, s5, s6, s7, s8, s9, s10, s11, s12, s13, s14, s15, s16, s17, s18, s19⟩; go_simp; with_reducible rfl
   rotate_left
   ·simp only [Act.put, xA, xZ, xS, i64_w, i32_w]; rfl
   refine take_ (i := 13) (N := some 35) (v := ?_) (a' := ?_) #[true, true, true, true, true, true, true, true, true, true, true, true, false, true, false, false, false, false, false] rfl rfl (take_ofW HT_.out HW_.out (by kernel_rfl)) (fun _ _ _ h => h) (Or.inl ⟨by rfl, ?_⟩) hHeld ?_ ?_
   rotate_left
   ·rintro w' ⟨s0, s1, s2, s3, s4, s5, s6, s7, s8, s9, s10, s11, s12, s13, s14, s15, s16, s17, s18, s19⟩; go_simp; with_reducible rfl
   rotate_left
   ·simp only [Act.put, xA, xZ, xS, i64_w, i32_w]; rfl
   refine take_ (i := 14) (N := some 36) (v := ?_) (a' := ?_) #[true, true, true, true, true, true, true, true, true, true, true, true, false, true, true, false, false, false, false] rfl rfl (take_ofW HT_.out HW_.out (by kernel_rfl)) (fun _ _ _ h => h) (Or.inl ⟨by rfl, ?_⟩) hHeld ?_ ?_
   rotate_left
   ·rintro w' ⟨s0, s1, s2, s3, s4, s5, s6, s7, s8, s9, s10, s11, s12, s13, s14, s15, s16, s17, s18, s19⟩; go_simp; with_reducible rfl
   rotate_left
   ·simp only [Act.put, xA, xZ, xS, i64_w, i32_w]; rfl
   refine one_ (i := 12) (N := some 34) #[true, true, true, true, true, true, true, true, true, true, true, true, true, true, true, false, false, false, false] rfl rfl (one_of HT_.out (by kernel_rfl)) (by decide) (fun K hK => ?_)
   refine goes_ Try.func17 (by kernel_rfl) rfl #[.agg #[.int .i64 a0_0, .int .i64 a0_1, .string a0_2, .string a0_3, .int .i64 a0_4, .int .i64 a0_5, .int .i64 a0_6, .int .i64 a0_7, .int .i64 a0_8, .int .u32 a0_9, .int .i64 a0_10, .int .i64 a0_11, .string a0_12, .bool a0_13], .agg #[.int .i64 a0_14, .int .i64 a0_15, .int .i64 a0_16, .int .i64 a0_17, .int .u32 a0_18, .bool a0_19]] (by rfl) rfl rfl (by (try simp only [List.map_toArray, List.map_cons, List.map_nil]); first | done | rfl | (simp only [List.length_drop, List.length_take]; rfl)) ?_
   with_reducible refine (deed_Heard.calls a0_0 a0_1 a0_2 a0_3 a0_4 a0_5 a0_6 a0_7 a0_8 a0_9 a0_10 a0_11 a0_12 a0_13 a0_14 a0_15 a0_16 a0_17 a0_18 a0_19 t544 t545 t546 t547 t548 t549 t550 t551 t552 t553 t554 t555 t556 t557 _ A19.out).mono ?_
   rintro e w24 ⟨rfl, hb⟩
   refine ⟨_, rfl, ?_⟩
   have n0_ := qM (qB (g := g512) (by (with_reducible repeat first | refine qN ?_ _ | refine qD ?_ | refine qA ?_ _); exact B512.out) hb)
   have n1_ := qM (qB (g := g513) (by (with_reducible repeat first | refine qN ?_ _ | refine qD ?_ | refine qA ?_ _); exact B513.out) hb)
   have n2_ := qM (qB (g := g514) (by (with_reducible repeat first | refine qN ?_ _ | refine qD ?_ | refine qA ?_ _); exact B514.out) hb)
   have n3_ := qM (eT (by repeat (first | (with_reducible first | exact HB.out | apply eA | apply eN | apply eD | refine eS ?_ GE512.out | refine eS ?_ GE513.out | refine eS ?_ GE514.out) | exact HB.out)) hb)
   clear B512
   clear B513
   clear B514
   clear HB
   have B512 := n0_
   have B513 := n1_
   have B514 := n2_
   have HB := n3_
   clear n0_ n1_ n2_ n3_
   (try clear hb)
   (try clear hb2)
   (try clear hk)
   (try clear hi)
   refine hK.out _ _ ⟨(qC B513.out 0).trans rfl, (qC B513.out 1).trans rfl, (qC B513.out 2).trans rfl, (qC B513.out 3).trans rfl, (qC B513.out 4).trans rfl, (qC B513.out 5).trans rfl, (qC B513.out 6).trans rfl, (qC B513.out 7).trans rfl, (qC B513.out 8).trans rfl, (qC B513.out 9).trans rfl, (qC B513.out 10).trans rfl, (qC B513.out 11).trans rfl, (qC B513.out 12).trans rfl, (qC B513.out 13).trans rfl, (qC B514.out 0).trans rfl, (qC B514.out 1).trans rfl, (qC B514.out 2).trans rfl, (qC B514.out 3).trans rfl, (qC B514.out 4).trans rfl, (qC B514.out 5).trans rfl⟩ (fun hHeld => ?_)
   clear hK K
   refine norm_ (a' := ?_) ?_ ?_
   rotate_left
   ·show Act.put _ (some 34) _ = _
    simp only [Act.put, xA, xZ, xS, i64_w, i32_w]
    rfl
   refine one_ (i := 15) (N := some 37) #[true, true, true, true, true, true, true, true, true, true, true, true, true, true, true, true, false, false, false] rfl rfl (one_of HT_.out (by kernel_rfl)) (by decide) (fun K hK => ?_)
   refine goes_ Try.func18 (by kernel_rfl) rfl #[.agg #[.int .i64 a0_0, .int .i64 a0_1, .string a0_2, .string a0_3, .int .i64 a0_4, .int .i64 a0_5, .int .i64 a0_6, .int .i64 a0_7, .int .i64 a0_8, .int .u32 a0_9, .int .i64 a0_10, .int .i64 a0_11, .string a0_12, .bool a0_13], .agg #[.int .i64 a0_14, .int .i64 a0_15, .int .i64 a0_16, .int .i64 a0_17, .int .u32 a0_18, .bool a0_19]] (by rfl) rfl rfl (by (try simp only [List.map_toArray, List.map_cons, List.map_nil]); first | done | rfl | (simp only [List.length_drop, List.length_take]; rfl)) ?_
   with_reducible refine (hogsheadref17_Heard.calls k a0_0 a0_1 a0_2 a0_3 a0_4 a0_5 a0_6 a0_7 a0_8 a0_9 a0_10 a0_11 a0_12 a0_13 a0_14 a0_15 a0_16 a0_17 a0_18 a0_19 t558 t559 t560 t561 t562 t563 t564 t565 t566 t567 t568 t569 t570 t571 _ A20.out).mono ?_
   rintro e w25 ⟨rfl, hb⟩
   refine ⟨_, rfl, ?_⟩
   have n0_ := qM (qB (g := g512) (by (with_reducible repeat first | refine qN ?_ _ | refine qD ?_ | refine qA ?_ _); exact B512.out) hb)
   have n1_ := qM (qB (g := g513) (by (with_reducible repeat first | refine qN ?_ _ | refine qD ?_ | refine qA ?_ _); exact B513.out) hb)
   have n2_ := qM (qB (g := g514) (by (with_reducible repeat first | refine qN ?_ _ | refine qD ?_ | refine qA ?_ _); exact B514.out) hb)
   have n3_ := qM (eT (by repeat (first | (with_reducible first | exact HB.out | apply eA | apply eN | apply eD | refine eS ?_ GE512.out | refine eS ?_ GE513.out | refine eS ?_ GE514.out) | exact HB.out)) hb)
   clear B512
   clear B513
   clear B514
   clear HB
   have B512 := n0_
   have B513 := n1_
   have B514 := n2_
   have HB := n3_
   clear n0_ n1_ n2_ n3_
   (try clear hb)
   (try clear hb2)
   (try clear hk)
   (try clear hi)
   refine hK.out _ _ ⟨(qC B513.out 0).trans rfl, (qC B513.out 1).trans rfl, (qC B513.out 2).trans rfl, (qC B513.out 3).trans rfl, (qC B513.out 4).trans rfl, (qC B513.out 5).trans rfl, (qC B513.out 6).trans rfl, (qC B513.out 7).trans rfl, (qC B513.out 8).trans rfl, (qC B513.out 9).trans rfl, (qC B513.out 10).trans rfl, (qC B513.out 11).trans rfl, (qC B513.out 12).trans rfl, (qC B513.out 13).trans rfl, (qC B514.out 0).trans rfl, (qC B514.out 1).trans rfl, (qC B514.out 2).trans rfl, (qC B514.out 3).trans rfl, (qC B514.out 4).trans rfl, (qC B514.out 5).trans rfl⟩ (fun hHeld => ?_)
   clear hK K
   refine norm_ (a' := ?_) ?_ ?_
   rotate_left
   ·show Act.put _ (some 37) _ = _
    simp only [Act.put, xA, xZ, xS, i64_w, i32_w]
    rfl
   refine pure_ (i := 16) (N := some 38) (v := ?_) (a' := ?_) #[true, true, true, true, true, true, true, true, true, true, true, true, true, true, true, true, true, false, false] rfl rfl (any_of HT_.out (by kernel_rfl)) (fun _ _ _ h => h) (Or.inl ⟨by rfl, ?_⟩) ?_ ?_
   rotate_left
   ·intro w'; go_simp; with_reducible rfl
   rotate_left
   ·simp only [Act.put, xA, xZ, xS, i64_w, i32_w]; rfl
   refine pure_ (i := 17) (N := some 39) (v := ?_) (a' := ?_) #[true, true, true, true, true, true, true, true, true, true, true, true, true, true, true, true, true, true, false] rfl rfl (any_of HT_.out (by kernel_rfl)) (fun _ _ _ h => h) (Or.inl ⟨by rfl, ?_⟩) ?_ ?_
   rotate_left
   ·intro w'; go_simp; with_reducible rfl
   rotate_left
   ·simp only [Act.put, xA, xZ, xS, i64_w, i32_w]; rfl
   refine pure_ (i := 18) (N := some 9) (v := ?_) (a' := ?_) #[true, true, true, true, true, true, true, true, true, true, true, true, true, true, true, true, true, true, true] rfl rfl (any_of HT_.out (by kernel_rfl)) (fun _ _ _ h => h) (Or.inl ⟨by rfl, ?_⟩) ?_ ?_
   rotate_left
   ·intro w'; go_simp; with_reducible rfl
   rotate_left
   ·simp only [Act.put, xA, xZ, xS, i64_w, i32_w]; rfl
   refine done_ (done_of HT_.out (by kernel_rfl)) ?_
   try go_wp2
   go_meet
   case rel => exact ⟨_, ((t544 == t558 && (t545 == t559 && (t546.toList == t560.toList && (t547.toList == t561.toList && (t548 == t562 && (t549 == t563 && (t550 == t564 && (t551 == t565 && (t552 == t566 && (t553 == t567 && (t554 == t568 && (t555 == t569 && (t556.toList == t570.toList && (t557 == t571))))))))))))))), (by first | rfl | (simp; done) | (simp [*]; done)), H', ⟨by first | omega | exact Nat.le_refl _⟩, ⟨by (with_reducible repeat first | refine qN ?_ _ | refine qD ?_ | refine qA ?_ _); exact B512.out⟩, ⟨by (with_reducible repeat first | refine qN ?_ _ | refine qD ?_ | refine qA ?_ _); exact B513.out⟩, ⟨by (with_reducible repeat first | refine qN ?_ _ | refine qD ?_ | refine qA ?_ _); exact B514.out⟩, ⟨by repeat (first | (with_reducible first | exact HB.out | apply eA | apply eN | apply eD | refine eS ?_ GE512.out | refine eS ?_ GE513.out | refine eS ?_ GE514.out) | exact HB.out)⟩⟩
  ·rw [if_neg c18] at H
   have c18b0 : (t516 == t530 && (t517 == t531 && (t518.toList == t532.toList && (t519.toList == t533.toList && (t520 == t534 && (t521 == t535 && (t522 == t536 && (t523 == t537 && (t524 == t538 && (t525 == t539 && (t526 == t540 && (t527 == t541 && (t528.toList == t542.toList && (t529 == t543)))))))))))))) = false := by simpa using c18
   (try (have c18b1 : decide (t516 = t530 && (t517 == t531 && (t518.toList == t532.toList && (t519.toList == t533.toList && (t520 == t534 && (t521 == t535 && (t522 == t536 && (t523 == t537 && (t524 == t538 && (t525 == t539 && (t526 == t540 && (t527 == t541 && (t528.toList == t542.toList && (t529 == t543)))))))))))))) = false := by simpa using c18))
   (try (have c18b2 : (t516 == t530 && (t517 == t531 && (t518.toList == t532.toList && (t519.toList == t533.toList && (t520 == t534 && (t521 == t535 && (t522 == t536 && (t523 == t537 && (t524 == t538 && (t525 == t539 && (t526 == t540 && (t527 == t541 && (t528.toList == t542.toList && (t529 == t543)))))))))))))) = false := by simpa using c18))
   (try (have c18b3 : ¬ (t516 = t530 && (t517 == t531 && (t518.toList == t532.toList && (t519.toList == t533.toList && (t520 == t534 && (t521 == t535 && (t522 == t536 && (t523 == t537 && (t524 == t538 && (t525 == t539 && (t526 == t540 && (t527 == t541 && (t528.toList == t542.toList && (t529 == t543)))))))))))))) := by simpa using c18))
   clear c18
   (first | rw [c18b0] | (simp only [i64_w, i32_w]; rw [c18b0]) | skip)
   have H' := qM H
   clear H
   try go_wp2
   have n0_ := qM (blk_drew B512.out)
   have n1_ := qM (blk_drew B513.out)
   have n2_ := qM (blk_drew B514.out)
   have n3_ := qM (below_drew1 HB.out)
   clear B512
   clear B513
   clear B514
   clear HB
   have B512 := n0_
   have B513 := n1_
   have B514 := n2_
   have HB := n3_
   clear n0_ n1_ n2_ n3_
   refine start_ (n := 19) (S := fun w' => w'.cell? ⟨g513, 0, none⟩ = some (.int .i64 a0_0) ∧ w'.cell? ⟨g513, 1, none⟩ = some (.int .i64 a0_1) ∧ w'.cell? ⟨g513, 2, none⟩ = some (.string a0_2) ∧ w'.cell? ⟨g513, 3, none⟩ = some (.string a0_3) ∧ w'.cell? ⟨g513, 4, none⟩ = some (.int .i64 a0_4) ∧ w'.cell? ⟨g513, 5, none⟩ = some (.int .i64 a0_5) ∧ w'.cell? ⟨g513, 6, none⟩ = some (.int .i64 a0_6) ∧ w'.cell? ⟨g513, 7, none⟩ = some (.int .i64 a0_7) ∧ w'.cell? ⟨g513, 8, none⟩ = some (.int .i64 a0_8) ∧ w'.cell? ⟨g513, 9, none⟩ = some (.int .u32 a0_9) ∧ w'.cell? ⟨g513, 10, none⟩ = some (.int .i64 a0_10) ∧ w'.cell? ⟨g513, 11, none⟩ = some (.int .i64 a0_11) ∧ w'.cell? ⟨g513, 12, none⟩ = some (.string a0_12) ∧ w'.cell? ⟨g513, 13, none⟩ = some (.bool a0_13)) (ds := []) #[false, false, false, false, false, false, false, false, false, false, false, false, false, false, false, false, false, false, false] (by kernel_rfl) rfl rfl ⟨(qC B513.out 0).trans rfl, (qC B513.out 1).trans rfl, (qC B513.out 2).trans rfl, (qC B513.out 3).trans rfl, (qC B513.out 4).trans rfl, (qC B513.out 5).trans rfl, (qC B513.out 6).trans rfl, (qC B513.out 7).trans rfl, (qC B513.out 8).trans rfl, (qC B513.out 9).trans rfl, (qC B513.out 10).trans rfl, (qC B513.out 11).trans rfl, (qC B513.out 12).trans rfl, (qC B513.out 13).trans rfl⟩ (fun hHeld => ?_); refine with_tabW hogsheadlaw17_DeedGoes.tab7 hogsheadlaw17_DeedGoes.bits7 (fun HT_ HW_ => ?_)
   generalize w15.drew = w26 at B512 B513 B514 HB hHeld ⊢
   refine pure_ (i := 1) (N := some 23) (v := ?_) (a' := ?_) #[false, true, false, false, false, false, false, false, false, false, false, false, false, false, false, false, false, false, false] rfl rfl (any_of HT_.out (by kernel_rfl)) (fun _ _ _ h => h) (Or.inl ⟨by rfl, ?_⟩) ?_ ?_
   rotate_left
   ·intro w'; go_simp; with_reducible rfl
   rotate_left
   ·simp only [Act.put, xA, xZ, xS, i64_w, i32_w]; rfl
   refine pure_ (i := 2) (N := some 24) (v := ?_) (a' := ?_) #[false, true, true, false, false, false, false, false, false, false, false, false, false, false, false, false, false, false, false] rfl rfl (any_of HT_.out (by kernel_rfl)) (fun _ _ _ h => h) (Or.inl ⟨by rfl, ?_⟩) ?_ ?_
   rotate_left
   ·intro w'; go_simp; with_reducible rfl
   rotate_left
   ·simp only [Act.put, xA, xZ, xS, i64_w, i32_w]; rfl
   refine pure_ (i := 5) (N := some 27) (v := ?_) (a' := ?_) #[false, true, true, false, false, true, false, false, false, false, false, false, false, false, false, false, false, false, false] rfl rfl (any_of HT_.out (by kernel_rfl)) (fun _ _ _ h => h) (Or.inl ⟨by rfl, ?_⟩) ?_ ?_
   rotate_left
   ·intro w'; go_simp; with_reducible rfl
   rotate_left
   ·simp only [Act.put, xA, xZ, xS, i64_w, i32_w]; rfl
   refine pure_ (i := 6) (N := some 28) (v := ?_) (a' := ?_) #[false, true, true, false, false, true, true, false, false, false, false, false, false, false, false, false, false, false, false] rfl rfl (any_of HT_.out (by kernel_rfl)) (fun _ _ _ h => h) (Or.inl ⟨by rfl, ?_⟩) ?_ ?_
   rotate_left
   ·intro w'; go_simp; with_reducible rfl
   rotate_left
   ·simp only [Act.put, xA, xZ, xS, i64_w, i32_w]; rfl
   refine take_ (i := 0) (N := some 22) (v := ?_) (a' := ?_) #[true, true, true, false, false, true, true, false, false, false, false, false, false, false, false, false, false, false, false] rfl rfl (take_ofW HT_.out HW_.out (by kernel_rfl)) (fun _ _ _ h => h) (Or.inl ⟨by rfl, ?_⟩) hHeld ?_ ?_
   rotate_left
   ·rintro w' ⟨s0, s1, s2, s3, s4, s5, s6, s7, s8, s9, s10, s11, s12, s13⟩; go_simp; with_reducible rfl
   rotate_left
   ·simp only [Act.put, xA, xZ, xS, i64_w, i32_w]; rfl
   refine take_ (i := 4) (N := some 26) (v := ?_) (a' := ?_) #[true, true, true, false, true, true, true, false, false, false, false, false, false, false, false, false, false, false, false] rfl rfl (take_ofW HT_.out HW_.out (by kernel_rfl)) (fun _ _ _ h => h) (Or.inl ⟨by rfl, ?_⟩) hHeld ?_ ?_
   rotate_left
   ·rintro w' ⟨s0, s1, s2, s3, s4, s5, s6, s7, s8, s9, s10, s11, s12, s13⟩; go_simp; with_reducible rfl
   rotate_left
   ·simp only [Act.put, xA, xZ, xS, i64_w, i32_w]; rfl
   refine one_ (i := 3) (N := some 25) #[true, true, true, true, true, true, true, false, false, false, false, false, false, false, false, false, false, false, false] rfl rfl (one_of HT_.out (by kernel_rfl)) (by decide) (fun K hK => ?_)
   refine goes_ Try.func15 (by kernel_rfl) rfl #[.agg #[.int .i64 a0_0, .int .i64 a0_1, .string a0_2, .string a0_3, .int .i64 a0_4, .int .i64 a0_5, .int .i64 a0_6, .int .i64 a0_7, .int .i64 a0_8, .int .u32 a0_9, .int .i64 a0_10, .int .i64 a0_11, .string a0_12, .bool a0_13], .int .i64 a0_20, .int .i64 a0_22] (by rfl) rfl rfl (by (try simp only [List.map_toArray, List.map_cons, List.map_nil]); first | done | rfl | (simp only [List.length_drop, List.length_take]; rfl)) ?_
   with_reducible refine (deed_Picked.calls a0_0 a0_1 a0_2 a0_3 a0_4 a0_5 a0_6 a0_7 a0_8 a0_9 a0_10 a0_11 a0_12 a0_13 a0_20 a0_22 t516 t517 t518 t519 t520 t521 t522 t523 t524 t525 t526 t527 t528 t529 _ A16.out).mono ?_
   rintro e w27 ⟨rfl, hb⟩
   refine ⟨_, rfl, ?_⟩
   have n0_ := qM (qB (g := g512) (by (with_reducible repeat first | refine qN ?_ _ | refine qD ?_ | refine qA ?_ _); exact B512.out) hb)
   have n1_ := qM (qB (g := g513) (by (with_reducible repeat first | refine qN ?_ _ | refine qD ?_ | refine qA ?_ _); exact B513.out) hb)
   have n2_ := qM (qB (g := g514) (by (with_reducible repeat first | refine qN ?_ _ | refine qD ?_ | refine qA ?_ _); exact B514.out) hb)
   have n3_ := qM (eT (by repeat (first | (with_reducible first | exact HB.out | apply eA | apply eN | apply eD | refine eS ?_ GE512.out | refine eS ?_ GE513.out | refine eS ?_ GE514.out) | exact HB.out)) hb)
   clear B512
   clear B513
   clear B514
   clear HB
   have B512 := n0_
   have B513 := n1_
   have B514 := n2_
   have HB := n3_
   clear n0_ n1_ n2_ n3_
   (try clear hb)
   (try clear hb2)
   (try clear hk)
   (try clear hi)
   refine hK.out _ _ ⟨(qC B513.out 0).trans rfl, (qC B513.out 1).trans rfl, (qC B513.out 2).trans rfl, (qC B513.out 3).trans rfl, (qC B513.out 4).trans rfl, (qC B513.out 5).trans rfl, (qC B513.out 6).trans rfl, (qC B513.out 7).trans rfl, (qC B513.out 8).trans rfl, (qC B513.out 9).trans rfl, (qC B513.out 10).trans rfl, (qC B513.out 11).trans rfl, (qC B513.out 12).trans rfl, (qC B513.out 13).trans rfl⟩ (fun hHeld => ?_)
   clear hK K
   refine norm_ (a' := ?_) ?_ ?_
   rotate_left
   ·show Act.put _ (some 25) _ = _
    simp only [Act.put, xA, xZ, xS, i64_w, i32_w]
    rfl
   refine one_ (i := 7) (N := some 29) #[true, true, true, true, true, true, true, true, false, false, false, false, false, false, false, false, false, false, false] rfl rfl (one_of HT_.out (by kernel_rfl)) (by decide) (fun K hK => ?_)
   refine goes_ Try.func16 (by kernel_rfl) rfl #[.agg #[.int .i64 a0_0, .int .i64 a0_1, .string a0_2, .string a0_3, .int .i64 a0_4, .int .i64 a0_5, .int .i64 a0_6, .int .i64 a0_7, .int .i64 a0_8, .int .u32 a0_9, .int .i64 a0_10, .int .i64 a0_11, .string a0_12, .bool a0_13], .int .i64 a0_20, .int .i64 a0_22] (by rfl) rfl rfl (by (try simp only [List.map_toArray, List.map_cons, List.map_nil]); first | done | rfl | (simp only [List.length_drop, List.length_take]; rfl)) ?_
   with_reducible refine (hogsheadref17_Picked.calls a0_0 a0_1 a0_2 a0_3 a0_4 a0_5 a0_6 a0_7 a0_8 a0_9 a0_10 a0_11 a0_12 a0_13 a0_20 a0_22 t530 t531 t532 t533 t534 t535 t536 t537 t538 t539 t540 t541 t542 t543 _ A17.out).mono ?_
   rintro e w28 ⟨rfl, hb⟩
   refine ⟨_, rfl, ?_⟩
   have n0_ := qM (qB (g := g512) (by (with_reducible repeat first | refine qN ?_ _ | refine qD ?_ | refine qA ?_ _); exact B512.out) hb)
   have n1_ := qM (qB (g := g513) (by (with_reducible repeat first | refine qN ?_ _ | refine qD ?_ | refine qA ?_ _); exact B513.out) hb)
   have n2_ := qM (qB (g := g514) (by (with_reducible repeat first | refine qN ?_ _ | refine qD ?_ | refine qA ?_ _); exact B514.out) hb)
   have n3_ := qM (eT (by repeat (first | (with_reducible first | exact HB.out | apply eA | apply eN | apply eD | refine eS ?_ GE512.out | refine eS ?_ GE513.out | refine eS ?_ GE514.out) | exact HB.out)) hb)
   clear B512
   clear B513
   clear B514
   clear HB
   have B512 := n0_
   have B513 := n1_
   have B514 := n2_
   have HB := n3_
   clear n0_ n1_ n2_ n3_
   (try clear hb)
   (try clear hb2)
   (try clear hk)
   (try clear hi)
   refine hK.out _ _ ⟨(qC B513.out 0).trans rfl, (qC B513.out 1).trans rfl, (qC B513.out 2).trans rfl, (qC B513.out 3).trans rfl, (qC B513.out 4).trans rfl, (qC B513.out 5).trans rfl, (qC B513.out 6).trans rfl, (qC B513.out 7).trans rfl, (qC B513.out 8).trans rfl, (qC B513.out 9).trans rfl, (qC B513.out 10).trans rfl, (qC B513.out 11).trans rfl, (qC B513.out 12).trans rfl, (qC B513.out 13).trans rfl⟩ (fun hHeld => ?_)
   clear hK K
   refine norm_ (a' := ?_) ?_ ?_
   rotate_left
   ·show Act.put _ (some 29) _ = _
    simp only [Act.put, xA, xZ, xS, i64_w, i32_w]
    rfl
   refine pure_ (i := 8) (N := some 30) (v := ?_) (a' := ?_) #[true, true, true, true, true, true, true, true, true, false, false, false, false, false, false, false, false, false, false] rfl rfl (any_of HT_.out (by kernel_rfl)) (fun _ _ _ h => h) (Or.inl ⟨by rfl, ?_⟩) ?_ ?_
   rotate_left
   ·intro w'; go_simp; with_reducible rfl
   rotate_left
   ·simp only [Act.put, xA, xZ, xS, i64_w, i32_w]; rfl
   refine pure_ (i := 9) (N := some 31) (v := ?_) (a' := ?_) #[true, true, true, true, true, true, true, true, true, true, false, false, false, false, false, false, false, false, false] rfl rfl (any_of HT_.out (by kernel_rfl)) (fun _ _ _ h => h) (Or.inl ⟨by rfl, ?_⟩) ?_ ?_
   rotate_left
   ·intro w'; go_simp; with_reducible rfl
   rotate_left
   ·simp only [Act.put, xA, xZ, xS, i64_w, i32_w]; rfl
   refine pure_ (i := 10) (N := some 32) (v := undef) (a' := ?_) #[true, true, true, true, true, true, true, true, true, true, true, false, false, false, false, false, false, false, false] rfl rfl (any_of HT_.out (by kernel_rfl)) (fun _ _ _ h => h) (Or.inr ⟨by rfl, rfl⟩) ?_ ?_
   rotate_left
   ·simp only [Act.put, xA, xZ, xS, i64_w, i32_w]; rfl
   refine pure_ (i := 11) (N := some 33) (v := undef) (a' := ?_) #[true, true, true, true, true, true, true, true, true, true, true, true, false, false, false, false, false, false, false] rfl rfl (any_of HT_.out (by kernel_rfl)) (fun _ _ _ h => h) (Or.inr ⟨by rfl, rfl⟩) ?_ ?_
   rotate_left
   ·simp only [Act.put, xA, xZ, xS, i64_w, i32_w]; rfl
   refine pure_ (i := 12) (N := some 34) (v := undef) (a' := ?_) #[true, true, true, true, true, true, true, true, true, true, true, true, true, false, false, false, false, false, false] rfl rfl (any_of HT_.out (by kernel_rfl)) (fun _ _ _ h => h) (Or.inr ⟨by rfl, rfl⟩) ?_ ?_
   rotate_left
   ·simp only [Act.put, xA, xZ, xS, i64_w, i32_w]; rfl
   refine pure_ (i := 13) (N := some 35) (v := undef) (a' := ?_) #[true, true, true, true, true, true, true, true, true, true, true, true, true, true, false, false, false, false, false] rfl rfl (any_of HT_.out (by kernel_rfl)) (fun _ _ _ h => h) (Or.inr ⟨by rfl, rfl⟩) ?_ ?_
   rotate_left
   ·simp only [Act.put, xA, xZ, xS, i64_w, i32_w]; rfl
   refine pure_ (i := 14) (N := some 36) (v := undef) (a' := ?_) #[true, true, true, true, true, true, true, true, true, true, true, true, true, true, true, false, false, false, false] rfl rfl (any_of HT_.out (by kernel_rfl)) (fun _ _ _ h => h) (Or.inr ⟨by rfl, rfl⟩) ?_ ?_
   rotate_left
   ·simp only [Act.put, xA, xZ, xS, i64_w, i32_w]; rfl
   refine pure_ (i := 15) (N := some 37) (v := undef) (a' := ?_) #[true, true, true, true, true, true, true, true, true, true, true, true, true, true, true, true, false, false, false] rfl rfl (any_of HT_.out (by kernel_rfl)) (fun _ _ _ h => h) (Or.inr ⟨by rfl, rfl⟩) ?_ ?_
   rotate_left
   ·simp only [Act.put, xA, xZ, xS, i64_w, i32_w]; rfl
   refine pure_ (i := 16) (N := some 38) (v := undef) (a' := ?_) #[true, true, true, true, true, true, true, true, true, true, true, true, true, true, true, true, true, false, false] rfl rfl (any_of HT_.out (by kernel_rfl)) (fun _ _ _ h => h) (Or.inr ⟨by rfl, rfl⟩) ?_ ?_
   rotate_left
   ·simp only [Act.put, xA, xZ, xS, i64_w, i32_w]; rfl
   refine pure_ (i := 17) (N := some 39) (v := ?_) (a' := ?_) #[true, true, true, true, true, true, true, true, true, true, true, true, true, true, true, true, true, true, false] rfl rfl (any_of HT_.out (by kernel_rfl)) (fun _ _ _ h => h) (Or.inl ⟨by rfl, ?_⟩) ?_ ?_
   rotate_left
   ·intro w'; go_simp; with_reducible rfl
   rotate_left
   ·simp only [Act.put, xA, xZ, xS, i64_w, i32_w]; rfl
   refine pure_ (i := 18) (N := some 9) (v := ?_) (a' := ?_) #[true, true, true, true, true, true, true, true, true, true, true, true, true, true, true, true, true, true, true] rfl rfl (any_of HT_.out (by kernel_rfl)) (fun _ _ _ h => h) (Or.inl ⟨by rfl, ?_⟩) ?_ ?_
   rotate_left
   ·intro w'; go_simp; with_reducible rfl
   rotate_left
   ·simp only [Act.put, xA, xZ, xS, i64_w, i32_w]; rfl
   refine done_ (done_of HT_.out (by kernel_rfl)) ?_
   try go_wp2
   go_meet
   case rel => exact ⟨_, (false), (by first | rfl | (simp; done) | (simp [*]; done)), H', ⟨by first | omega | exact Nat.le_refl _⟩, ⟨by (with_reducible repeat first | refine qN ?_ _ | refine qD ?_ | refine qA ?_ _); exact B512.out⟩, ⟨by (with_reducible repeat first | refine qN ?_ _ | refine qD ?_ | refine qA ?_ _); exact B513.out⟩, ⟨by (with_reducible repeat first | refine qN ?_ _ | refine qD ?_ | refine qA ?_ _); exact B514.out⟩, ⟨by repeat (first | (with_reducible first | exact HB.out | apply eA | apply eN | apply eD | refine eS ?_ GE512.out | refine eS ?_ GE513.out | refine eS ?_ GE514.out) | exact HB.out)⟩⟩
 case rest =>
  clear HC3
  try clear c1
  try clear p2
  try clear c5
  try clear c7
  try clear c9
  try clear c11
  try clear c12
  try clear c15
  try clear c16
  try clear c17
  try clear c18
  try clear c18b0
  try clear c18b1
  try clear c18b2
  try clear z13_0
  try clear z13_1
  try clear z13_2
  try clear z13_3
  try clear z13_4
  try clear z13_5
  try clear z14_0
  try clear z14_1
  try clear z14_10
  try clear z14_11
  try clear z14_12
  try clear z14_13
  try clear z14_14
  try clear z14_15
  try clear z14_16
  try clear z14_17
  try clear z14_18
  try clear z14_19
  try clear z14_2
  try clear z14_20
  try clear z14_21
  try clear z14_22
  try clear z14_3
  try clear z14_4
  try clear z14_5
  try clear z14_6
  try clear z14_7
  try clear z14_8
  try clear z14_9
  try clear z5_0
  try clear z5_1
  try clear z5_10
  try clear z5_11
  try clear z5_12
  try clear z5_13
  try clear z5_14
  try clear z5_15
  try clear z5_16
  try clear z5_17
  try clear z5_18
  try clear z5_19
  try clear z5_2
  try clear z5_20
  try clear z5_21
  try clear z5_22
  try clear z5_3
  try clear z5_4
  try clear z5_5
  try clear z5_6
  try clear z5_7
  try clear z5_8
  try clear z5_9
  try clear z8_0
  try clear z8_1
  try clear z8_10
  try clear z8_11
  try clear z8_12
  try clear z8_13
  try clear z8_2
  try clear z8_3
  try clear z8_4
  try clear z8_5
  try clear z8_6
  try clear z8_7
  try clear z8_8
  try clear z8_9
  try clear z9_0
  try clear z9_1
  try clear z9_10
  try clear z9_11
  try clear z9_12
  try clear z9_13
  try clear z9_14
  try clear z9_15
  try clear z9_16
  try clear z9_17
  try clear z9_18
  try clear z9_19
  try clear z9_2
  try clear z9_20
  try clear z9_21
  try clear z9_22
  try clear z9_3
  try clear z9_4
  try clear z9_5
  try clear z9_6
  try clear z9_7
  try clear z9_8
  try clear z9_9
  try clear f13_0
  try clear f13_1
  try clear f13_2
  try clear f13_3
  try clear f13_4
  try clear f13_5
  try clear f14_0
  try clear f14_1
  try clear f14_10
  try clear f14_11
  try clear f14_12
  try clear f14_13
  try clear f14_14
  try clear f14_15
  try clear f14_16
  try clear f14_17
  try clear f14_18
  try clear f14_19
  try clear f14_2
  try clear f14_20
  try clear f14_21
  try clear f14_22
  try clear f14_3
  try clear f14_4
  try clear f14_5
  try clear f14_6
  try clear f14_7
  try clear f14_8
  try clear f14_9
  try clear f5_0
  try clear f5_1
  try clear f5_10
  try clear f5_11
  try clear f5_12
  try clear f5_13
  try clear f5_14
  try clear f5_15
  try clear f5_16
  try clear f5_17
  try clear f5_18
  try clear f5_19
  try clear f5_2
  try clear f5_20
  try clear f5_21
  try clear f5_22
  try clear f5_3
  try clear f5_4
  try clear f5_5
  try clear f5_6
  try clear f5_7
  try clear f5_8
  try clear f5_9
  try clear f8_0
  try clear f8_1
  try clear f8_10
  try clear f8_11
  try clear f8_12
  try clear f8_13
  try clear f8_2
  try clear f8_3
  try clear f8_4
  try clear f8_5
  try clear f8_6
  try clear f8_7
  try clear f8_8
  try clear f8_9
  try clear f9_0
  try clear f9_1
  try clear f9_10
  try clear f9_11
  try clear f9_12
  try clear f9_13
  try clear f9_14
  try clear f9_15
  try clear f9_16
  try clear f9_17
  try clear f9_18
  try clear f9_19
  try clear f9_2
  try clear f9_20
  try clear f9_21
  try clear f9_22
  try clear f9_3
  try clear f9_4
  try clear f9_5
  try clear f9_6
  try clear f9_7
  try clear f9_8
  try clear f9_9
  obtain ⟨kq, x9_2, rfl, HA, HJ2, B512, B513, B514, HB⟩ := hcut
  cases kq with
  | zero => exact absurd HA.out (by simp [hogsheadlaw17_DeedGoes.j0])
  | succ kj2 =>
   have H := HA.out
   clear HA
   simp only [hogsheadlaw17_DeedGoes.j0] at H
   have HC29 := qM H
   clear H
   go_upto_region 8 with (fail)
   go_cut [10] (fun v10 wc => ∃ (kq : Nat) (x10_28 : Bool), v10 = .bool x10_28 ∧ Aside0 (hogsheadlaw17_DeedGoes.j1 kq t515 x9_2 x10_28 = some r) ∧ Aside0 (kq ≤ kj2) ∧ Aside0 (wc.heap[g512]? = some (.cells #[.int .i64 a0_0, .int .i64 a0_1, .string a0_2, .string a0_3, .int .i64 a0_4, .int .i64 a0_5, .int .i64 a0_6, .int .i64 a0_7, .int .i64 a0_8, .int .u32 a0_9, .int .i64 a0_10, .int .i64 a0_11, .string a0_12, .bool a0_13, .int .i64 a0_14, .int .i64 a0_15, .int .i64 a0_16, .int .i64 a0_17, .int .u32 a0_18, .bool a0_19, .int .i64 a0_20, .string a0_21, .int .i64 a0_22] 44 (0, 0))) ∧ Aside0 (wc.heap[g513]? = some (.cells #[.int .i64 a0_0, .int .i64 a0_1, .string a0_2, .string a0_3, .int .i64 a0_4, .int .i64 a0_5, .int .i64 a0_6, .int .i64 a0_7, .int .i64 a0_8, .int .u32 a0_9, .int .i64 a0_10, .int .i64 a0_11, .string a0_12, .bool a0_13] 28 (0, 0))) ∧ Aside0 (wc.heap[g514]? = some (.cells #[.int .i64 a0_14, .int .i64 a0_15, .int .i64 a0_16, .int .i64 a0_17, .int .u32 a0_18, .bool a0_19] 42 (0, 0))) ∧ Aside0 (Below w.heap.size w wc))
   case first =>
    have H := HC29.out
    clear HC29
    replace H := Option.bind_eq_some_iff.mp H
    obtain ⟨⟨t572, t573, t574, t575, t576, t577, t578, t579, t580, t581, t582, t583, t584, t585⟩, A300, H⟩ := H
    replace H : ((hogsheadref17_Wrote.f a0_0 a0_1 a0_2 a0_3 a0_4 a0_5 a0_6 a0_7 a0_8 a0_9 a0_10 a0_11 a0_12 a0_13 a0_22).bind fun bt586 => (if (t572 == bt586.1 && (t573 == bt586.2.1 && (t574.toList == bt586.2.2.1.toList && (t575.toList == bt586.2.2.2.1.toList && (t576 == bt586.2.2.2.2.1 && (t577 == bt586.2.2.2.2.2.1 && (t578 == bt586.2.2.2.2.2.2.1 && (t579 == bt586.2.2.2.2.2.2.2.1 && (t580 == bt586.2.2.2.2.2.2.2.2.1 && (t581 == bt586.2.2.2.2.2.2.2.2.2.1 && (t582 == bt586.2.2.2.2.2.2.2.2.2.2.1 && (t583 == bt586.2.2.2.2.2.2.2.2.2.2.2.1 && (t584.toList == bt586.2.2.2.2.2.2.2.2.2.2.2.2.1.toList && (t585 == bt586.2.2.2.2.2.2.2.2.2.2.2.2.2)))))))))))))) = true then ((deed_Got.f kj2 a0_0 a0_1 a0_2 a0_3 a0_4 a0_5 a0_6 a0_7 a0_8 a0_9 a0_10 a0_11 a0_12 a0_13 a0_21 a0_22).bind fun bt600 => ((hogsheadref17_Got.f kj2 a0_0 a0_1 a0_2 a0_3 a0_4 a0_5 a0_6 a0_7 a0_8 a0_9 a0_10 a0_11 a0_12 a0_13 a0_21 a0_22).bind fun bt614 => (if (bt600.1 == bt614.1 && (bt600.2.1 == bt614.2.1 && (bt600.2.2.1.toList == bt614.2.2.1.toList && (bt600.2.2.2.1.toList == bt614.2.2.2.1.toList && (bt600.2.2.2.2.1 == bt614.2.2.2.2.1 && (bt600.2.2.2.2.2.1 == bt614.2.2.2.2.2.1 && (bt600.2.2.2.2.2.2.1 == bt614.2.2.2.2.2.2.1 && (bt600.2.2.2.2.2.2.2.1 == bt614.2.2.2.2.2.2.2.1 && (bt600.2.2.2.2.2.2.2.2.1 == bt614.2.2.2.2.2.2.2.2.1 && (bt600.2.2.2.2.2.2.2.2.2.1 == bt614.2.2.2.2.2.2.2.2.2.1 && (bt600.2.2.2.2.2.2.2.2.2.2.1 == bt614.2.2.2.2.2.2.2.2.2.2.1 && (bt600.2.2.2.2.2.2.2.2.2.2.2.1 == bt614.2.2.2.2.2.2.2.2.2.2.2.1 && (bt600.2.2.2.2.2.2.2.2.2.2.2.2.1.toList == bt614.2.2.2.2.2.2.2.2.2.2.2.2.1.toList && (bt600.2.2.2.2.2.2.2.2.2.2.2.2.2 == bt614.2.2.2.2.2.2.2.2.2.2.2.2.2)))))))))))))) = true then ((deed_Late.f a0_0 a0_1 a0_2 a0_3 a0_4 a0_5 a0_6 a0_7 a0_8 a0_9 a0_10 a0_11 a0_12 a0_13).bind fun bt628 => ((hogsheadref17_Late.f a0_0 a0_1 a0_2 a0_3 a0_4 a0_5 a0_6 a0_7 a0_8 a0_9 a0_10 a0_11 a0_12 a0_13).bind fun bt642 => (hogsheadlaw17_DeedGoes.j1 kj2 t515 x9_2 (bt628.1 == bt642.1 && (bt628.2.1 == bt642.2.1 && (bt628.2.2.1.toList == bt642.2.2.1.toList && (bt628.2.2.2.1.toList == bt642.2.2.2.1.toList && (bt628.2.2.2.2.1 == bt642.2.2.2.2.1 && (bt628.2.2.2.2.2.1 == bt642.2.2.2.2.2.1 && (bt628.2.2.2.2.2.2.1 == bt642.2.2.2.2.2.2.1 && (bt628.2.2.2.2.2.2.2.1 == bt642.2.2.2.2.2.2.2.1 && (bt628.2.2.2.2.2.2.2.2.1 == bt642.2.2.2.2.2.2.2.2.1 && (bt628.2.2.2.2.2.2.2.2.2.1 == bt642.2.2.2.2.2.2.2.2.2.1 && (bt628.2.2.2.2.2.2.2.2.2.2.1 == bt642.2.2.2.2.2.2.2.2.2.2.1 && (bt628.2.2.2.2.2.2.2.2.2.2.2.1 == bt642.2.2.2.2.2.2.2.2.2.2.2.1 && (bt628.2.2.2.2.2.2.2.2.2.2.2.2.1.toList == bt642.2.2.2.2.2.2.2.2.2.2.2.2.1.toList && (bt628.2.2.2.2.2.2.2.2.2.2.2.2.2 == bt642.2.2.2.2.2.2.2.2.2.2.2.2.2))))))))))))))))) else (hogsheadlaw17_DeedGoes.j1 kj2 t515 x9_2 false)))) else (hogsheadlaw17_DeedGoes.j1 kj2 t515 x9_2 false))) = some r := H
    have A30 := qM A300
    clear A300
    replace H := Option.bind_eq_some_iff.mp H
    obtain ⟨⟨t586, t587, t588, t589, t590, t591, t592, t593, t594, t595, t596, t597, t598, t599⟩, A310, H⟩ := H
    replace H : (if (t572 == t586 && (t573 == t587 && (t574.toList == t588.toList && (t575.toList == t589.toList && (t576 == t590 && (t577 == t591 && (t578 == t592 && (t579 == t593 && (t580 == t594 && (t581 == t595 && (t582 == t596 && (t583 == t597 && (t584.toList == t598.toList && (t585 == t599)))))))))))))) = true then ((deed_Got.f kj2 a0_0 a0_1 a0_2 a0_3 a0_4 a0_5 a0_6 a0_7 a0_8 a0_9 a0_10 a0_11 a0_12 a0_13 a0_21 a0_22).bind fun bt600 => ((hogsheadref17_Got.f kj2 a0_0 a0_1 a0_2 a0_3 a0_4 a0_5 a0_6 a0_7 a0_8 a0_9 a0_10 a0_11 a0_12 a0_13 a0_21 a0_22).bind fun bt614 => (if (bt600.1 == bt614.1 && (bt600.2.1 == bt614.2.1 && (bt600.2.2.1.toList == bt614.2.2.1.toList && (bt600.2.2.2.1.toList == bt614.2.2.2.1.toList && (bt600.2.2.2.2.1 == bt614.2.2.2.2.1 && (bt600.2.2.2.2.2.1 == bt614.2.2.2.2.2.1 && (bt600.2.2.2.2.2.2.1 == bt614.2.2.2.2.2.2.1 && (bt600.2.2.2.2.2.2.2.1 == bt614.2.2.2.2.2.2.2.1 && (bt600.2.2.2.2.2.2.2.2.1 == bt614.2.2.2.2.2.2.2.2.1 && (bt600.2.2.2.2.2.2.2.2.2.1 == bt614.2.2.2.2.2.2.2.2.2.1 && (bt600.2.2.2.2.2.2.2.2.2.2.1 == bt614.2.2.2.2.2.2.2.2.2.2.1 && (bt600.2.2.2.2.2.2.2.2.2.2.2.1 == bt614.2.2.2.2.2.2.2.2.2.2.2.1 && (bt600.2.2.2.2.2.2.2.2.2.2.2.2.1.toList == bt614.2.2.2.2.2.2.2.2.2.2.2.2.1.toList && (bt600.2.2.2.2.2.2.2.2.2.2.2.2.2 == bt614.2.2.2.2.2.2.2.2.2.2.2.2.2)))))))))))))) = true then ((deed_Late.f a0_0 a0_1 a0_2 a0_3 a0_4 a0_5 a0_6 a0_7 a0_8 a0_9 a0_10 a0_11 a0_12 a0_13).bind fun bt628 => ((hogsheadref17_Late.f a0_0 a0_1 a0_2 a0_3 a0_4 a0_5 a0_6 a0_7 a0_8 a0_9 a0_10 a0_11 a0_12 a0_13).bind fun bt642 => (hogsheadlaw17_DeedGoes.j1 kj2 t515 x9_2 (bt628.1 == bt642.1 && (bt628.2.1 == bt642.2.1 && (bt628.2.2.1.toList == bt642.2.2.1.toList && (bt628.2.2.2.1.toList == bt642.2.2.2.1.toList && (bt628.2.2.2.2.1 == bt642.2.2.2.2.1 && (bt628.2.2.2.2.2.1 == bt642.2.2.2.2.2.1 && (bt628.2.2.2.2.2.2.1 == bt642.2.2.2.2.2.2.1 && (bt628.2.2.2.2.2.2.2.1 == bt642.2.2.2.2.2.2.2.1 && (bt628.2.2.2.2.2.2.2.2.1 == bt642.2.2.2.2.2.2.2.2.1 && (bt628.2.2.2.2.2.2.2.2.2.1 == bt642.2.2.2.2.2.2.2.2.2.1 && (bt628.2.2.2.2.2.2.2.2.2.2.1 == bt642.2.2.2.2.2.2.2.2.2.2.1 && (bt628.2.2.2.2.2.2.2.2.2.2.2.1 == bt642.2.2.2.2.2.2.2.2.2.2.2.1 && (bt628.2.2.2.2.2.2.2.2.2.2.2.2.1.toList == bt642.2.2.2.2.2.2.2.2.2.2.2.2.1.toList && (bt628.2.2.2.2.2.2.2.2.2.2.2.2.2 == bt642.2.2.2.2.2.2.2.2.2.2.2.2.2))))))))))))))))) else (hogsheadlaw17_DeedGoes.j1 kj2 t515 x9_2 false)))) else (hogsheadlaw17_DeedGoes.j1 kj2 t515 x9_2 false)) = some r := H
    have A31 := qM A310
    clear A310
    by_cases c32 : (t572 == t586 && (t573 == t587 && (t574.toList == t588.toList && (t575.toList == t589.toList && (t576 == t590 && (t577 == t591 && (t578 == t592 && (t579 == t593 && (t580 == t594 && (t581 == t595 && (t582 == t596 && (t583 == t597 && (t584.toList == t598.toList && (t585 == t599)))))))))))))) = true
    ·rw [if_pos c32] at H
     have c32b0 : (t572 == t586 && (t573 == t587 && (t574.toList == t588.toList && (t575.toList == t589.toList && (t576 == t590 && (t577 == t591 && (t578 == t592 && (t579 == t593 && (t580 == t594 && (t581 == t595 && (t582 == t596 && (t583 == t597 && (t584.toList == t598.toList && (t585 == t599)))))))))))))) = true := c32
     (try (have c32b1 : decide (t572 = t586 && (t573 == t587 && (t574.toList == t588.toList && (t575.toList == t589.toList && (t576 == t590 && (t577 == t591 && (t578 == t592 && (t579 == t593 && (t580 == t594 && (t581 == t595 && (t582 == t596 && (t583 == t597 && (t584.toList == t598.toList && (t585 == t599)))))))))))))) = true := by simpa using c32))
     (try (have c32b2 : (t572 == t586 && (t573 == t587 && (t574.toList == t588.toList && (t575.toList == t589.toList && (t576 == t590 && (t577 == t591 && (t578 == t592 && (t579 == t593 && (t580 == t594 && (t581 == t595 && (t582 == t596 && (t583 == t597 && (t584.toList == t598.toList && (t585 == t599)))))))))))))) = true := by simpa using c32))
     clear c32
     (first | rw [c32b0] | (simp only [i64_w, i32_w]; rw [c32b0]) | skip)
     replace H := Option.bind_eq_some_iff.mp H
     obtain ⟨⟨t600, t601, t602, t603, t604, t605, t606, t607, t608, t609, t610, t611, t612, t613⟩, A330, H⟩ := H
     replace H : ((hogsheadref17_Got.f kj2 a0_0 a0_1 a0_2 a0_3 a0_4 a0_5 a0_6 a0_7 a0_8 a0_9 a0_10 a0_11 a0_12 a0_13 a0_21 a0_22).bind fun bt614 => (if (t600 == bt614.1 && (t601 == bt614.2.1 && (t602.toList == bt614.2.2.1.toList && (t603.toList == bt614.2.2.2.1.toList && (t604 == bt614.2.2.2.2.1 && (t605 == bt614.2.2.2.2.2.1 && (t606 == bt614.2.2.2.2.2.2.1 && (t607 == bt614.2.2.2.2.2.2.2.1 && (t608 == bt614.2.2.2.2.2.2.2.2.1 && (t609 == bt614.2.2.2.2.2.2.2.2.2.1 && (t610 == bt614.2.2.2.2.2.2.2.2.2.2.1 && (t611 == bt614.2.2.2.2.2.2.2.2.2.2.2.1 && (t612.toList == bt614.2.2.2.2.2.2.2.2.2.2.2.2.1.toList && (t613 == bt614.2.2.2.2.2.2.2.2.2.2.2.2.2)))))))))))))) = true then ((deed_Late.f a0_0 a0_1 a0_2 a0_3 a0_4 a0_5 a0_6 a0_7 a0_8 a0_9 a0_10 a0_11 a0_12 a0_13).bind fun bt628 => ((hogsheadref17_Late.f a0_0 a0_1 a0_2 a0_3 a0_4 a0_5 a0_6 a0_7 a0_8 a0_9 a0_10 a0_11 a0_12 a0_13).bind fun bt642 => (hogsheadlaw17_DeedGoes.j1 kj2 t515 x9_2 (bt628.1 == bt642.1 && (bt628.2.1 == bt642.2.1 && (bt628.2.2.1.toList == bt642.2.2.1.toList && (bt628.2.2.2.1.toList == bt642.2.2.2.1.toList && (bt628.2.2.2.2.1 == bt642.2.2.2.2.1 && (bt628.2.2.2.2.2.1 == bt642.2.2.2.2.2.1 && (bt628.2.2.2.2.2.2.1 == bt642.2.2.2.2.2.2.1 && (bt628.2.2.2.2.2.2.2.1 == bt642.2.2.2.2.2.2.2.1 && (bt628.2.2.2.2.2.2.2.2.1 == bt642.2.2.2.2.2.2.2.2.1 && (bt628.2.2.2.2.2.2.2.2.2.1 == bt642.2.2.2.2.2.2.2.2.2.1 && (bt628.2.2.2.2.2.2.2.2.2.2.1 == bt642.2.2.2.2.2.2.2.2.2.2.1 && (bt628.2.2.2.2.2.2.2.2.2.2.2.1 == bt642.2.2.2.2.2.2.2.2.2.2.2.1 && (bt628.2.2.2.2.2.2.2.2.2.2.2.2.1.toList == bt642.2.2.2.2.2.2.2.2.2.2.2.2.1.toList && (bt628.2.2.2.2.2.2.2.2.2.2.2.2.2 == bt642.2.2.2.2.2.2.2.2.2.2.2.2.2))))))))))))))))) else (hogsheadlaw17_DeedGoes.j1 kj2 t515 x9_2 false))) = some r := H
     have A33 := qM A330
     clear A330
     replace H := Option.bind_eq_some_iff.mp H
     obtain ⟨⟨t614, t615, t616, t617, t618, t619, t620, t621, t622, t623, t624, t625, t626, t627⟩, A340, H⟩ := H
     replace H : (if (t600 == t614 && (t601 == t615 && (t602.toList == t616.toList && (t603.toList == t617.toList && (t604 == t618 && (t605 == t619 && (t606 == t620 && (t607 == t621 && (t608 == t622 && (t609 == t623 && (t610 == t624 && (t611 == t625 && (t612.toList == t626.toList && (t613 == t627)))))))))))))) = true then ((deed_Late.f a0_0 a0_1 a0_2 a0_3 a0_4 a0_5 a0_6 a0_7 a0_8 a0_9 a0_10 a0_11 a0_12 a0_13).bind fun bt628 => ((hogsheadref17_Late.f a0_0 a0_1 a0_2 a0_3 a0_4 a0_5 a0_6 a0_7 a0_8 a0_9 a0_10 a0_11 a0_12 a0_13).bind fun bt642 => (hogsheadlaw17_DeedGoes.j1 kj2 t515 x9_2 (bt628.1 == bt642.1 && (bt628.2.1 == bt642.2.1 && (bt628.2.2.1.toList == bt642.2.2.1.toList && (bt628.2.2.2.1.toList == bt642.2.2.2.1.toList && (bt628.2.2.2.2.1 == bt642.2.2.2.2.1 && (bt628.2.2.2.2.2.1 == bt642.2.2.2.2.2.1 && (bt628.2.2.2.2.2.2.1 == bt642.2.2.2.2.2.2.1 && (bt628.2.2.2.2.2.2.2.1 == bt642.2.2.2.2.2.2.2.1 && (bt628.2.2.2.2.2.2.2.2.1 == bt642.2.2.2.2.2.2.2.2.1 && (bt628.2.2.2.2.2.2.2.2.2.1 == bt642.2.2.2.2.2.2.2.2.2.1 && (bt628.2.2.2.2.2.2.2.2.2.2.1 == bt642.2.2.2.2.2.2.2.2.2.2.1 && (bt628.2.2.2.2.2.2.2.2.2.2.2.1 == bt642.2.2.2.2.2.2.2.2.2.2.2.1 && (bt628.2.2.2.2.2.2.2.2.2.2.2.2.1.toList == bt642.2.2.2.2.2.2.2.2.2.2.2.2.1.toList && (bt628.2.2.2.2.2.2.2.2.2.2.2.2.2 == bt642.2.2.2.2.2.2.2.2.2.2.2.2.2))))))))))))))))) else (hogsheadlaw17_DeedGoes.j1 kj2 t515 x9_2 false)) = some r := H
     have A34 := qM A340
     clear A340
     by_cases c35 : (t600 == t614 && (t601 == t615 && (t602.toList == t616.toList && (t603.toList == t617.toList && (t604 == t618 && (t605 == t619 && (t606 == t620 && (t607 == t621 && (t608 == t622 && (t609 == t623 && (t610 == t624 && (t611 == t625 && (t612.toList == t626.toList && (t613 == t627)))))))))))))) = true
     ·rw [if_pos c35] at H
      have c35b0 : (t600 == t614 && (t601 == t615 && (t602.toList == t616.toList && (t603.toList == t617.toList && (t604 == t618 && (t605 == t619 && (t606 == t620 && (t607 == t621 && (t608 == t622 && (t609 == t623 && (t610 == t624 && (t611 == t625 && (t612.toList == t626.toList && (t613 == t627)))))))))))))) = true := c35
      (try (have c35b1 : decide (t600 = t614 && (t601 == t615 && (t602.toList == t616.toList && (t603.toList == t617.toList && (t604 == t618 && (t605 == t619 && (t606 == t620 && (t607 == t621 && (t608 == t622 && (t609 == t623 && (t610 == t624 && (t611 == t625 && (t612.toList == t626.toList && (t613 == t627)))))))))))))) = true := by simpa using c35))
      (try (have c35b2 : (t600 == t614 && (t601 == t615 && (t602.toList == t616.toList && (t603.toList == t617.toList && (t604 == t618 && (t605 == t619 && (t606 == t620 && (t607 == t621 && (t608 == t622 && (t609 == t623 && (t610 == t624 && (t611 == t625 && (t612.toList == t626.toList && (t613 == t627)))))))))))))) = true := by simpa using c35))
      clear c35
      replace H := Option.bind_eq_some_iff.mp H
      obtain ⟨⟨t628, t629, t630, t631, t632, t633, t634, t635, t636, t637, t638, t639, t640, t641⟩, A360, H⟩ := H
      replace H : ((hogsheadref17_Late.f a0_0 a0_1 a0_2 a0_3 a0_4 a0_5 a0_6 a0_7 a0_8 a0_9 a0_10 a0_11 a0_12 a0_13).bind fun bt642 => (hogsheadlaw17_DeedGoes.j1 kj2 t515 x9_2 (t628 == bt642.1 && (t629 == bt642.2.1 && (t630.toList == bt642.2.2.1.toList && (t631.toList == bt642.2.2.2.1.toList && (t632 == bt642.2.2.2.2.1 && (t633 == bt642.2.2.2.2.2.1 && (t634 == bt642.2.2.2.2.2.2.1 && (t635 == bt642.2.2.2.2.2.2.2.1 && (t636 == bt642.2.2.2.2.2.2.2.2.1 && (t637 == bt642.2.2.2.2.2.2.2.2.2.1 && (t638 == bt642.2.2.2.2.2.2.2.2.2.2.1 && (t639 == bt642.2.2.2.2.2.2.2.2.2.2.2.1 && (t640.toList == bt642.2.2.2.2.2.2.2.2.2.2.2.2.1.toList && (t641 == bt642.2.2.2.2.2.2.2.2.2.2.2.2.2)))))))))))))))) = some r := H
      have A36 := qM A360
      clear A360
      replace H := Option.bind_eq_some_iff.mp H
      obtain ⟨⟨t642, t643, t644, t645, t646, t647, t648, t649, t650, t651, t652, t653, t654, t655⟩, A370, H⟩ := H
      replace H : (hogsheadlaw17_DeedGoes.j1 kj2 t515 x9_2 (t628 == t642 && (t629 == t643 && (t630.toList == t644.toList && (t631.toList == t645.toList && (t632 == t646 && (t633 == t647 && (t634 == t648 && (t635 == t649 && (t636 == t650 && (t637 == t651 && (t638 == t652 && (t639 == t653 && (t640.toList == t654.toList && (t641 == t655))))))))))))))) = some r := H
      have A37 := qM A370
      clear A370
      have H' := qM H
      clear H
      try go_wp2
      have n0_ := qM (blk_drew B512.out)
      have n1_ := qM (blk_drew B513.out)
      have n2_ := qM (blk_drew B514.out)
      have n3_ := qM (below_drew1 HB.out)
      clear B512
      clear B513
      clear B514
      clear HB
      have B512 := n0_
      have B513 := n1_
      have B514 := n2_
      have HB := n3_
      clear n0_ n1_ n2_ n3_
      refine start_ (n := 26) (S := fun w' => w'.cell? ⟨g513, 0, none⟩ = some (.int .i64 a0_0) ∧ w'.cell? ⟨g513, 1, none⟩ = some (.int .i64 a0_1) ∧ w'.cell? ⟨g513, 2, none⟩ = some (.string a0_2) ∧ w'.cell? ⟨g513, 3, none⟩ = some (.string a0_3) ∧ w'.cell? ⟨g513, 4, none⟩ = some (.int .i64 a0_4) ∧ w'.cell? ⟨g513, 5, none⟩ = some (.int .i64 a0_5) ∧ w'.cell? ⟨g513, 6, none⟩ = some (.int .i64 a0_6) ∧ w'.cell? ⟨g513, 7, none⟩ = some (.int .i64 a0_7) ∧ w'.cell? ⟨g513, 8, none⟩ = some (.int .i64 a0_8) ∧ w'.cell? ⟨g513, 9, none⟩ = some (.int .u32 a0_9) ∧ w'.cell? ⟨g513, 10, none⟩ = some (.int .i64 a0_10) ∧ w'.cell? ⟨g513, 11, none⟩ = some (.int .i64 a0_11) ∧ w'.cell? ⟨g513, 12, none⟩ = some (.string a0_12) ∧ w'.cell? ⟨g513, 13, none⟩ = some (.bool a0_13)) (ds := []) #[false, false, false, false, false, false, false, false, false, false, false, false, false, false, false, false, false, false, false, false, false, false, false, false, false, false] (by kernel_rfl) rfl rfl ⟨(qC B513.out 0).trans rfl, (qC B513.out 1).trans rfl, (qC B513.out 2).trans rfl, (qC B513.out 3).trans rfl, (qC B513.out 4).trans rfl, (qC B513.out 5).trans rfl, (qC B513.out 6).trans rfl, (qC B513.out 7).trans rfl, (qC B513.out 8).trans rfl, (qC B513.out 9).trans rfl, (qC B513.out 10).trans rfl, (qC B513.out 11).trans rfl, (qC B513.out 12).trans rfl, (qC B513.out 13).trans rfl⟩ (fun hHeld => ?_); refine with_tabW hogsheadlaw17_DeedGoes.tab8 hogsheadlaw17_DeedGoes.bits8 (fun HT_ HW_ => ?_)
      generalize wc.drew = w38 at B512 B513 B514 HB hHeld ⊢
      refine pure_ (i := 1) (N := some 41) (v := ?_) (a' := ?_) #[false, true, false, false, false, false, false, false, false, false, false, false, false, false, false, false, false, false, false, false, false, false, false, false, false, false] rfl rfl (any_of HT_.out (by kernel_rfl)) (fun _ _ _ h => h) (Or.inl ⟨by rfl, ?_⟩) ?_ ?_
      rotate_left
      ·intro w'; go_simp; with_reducible rfl
      rotate_left
      ·simp only [Act.put, xA, xZ, xS, i64_w, i32_w]; rfl
      refine pure_ (i := 4) (N := some 44) (v := ?_) (a' := ?_) #[false, true, false, false, true, false, false, false, false, false, false, false, false, false, false, false, false, false, false, false, false, false, false, false, false, false] rfl rfl (any_of HT_.out (by kernel_rfl)) (fun _ _ _ h => h) (Or.inl ⟨by rfl, ?_⟩) ?_ ?_
      rotate_left
      ·intro w'; go_simp; with_reducible rfl
      rotate_left
      ·simp only [Act.put, xA, xZ, xS, i64_w, i32_w]; rfl
      refine take_ (i := 0) (N := some 40) (v := ?_) (a' := ?_) #[true, true, false, false, true, false, false, false, false, false, false, false, false, false, false, false, false, false, false, false, false, false, false, false, false, false] rfl rfl (take_ofW HT_.out HW_.out (by kernel_rfl)) (fun _ _ _ h => h) (Or.inl ⟨by rfl, ?_⟩) hHeld ?_ ?_
      rotate_left
      ·rintro w' ⟨s0, s1, s2, s3, s4, s5, s6, s7, s8, s9, s10, s11, s12, s13⟩; go_simp; with_reducible rfl
      rotate_left
      ·simp only [Act.put, xA, xZ, xS, i64_w, i32_w]; rfl
      refine take_ (i := 3) (N := some 43) (v := ?_) (a' := ?_) #[true, true, false, true, true, false, false, false, false, false, false, false, false, false, false, false, false, false, false, false, false, false, false, false, false, false] rfl rfl (take_ofW HT_.out HW_.out (by kernel_rfl)) (fun _ _ _ h => h) (Or.inl ⟨by rfl, ?_⟩) hHeld ?_ ?_
      rotate_left
      ·rintro w' ⟨s0, s1, s2, s3, s4, s5, s6, s7, s8, s9, s10, s11, s12, s13⟩; go_simp; with_reducible rfl
      rotate_left
      ·simp only [Act.put, xA, xZ, xS, i64_w, i32_w]; rfl
      refine one_ (i := 2) (N := some 42) #[true, true, true, true, true, false, false, false, false, false, false, false, false, false, false, false, false, false, false, false, false, false, false, false, false, false] rfl rfl (one_of HT_.out (by kernel_rfl)) (by decide) (fun K hK => ?_)
      refine goes_ Try.func19 (by kernel_rfl) rfl #[.agg #[.int .i64 a0_0, .int .i64 a0_1, .string a0_2, .string a0_3, .int .i64 a0_4, .int .i64 a0_5, .int .i64 a0_6, .int .i64 a0_7, .int .i64 a0_8, .int .u32 a0_9, .int .i64 a0_10, .int .i64 a0_11, .string a0_12, .bool a0_13], .int .i64 a0_22] (by rfl) rfl rfl (by (try simp only [List.map_toArray, List.map_cons, List.map_nil]); first | done | rfl | (simp only [List.length_drop, List.length_take]; rfl)) ?_
      with_reducible refine (deed_Wrote.calls a0_0 a0_1 a0_2 a0_3 a0_4 a0_5 a0_6 a0_7 a0_8 a0_9 a0_10 a0_11 a0_12 a0_13 a0_22 t572 t573 t574 t575 t576 t577 t578 t579 t580 t581 t582 t583 t584 t585 _ A30.out).mono ?_
      rintro e w39 ⟨rfl, hb⟩
      refine ⟨_, rfl, ?_⟩
      have n0_ := qM (qB (g := g512) (by (with_reducible repeat first | refine qN ?_ _ | refine qD ?_ | refine qA ?_ _); exact B512.out) hb)
      have n1_ := qM (qB (g := g513) (by (with_reducible repeat first | refine qN ?_ _ | refine qD ?_ | refine qA ?_ _); exact B513.out) hb)
      have n2_ := qM (qB (g := g514) (by (with_reducible repeat first | refine qN ?_ _ | refine qD ?_ | refine qA ?_ _); exact B514.out) hb)
      have n3_ := qM (eT (by repeat (first | (with_reducible first | exact HB.out | apply eA | apply eN | apply eD | refine eS ?_ GE512.out | refine eS ?_ GE513.out | refine eS ?_ GE514.out) | exact HB.out)) hb)
      clear B512
      clear B513
      clear B514
      clear HB
      have B512 := n0_
      have B513 := n1_
      have B514 := n2_
      have HB := n3_
      clear n0_ n1_ n2_ n3_
      (try clear hb)
      (try clear hb2)
      (try clear hk)
      (try clear hi)
      refine hK.out _ _ ⟨(qC B513.out 0).trans rfl, (qC B513.out 1).trans rfl, (qC B513.out 2).trans rfl, (qC B513.out 3).trans rfl, (qC B513.out 4).trans rfl, (qC B513.out 5).trans rfl, (qC B513.out 6).trans rfl, (qC B513.out 7).trans rfl, (qC B513.out 8).trans rfl, (qC B513.out 9).trans rfl, (qC B513.out 10).trans rfl, (qC B513.out 11).trans rfl, (qC B513.out 12).trans rfl, (qC B513.out 13).trans rfl⟩ (fun hHeld => ?_)
      clear hK K
      refine norm_ (a' := ?_) ?_ ?_
      rotate_left
      ·show Act.put _ (some 42) _ = _
       simp only [Act.put, xA, xZ, xS, i64_w, i32_w]
       rfl
      refine one_ (i := 5) (N := some 45) #[true, true, true, true, true, true, false, false, false, false, false, false, false, false, false, false, false, false, false, false, false, false, false, false, false, false] rfl rfl (one_of HT_.out (by kernel_rfl)) (by decide) (fun K hK => ?_)
      refine goes_ Try.func20 (by kernel_rfl) rfl #[.agg #[.int .i64 a0_0, .int .i64 a0_1, .string a0_2, .string a0_3, .int .i64 a0_4, .int .i64 a0_5, .int .i64 a0_6, .int .i64 a0_7, .int .i64 a0_8, .int .u32 a0_9, .int .i64 a0_10, .int .i64 a0_11, .string a0_12, .bool a0_13], .int .i64 a0_22] (by rfl) rfl rfl (by (try simp only [List.map_toArray, List.map_cons, List.map_nil]); first | done | rfl | (simp only [List.length_drop, List.length_take]; rfl)) ?_
      with_reducible refine (hogsheadref17_Wrote.calls a0_0 a0_1 a0_2 a0_3 a0_4 a0_5 a0_6 a0_7 a0_8 a0_9 a0_10 a0_11 a0_12 a0_13 a0_22 t586 t587 t588 t589 t590 t591 t592 t593 t594 t595 t596 t597 t598 t599 _ A31.out).mono ?_
      rintro e w40 ⟨rfl, hb⟩
      refine ⟨_, rfl, ?_⟩
      have n0_ := qM (qB (g := g512) (by (with_reducible repeat first | refine qN ?_ _ | refine qD ?_ | refine qA ?_ _); exact B512.out) hb)
      have n1_ := qM (qB (g := g513) (by (with_reducible repeat first | refine qN ?_ _ | refine qD ?_ | refine qA ?_ _); exact B513.out) hb)
      have n2_ := qM (qB (g := g514) (by (with_reducible repeat first | refine qN ?_ _ | refine qD ?_ | refine qA ?_ _); exact B514.out) hb)
      have n3_ := qM (eT (by repeat (first | (with_reducible first | exact HB.out | apply eA | apply eN | apply eD | refine eS ?_ GE512.out | refine eS ?_ GE513.out | refine eS ?_ GE514.out) | exact HB.out)) hb)
      clear B512
      clear B513
      clear B514
      clear HB
      have B512 := n0_
      have B513 := n1_
      have B514 := n2_
      have HB := n3_
      clear n0_ n1_ n2_ n3_
      (try clear hb)
      (try clear hb2)
      (try clear hk)
      (try clear hi)
      refine hK.out _ _ ⟨(qC B513.out 0).trans rfl, (qC B513.out 1).trans rfl, (qC B513.out 2).trans rfl, (qC B513.out 3).trans rfl, (qC B513.out 4).trans rfl, (qC B513.out 5).trans rfl, (qC B513.out 6).trans rfl, (qC B513.out 7).trans rfl, (qC B513.out 8).trans rfl, (qC B513.out 9).trans rfl, (qC B513.out 10).trans rfl, (qC B513.out 11).trans rfl, (qC B513.out 12).trans rfl, (qC B513.out 13).trans rfl⟩ (fun hHeld => ?_)
      clear hK K
      refine norm_ (a' := ?_) ?_ ?_
      rotate_left
      ·show Act.put _ (some 45) _ = _
       simp only [Act.put, xA, xZ, xS, i64_w, i32_w]
       rfl
      refine pure_ (i := 6) (N := some 46) (v := ?_) (a' := ?_) #[true, true, true, true, true, true, true, false, false, false, false, false, false, false, false, false, false, false, false, false, false, false, false, false, false, false] rfl rfl (any_of HT_.out (by kernel_rfl)) (fun _ _ _ h => h) (Or.inl ⟨by rfl, ?_⟩) ?_ ?_
      rotate_left
      ·intro w'; go_simp; with_reducible rfl
      rotate_left
      ·simp only [Act.put, xA, xZ, xS, i64_w, i32_w]; rfl
      refine pure_ (i := 7) (N := some 47) (v := ?_) (a' := ?_) #[true, true, true, true, true, true, true, true, false, false, false, false, false, false, false, false, false, false, false, false, false, false, false, false, false, false] rfl rfl (any_of HT_.out (by kernel_rfl)) (fun _ _ _ h => h) (Or.inl ⟨by rfl, ?_⟩) ?_ ?_
      rotate_left
      ·intro w'; go_simp; with_reducible rfl
      rotate_left
      ·simp only [Act.put, xA, xZ, xS, i64_w, i32_w]; rfl
      refine pure_ (i := 9) (N := some 49) (v := ?_) (a' := ?_) #[true, true, true, true, true, true, true, true, false, true, false, false, false, false, false, false, false, false, false, false, false, false, false, false, false, false] rfl rfl (any_of HT_.out (by kernel_rfl)) (fun _ _ _ h => h) (Or.inl ⟨by rfl, ?_⟩) ?_ ?_
      rotate_left
      ·intro w'; go_simp; with_reducible rfl
      rotate_left
      ·simp only [Act.put, xA, xZ, xS, i64_w, i32_w]; rfl
      refine pure_ (i := 10) (N := some 50) (v := ?_) (a' := ?_) #[true, true, true, true, true, true, true, true, false, true, true, false, false, false, false, false, false, false, false, false, false, false, false, false, false, false] rfl rfl (any_of HT_.out (by kernel_rfl)) (fun _ _ _ h => h) (Or.inl ⟨by rfl, ?_⟩) ?_ ?_
      rotate_left
      ·intro w'; go_simp; with_reducible rfl
      rotate_left
      ·simp only [Act.put, xA, xZ, xS, i64_w, i32_w]; rfl
      refine pure_ (i := 13) (N := some 53) (v := ?_) (a' := ?_) #[true, true, true, true, true, true, true, true, false, true, true, false, false, true, false, false, false, false, false, false, false, false, false, false, false, false] rfl rfl (any_of HT_.out (by kernel_rfl)) (fun _ _ _ h => h) (Or.inl ⟨by rfl, ?_⟩) ?_ ?_
      rotate_left
      ·intro w'; go_simp; with_reducible rfl
      rotate_left
      ·simp only [Act.put, xA, xZ, xS, i64_w, i32_w]; rfl
      refine pure_ (i := 14) (N := some 54) (v := ?_) (a' := ?_) #[true, true, true, true, true, true, true, true, false, true, true, false, false, true, true, false, false, false, false, false, false, false, false, false, false, false] rfl rfl (any_of HT_.out (by kernel_rfl)) (fun _ _ _ h => h) (Or.inl ⟨by rfl, ?_⟩) ?_ ?_
      rotate_left
      ·intro w'; go_simp; with_reducible rfl
      rotate_left
      ·simp only [Act.put, xA, xZ, xS, i64_w, i32_w]; rfl
      refine take_ (i := 8) (N := some 48) (v := ?_) (a' := ?_) #[true, true, true, true, true, true, true, true, true, true, true, false, false, true, true, false, false, false, false, false, false, false, false, false, false, false] rfl rfl (take_ofW HT_.out HW_.out (by kernel_rfl)) (fun _ _ _ h => h) (Or.inl ⟨by rfl, ?_⟩) hHeld ?_ ?_
      rotate_left
      ·rintro w' ⟨s0, s1, s2, s3, s4, s5, s6, s7, s8, s9, s10, s11, s12, s13⟩; go_simp; with_reducible rfl
      rotate_left
      ·simp only [Act.put, xA, xZ, xS, i64_w, i32_w]; rfl
      refine take_ (i := 12) (N := some 52) (v := ?_) (a' := ?_) #[true, true, true, true, true, true, true, true, true, true, true, false, true, true, true, false, false, false, false, false, false, false, false, false, false, false] rfl rfl (take_ofW HT_.out HW_.out (by kernel_rfl)) (fun _ _ _ h => h) (Or.inl ⟨by rfl, ?_⟩) hHeld ?_ ?_
      rotate_left
      ·rintro w' ⟨s0, s1, s2, s3, s4, s5, s6, s7, s8, s9, s10, s11, s12, s13⟩; go_simp; with_reducible rfl
      rotate_left
      ·simp only [Act.put, xA, xZ, xS, i64_w, i32_w]; rfl
      refine one_ (i := 11) (N := some 51) #[true, true, true, true, true, true, true, true, true, true, true, true, true, true, true, false, false, false, false, false, false, false, false, false, false, false] rfl rfl (one_of HT_.out (by kernel_rfl)) (by decide) (fun K hK => ?_)
      refine goes_ Try.func21 (by kernel_rfl) rfl #[.agg #[.int .i64 a0_0, .int .i64 a0_1, .string a0_2, .string a0_3, .int .i64 a0_4, .int .i64 a0_5, .int .i64 a0_6, .int .i64 a0_7, .int .i64 a0_8, .int .u32 a0_9, .int .i64 a0_10, .int .i64 a0_11, .string a0_12, .bool a0_13], .string a0_21, .int .i64 a0_22] (by rfl) rfl rfl (by (try simp only [List.map_toArray, List.map_cons, List.map_nil]); first | done | rfl | (simp only [List.length_drop, List.length_take]; rfl)) ?_
      with_reducible refine (deed_Got.calls kj2 a0_0 a0_1 a0_2 a0_3 a0_4 a0_5 a0_6 a0_7 a0_8 a0_9 a0_10 a0_11 a0_12 a0_13 a0_21 a0_22 t600 t601 t602 t603 t604 t605 t606 t607 t608 t609 t610 t611 t612 t613 _ A33.out).mono ?_
      rintro e w41 ⟨rfl, hb⟩
      refine ⟨_, rfl, ?_⟩
      have n0_ := qM (qB (g := g512) (by (with_reducible repeat first | refine qN ?_ _ | refine qD ?_ | refine qA ?_ _); exact B512.out) hb)
      have n1_ := qM (qB (g := g513) (by (with_reducible repeat first | refine qN ?_ _ | refine qD ?_ | refine qA ?_ _); exact B513.out) hb)
      have n2_ := qM (qB (g := g514) (by (with_reducible repeat first | refine qN ?_ _ | refine qD ?_ | refine qA ?_ _); exact B514.out) hb)
      have n3_ := qM (eT (by repeat (first | (with_reducible first | exact HB.out | apply eA | apply eN | apply eD | refine eS ?_ GE512.out | refine eS ?_ GE513.out | refine eS ?_ GE514.out) | exact HB.out)) hb)
      clear B512
      clear B513
      clear B514
      clear HB
      have B512 := n0_
      have B513 := n1_
      have B514 := n2_
      have HB := n3_
      clear n0_ n1_ n2_ n3_
      (try clear hb)
      (try clear hb2)
      (try clear hk)
      (try clear hi)
      refine hK.out _ _ ⟨(qC B513.out 0).trans rfl, (qC B513.out 1).trans rfl, (qC B513.out 2).trans rfl, (qC B513.out 3).trans rfl, (qC B513.out 4).trans rfl, (qC B513.out 5).trans rfl, (qC B513.out 6).trans rfl, (qC B513.out 7).trans rfl, (qC B513.out 8).trans rfl, (qC B513.out 9).trans rfl, (qC B513.out 10).trans rfl, (qC B513.out 11).trans rfl, (qC B513.out 12).trans rfl, (qC B513.out 13).trans rfl⟩ (fun hHeld => ?_)
      clear hK K
      refine norm_ (a' := ?_) ?_ ?_
      rotate_left
      ·show Act.put _ (some 51) _ = _
       simp only [Act.put, xA, xZ, xS, i64_w, i32_w]
       rfl
      refine one_ (i := 15) (N := some 55) #[true, true, true, true, true, true, true, true, true, true, true, true, true, true, true, true, false, false, false, false, false, false, false, false, false, false] rfl rfl (one_of HT_.out (by kernel_rfl)) (by decide) (fun K hK => ?_)
      refine goes_ Try.func22 (by kernel_rfl) rfl #[.agg #[.int .i64 a0_0, .int .i64 a0_1, .string a0_2, .string a0_3, .int .i64 a0_4, .int .i64 a0_5, .int .i64 a0_6, .int .i64 a0_7, .int .i64 a0_8, .int .u32 a0_9, .int .i64 a0_10, .int .i64 a0_11, .string a0_12, .bool a0_13], .string a0_21, .int .i64 a0_22] (by rfl) rfl rfl (by (try simp only [List.map_toArray, List.map_cons, List.map_nil]); first | done | rfl | (simp only [List.length_drop, List.length_take]; rfl)) ?_
      with_reducible refine (hogsheadref17_Got.calls kj2 a0_0 a0_1 a0_2 a0_3 a0_4 a0_5 a0_6 a0_7 a0_8 a0_9 a0_10 a0_11 a0_12 a0_13 a0_21 a0_22 t614 t615 t616 t617 t618 t619 t620 t621 t622 t623 t624 t625 t626 t627 _ A34.out).mono ?_
      rintro e w42 ⟨rfl, hb⟩
      refine ⟨_, rfl, ?_⟩
      have n0_ := qM (qB (g := g512) (by (with_reducible repeat first | refine qN ?_ _ | refine qD ?_ | refine qA ?_ _); exact B512.out) hb)
      have n1_ := qM (qB (g := g513) (by (with_reducible repeat first | refine qN ?_ _ | refine qD ?_ | refine qA ?_ _); exact B513.out) hb)
      have n2_ := qM (qB (g := g514) (by (with_reducible repeat first | refine qN ?_ _ | refine qD ?_ | refine qA ?_ _); exact B514.out) hb)
      have n3_ := qM (eT (by repeat (first | (with_reducible first | exact HB.out | apply eA | apply eN | apply eD | refine eS ?_ GE512.out | refine eS ?_ GE513.out | refine eS ?_ GE514.out) | exact HB.out)) hb)
      clear B512
      clear B513
      clear B514
      clear HB
      have B512 := n0_
      have B513 := n1_
      have B514 := n2_
      have HB := n3_
      clear n0_ n1_ n2_ n3_
      (try clear hb)
      (try clear hb2)
      (try clear hk)
      (try clear hi)
      refine hK.out _ _ ⟨(qC B513.out 0).trans rfl, (qC B513.out 1).trans rfl, (qC B513.out 2).trans rfl, (qC B513.out 3).trans rfl, (qC B513.out 4).trans rfl, (qC B513.out 5).trans rfl, (qC B513.out 6).trans rfl, (qC B513.out 7).trans rfl, (qC B513.out 8).trans rfl, (qC B513.out 9).trans rfl, (qC B513.out 10).trans rfl, (qC B513.out 11).trans rfl, (qC B513.out 12).trans rfl, (qC B513.out 13).trans rfl⟩ (fun hHeld => ?_)
      clear hK K
      refine norm_ (a' := ?_) ?_ ?_
      rotate_left
      ·show Act.put _ (some 55) _ = _
       simp only [Act.put, xA, xZ, xS, i64_w, i32_w]
       rfl
      refine pure_ (i := 16) (N := some 56) (v := ?_) (a' := ?_) #[true, true, true, true, true, true, true, true, true, true, true, true, true, true, true, true, true, false, false, false, false, false, false, false, false, false] rfl rfl (any_of HT_.out (by kernel_rfl)) (fun _ _ _ h => h) (Or.inl ⟨by rfl, ?_⟩) ?_ ?_
      rotate_left
      ·intro w'; go_simp; with_reducible rfl
      rotate_left
      ·simp only [Act.put, xA, xZ, xS, i64_w, i32_w]; rfl
      refine pure_ (i := 17) (N := some 57) (v := ?_) (a' := ?_) #[true, true, true, true, true, true, true, true, true, true, true, true, true, true, true, true, true, true, false, false, false, false, false, false, false, false] rfl rfl (any_of HT_.out (by kernel_rfl)) (fun _ _ _ h => h) (Or.inl ⟨by rfl, ?_⟩) ?_ ?_
      rotate_left
      ·intro w'; go_simp; with_reducible rfl
      rotate_left
      ·simp only [Act.put, xA, xZ, xS, i64_w, i32_w]; rfl
      refine pure_ (i := 18) (N := some 58) (v := ?_) (a' := ?_) #[true, true, true, true, true, true, true, true, true, true, true, true, true, true, true, true, true, true, true, false, false, false, false, false, false, false] rfl rfl (any_of HT_.out (by kernel_rfl)) (fun _ _ _ h => h) (Or.inl ⟨by rfl, ?_⟩) ?_ ?_
      rotate_left
      ·intro w'; go_simp; with_reducible rfl
      rotate_left
      ·simp only [Act.put, xA, xZ, xS, i64_w, i32_w]; rfl
      refine take_ (i := 19) (N := some 59) (v := ?_) (a' := ?_) #[true, true, true, true, true, true, true, true, true, true, true, true, true, true, true, true, true, true, true, true, false, false, false, false, false, false] rfl rfl (take_ofW HT_.out HW_.out (by kernel_rfl)) (fun _ _ _ h => h) (Or.inl ⟨by rfl, ?_⟩) hHeld ?_ ?_
      rotate_left
      ·rintro w' ⟨s0, s1, s2, s3, s4, s5, s6, s7, s8, s9, s10, s11, s12, s13⟩; go_simp; with_reducible rfl
      rotate_left
      ·simp only [Act.put, xA, xZ, xS, i64_w, i32_w]; rfl
      refine take_ (i := 21) (N := some 61) (v := ?_) (a' := ?_) #[true, true, true, true, true, true, true, true, true, true, true, true, true, true, true, true, true, true, true, true, false, true, false, false, false, false] rfl rfl (take_ofW HT_.out HW_.out (by kernel_rfl)) (fun _ _ _ h => h) (Or.inl ⟨by rfl, ?_⟩) hHeld ?_ ?_
      rotate_left
      ·rintro w' ⟨s0, s1, s2, s3, s4, s5, s6, s7, s8, s9, s10, s11, s12, s13⟩; go_simp; with_reducible rfl
      rotate_left
      ·simp only [Act.put, xA, xZ, xS, i64_w, i32_w]; rfl
      refine one_ (i := 20) (N := some 60) #[true, true, true, true, true, true, true, true, true, true, true, true, true, true, true, true, true, true, true, true, true, true, false, false, false, false] rfl rfl (one_of HT_.out (by kernel_rfl)) (by decide) (fun K hK => ?_)
      refine goes_ Try.func23 (by kernel_rfl) rfl #[.agg #[.int .i64 a0_0, .int .i64 a0_1, .string a0_2, .string a0_3, .int .i64 a0_4, .int .i64 a0_5, .int .i64 a0_6, .int .i64 a0_7, .int .i64 a0_8, .int .u32 a0_9, .int .i64 a0_10, .int .i64 a0_11, .string a0_12, .bool a0_13]] (by rfl) rfl rfl (by (try simp only [List.map_toArray, List.map_cons, List.map_nil]); first | done | rfl | (simp only [List.length_drop, List.length_take]; rfl)) ?_
      with_reducible refine (deed_Late.calls a0_0 a0_1 a0_2 a0_3 a0_4 a0_5 a0_6 a0_7 a0_8 a0_9 a0_10 a0_11 a0_12 a0_13 t628 t629 t630 t631 t632 t633 t634 t635 t636 t637 t638 t639 t640 t641 _ A36.out).mono ?_
      rintro e w43 ⟨rfl, hb⟩
      refine ⟨_, rfl, ?_⟩
      have n0_ := qM (qB (g := g512) (by (with_reducible repeat first | refine qN ?_ _ | refine qD ?_ | refine qA ?_ _); exact B512.out) hb)
      have n1_ := qM (qB (g := g513) (by (with_reducible repeat first | refine qN ?_ _ | refine qD ?_ | refine qA ?_ _); exact B513.out) hb)
      have n2_ := qM (qB (g := g514) (by (with_reducible repeat first | refine qN ?_ _ | refine qD ?_ | refine qA ?_ _); exact B514.out) hb)
      have n3_ := qM (eT (by repeat (first | (with_reducible first | exact HB.out | apply eA | apply eN | apply eD | refine eS ?_ GE512.out | refine eS ?_ GE513.out | refine eS ?_ GE514.out) | exact HB.out)) hb)
      clear B512
      clear B513
      clear B514
      clear HB
      have B512 := n0_
      have B513 := n1_
      have B514 := n2_
      have HB := n3_
      clear n0_ n1_ n2_ n3_
      (try clear hb)
      (try clear hb2)
      (try clear hk)
      (try clear hi)
      refine hK.out _ _ ⟨(qC B513.out 0).trans rfl, (qC B513.out 1).trans rfl, (qC B513.out 2).trans rfl, (qC B513.out 3).trans rfl, (qC B513.out 4).trans rfl, (qC B513.out 5).trans rfl, (qC B513.out 6).trans rfl, (qC B513.out 7).trans rfl, (qC B513.out 8).trans rfl, (qC B513.out 9).trans rfl, (qC B513.out 10).trans rfl, (qC B513.out 11).trans rfl, (qC B513.out 12).trans rfl, (qC B513.out 13).trans rfl⟩ (fun hHeld => ?_)
      clear hK K
      refine norm_ (a' := ?_) ?_ ?_
      rotate_left
      ·show Act.put _ (some 60) _ = _
       simp only [Act.put, xA, xZ, xS, i64_w, i32_w]
       rfl
      refine one_ (i := 22) (N := some 62) #[true, true, true, true, true, true, true, true, true, true, true, true, true, true, true, true, true, true, true, true, true, true, true, false, false, false] rfl rfl (one_of HT_.out (by kernel_rfl)) (by decide) (fun K hK => ?_)
      refine goes_ Try.func24 (by kernel_rfl) rfl #[.agg #[.int .i64 a0_0, .int .i64 a0_1, .string a0_2, .string a0_3, .int .i64 a0_4, .int .i64 a0_5, .int .i64 a0_6, .int .i64 a0_7, .int .i64 a0_8, .int .u32 a0_9, .int .i64 a0_10, .int .i64 a0_11, .string a0_12, .bool a0_13]] (by rfl) rfl rfl (by (try simp only [List.map_toArray, List.map_cons, List.map_nil]); first | done | rfl | (simp only [List.length_drop, List.length_take]; rfl)) ?_
      with_reducible refine (hogsheadref17_Late.calls a0_0 a0_1 a0_2 a0_3 a0_4 a0_5 a0_6 a0_7 a0_8 a0_9 a0_10 a0_11 a0_12 a0_13 t642 t643 t644 t645 t646 t647 t648 t649 t650 t651 t652 t653 t654 t655 _ A37.out).mono ?_
      rintro e w44 ⟨rfl, hb⟩
      refine ⟨_, rfl, ?_⟩
      have n0_ := qM (qB (g := g512) (by (with_reducible repeat first | refine qN ?_ _ | refine qD ?_ | refine qA ?_ _); exact B512.out) hb)
      have n1_ := qM (qB (g := g513) (by (with_reducible repeat first | refine qN ?_ _ | refine qD ?_ | refine qA ?_ _); exact B513.out) hb)
      have n2_ := qM (qB (g := g514) (by (with_reducible repeat first | refine qN ?_ _ | refine qD ?_ | refine qA ?_ _); exact B514.out) hb)
      have n3_ := qM (eT (by repeat (first | (with_reducible first | exact HB.out | apply eA | apply eN | apply eD | refine eS ?_ GE512.out | refine eS ?_ GE513.out | refine eS ?_ GE514.out) | exact HB.out)) hb)
      clear B512
      clear B513
      clear B514
      clear HB
      have B512 := n0_
      have B513 := n1_
      have B514 := n2_
      have HB := n3_
      clear n0_ n1_ n2_ n3_
      (try clear hb)
      (try clear hb2)
      (try clear hk)
      (try clear hi)
      refine hK.out _ _ ⟨(qC B513.out 0).trans rfl, (qC B513.out 1).trans rfl, (qC B513.out 2).trans rfl, (qC B513.out 3).trans rfl, (qC B513.out 4).trans rfl, (qC B513.out 5).trans rfl, (qC B513.out 6).trans rfl, (qC B513.out 7).trans rfl, (qC B513.out 8).trans rfl, (qC B513.out 9).trans rfl, (qC B513.out 10).trans rfl, (qC B513.out 11).trans rfl, (qC B513.out 12).trans rfl, (qC B513.out 13).trans rfl⟩ (fun hHeld => ?_)
      clear hK K
      refine norm_ (a' := ?_) ?_ ?_
      rotate_left
      ·show Act.put _ (some 62) _ = _
       simp only [Act.put, xA, xZ, xS, i64_w, i32_w]
       rfl
      refine pure_ (i := 23) (N := some 63) (v := ?_) (a' := ?_) #[true, true, true, true, true, true, true, true, true, true, true, true, true, true, true, true, true, true, true, true, true, true, true, true, false, false] rfl rfl (any_of HT_.out (by kernel_rfl)) (fun _ _ _ h => h) (Or.inl ⟨by rfl, ?_⟩) ?_ ?_
      rotate_left
      ·intro w'; go_simp; with_reducible rfl
      rotate_left
      ·simp only [Act.put, xA, xZ, xS, i64_w, i32_w]; rfl
      refine pure_ (i := 24) (N := some 64) (v := ?_) (a' := ?_) #[true, true, true, true, true, true, true, true, true, true, true, true, true, true, true, true, true, true, true, true, true, true, true, true, true, false] rfl rfl (any_of HT_.out (by kernel_rfl)) (fun _ _ _ h => h) (Or.inl ⟨by rfl, ?_⟩) ?_ ?_
      rotate_left
      ·intro w'; go_simp; with_reducible rfl
      rotate_left
      ·simp only [Act.put, xA, xZ, xS, i64_w, i32_w]; rfl
      refine pure_ (i := 25) (N := some 10) (v := ?_) (a' := ?_) #[true, true, true, true, true, true, true, true, true, true, true, true, true, true, true, true, true, true, true, true, true, true, true, true, true, true] rfl rfl (any_of HT_.out (by kernel_rfl)) (fun _ _ _ h => h) (Or.inl ⟨by rfl, ?_⟩) ?_ ?_
      rotate_left
      ·intro w'; go_simp; with_reducible rfl
      rotate_left
      ·simp only [Act.put, xA, xZ, xS, i64_w, i32_w]; rfl
      refine done_ (done_of HT_.out (by kernel_rfl)) ?_
      try go_wp2
      go_meet
      case rel => exact ⟨_, ((t628 == t642 && (t629 == t643 && (t630.toList == t644.toList && (t631.toList == t645.toList && (t632 == t646 && (t633 == t647 && (t634 == t648 && (t635 == t649 && (t636 == t650 && (t637 == t651 && (t638 == t652 && (t639 == t653 && (t640.toList == t654.toList && (t641 == t655))))))))))))))), (by first | rfl | (simp; done) | (simp [*]; done)), H', ⟨by have := HJ2.out; first | omega | exact Nat.le_refl _⟩, ⟨by (with_reducible repeat first | refine qN ?_ _ | refine qD ?_ | refine qA ?_ _); exact B512.out⟩, ⟨by (with_reducible repeat first | refine qN ?_ _ | refine qD ?_ | refine qA ?_ _); exact B513.out⟩, ⟨by (with_reducible repeat first | refine qN ?_ _ | refine qD ?_ | refine qA ?_ _); exact B514.out⟩, ⟨by repeat (first | (with_reducible first | exact HB.out | apply eA | apply eN | apply eD | refine eS ?_ GE512.out | refine eS ?_ GE513.out | refine eS ?_ GE514.out) | exact HB.out)⟩⟩
     ·rw [if_neg c35] at H
      have c35b0 : (t600 == t614 && (t601 == t615 && (t602.toList == t616.toList && (t603.toList == t617.toList && (t604 == t618 && (t605 == t619 && (t606 == t620 && (t607 == t621 && (t608 == t622 && (t609 == t623 && (t610 == t624 && (t611 == t625 && (t612.toList == t626.toList && (t613 == t627)))))))))))))) = false := by simpa using c35
      (try (have c35b1 : decide (t600 = t614 && (t601 == t615 && (t602.toList == t616.toList && (t603.toList == t617.toList && (t604 == t618 && (t605 == t619 && (t606 == t620 && (t607 == t621 && (t608 == t622 && (t609 == t623 && (t610 == t624 && (t611 == t625 && (t612.toList == t626.toList && (t613 == t627)))))))))))))) = false := by simpa using c35))
      (try (have c35b2 : (t600 == t614 && (t601 == t615 && (t602.toList == t616.toList && (t603.toList == t617.toList && (t604 == t618 && (t605 == t619 && (t606 == t620 && (t607 == t621 && (t608 == t622 && (t609 == t623 && (t610 == t624 && (t611 == t625 && (t612.toList == t626.toList && (t613 == t627)))))))))))))) = false := by simpa using c35))
      (try (have c35b3 : ¬ (t600 = t614 && (t601 == t615 && (t602.toList == t616.toList && (t603.toList == t617.toList && (t604 == t618 && (t605 == t619 && (t606 == t620 && (t607 == t621 && (t608 == t622 && (t609 == t623 && (t610 == t624 && (t611 == t625 && (t612.toList == t626.toList && (t613 == t627)))))))))))))) := by simpa using c35))
      clear c35
      have H' := qM H
      clear H
      try go_wp2
      have n0_ := qM (blk_drew B512.out)
      have n1_ := qM (blk_drew B513.out)
      have n2_ := qM (blk_drew B514.out)
      have n3_ := qM (below_drew1 HB.out)
      clear B512
      clear B513
      clear B514
      clear HB
      have B512 := n0_
      have B513 := n1_
      have B514 := n2_
      have HB := n3_
      clear n0_ n1_ n2_ n3_
      refine start_ (n := 26) (S := fun w' => w'.cell? ⟨g513, 0, none⟩ = some (.int .i64 a0_0) ∧ w'.cell? ⟨g513, 1, none⟩ = some (.int .i64 a0_1) ∧ w'.cell? ⟨g513, 2, none⟩ = some (.string a0_2) ∧ w'.cell? ⟨g513, 3, none⟩ = some (.string a0_3) ∧ w'.cell? ⟨g513, 4, none⟩ = some (.int .i64 a0_4) ∧ w'.cell? ⟨g513, 5, none⟩ = some (.int .i64 a0_5) ∧ w'.cell? ⟨g513, 6, none⟩ = some (.int .i64 a0_6) ∧ w'.cell? ⟨g513, 7, none⟩ = some (.int .i64 a0_7) ∧ w'.cell? ⟨g513, 8, none⟩ = some (.int .i64 a0_8) ∧ w'.cell? ⟨g513, 9, none⟩ = some (.int .u32 a0_9) ∧ w'.cell? ⟨g513, 10, none⟩ = some (.int .i64 a0_10) ∧ w'.cell? ⟨g513, 11, none⟩ = some (.int .i64 a0_11) ∧ w'.cell? ⟨g513, 12, none⟩ = some (.string a0_12) ∧ w'.cell? ⟨g513, 13, none⟩ = some (.bool a0_13)) (ds := []) #[false, false, false, false, false, false, false, false, false, false, false, false, false, false, false, false, false, false, false, false, false, false, false, false, false, false] (by kernel_rfl) rfl rfl ⟨(qC B513.out 0).trans rfl, (qC B513.out 1).trans rfl, (qC B513.out 2).trans rfl, (qC B513.out 3).trans rfl, (qC B513.out 4).trans rfl, (qC B513.out 5).trans rfl, (qC B513.out 6).trans rfl, (qC B513.out 7).trans rfl, (qC B513.out 8).trans rfl, (qC B513.out 9).trans rfl, (qC B513.out 10).trans rfl, (qC B513.out 11).trans rfl, (qC B513.out 12).trans rfl, (qC B513.out 13).trans rfl⟩ (fun hHeld => ?_); refine with_tabW hogsheadlaw17_DeedGoes.tab8 hogsheadlaw17_DeedGoes.bits8 (fun HT_ HW_ => ?_)
      generalize wc.drew = w45 at B512 B513 B514 HB hHeld ⊢
      refine pure_ (i := 1) (N := some 41) (v := ?_) (a' := ?_) #[false, true, false, false, false, false, false, false, false, false, false, false, false, false, false, false, false, false, false, false, false, false, false, false, false, false] rfl rfl (any_of HT_.out (by kernel_rfl)) (fun _ _ _ h => h) (Or.inl ⟨by rfl, ?_⟩) ?_ ?_
      rotate_left
      ·intro w'; go_simp; with_reducible rfl
      rotate_left
      ·simp only [Act.put, xA, xZ, xS, i64_w, i32_w]; rfl
      refine pure_ (i := 4) (N := some 44) (v := ?_) (a' := ?_) #[false, true, false, false, true, false, false, false, false, false, false, false, false, false, false, false, false, false, false, false, false, false, false, false, false, false] rfl rfl (any_of HT_.out (by kernel_rfl)) (fun _ _ _ h => h) (Or.inl ⟨by rfl, ?_⟩) ?_ ?_
      rotate_left
      ·intro w'; go_simp; with_reducible rfl
      rotate_left
      ·simp only [Act.put, xA, xZ, xS, i64_w, i32_w]; rfl
      refine take_ (i := 0) (N := some 40) (v := ?_) (a' := ?_) #[true, true, false, false, true, false, false, false, false, false, false, false, false, false, false, false, false, false, false, false, false, false, false, false, false, false] rfl rfl (take_ofW HT_.out HW_.out (by kernel_rfl)) (fun _ _ _ h => h) (Or.inl ⟨by rfl, ?_⟩) hHeld ?_ ?_
      rotate_left
      ·rintro w' ⟨s0, s1, s2, s3, s4, s5, s6, s7, s8, s9, s10, s11, s12, s13⟩; go_simp; with_reducible rfl
      rotate_left
      ·simp only [Act.put, xA, xZ, xS, i64_w, i32_w]; rfl
      refine take_ (i := 3) (N := some 43) (v := ?_) (a' := ?_) #[true, true, false, true, true, false, false, false, false, false, false, false, false, false, false, false, false, false, false, false, false, false, false, false, false, false] rfl rfl (take_ofW HT_.out HW_.out (by kernel_rfl)) (fun _ _ _ h => h) (Or.inl ⟨by rfl, ?_⟩) hHeld ?_ ?_
      rotate_left
      ·rintro w' ⟨s0, s1, s2, s3, s4, s5, s6, s7, s8, s9, s10, s11, s12, s13⟩; go_simp; with_reducible rfl
      rotate_left
      ·simp only [Act.put, xA, xZ, xS, i64_w, i32_w]; rfl
      refine one_ (i := 2) (N := some 42) #[true, true, true, true, true, false, false, false, false, false, false, false, false, false, false, false, false, false, false, false, false, false, false, false, false, false] rfl rfl (one_of HT_.out (by kernel_rfl)) (by decide) (fun K hK => ?_)
      refine goes_ Try.func19 (by kernel_rfl) rfl #[.agg #[.int .i64 a0_0, .int .i64 a0_1, .string a0_2, .string a0_3, .int .i64 a0_4, .int .i64 a0_5, .int .i64 a0_6, .int .i64 a0_7, .int .i64 a0_8, .int .u32 a0_9, .int .i64 a0_10, .int .i64 a0_11, .string a0_12, .bool a0_13], .int .i64 a0_22] (by rfl) rfl rfl (by (try simp only [List.map_toArray, List.map_cons, List.map_nil]); first | done | rfl | (simp only [List.length_drop, List.length_take]; rfl)) ?_
      with_reducible refine (deed_Wrote.calls a0_0 a0_1 a0_2 a0_3 a0_4 a0_5 a0_6 a0_7 a0_8 a0_9 a0_10 a0_11 a0_12 a0_13 a0_22 t572 t573 t574 t575 t576 t577 t578 t579 t580 t581 t582 t583 t584 t585 _ A30.out).mono ?_
      rintro e w46 ⟨rfl, hb⟩
      refine ⟨_, rfl, ?_⟩
      have n0_ := qM (qB (g := g512) (by (with_reducible repeat first | refine qN ?_ _ | refine qD ?_ | refine qA ?_ _); exact B512.out) hb)
      have n1_ := qM (qB (g := g513) (by (with_reducible repeat first | refine qN ?_ _ | refine qD ?_ | refine qA ?_ _); exact B513.out) hb)
      have n2_ := qM (qB (g := g514) (by (with_reducible repeat first | refine qN ?_ _ | refine qD ?_ | refine qA ?_ _); exact B514.out) hb)
      have n3_ := qM (eT (by repeat (first | (with_reducible first | exact HB.out | apply eA | apply eN | apply eD | refine eS ?_ GE512.out | refine eS ?_ GE513.out | refine eS ?_ GE514.out) | exact HB.out)) hb)
      clear B512
      clear B513
      clear B514
      clear HB
      have B512 := n0_
      have B513 := n1_
      have B514 := n2_
      have HB := n3_
      clear n0_ n1_ n2_ n3_
      (try clear hb)
      (try clear hb2)
      (try clear hk)
      (try clear hi)
      refine hK.out _ _ ⟨(qC B513.out 0).trans rfl, (qC B513.out 1).trans rfl, (qC B513.out 2).trans rfl, (qC B513.out 3).trans rfl, (qC B513.out 4).trans rfl, (qC B513.out 5).trans rfl, (qC B513.out 6).trans rfl, (qC B513.out 7).trans rfl, (qC B513.out 8).trans rfl, (qC B513.out 9).trans rfl, (qC B513.out 10).trans rfl, (qC B513.out 11).trans rfl, (qC B513.out 12).trans rfl, (qC B513.out 13).trans rfl⟩ (fun hHeld => ?_)
      clear hK K
      refine norm_ (a' := ?_) ?_ ?_
      rotate_left
      ·show Act.put _ (some 42) _ = _
       simp only [Act.put, xA, xZ, xS, i64_w, i32_w]
       rfl
      refine one_ (i := 5) (N := some 45) #[true, true, true, true, true, true, false, false, false, false, false, false, false, false, false, false, false, false, false, false, false, false, false, false, false, false] rfl rfl (one_of HT_.out (by kernel_rfl)) (by decide) (fun K hK => ?_)
      refine goes_ Try.func20 (by kernel_rfl) rfl #[.agg #[.int .i64 a0_0, .int .i64 a0_1, .string a0_2, .string a0_3, .int .i64 a0_4, .int .i64 a0_5, .int .i64 a0_6, .int .i64 a0_7, .int .i64 a0_8, .int .u32 a0_9, .int .i64 a0_10, .int .i64 a0_11, .string a0_12, .bool a0_13], .int .i64 a0_22] (by rfl) rfl rfl (by (try simp only [List.map_toArray, List.map_cons, List.map_nil]); first | done | rfl | (simp only [List.length_drop, List.length_take]; rfl)) ?_
      with_reducible refine (hogsheadref17_Wrote.calls a0_0 a0_1 a0_2 a0_3 a0_4 a0_5 a0_6 a0_7 a0_8 a0_9 a0_10 a0_11 a0_12 a0_13 a0_22 t586 t587 t588 t589 t590 t591 t592 t593 t594 t595 t596 t597 t598 t599 _ A31.out).mono ?_
      rintro e w47 ⟨rfl, hb⟩
      refine ⟨_, rfl, ?_⟩
      have n0_ := qM (qB (g := g512) (by (with_reducible repeat first | refine qN ?_ _ | refine qD ?_ | refine qA ?_ _); exact B512.out) hb)
      have n1_ := qM (qB (g := g513) (by (with_reducible repeat first | refine qN ?_ _ | refine qD ?_ | refine qA ?_ _); exact B513.out) hb)
      have n2_ := qM (qB (g := g514) (by (with_reducible repeat first | refine qN ?_ _ | refine qD ?_ | refine qA ?_ _); exact B514.out) hb)
      have n3_ := qM (eT (by repeat (first | (with_reducible first | exact HB.out | apply eA | apply eN | apply eD | refine eS ?_ GE512.out | refine eS ?_ GE513.out | refine eS ?_ GE514.out) | exact HB.out)) hb)
      clear B512
      clear B513
      clear B514
      clear HB
      have B512 := n0_
      have B513 := n1_
      have B514 := n2_
      have HB := n3_
      clear n0_ n1_ n2_ n3_
      (try clear hb)
      (try clear hb2)
      (try clear hk)
      (try clear hi)
      refine hK.out _ _ ⟨(qC B513.out 0).trans rfl, (qC B513.out 1).trans rfl, (qC B513.out 2).trans rfl, (qC B513.out 3).trans rfl, (qC B513.out 4).trans rfl, (qC B513.out 5).trans rfl, (qC B513.out 6).trans rfl, (qC B513.out 7).trans rfl, (qC B513.out 8).trans rfl, (qC B513.out 9).trans rfl, (qC B513.out 10).trans rfl, (qC B513.out 11).trans rfl, (qC B513.out 12).trans rfl, (qC B513.out 13).trans rfl⟩ (fun hHeld => ?_)
      clear hK K
      refine norm_ (a' := ?_) ?_ ?_
      rotate_left
      ·show Act.put _ (some 45) _ = _
       simp only [Act.put, xA, xZ, xS, i64_w, i32_w]
       rfl
      refine pure_ (i := 6) (N := some 46) (v := ?_) (a' := ?_) #[true, true, true, true, true, true, true, false, false, false, false, false, false, false, false, false, false, false, false, false, false, false, false, false, false, false] rfl rfl (any_of HT_.out (by kernel_rfl)) (fun _ _ _ h => h) (Or.inl ⟨by rfl, ?_⟩) ?_ ?_
      rotate_left
      ·intro w'; go_simp; with_reducible rfl
      rotate_left
      ·simp only [Act.put, xA, xZ, xS, i64_w, i32_w]; rfl
      refine pure_ (i := 7) (N := some 47) (v := ?_) (a' := ?_) #[true, true, true, true, true, true, true, true, false, false, false, false, false, false, false, false, false, false, false, false, false, false, false, false, false, false] rfl rfl (any_of HT_.out (by kernel_rfl)) (fun _ _ _ h => h) (Or.inl ⟨by rfl, ?_⟩) ?_ ?_
      rotate_left
      ·intro w'; go_simp; with_reducible rfl
      rotate_left
      ·simp only [Act.put, xA, xZ, xS, i64_w, i32_w]; rfl
      refine pure_ (i := 9) (N := some 49) (v := ?_) (a' := ?_) #[true, true, true, true, true, true, true, true, false, true, false, false, false, false, false, false, false, false, false, false, false, false, false, false, false, false] rfl rfl (any_of HT_.out (by kernel_rfl)) (fun _ _ _ h => h) (Or.inl ⟨by rfl, ?_⟩) ?_ ?_
      rotate_left
      ·intro w'; go_simp; with_reducible rfl
      rotate_left
      ·simp only [Act.put, xA, xZ, xS, i64_w, i32_w]; rfl
      refine pure_ (i := 10) (N := some 50) (v := ?_) (a' := ?_) #[true, true, true, true, true, true, true, true, false, true, true, false, false, false, false, false, false, false, false, false, false, false, false, false, false, false] rfl rfl (any_of HT_.out (by kernel_rfl)) (fun _ _ _ h => h) (Or.inl ⟨by rfl, ?_⟩) ?_ ?_
      rotate_left
      ·intro w'; go_simp; with_reducible rfl
      rotate_left
      ·simp only [Act.put, xA, xZ, xS, i64_w, i32_w]; rfl
      refine pure_ (i := 13) (N := some 53) (v := ?_) (a' := ?_) #[true, true, true, true, true, true, true, true, false, true, true, false, false, true, false, false, false, false, false, false, false, false, false, false, false, false] rfl rfl (any_of HT_.out (by kernel_rfl)) (fun _ _ _ h => h) (Or.inl ⟨by rfl, ?_⟩) ?_ ?_
      rotate_left
      ·intro w'; go_simp; with_reducible rfl
      rotate_left
      ·simp only [Act.put, xA, xZ, xS, i64_w, i32_w]; rfl
      refine pure_ (i := 14) (N := some 54) (v := ?_) (a' := ?_) #[true, true, true, true, true, true, true, true, false, true, true, false, false, true, true, false, false, false, false, false, false, false, false, false, false, false] rfl rfl (any_of HT_.out (by kernel_rfl)) (fun _ _ _ h => h) (Or.inl ⟨by rfl, ?_⟩) ?_ ?_
      rotate_left
      ·intro w'; go_simp; with_reducible rfl
      rotate_left
      ·simp only [Act.put, xA, xZ, xS, i64_w, i32_w]; rfl
      refine take_ (i := 8) (N := some 48) (v := ?_) (a' := ?_) #[true, true, true, true, true, true, true, true, true, true, true, false, false, true, true, false, false, false, false, false, false, false, false, false, false, false] rfl rfl (take_ofW HT_.out HW_.out (by kernel_rfl)) (fun _ _ _ h => h) (Or.inl ⟨by rfl, ?_⟩) hHeld ?_ ?_
      rotate_left
      ·rintro w' ⟨s0, s1, s2, s3, s4, s5, s6, s7, s8, s9, s10, s11, s12, s13⟩; go_simp; with_reducible rfl
      rotate_left
      ·simp only [Act.put, xA, xZ, xS, i64_w, i32_w]; rfl
      refine take_ (i := 12) (N := some 52) (v := ?_) (a' := ?_) #[true, true, true, true, true, true, true, true, true, true, true, false, true, true, true, false, false, false, false, false, false, false, false, false, false, false] rfl rfl (take_ofW HT_.out HW_.out (by kernel_rfl)) (fun _ _ _ h => h) (Or.inl ⟨by rfl, ?_⟩) hHeld ?_ ?_
      rotate_left
      ·rintro w' ⟨s0, s1, s2, s3, s4, s5, s6, s7, s8, s9, s10, s11, s12, s13⟩; go_simp; with_reducible rfl
      rotate_left
      ·simp only [Act.put, xA, xZ, xS, i64_w, i32_w]; rfl
      refine one_ (i := 11) (N := some 51) #[true, true, true, true, true, true, true, true, true, true, true, true, true, true, true, false, false, false, false, false, false, false, false, false, false, false] rfl rfl (one_of HT_.out (by kernel_rfl)) (by decide) (fun K hK => ?_)
      refine goes_ Try.func21 (by kernel_rfl) rfl #[.agg #[.int .i64 a0_0, .int .i64 a0_1, .string a0_2, .string a0_3, .int .i64 a0_4, .int .i64 a0_5, .int .i64 a0_6, .int .i64 a0_7, .int .i64 a0_8, .int .u32 a0_9, .int .i64 a0_10, .int .i64 a0_11, .string a0_12, .bool a0_13], .string a0_21, .int .i64 a0_22] (by rfl) rfl rfl (by (try simp only [List.map_toArray, List.map_cons, List.map_nil]); first | done | rfl | (simp only [List.length_drop, List.length_take]; rfl)) ?_
      with_reducible refine (deed_Got.calls kj2 a0_0 a0_1 a0_2 a0_3 a0_4 a0_5 a0_6 a0_7 a0_8 a0_9 a0_10 a0_11 a0_12 a0_13 a0_21 a0_22 t600 t601 t602 t603 t604 t605 t606 t607 t608 t609 t610 t611 t612 t613 _ A33.out).mono ?_
      rintro e w48 ⟨rfl, hb⟩
      refine ⟨_, rfl, ?_⟩
      have n0_ := qM (qB (g := g512) (by (with_reducible repeat first | refine qN ?_ _ | refine qD ?_ | refine qA ?_ _); exact B512.out) hb)
      have n1_ := qM (qB (g := g513) (by (with_reducible repeat first | refine qN ?_ _ | refine qD ?_ | refine qA ?_ _); exact B513.out) hb)
      have n2_ := qM (qB (g := g514) (by (with_reducible repeat first | refine qN ?_ _ | refine qD ?_ | refine qA ?_ _); exact B514.out) hb)
      have n3_ := qM (eT (by repeat (first | (with_reducible first | exact HB.out | apply eA | apply eN | apply eD | refine eS ?_ GE512.out | refine eS ?_ GE513.out | refine eS ?_ GE514.out) | exact HB.out)) hb)
      clear B512
      clear B513
      clear B514
      clear HB
      have B512 := n0_
      have B513 := n1_
      have B514 := n2_
      have HB := n3_
      clear n0_ n1_ n2_ n3_
      (try clear hb)
      (try clear hb2)
      (try clear hk)
      (try clear hi)
      refine hK.out _ _ ⟨(qC B513.out 0).trans rfl, (qC B513.out 1).trans rfl, (qC B513.out 2).trans rfl, (qC B513.out 3).trans rfl, (qC B513.out 4).trans rfl, (qC B513.out 5).trans rfl, (qC B513.out 6).trans rfl, (qC B513.out 7).trans rfl, (qC B513.out 8).trans rfl, (qC B513.out 9).trans rfl, (qC B513.out 10).trans rfl, (qC B513.out 11).trans rfl, (qC B513.out 12).trans rfl, (qC B513.out 13).trans rfl⟩ (fun hHeld => ?_)
      clear hK K
      refine norm_ (a' := ?_) ?_ ?_
      rotate_left
      ·show Act.put _ (some 51) _ = _
       simp only [Act.put, xA, xZ, xS, i64_w, i32_w]
       rfl
      refine one_ (i := 15) (N := some 55) #[true, true, true, true, true, true, true, true, true, true, true, true, true, true, true, true, false, false, false, false, false, false, false, false, false, false] rfl rfl (one_of HT_.out (by kernel_rfl)) (by decide) (fun K hK => ?_)
      refine goes_ Try.func22 (by kernel_rfl) rfl #[.agg #[.int .i64 a0_0, .int .i64 a0_1, .string a0_2, .string a0_3, .int .i64 a0_4, .int .i64 a0_5, .int .i64 a0_6, .int .i64 a0_7, .int .i64 a0_8, .int .u32 a0_9, .int .i64 a0_10, .int .i64 a0_11, .string a0_12, .bool a0_13], .string a0_21, .int .i64 a0_22] (by rfl) rfl rfl (by (try simp only [List.map_toArray, List.map_cons, List.map_nil]); first | done | rfl | (simp only [List.length_drop, List.length_take]; rfl)) ?_
      with_reducible refine (hogsheadref17_Got.calls kj2 a0_0 a0_1 a0_2 a0_3 a0_4 a0_5 a0_6 a0_7 a0_8 a0_9 a0_10 a0_11 a0_12 a0_13 a0_21 a0_22 t614 t615 t616 t617 t618 t619 t620 t621 t622 t623 t624 t625 t626 t627 _ A34.out).mono ?_
      rintro e w49 ⟨rfl, hb⟩
      refine ⟨_, rfl, ?_⟩
      have n0_ := qM (qB (g := g512) (by (with_reducible repeat first | refine qN ?_ _ | refine qD ?_ | refine qA ?_ _); exact B512.out) hb)
      have n1_ := qM (qB (g := g513) (by (with_reducible repeat first | refine qN ?_ _ | refine qD ?_ | refine qA ?_ _); exact B513.out) hb)
      have n2_ := qM (qB (g := g514) (by (with_reducible repeat first | refine qN ?_ _ | refine qD ?_ | refine qA ?_ _); exact B514.out) hb)
      have n3_ := qM (eT (by repeat (first | (with_reducible first | exact HB.out | apply eA | apply eN | apply eD | refine eS ?_ GE512.out | refine eS ?_ GE513.out | refine eS ?_ GE514.out) | exact HB.out)) hb)
      clear B512
      clear B513
      clear B514
      clear HB
      have B512 := n0_
      have B513 := n1_
      have B514 := n2_
      have HB := n3_
      clear n0_ n1_ n2_ n3_
      (try clear hb)
      (try clear hb2)
      (try clear hk)
      (try clear hi)
      refine hK.out _ _ ⟨(qC B513.out 0).trans rfl, (qC B513.out 1).trans rfl, (qC B513.out 2).trans rfl, (qC B513.out 3).trans rfl, (qC B513.out 4).trans rfl, (qC B513.out 5).trans rfl, (qC B513.out 6).trans rfl, (qC B513.out 7).trans rfl, (qC B513.out 8).trans rfl, (qC B513.out 9).trans rfl, (qC B513.out 10).trans rfl, (qC B513.out 11).trans rfl, (qC B513.out 12).trans rfl, (qC B513.out 13).trans rfl⟩ (fun hHeld => ?_)
      clear hK K
      refine norm_ (a' := ?_) ?_ ?_
      rotate_left
      ·show Act.put _ (some 55) _ = _
       simp only [Act.put, xA, xZ, xS, i64_w, i32_w]
       rfl
      refine pure_ (i := 16) (N := some 56) (v := ?_) (a' := ?_) #[true, true, true, true, true, true, true, true, true, true, true, true, true, true, true, true, true, false, false, false, false, false, false, false, false, false] rfl rfl (any_of HT_.out (by kernel_rfl)) (fun _ _ _ h => h) (Or.inl ⟨by rfl, ?_⟩) ?_ ?_
      rotate_left
      ·intro w'; go_simp; with_reducible rfl
      rotate_left
      ·simp only [Act.put, xA, xZ, xS, i64_w, i32_w]; rfl
      refine pure_ (i := 17) (N := some 57) (v := ?_) (a' := ?_) #[true, true, true, true, true, true, true, true, true, true, true, true, true, true, true, true, true, true, false, false, false, false, false, false, false, false] rfl rfl (any_of HT_.out (by kernel_rfl)) (fun _ _ _ h => h) (Or.inl ⟨by rfl, ?_⟩) ?_ ?_
      rotate_left
      ·intro w'; go_simp; with_reducible rfl
      rotate_left
      ·simp only [Act.put, xA, xZ, xS, i64_w, i32_w]; rfl
      refine pure_ (i := 18) (N := some 58) (v := ?_) (a' := ?_) #[true, true, true, true, true, true, true, true, true, true, true, true, true, true, true, true, true, true, true, false, false, false, false, false, false, false] rfl rfl (any_of HT_.out (by kernel_rfl)) (fun _ _ _ h => h) (Or.inl ⟨by rfl, ?_⟩) ?_ ?_
      rotate_left
      ·intro w'; go_simp; with_reducible rfl
      rotate_left
      ·simp only [Act.put, xA, xZ, xS, i64_w, i32_w]; rfl
      refine pure_ (i := 19) (N := some 59) (v := undef) (a' := ?_) #[true, true, true, true, true, true, true, true, true, true, true, true, true, true, true, true, true, true, true, true, false, false, false, false, false, false] rfl rfl (any_of HT_.out (by kernel_rfl)) (fun _ _ _ h => h) (Or.inr ⟨by rfl, rfl⟩) ?_ ?_
      rotate_left
      ·simp only [Act.put, xA, xZ, xS, i64_w, i32_w]; rfl
      refine pure_ (i := 20) (N := some 60) (v := undef) (a' := ?_) #[true, true, true, true, true, true, true, true, true, true, true, true, true, true, true, true, true, true, true, true, true, false, false, false, false, false] rfl rfl (any_of HT_.out (by kernel_rfl)) (fun _ _ _ h => h) (Or.inr ⟨by rfl, rfl⟩) ?_ ?_
      rotate_left
      ·simp only [Act.put, xA, xZ, xS, i64_w, i32_w]; rfl
      refine pure_ (i := 21) (N := some 61) (v := undef) (a' := ?_) #[true, true, true, true, true, true, true, true, true, true, true, true, true, true, true, true, true, true, true, true, true, true, false, false, false, false] rfl rfl (any_of HT_.out (by kernel_rfl)) (fun _ _ _ h => h) (Or.inr ⟨by rfl, rfl⟩) ?_ ?_
      rotate_left
      ·simp only [Act.put, xA, xZ, xS, i64_w, i32_w]; rfl
      refine pure_ (i := 22) (N := some 62) (v := undef) (a' := ?_) #[true, true, true, true, true, true, true, true, true, true, true, true, true, true, true, true, true, true, true, true, true, true, true, false, false, false] rfl rfl (any_of HT_.out (by kernel_rfl)) (fun _ _ _ h => h) (Or.inr ⟨by rfl, rfl⟩) ?_ ?_
      rotate_left
      ·simp only [Act.put, xA, xZ, xS, i64_w, i32_w]; rfl
      refine pure_ (i := 23) (N := some 63) (v := undef) (a' := ?_) #[true, true, true, true, true, true, true, true, true, true, true, true, true, true, true, true, true, true, true, true, true, true, true, true, false, false] rfl rfl (any_of HT_.out (by kernel_rfl)) (fun _ _ _ h => h) (Or.inr ⟨by rfl, rfl⟩) ?_ ?_
      rotate_left
      ·simp only [Act.put, xA, xZ, xS, i64_w, i32_w]; rfl
      refine pure_ (i := 24) (N := some 64) (v := ?_) (a' := ?_) #[true, true, true, true, true, true, true, true, true, true, true, true, true, true, true, true, true, true, true, true, true, true, true, true, true, false] rfl rfl (any_of HT_.out (by kernel_rfl)) (fun _ _ _ h => h) (Or.inl ⟨by rfl, ?_⟩) ?_ ?_
      rotate_left
      ·intro w'; go_simp; with_reducible rfl
      rotate_left
      ·simp only [Act.put, xA, xZ, xS, i64_w, i32_w]; rfl
      refine pure_ (i := 25) (N := some 10) (v := ?_) (a' := ?_) #[true, true, true, true, true, true, true, true, true, true, true, true, true, true, true, true, true, true, true, true, true, true, true, true, true, true] rfl rfl (any_of HT_.out (by kernel_rfl)) (fun _ _ _ h => h) (Or.inl ⟨by rfl, ?_⟩) ?_ ?_
      rotate_left
      ·intro w'; go_simp; with_reducible rfl
      rotate_left
      ·simp only [Act.put, xA, xZ, xS, i64_w, i32_w]; rfl
      refine done_ (done_of HT_.out (by kernel_rfl)) ?_
      try go_wp2
      go_meet
      case rel => exact ⟨_, (false), (by first | rfl | (simp; done) | (simp [*]; done)), H', ⟨by have := HJ2.out; first | omega | exact Nat.le_refl _⟩, ⟨by (with_reducible repeat first | refine qN ?_ _ | refine qD ?_ | refine qA ?_ _); exact B512.out⟩, ⟨by (with_reducible repeat first | refine qN ?_ _ | refine qD ?_ | refine qA ?_ _); exact B513.out⟩, ⟨by (with_reducible repeat first | refine qN ?_ _ | refine qD ?_ | refine qA ?_ _); exact B514.out⟩, ⟨by repeat (first | (with_reducible first | exact HB.out | apply eA | apply eN | apply eD | refine eS ?_ GE512.out | refine eS ?_ GE513.out | refine eS ?_ GE514.out) | exact HB.out)⟩⟩
    ·rw [if_neg c32] at H
     have c32b0 : (t572 == t586 && (t573 == t587 && (t574.toList == t588.toList && (t575.toList == t589.toList && (t576 == t590 && (t577 == t591 && (t578 == t592 && (t579 == t593 && (t580 == t594 && (t581 == t595 && (t582 == t596 && (t583 == t597 && (t584.toList == t598.toList && (t585 == t599)))))))))))))) = false := by simpa using c32
     (try (have c32b1 : decide (t572 = t586 && (t573 == t587 && (t574.toList == t588.toList && (t575.toList == t589.toList && (t576 == t590 && (t577 == t591 && (t578 == t592 && (t579 == t593 && (t580 == t594 && (t581 == t595 && (t582 == t596 && (t583 == t597 && (t584.toList == t598.toList && (t585 == t599)))))))))))))) = false := by simpa using c32))
     (try (have c32b2 : (t572 == t586 && (t573 == t587 && (t574.toList == t588.toList && (t575.toList == t589.toList && (t576 == t590 && (t577 == t591 && (t578 == t592 && (t579 == t593 && (t580 == t594 && (t581 == t595 && (t582 == t596 && (t583 == t597 && (t584.toList == t598.toList && (t585 == t599)))))))))))))) = false := by simpa using c32))
     (try (have c32b3 : ¬ (t572 = t586 && (t573 == t587 && (t574.toList == t588.toList && (t575.toList == t589.toList && (t576 == t590 && (t577 == t591 && (t578 == t592 && (t579 == t593 && (t580 == t594 && (t581 == t595 && (t582 == t596 && (t583 == t597 && (t584.toList == t598.toList && (t585 == t599)))))))))))))) := by simpa using c32))
     clear c32
     (first | rw [c32b0] | (simp only [i64_w, i32_w]; rw [c32b0]) | skip)
     have H' := qM H
     clear H
     try go_wp2
     have n0_ := qM (blk_drew B512.out)
     have n1_ := qM (blk_drew B513.out)
     have n2_ := qM (blk_drew B514.out)
     have n3_ := qM (below_drew1 HB.out)
     clear B512
     clear B513
     clear B514
     clear HB
     have B512 := n0_
     have B513 := n1_
     have B514 := n2_
     have HB := n3_
     clear n0_ n1_ n2_ n3_
     refine start_ (n := 26) (S := fun w' => w'.cell? ⟨g513, 0, none⟩ = some (.int .i64 a0_0) ∧ w'.cell? ⟨g513, 1, none⟩ = some (.int .i64 a0_1) ∧ w'.cell? ⟨g513, 2, none⟩ = some (.string a0_2) ∧ w'.cell? ⟨g513, 3, none⟩ = some (.string a0_3) ∧ w'.cell? ⟨g513, 4, none⟩ = some (.int .i64 a0_4) ∧ w'.cell? ⟨g513, 5, none⟩ = some (.int .i64 a0_5) ∧ w'.cell? ⟨g513, 6, none⟩ = some (.int .i64 a0_6) ∧ w'.cell? ⟨g513, 7, none⟩ = some (.int .i64 a0_7) ∧ w'.cell? ⟨g513, 8, none⟩ = some (.int .i64 a0_8) ∧ w'.cell? ⟨g513, 9, none⟩ = some (.int .u32 a0_9) ∧ w'.cell? ⟨g513, 10, none⟩ = some (.int .i64 a0_10) ∧ w'.cell? ⟨g513, 11, none⟩ = some (.int .i64 a0_11) ∧ w'.cell? ⟨g513, 12, none⟩ = some (.string a0_12) ∧ w'.cell? ⟨g513, 13, none⟩ = some (.bool a0_13)) (ds := []) #[false, false, false, false, false, false, false, false, false, false, false, false, false, false, false, false, false, false, false, false, false, false, false, false, false, false] (by kernel_rfl) rfl rfl ⟨(qC B513.out 0).trans rfl, (qC B513.out 1).trans rfl, (qC B513.out 2).trans rfl, (qC B513.out 3).trans rfl, (qC B513.out 4).trans rfl, (qC B513.out 5).trans rfl, (qC B513.out 6).trans rfl, (qC B513.out 7).trans rfl, (qC B513.out 8).trans rfl, (qC B513.out 9).trans rfl, (qC B513.out 10).trans rfl, (qC B513.out 11).trans rfl, (qC B513.out 12).trans rfl, (qC B513.out 13).trans rfl⟩ (fun hHeld => ?_); refine with_tabW hogsheadlaw17_DeedGoes.tab8 hogsheadlaw17_DeedGoes.bits8 (fun HT_ HW_ => ?_)
     generalize wc.drew = w50 at B512 B513 B514 HB hHeld ⊢
     refine pure_ (i := 1) (N := some 41) (v := ?_) (a' := ?_) #[false, true, false, false, false, false, false, false, false, false, false, false, false, false, false, false, false, false, false, false, false, false, false, false, false, false] rfl rfl (any_of HT_.out (by kernel_rfl)) (fun _ _ _ h => h) (Or.inl ⟨by rfl, ?_⟩) ?_ ?_
     rotate_left
     ·intro w'; go_simp; with_reducible rfl
     rotate_left
     ·simp only [Act.put, xA, xZ, xS, i64_w, i32_w]; rfl
     refine pure_ (i := 4) (N := some 44) (v := ?_) (a' := ?_) #[false, true, false, false, true, false, false, false, false, false, false, false, false, false, false, false, false, false, false, false, false, false, false, false, false, false] rfl rfl (any_of HT_.out (by kernel_rfl)) (fun _ _ _ h => h) (Or.inl ⟨by rfl, ?_⟩) ?_ ?_
     rotate_left
     ·intro w'; go_simp; with_reducible rfl
     rotate_left
     ·simp only [Act.put, xA, xZ, xS, i64_w, i32_w]; rfl
     refine take_ (i := 0) (N := some 40) (v := ?_) (a' := ?_) #[true, true, false, false, true, false, false, false, false, false, false, false, false, false, false, false, false, false, false, false, false, false, false, false, false, false] rfl rfl (take_ofW HT_.out HW_.out (by kernel_rfl)) (fun _ _ _ h => h) (Or.inl ⟨by rfl, ?_⟩) hHeld ?_ ?_
     rotate_left
     ·rintro w' ⟨s0, s1, s2, s3, s4, s5, s6, s7, s8, s9, s10, s11, s12, s13⟩; go_simp; with_reducible rfl
     rotate_left
     ·simp only [Act.put, xA, xZ, xS, i64_w, i32_w]; rfl
     refine take_ (i := 3) (N := some 43) (v := ?_) (a' := ?_) #[true, true, false, true, true, false, false, false, false, false, false, false, false, false, false, false, false, false, false, false, false, false, false, false, false, false] rfl rfl (take_ofW HT_.out HW_.out (by kernel_rfl)) (fun _ _ _ h => h) (Or.inl ⟨by rfl, ?_⟩) hHeld ?_ ?_
     rotate_left
     ·rintro w' ⟨s0, s1, s2, s3, s4, s5, s6, s7, s8, s9, s10, s11, s12, s13⟩; go_simp; with_reducible rfl
     rotate_left
     ·simp only [Act.put, xA, xZ, xS, i64_w, i32_w]; rfl
     refine one_ (i := 2) (N := some 42) #[true, true, true, true, true, false, false, false, false, false, false, false, false, false, false, false, false, false, false, false, false, false, false, false, false, false] rfl rfl (one_of HT_.out (by kernel_rfl)) (by decide) (fun K hK => ?_)
     refine goes_ Try.func19 (by kernel_rfl) rfl #[.agg #[.int .i64 a0_0, .int .i64 a0_1, .string a0_2, .string a0_3, .int .i64 a0_4, .int .i64 a0_5, .int .i64 a0_6, .int .i64 a0_7, .int .i64 a0_8, .int .u32 a0_9, .int .i64 a0_10, .int .i64 a0_11, .string a0_12, .bool a0_13], .int .i64 a0_22] (by rfl) rfl rfl (by (try simp only [List.map_toArray, List.map_cons, List.map_nil]); first | done | rfl | (simp only [List.length_drop, List.length_take]; rfl)) ?_
     with_reducible refine (deed_Wrote.calls a0_0 a0_1 a0_2 a0_3 a0_4 a0_5 a0_6 a0_7 a0_8 a0_9 a0_10 a0_11 a0_12 a0_13 a0_22 t572 t573 t574 t575 t576 t577 t578 t579 t580 t581 t582 t583 t584 t585 _ A30.out).mono ?_
     rintro e w51 ⟨rfl, hb⟩
     refine ⟨_, rfl, ?_⟩
     have n0_ := qM (qB (g := g512) (by (with_reducible repeat first | refine qN ?_ _ | refine qD ?_ | refine qA ?_ _); exact B512.out) hb)
     have n1_ := qM (qB (g := g513) (by (with_reducible repeat first | refine qN ?_ _ | refine qD ?_ | refine qA ?_ _); exact B513.out) hb)
     have n2_ := qM (qB (g := g514) (by (with_reducible repeat first | refine qN ?_ _ | refine qD ?_ | refine qA ?_ _); exact B514.out) hb)
     have n3_ := qM (eT (by repeat (first | (with_reducible first | exact HB.out | apply eA | apply eN | apply eD | refine eS ?_ GE512.out | refine eS ?_ GE513.out | refine eS ?_ GE514.out) | exact HB.out)) hb)
     clear B512
     clear B513
     clear B514
     clear HB
     have B512 := n0_
     have B513 := n1_
     have B514 := n2_
     have HB := n3_
     clear n0_ n1_ n2_ n3_
     (try clear hb)
     (try clear hb2)
     (try clear hk)
     (try clear hi)
     refine hK.out _ _ ⟨(qC B513.out 0).trans rfl, (qC B513.out 1).trans rfl, (qC B513.out 2).trans rfl, (qC B513.out 3).trans rfl, (qC B513.out 4).trans rfl, (qC B513.out 5).trans rfl, (qC B513.out 6).trans rfl, (qC B513.out 7).trans rfl, (qC B513.out 8).trans rfl, (qC B513.out 9).trans rfl, (qC B513.out 10).trans rfl, (qC B513.out 11).trans rfl, (qC B513.out 12).trans rfl, (qC B513.out 13).trans rfl⟩ (fun hHeld => ?_)
     clear hK K
     refine norm_ (a' := ?_) ?_ ?_
     rotate_left
     ·show Act.put _ (some 42) _ = _
      simp only [Act.put, xA, xZ, xS, i64_w, i32_w]
      rfl
     refine one_ (i := 5) (N := some 45) #[true, true, true, true, true, true, false, false, false, false, false, false, false, false, false, false, false, false, false, false, false, false, false, false, false, false] rfl rfl (one_of HT_.out (by kernel_rfl)) (by decide) (fun K hK => ?_)
     refine goes_ Try.func20 (by kernel_rfl) rfl #[.agg #[.int .i64 a0_0, .int .i64 a0_1, .string a0_2, .string a0_3, .int .i64 a0_4, .int .i64 a0_5, .int .i64 a0_6, .int .i64 a0_7, .int .i64 a0_8, .int .u32 a0_9, .int .i64 a0_10, .int .i64 a0_11, .string a0_12, .bool a0_13], .int .i64 a0_22] (by rfl) rfl rfl (by (try simp only [List.map_toArray, List.map_cons, List.map_nil]); first | done | rfl | (simp only [List.length_drop, List.length_take]; rfl)) ?_
     with_reducible refine (hogsheadref17_Wrote.calls a0_0 a0_1 a0_2 a0_3 a0_4 a0_5 a0_6 a0_7 a0_8 a0_9 a0_10 a0_11 a0_12 a0_13 a0_22 t586 t587 t588 t589 t590 t591 t592 t593 t594 t595 t596 t597 t598 t599 _ A31.out).mono ?_
     rintro e w52 ⟨rfl, hb⟩
     refine ⟨_, rfl, ?_⟩
     have n0_ := qM (qB (g := g512) (by (with_reducible repeat first | refine qN ?_ _ | refine qD ?_ | refine qA ?_ _); exact B512.out) hb)
     have n1_ := qM (qB (g := g513) (by (with_reducible repeat first | refine qN ?_ _ | refine qD ?_ | refine qA ?_ _); exact B513.out) hb)
     have n2_ := qM (qB (g := g514) (by (with_reducible repeat first | refine qN ?_ _ | refine qD ?_ | refine qA ?_ _); exact B514.out) hb)
     have n3_ := qM (eT (by repeat (first | (with_reducible first | exact HB.out | apply eA | apply eN | apply eD | refine eS ?_ GE512.out | refine eS ?_ GE513.out | refine eS ?_ GE514.out) | exact HB.out)) hb)
     clear B512
     clear B513
     clear B514
     clear HB
     have B512 := n0_
     have B513 := n1_
     have B514 := n2_
     have HB := n3_
     clear n0_ n1_ n2_ n3_
     (try clear hb)
     (try clear hb2)
     (try clear hk)
     (try clear hi)
     refine hK.out _ _ ⟨(qC B513.out 0).trans rfl, (qC B513.out 1).trans rfl, (qC B513.out 2).trans rfl, (qC B513.out 3).trans rfl, (qC B513.out 4).trans rfl, (qC B513.out 5).trans rfl, (qC B513.out 6).trans rfl, (qC B513.out 7).trans rfl, (qC B513.out 8).trans rfl, (qC B513.out 9).trans rfl, (qC B513.out 10).trans rfl, (qC B513.out 11).trans rfl, (qC B513.out 12).trans rfl, (qC B513.out 13).trans rfl⟩ (fun hHeld => ?_)
     clear hK K
     refine norm_ (a' := ?_) ?_ ?_
     rotate_left
     ·show Act.put _ (some 45) _ = _
      simp only [Act.put, xA, xZ, xS, i64_w, i32_w]
      rfl
     refine pure_ (i := 6) (N := some 46) (v := ?_) (a' := ?_) #[true, true, true, true, true, true, true, false, false, false, false, false, false, false, false, false, false, false, false, false, false, false, false, false, false, false] rfl rfl (any_of HT_.out (by kernel_rfl)) (fun _ _ _ h => h) (Or.inl ⟨by rfl, ?_⟩) ?_ ?_
     rotate_left
     ·intro w'; go_simp; with_reducible rfl
     rotate_left
     ·simp only [Act.put, xA, xZ, xS, i64_w, i32_w]; rfl
     refine pure_ (i := 7) (N := some 47) (v := ?_) (a' := ?_) #[true, true, true, true, true, true, true, true, false, false, false, false, false, false, false, false, false, false, false, false, false, false, false, false, false, false] rfl rfl (any_of HT_.out (by kernel_rfl)) (fun _ _ _ h => h) (Or.inl ⟨by rfl, ?_⟩) ?_ ?_
     rotate_left
     ·intro w'; go_simp; with_reducible rfl
     rotate_left
     ·simp only [Act.put, xA, xZ, xS, i64_w, i32_w]; rfl
     refine pure_ (i := 8) (N := some 48) (v := undef) (a' := ?_) #[true, true, true, true, true, true, true, true, true, false, false, false, false, false, false, false, false, false, false, false, false, false, false, false, false, false] rfl rfl (any_of HT_.out (by kernel_rfl)) (fun _ _ _ h => h) (Or.inr ⟨by rfl, rfl⟩) ?_ ?_
     rotate_left
     ·simp only [Act.put, xA, xZ, xS, i64_w, i32_w]; rfl
     refine pure_ (i := 9) (N := some 49) (v := undef) (a' := ?_) #[true, true, true, true, true, true, true, true, true, true, false, false, false, false, false, false, false, false, false, false, false, false, false, false, false, false] rfl rfl (any_of HT_.out (by kernel_rfl)) (fun _ _ _ h => h) (Or.inr ⟨by rfl, rfl⟩) ?_ ?_
     rotate_left
     ·simp only [Act.put, xA, xZ, xS, i64_w, i32_w]; rfl
     refine pure_ (i := 10) (N := some 50) (v := undef) (a' := ?_) #[true, true, true, true, true, true, true, true, true, true, true, false, false, false, false, false, false, false, false, false, false, false, false, false, false, false] rfl rfl (any_of HT_.out (by kernel_rfl)) (fun _ _ _ h => h) (Or.inr ⟨by rfl, rfl⟩) ?_ ?_
     rotate_left
     ·simp only [Act.put, xA, xZ, xS, i64_w, i32_w]; rfl
     refine pure_ (i := 11) (N := some 51) (v := undef) (a' := ?_) #[true, true, true, true, true, true, true, true, true, true, true, true, false, false, false, false, false, false, false, false, false, false, false, false, false, false] rfl rfl (any_of HT_.out (by kernel_rfl)) (fun _ _ _ h => h) (Or.inr ⟨by rfl, rfl⟩) ?_ ?_
     rotate_left
     ·simp only [Act.put, xA, xZ, xS, i64_w, i32_w]; rfl
     refine pure_ (i := 12) (N := some 52) (v := undef) (a' := ?_) #[true, true, true, true, true, true, true, true, true, true, true, true, true, false, false, false, false, false, false, false, false, false, false, false, false, false] rfl rfl (any_of HT_.out (by kernel_rfl)) (fun _ _ _ h => h) (Or.inr ⟨by rfl, rfl⟩) ?_ ?_
     rotate_left
     ·simp only [Act.put, xA, xZ, xS, i64_w, i32_w]; rfl
     refine pure_ (i := 13) (N := some 53) (v := undef) (a' := ?_) #[true, true, true, true, true, true, true, true, true, true, true, true, true, true, false, false, false, false, false, false, false, false, false, false, false, false] rfl rfl (any_of HT_.out (by kernel_rfl)) (fun _ _ _ h => h) (Or.inr ⟨by rfl, rfl⟩) ?_ ?_
     rotate_left
     ·simp only [Act.put, xA, xZ, xS, i64_w, i32_w]; rfl
     refine pure_ (i := 14) (N := some 54) (v := undef) (a' := ?_) #[true, true, true, true, true, true, true, true, true, true, true, true, true, true, true, false, false, false, false, false, false, false, false, false, false, false] rfl rfl (any_of HT_.out (by kernel_rfl)) (fun _ _ _ h => h) (Or.inr ⟨by rfl, rfl⟩) ?_ ?_
     rotate_left
     ·simp only [Act.put, xA, xZ, xS, i64_w, i32_w]; rfl
     refine pure_ (i := 15) (N := some 55) (v := undef) (a' := ?_) #[true, true, true, true, true, true, true, true, true, true, true, true, true, true, true, true, false, false, false, false, false, false, false, false, false, false] rfl rfl (any_of HT_.out (by kernel_rfl)) (fun _ _ _ h => h) (Or.inr ⟨by rfl, rfl⟩) ?_ ?_
     rotate_left
     ·simp only [Act.put, xA, xZ, xS, i64_w, i32_w]; rfl
     refine pure_ (i := 16) (N := some 56) (v := undef) (a' := ?_) #[true, true, true, true, true, true, true, true, true, true, true, true, true, true, true, true, true, false, false, false, false, false, false, false, false, false] rfl rfl (any_of HT_.out (by kernel_rfl)) (fun _ _ _ h => h) (Or.inr ⟨by rfl, rfl⟩) ?_ ?_
     rotate_left
     ·simp only [Act.put, xA, xZ, xS, i64_w, i32_w]; rfl
     refine pure_ (i := 17) (N := some 57) (v := ?_) (a' := ?_) #[true, true, true, true, true, true, true, true, true, true, true, true, true, true, true, true, true, true, false, false, false, false, false, false, false, false] rfl rfl (any_of HT_.out (by kernel_rfl)) (fun _ _ _ h => h) (Or.inl ⟨by rfl, ?_⟩) ?_ ?_
     rotate_left
     ·intro w'; go_simp; with_reducible rfl
     rotate_left
     ·simp only [Act.put, xA, xZ, xS, i64_w, i32_w]; rfl
     refine pure_ (i := 18) (N := some 58) (v := ?_) (a' := ?_) #[true, true, true, true, true, true, true, true, true, true, true, true, true, true, true, true, true, true, true, false, false, false, false, false, false, false] rfl rfl (any_of HT_.out (by kernel_rfl)) (fun _ _ _ h => h) (Or.inl ⟨by rfl, ?_⟩) ?_ ?_
     rotate_left
     ·intro w'; go_simp; with_reducible rfl
     rotate_left
     ·simp only [Act.put, xA, xZ, xS, i64_w, i32_w]; rfl
     refine pure_ (i := 19) (N := some 59) (v := undef) (a' := ?_) #[true, true, true, true, true, true, true, true, true, true, true, true, true, true, true, true, true, true, true, true, false, false, false, false, false, false] rfl rfl (any_of HT_.out (by kernel_rfl)) (fun _ _ _ h => h) (Or.inr ⟨by rfl, rfl⟩) ?_ ?_
     rotate_left
     ·simp only [Act.put, xA, xZ, xS, i64_w, i32_w]; rfl
     refine pure_ (i := 20) (N := some 60) (v := undef) (a' := ?_) #[true, true, true, true, true, true, true, true, true, true, true, true, true, true, true, true, true, true, true, true, true, false, false, false, false, false] rfl rfl (any_of HT_.out (by kernel_rfl)) (fun _ _ _ h => h) (Or.inr ⟨by rfl, rfl⟩) ?_ ?_
     rotate_left
     ·simp only [Act.put, xA, xZ, xS, i64_w, i32_w]; rfl
     refine pure_ (i := 21) (N := some 61) (v := undef) (a' := ?_) #[true, true, true, true, true, true, true, true, true, true, true, true, true, true, true, true, true, true, true, true, true, true, false, false, false, false] rfl rfl (any_of HT_.out (by kernel_rfl)) (fun _ _ _ h => h) (Or.inr ⟨by rfl, rfl⟩) ?_ ?_
     rotate_left
     ·simp only [Act.put, xA, xZ, xS, i64_w, i32_w]; rfl
     refine pure_ (i := 22) (N := some 62) (v := undef) (a' := ?_) #[true, true, true, true, true, true, true, true, true, true, true, true, true, true, true, true, true, true, true, true, true, true, true, false, false, false] rfl rfl (any_of HT_.out (by kernel_rfl)) (fun _ _ _ h => h) (Or.inr ⟨by rfl, rfl⟩) ?_ ?_
     rotate_left
     ·simp only [Act.put, xA, xZ, xS, i64_w, i32_w]; rfl
     refine pure_ (i := 23) (N := some 63) (v := undef) (a' := ?_) #[true, true, true, true, true, true, true, true, true, true, true, true, true, true, true, true, true, true, true, true, true, true, true, true, false, false] rfl rfl (any_of HT_.out (by kernel_rfl)) (fun _ _ _ h => h) (Or.inr ⟨by rfl, rfl⟩) ?_ ?_
     rotate_left
     ·simp only [Act.put, xA, xZ, xS, i64_w, i32_w]; rfl
     refine pure_ (i := 24) (N := some 64) (v := ?_) (a' := ?_) #[true, true, true, true, true, true, true, true, true, true, true, true, true, true, true, true, true, true, true, true, true, true, true, true, true, false] rfl rfl (any_of HT_.out (by kernel_rfl)) (fun _ _ _ h => h) (Or.inl ⟨by rfl, ?_⟩) ?_ ?_
     rotate_left
     ·intro w'; go_simp; with_reducible rfl
     rotate_left
     ·simp only [Act.put, xA, xZ, xS, i64_w, i32_w]; rfl
     refine pure_ (i := 25) (N := some 10) (v := ?_) (a' := ?_) #[true, true, true, true, true, true, true, true, true, true, true, true, true, true, true, true, true, true, true, true, true, true, true, true, true, true] rfl rfl (any_of HT_.out (by kernel_rfl)) (fun _ _ _ h => h) (Or.inl ⟨by rfl, ?_⟩) ?_ ?_
     rotate_left
     ·intro w'; go_simp; with_reducible rfl
     rotate_left
     ·simp only [Act.put, xA, xZ, xS, i64_w, i32_w]; rfl
     refine done_ (done_of HT_.out (by kernel_rfl)) ?_
     try go_wp2
     go_meet
     case rel => exact ⟨_, (false), (by first | rfl | (simp; done) | (simp [*]; done)), H', ⟨by have := HJ2.out; first | omega | exact Nat.le_refl _⟩, ⟨by (with_reducible repeat first | refine qN ?_ _ | refine qD ?_ | refine qA ?_ _); exact B512.out⟩, ⟨by (with_reducible repeat first | refine qN ?_ _ | refine qD ?_ | refine qA ?_ _); exact B513.out⟩, ⟨by (with_reducible repeat first | refine qN ?_ _ | refine qD ?_ | refine qA ?_ _); exact B514.out⟩, ⟨by repeat (first | (with_reducible first | exact HB.out | apply eA | apply eN | apply eD | refine eS ?_ GE512.out | refine eS ?_ GE513.out | refine eS ?_ GE514.out) | exact HB.out)⟩⟩
   case rest =>
    clear HC29
    try clear c1
    try clear c2
    try clear p2
    try clear c3
    try clear c19
    try clear c20
    try clear c21
    try clear c22
    try clear c24
    try clear c32
    try clear c32b0
    try clear c32b1
    try clear c32b2
    try clear c35
    try clear c35b0
    try clear c35b1
    try clear c35b2
    obtain ⟨kq, x10_28, rfl, HA, HJ28, B512, B513, B514, HB⟩ := hcut
    cases kq with
    | zero => exact absurd HA.out (by simp [hogsheadlaw17_DeedGoes.j1])
    | succ kj28 =>
     have H := HA.out
     clear HA
     simp only [hogsheadlaw17_DeedGoes.j1] at H
     have HC53 := qM H
     clear H
     go_upto_region 9 with (fail)
     go_cut [2] (fun v2 wc => ∃ (kq : Nat) (x2_52 : Bool), v2 = .bool x2_52 ∧ Aside0 (hogsheadlaw17_DeedGoes.j2 kq x2_52 = some r) ∧ Aside0 (kq ≤ kj28) ∧ Aside0 (wc.heap[g512]? = some (.cells #[.int .i64 a0_0, .int .i64 a0_1, .string a0_2, .string a0_3, .int .i64 a0_4, .int .i64 a0_5, .int .i64 a0_6, .int .i64 a0_7, .int .i64 a0_8, .int .u32 a0_9, .int .i64 a0_10, .int .i64 a0_11, .string a0_12, .bool a0_13, .int .i64 a0_14, .int .i64 a0_15, .int .i64 a0_16, .int .i64 a0_17, .int .u32 a0_18, .bool a0_19, .int .i64 a0_20, .string a0_21, .int .i64 a0_22] 44 (0, 0))) ∧ Aside0 (wc.heap[g513]? = some (.cells #[.int .i64 a0_0, .int .i64 a0_1, .string a0_2, .string a0_3, .int .i64 a0_4, .int .i64 a0_5, .int .i64 a0_6, .int .i64 a0_7, .int .i64 a0_8, .int .u32 a0_9, .int .i64 a0_10, .int .i64 a0_11, .string a0_12, .bool a0_13] 28 (0, 0))) ∧ Aside0 (wc.heap[g514]? = some (.cells #[.int .i64 a0_14, .int .i64 a0_15, .int .i64 a0_16, .int .i64 a0_17, .int .u32 a0_18, .bool a0_19] 42 (0, 0))) ∧ Aside0 (Below w.heap.size w wc))
     case first =>
      have H := HC53.out
      clear HC53
      by_cases c54 : t515 = true
      ·subst c54
       have H1 : (if x9_2 = true then (hogsheadlaw17_DeedGoes.j2 kj28 x10_28) else (hogsheadlaw17_DeedGoes.j2 kj28 false)) = some r := by rw [if_pos rfl] at H; exact H
       clear H
       have H := H1
       clear H1
       by_cases c55 : x9_2 = true
       ·subst c55
        have H1 : (hogsheadlaw17_DeedGoes.j2 kj28 x10_28) = some r := by rw [if_pos rfl] at H; exact H
        clear H
        have H := H1
        clear H1
        have H' := qM H
        clear H
        go_wp2
        go_meet
        case rel => exact ⟨_, (x10_28), (by first | rfl | (simp; done) | (simp [*]; done)), H', ⟨by have := HJ2.out; have := HJ28.out; first | omega | exact Nat.le_refl _⟩, ⟨by (with_reducible repeat first | refine qN ?_ _ | refine qD ?_ | refine qA ?_ _); exact B512.out⟩, ⟨by (with_reducible repeat first | refine qN ?_ _ | refine qD ?_ | refine qA ?_ _); exact B513.out⟩, ⟨by (with_reducible repeat first | refine qN ?_ _ | refine qD ?_ | refine qA ?_ _); exact B514.out⟩, ⟨by repeat (first | (with_reducible first | exact HB.out | apply eA | apply eN | apply eD | refine eS ?_ GE512.out | refine eS ?_ GE513.out | refine eS ?_ GE514.out) | exact HB.out)⟩⟩
       ·replace c55 := Bool.eq_false_iff.mpr c55
        subst c55
        have H1 : (hogsheadlaw17_DeedGoes.j2 kj28 false) = some r := by rw [if_neg (show ¬ (false = true) by decide)] at H; exact H
        clear H
        have H := H1
        clear H1
        have H' := qM H
        clear H
        go_wp2
        go_meet
        case rel => exact ⟨_, (false), (by first | rfl | (simp; done) | (simp [*]; done)), H', ⟨by have := HJ2.out; have := HJ28.out; first | omega | exact Nat.le_refl _⟩, ⟨by (with_reducible repeat first | refine qN ?_ _ | refine qD ?_ | refine qA ?_ _); exact B512.out⟩, ⟨by (with_reducible repeat first | refine qN ?_ _ | refine qD ?_ | refine qA ?_ _); exact B513.out⟩, ⟨by (with_reducible repeat first | refine qN ?_ _ | refine qD ?_ | refine qA ?_ _); exact B514.out⟩, ⟨by repeat (first | (with_reducible first | exact HB.out | apply eA | apply eN | apply eD | refine eS ?_ GE512.out | refine eS ?_ GE513.out | refine eS ?_ GE514.out) | exact HB.out)⟩⟩
      ·replace c54 := Bool.eq_false_iff.mpr c54
       subst c54
       have H1 : (hogsheadlaw17_DeedGoes.j2 kj28 false) = some r := by rw [if_neg (show ¬ (false = true) by decide)] at H; exact H
       clear H
       have H := H1
       clear H1
       have H' := qM H
       clear H
       go_wp2
       go_meet
       case rel => exact ⟨_, (false), (by first | rfl | (simp; done) | (simp [*]; done)), H', ⟨by have := HJ2.out; have := HJ28.out; first | omega | exact Nat.le_refl _⟩, ⟨by (with_reducible repeat first | refine qN ?_ _ | refine qD ?_ | refine qA ?_ _); exact B512.out⟩, ⟨by (with_reducible repeat first | refine qN ?_ _ | refine qD ?_ | refine qA ?_ _); exact B513.out⟩, ⟨by (with_reducible repeat first | refine qN ?_ _ | refine qD ?_ | refine qA ?_ _); exact B514.out⟩, ⟨by repeat (first | (with_reducible first | exact HB.out | apply eA | apply eN | apply eD | refine eS ?_ GE512.out | refine eS ?_ GE513.out | refine eS ?_ GE514.out) | exact HB.out)⟩⟩
     case rest =>
      clear HC53
      try clear c1
      try clear c2
      try clear p2
      try clear c3
      try clear c5
      try clear c19
      try clear c20
      try clear c21
      try clear c22
      try clear c24
      try clear c32
      try clear c32b0
      try clear c32b1
      try clear c32b2
      try clear c35
      try clear c35b0
      try clear c35b1
      try clear c35b2
      try clear c54
      try clear c55
      try clear p2
      obtain ⟨kq, x2_52, rfl, HA, HJ52, B512, B513, B514, HB⟩ := hcut
      cases kq with
      | zero => exact absurd HA.out (by simp [hogsheadlaw17_DeedGoes.j2])
      | succ kj52 =>
       have H := HA.out
       clear HA
       simp only [hogsheadlaw17_DeedGoes.j2] at H
       obtain rfl := Option.some.inj H
       go_wp2
       go_ret
       exact ⟨by first | rfl | (simp [errW_none, errW_some] <;> rfl) | (simp [*, errW_none, errW_some] <;> rfl), by repeat (first | (with_reducible first | exact HB.out | apply eA | apply eN | apply eD | refine eS ?_ GE512.out | refine eS ?_ GE513.out | refine eS ?_ GE514.out) | exact HB.out)⟩

end Go.Proofs.Ytmjmmgefkebggaa.PAll
