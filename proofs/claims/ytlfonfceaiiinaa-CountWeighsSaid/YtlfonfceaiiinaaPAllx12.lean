/- Functions of the program as plain Lean functions, and that each call comes to what they say. Laid by a program of this session (hprint.py); Lean checks it. -/
import Derived.Test.YtlfonfceaiiinaaPAllx0
import Derived.Test.YtlfonfceaiiinaaPAllx9
import Derived.Test.YtlfonfceaiiinaaPAllx10
import Derived.Test.YtlfonfceaiiinaaPAllx11
namespace Go.Proofs.Ytlfonfceaiiinaa.PAll
open Go.RowKit Go.Proofs.YtlfonfceaiiinaaW.PrintWords Go.Proofs.YtlfonfceaiiinaaW.PrintLast Go.Proofs.YtlfonfceaiiinaaW.PrintMore
attribute [local go_sem] max2_int min2_int max_two min_two max_three min_three max_four min_four   -- for this text's walks alone
set_option linter.unusedVariables false
set_option linter.unusedSimpArgs false

/-! ### shelf_Take: function 40 -/
def shelf_Take.j0 : Nat → Int → Int → ByteArray → Bool → Option (Int × Int × ByteArray × Int)
 | 0, _, _, _, _ => none
 | k + 1, x5, x7, x9, x61 => if x61 = true then (some (0, 0, (⟨#[]⟩ : ByteArray), 3)) else ((shelf_May.f (wrap64 (x5)) (wrap64 (x7)) x9).bind fun t161 => (if t161 = true then (some (wrap64 (x5), wrap64 (x7), x9, 0)) else (some (0, 0, (⟨#[]⟩ : ByteArray), 3))))
def shelf_Take.f (k : Nat) (a0 : ByteArray) : Option (Int × Int × ByteArray × Int) := (crc_Open.f a0).bind fun bt149 => ((vlq_TakeNum.f k bt149.1).bind fun bt151 => ((vlq_TakeNum.f k bt151.2.1).bind fun bt154 => ((vlq_TakeText.f k bt154.2.1 512).bind fun bt157 => (if bt149.2 = 0 then (if bt151.2.2 = 0 then (if bt154.2.2 = 0 then (if bt157.2.2 = 0 then (if bt157.2.1.toList = ([] : List UInt8) then (if bt151.1 > 1048576 then (shelf_Take.j0 k bt151.1 bt154.1 bt157.1 true) else (shelf_Take.j0 k bt151.1 bt154.1 bt157.1 (decide (bt154.1 > 1024)))) else (shelf_Take.j0 k bt151.1 bt154.1 bt157.1 true)) else (shelf_Take.j0 k bt151.1 bt154.1 bt157.1 true)) else (shelf_Take.j0 k bt151.1 bt154.1 bt157.1 true)) else (shelf_Take.j0 k bt151.1 bt154.1 bt157.1 true)) else (shelf_Take.j0 k bt151.1 bt154.1 bt157.1 true)))))
theorem shelf_Take.mono_l : ∀ k, (∀ y0 y1 y2 y3, LeO (shelf_Take.j0 k y0 y1 y2 y3) (shelf_Take.j0 (k + 1) y0 y1 y2 y3))
 | 0 => fun _ _ _ _ r h => by simp [shelf_Take.j0] at h
 | k + 1 => by
  have ih0 := shelf_Take.mono_l k
  ·intro y0 y1 y2 y3
   unfold shelf_Take.j0
   repeat' first
   | (with_reducible exact ih0 _ _ _ _)
   | (with_reducible exact vlq_TakeNum.mono _ _)
   | (with_reducible exact vlq_TakeText.mono _ _ _)
   | (with_reducible exact LeO.refl _)
   | (with_reducible exact LeO.none _)
   | (with_reducible refine LeO.ite ?_ ?_)
   | (with_reducible refine LeO.bind ?_ (fun _ => ?_))
   | exact ih0 _ _ _ _
   | exact vlq_TakeNum.mono _ _
   | exact vlq_TakeText.mono _ _ _
   | exact LeO.none _
   | refine LeO.ite ?_ ?_
   | refine LeO.bind ?_ (fun _ => ?_)
theorem shelf_Take.mono : ∀ a0 k, LeO (shelf_Take.f k a0) (shelf_Take.f (k + 1) a0) := by
 intro a0 k
 have ih0 := shelf_Take.mono_l k
 unfold shelf_Take.f
 repeat' first
   | (with_reducible exact ih0 _ _ _ _)
   | (with_reducible exact vlq_TakeNum.mono _ _)
   | (with_reducible exact vlq_TakeText.mono _ _ _)
   | (with_reducible exact LeO.refl _)
   | (with_reducible exact LeO.none _)
   | (with_reducible refine LeO.ite ?_ ?_)
   | (with_reducible refine LeO.bind ?_ (fun _ => ?_))
   | exact ih0 _ _ _ _
   | exact vlq_TakeNum.mono _ _
   | exact vlq_TakeText.mono _ _ _
   | exact LeO.none _
   | refine LeO.ite ?_ ?_
   | refine LeO.bind ?_ (fun _ => ?_)
set_option maxHeartbeats 40000000 in
set_option maxRecDepth 100000 in
theorem shelf_Take.calls (k : Nat) (a0 : ByteArray) (r1 : Int) (r2 : Int) (r3 : ByteArray) (r4 : Int) (w : World) (h : shelf_Take.f k a0 = some (r1, r2, r3, r4)) :
  Calls Try.prog 40 #[.string a0] w fun e w' => e = .returned (.tuple #[.agg #[.int .i64 r1, .int .i64 r2, .string r3], .int .i64 r4]) ∧ Below w.heap.size w w' := by
 have hu87 := Try.underlying87
 have HB := qM (Below.refl w.heap.size w)
 have H : ((crc_Open.f a0).bind fun bt149 => ((vlq_TakeNum.f k bt149.1).bind fun bt151 => ((vlq_TakeNum.f k bt151.2.1).bind fun bt154 => ((vlq_TakeText.f k bt154.2.1 512).bind fun bt157 => (if bt149.2 = 0 then (if bt151.2.2 = 0 then (if bt154.2.2 = 0 then (if bt157.2.2 = 0 then (if bt157.2.1.toList = ([] : List UInt8) then (if bt151.1 > 1048576 then (shelf_Take.j0 k bt151.1 bt154.1 bt157.1 true) else (shelf_Take.j0 k bt151.1 bt154.1 bt157.1 (decide (bt154.1 > 1024)))) else (shelf_Take.j0 k bt151.1 bt154.1 bt157.1 true)) else (shelf_Take.j0 k bt151.1 bt154.1 bt157.1 true)) else (shelf_Take.j0 k bt151.1 bt154.1 bt157.1 true)) else (shelf_Take.j0 k bt151.1 bt154.1 bt157.1 true)) else (shelf_Take.j0 k bt151.1 bt154.1 bt157.1 true)))))) = some (r1, r2, r3, r4) := h
 clear h
 replace H := Option.bind_eq_some_iff.mp H
 obtain ⟨⟨t149, t150⟩, A20, H⟩ := H
 replace H : ((vlq_TakeNum.f k t149).bind fun bt151 => ((vlq_TakeNum.f k bt151.2.1).bind fun bt154 => ((vlq_TakeText.f k bt154.2.1 512).bind fun bt157 => (if t150 = 0 then (if bt151.2.2 = 0 then (if bt154.2.2 = 0 then (if bt157.2.2 = 0 then (if bt157.2.1.toList = ([] : List UInt8) then (if bt151.1 > 1048576 then (shelf_Take.j0 k bt151.1 bt154.1 bt157.1 true) else (shelf_Take.j0 k bt151.1 bt154.1 bt157.1 (decide (bt154.1 > 1024)))) else (shelf_Take.j0 k bt151.1 bt154.1 bt157.1 true)) else (shelf_Take.j0 k bt151.1 bt154.1 bt157.1 true)) else (shelf_Take.j0 k bt151.1 bt154.1 bt157.1 true)) else (shelf_Take.j0 k bt151.1 bt154.1 bt157.1 true)) else (shelf_Take.j0 k bt151.1 bt154.1 bt157.1 true))))) = some (r1, r2, r3, r4) := H
 have A2 := qM A20
 clear A20
 replace H := Option.bind_eq_some_iff.mp H
 obtain ⟨⟨t151, t152, t153⟩, A30, H⟩ := H
 replace H : ((vlq_TakeNum.f k t152).bind fun bt154 => ((vlq_TakeText.f k bt154.2.1 512).bind fun bt157 => (if t150 = 0 then (if t153 = 0 then (if bt154.2.2 = 0 then (if bt157.2.2 = 0 then (if bt157.2.1.toList = ([] : List UInt8) then (if t151 > 1048576 then (shelf_Take.j0 k t151 bt154.1 bt157.1 true) else (shelf_Take.j0 k t151 bt154.1 bt157.1 (decide (bt154.1 > 1024)))) else (shelf_Take.j0 k t151 bt154.1 bt157.1 true)) else (shelf_Take.j0 k t151 bt154.1 bt157.1 true)) else (shelf_Take.j0 k t151 bt154.1 bt157.1 true)) else (shelf_Take.j0 k t151 bt154.1 bt157.1 true)) else (shelf_Take.j0 k t151 bt154.1 bt157.1 true)))) = some (r1, r2, r3, r4) := H
 have A3 := qM A30
 clear A30
 replace H := Option.bind_eq_some_iff.mp H
 obtain ⟨⟨t154, t155, t156⟩, A40, H⟩ := H
 replace H : ((vlq_TakeText.f k t155 512).bind fun bt157 => (if t150 = 0 then (if t153 = 0 then (if t156 = 0 then (if bt157.2.2 = 0 then (if bt157.2.1.toList = ([] : List UInt8) then (if t151 > 1048576 then (shelf_Take.j0 k t151 t154 bt157.1 true) else (shelf_Take.j0 k t151 t154 bt157.1 (decide (t154 > 1024)))) else (shelf_Take.j0 k t151 t154 bt157.1 true)) else (shelf_Take.j0 k t151 t154 bt157.1 true)) else (shelf_Take.j0 k t151 t154 bt157.1 true)) else (shelf_Take.j0 k t151 t154 bt157.1 true)) else (shelf_Take.j0 k t151 t154 bt157.1 true))) = some (r1, r2, r3, r4) := H
 have A4 := qM A40
 clear A40
 replace H := Option.bind_eq_some_iff.mp H
 obtain ⟨⟨t157, t158, t159⟩, A50, H⟩ := H
 replace H : (if t150 = 0 then (if t153 = 0 then (if t156 = 0 then (if t159 = 0 then (if t158.toList = ([] : List UInt8) then (if t151 > 1048576 then (shelf_Take.j0 k t151 t154 t157 true) else (shelf_Take.j0 k t151 t154 t157 (decide (t154 > 1024)))) else (shelf_Take.j0 k t151 t154 t157 true)) else (shelf_Take.j0 k t151 t154 t157 true)) else (shelf_Take.j0 k t151 t154 t157 true)) else (shelf_Take.j0 k t151 t154 t157 true)) else (shelf_Take.j0 k t151 t154 t157 true)) = some (r1, r2, r3, r4) := H
 have A5 := qM A50
 clear A50
 have HC6 := qM H
 clear H
 go_enter Try.func40, Try.ntmps40
 go_upto_region 5 with (first | ((with_reducible refine gate_dst (N := 2) rfl ?_); refine box_event ?hg (N := 2) ?hd (cs := #[.int .i64 0, .int .i64 0, .string (⟨#[]⟩ : ByteArray)]) (t := 87) ?hr ?_; (case hd => rfl); (case hg => rfl); (case hr => first | (go_simp; done) | (go_simp; rfl)); intro g148 hg w7 hbox hb; have n0_ := qM (eT (by repeat (first | (with_reducible first | exact HB.out | apply eA | apply eN | apply eD) | exact HB.out)) hb); have n1_ := qM (hbox); have n2_ := qM ((by rw [hg]; exact (eZ (by repeat (first | (with_reducible first | exact HB.out | apply eA | apply eN | apply eD) | exact HB.out))) : w.heap.size ≤ g148)); have n3_ := n2_; clear HB; have HB := n0_; have B148 := n1_; have GW148 := n2_; have GE148 := n3_; clear n0_ n1_ n2_ n3_; clear hb hbox hg) | ((with_reducible refine gate_callee (f := 44) rfl ?_); refine goesL_ (some 15) rfl rfl Try.func44 (by kernel_rfl) rfl #[.string a0] rfl (by (try simp only [List.map_toArray, List.map_cons, List.map_nil]); first | done | rfl | (simp only [List.length_drop, List.length_take]; rfl)) ?_; (with_reducible refine (crc_Open.calls a0 t149 t150 _ A2.out).mono ?_); rintro e w8 ⟨rfl, hb⟩; refine ⟨_, rfl, ?_⟩; have n0_ := qM (qB (g := g148) (by (with_reducible repeat first | refine qN ?_ _ | refine qD ?_ | refine qA ?_ _); exact B148.out) hb); have n1_ := qM (eT (by repeat (first | (with_reducible first | exact HB.out | apply eA | apply eN | apply eD | refine eU ?_ (by assumption)) | exact HB.out)) hb); clear B148 HB; have B148 := n0_; have HB := n1_; clear n0_ n1_; (try clear hb); (try clear hb2); (try clear hk); (try clear hi)) | ((with_reducible refine gate_callee (f := 45) rfl ?_); refine goesL_ (some 20) rfl rfl Try.func45 (by kernel_rfl) rfl #[.string t149] rfl (by (try simp only [List.map_toArray, List.map_cons, List.map_nil]); first | done | rfl | (simp only [List.length_drop, List.length_take]; rfl)) ?_; (with_reducible refine (vlq_TakeNum.calls k t149 t151 t152 t153 _ A3.out).mono ?_); rintro e w' ⟨rfl, ⟨nd, rfl⟩⟩; refine ⟨_, rfl, ?_⟩) | ((with_reducible refine gate_callee (f := 45) rfl ?_); refine goesL_ (some 26) rfl rfl Try.func45 (by kernel_rfl) rfl #[.string t152] rfl (by (try simp only [List.map_toArray, List.map_cons, List.map_nil]); first | done | rfl | (simp only [List.length_drop, List.length_take]; rfl)) ?_; (with_reducible refine (vlq_TakeNum.calls k t152 t154 t155 t156 _ A4.out).mono ?_); rintro e w' ⟨rfl, ⟨nd, rfl⟩⟩; refine ⟨_, rfl, ?_⟩) | ((with_reducible refine gate_callee (f := 46) rfl ?_); refine goesL_ (some 32) rfl rfl Try.func46 (by kernel_rfl) rfl #[.string t155, .int .i64 512] rfl (by (try simp only [List.map_toArray, List.map_cons, List.map_nil]); first | done | rfl | (simp only [List.length_drop, List.length_take]; rfl)) ?_; (with_reducible refine (vlq_TakeText.calls k t155 512 t157 t158 t159 _ A5.out).mono ?_); rintro e w' ⟨rfl, ⟨nd, rfl⟩⟩; refine ⟨_, rfl, ?_⟩))
 (try simp only [Act.put, List.setIfInBounds_toArray, List.set_cons_zero, List.set_cons_succ])
 go_cut [61] (fun v61 wc => ∃ (kq : Nat) (x61_5 : Bool), v61 = .bool x61_5 ∧ Aside0 (shelf_Take.j0 kq t151 t154 t157 x61_5 = some (r1, r2, r3, r4)) ∧ Aside0 (kq ≤ k) ∧ Aside0 (wc.heap[g148]? = some (.cells #[.int .i64 0, .int .i64 0, .string (⟨#[]⟩ : ByteArray)] 87 (0, 0))) ∧ Aside0 (Below w.heap.size w wc))
 case first =>
  have H := HC6.out
  clear HC6
  by_cases c9 : t150 = 0
  ·rw [if_pos c9] at H
   have c9b0 : (t150 == 0) = true := beq_iff_eq.mpr c9
   have c9b1 : (t150 != 0) = false := bne_eq_false_iff_eq.mpr c9
   clear c9
   (first | rw [c9b0] | (simp only [i64_w, i32_w]; rw [c9b0]) | skip)
   by_cases c10 : t153 = 0
   ·rw [if_pos c10] at H
    have c10b0 : (t153 == 0) = true := beq_iff_eq.mpr c10
    have c10b1 : (t153 != 0) = false := bne_eq_false_iff_eq.mpr c10
    clear c10
    by_cases c11 : t156 = 0
    ·rw [if_pos c11] at H
     have c11b0 : (t156 == 0) = true := beq_iff_eq.mpr c11
     have c11b1 : (t156 != 0) = false := bne_eq_false_iff_eq.mpr c11
     clear c11
     by_cases c12 : t159 = 0
     ·rw [if_pos c12] at H
      have c12b0 : (t159 == 0) = true := beq_iff_eq.mpr c12
      have c12b1 : (t159 != 0) = false := bne_eq_false_iff_eq.mpr c12
      clear c12
      by_cases c13 : t158.toList = ([] : List UInt8)
      ·rw [if_pos c13] at H
       have c13b0 : (t158.toList == ([] : List UInt8)) = true := beq_iff_eq.mpr c13
       have c13b1 : (t158.toList != ([] : List UInt8)) = false := bne_eq_false_iff_eq.mpr c13
       clear c13
       by_cases c14 : t151 > 1048576
       ·rw [if_pos c14] at H
        have c14b0 : decide (1048576 < t151) = true := decide_eq_true c14
        clear c14
        have H' := qM H
        clear H
        go_wp2
        go_meet
        case rel => exact ⟨_, (true), (by first | rfl | (simp; done) | (simp [*]; done)), H', ⟨by first | omega | exact Nat.le_refl _⟩, ⟨by (with_reducible repeat first | refine qN ?_ _ | refine qD ?_ | refine qA ?_ _); exact B148.out⟩, ⟨by repeat (first | (with_reducible first | exact HB.out | apply eA | apply eN | apply eD | refine eS ?_ GE148.out) | exact HB.out)⟩⟩
       ·rw [if_neg c14] at H
        have c14b0 : decide (1048576 < t151) = false := decide_eq_false c14
        clear c14
        have H' := qM H
        clear H
        go_wp2
        go_meet
        case rel => exact ⟨_, (decide (t154 > 1024)), (by first | rfl | (simp; done) | (simp [*]; done)), H', ⟨by first | omega | exact Nat.le_refl _⟩, ⟨by (with_reducible repeat first | refine qN ?_ _ | refine qD ?_ | refine qA ?_ _); exact B148.out⟩, ⟨by repeat (first | (with_reducible first | exact HB.out | apply eA | apply eN | apply eD | refine eS ?_ GE148.out) | exact HB.out)⟩⟩
      ·rw [if_neg c13] at H
       have c13b0 : (t158.toList == ([] : List UInt8)) = false := beq_eq_false_iff_ne.mpr c13
       have c13b1 : (t158.toList != ([] : List UInt8)) = true := bne_iff_ne.mpr c13
       have H' := qM H
       clear H
       go_wp2
       go_meet
       case rel => exact ⟨_, (true), (by first | rfl | (simp; done) | (simp [*]; done)), H', ⟨by first | omega | exact Nat.le_refl _⟩, ⟨by (with_reducible repeat first | refine qN ?_ _ | refine qD ?_ | refine qA ?_ _); exact B148.out⟩, ⟨by repeat (first | (with_reducible first | exact HB.out | apply eA | apply eN | apply eD | refine eS ?_ GE148.out) | exact HB.out)⟩⟩
     ·rw [if_neg c12] at H
      have c12b0 : (t159 == 0) = false := beq_eq_false_iff_ne.mpr c12
      have c12b1 : (t159 != 0) = true := bne_iff_ne.mpr c12
      have H' := qM H
      clear H
      go_wp2
      go_meet
      case rel => exact ⟨_, (true), (by first | rfl | (simp; done) | (simp [*]; done)), H', ⟨by first | omega | exact Nat.le_refl _⟩, ⟨by (with_reducible repeat first | refine qN ?_ _ | refine qD ?_ | refine qA ?_ _); exact B148.out⟩, ⟨by repeat (first | (with_reducible first | exact HB.out | apply eA | apply eN | apply eD | refine eS ?_ GE148.out) | exact HB.out)⟩⟩
    ·rw [if_neg c11] at H
     have c11b0 : (t156 == 0) = false := beq_eq_false_iff_ne.mpr c11
     have c11b1 : (t156 != 0) = true := bne_iff_ne.mpr c11
     have H' := qM H
     clear H
     go_wp2
     go_meet
     case rel => exact ⟨_, (true), (by first | rfl | (simp; done) | (simp [*]; done)), H', ⟨by first | omega | exact Nat.le_refl _⟩, ⟨by (with_reducible repeat first | refine qN ?_ _ | refine qD ?_ | refine qA ?_ _); exact B148.out⟩, ⟨by repeat (first | (with_reducible first | exact HB.out | apply eA | apply eN | apply eD | refine eS ?_ GE148.out) | exact HB.out)⟩⟩
   ·rw [if_neg c10] at H
    have c10b0 : (t153 == 0) = false := beq_eq_false_iff_ne.mpr c10
    have c10b1 : (t153 != 0) = true := bne_iff_ne.mpr c10
    have H' := qM H
    clear H
    go_wp2
    go_meet
    case rel => exact ⟨_, (true), (by first | rfl | (simp; done) | (simp [*]; done)), H', ⟨by first | omega | exact Nat.le_refl _⟩, ⟨by (with_reducible repeat first | refine qN ?_ _ | refine qD ?_ | refine qA ?_ _); exact B148.out⟩, ⟨by repeat (first | (with_reducible first | exact HB.out | apply eA | apply eN | apply eD | refine eS ?_ GE148.out) | exact HB.out)⟩⟩
  ·rw [if_neg c9] at H
   have c9b0 : (t150 == 0) = false := beq_eq_false_iff_ne.mpr c9
   have c9b1 : (t150 != 0) = true := bne_iff_ne.mpr c9
   (first | rw [c9b0] | (simp only [i64_w, i32_w]; rw [c9b0]) | skip)
   have H' := qM H
   clear H
   go_wp2
   go_meet
   case rel => exact ⟨_, (true), (by first | rfl | (simp; done) | (simp [*]; done)), H', ⟨by first | omega | exact Nat.le_refl _⟩, ⟨by (with_reducible repeat first | refine qN ?_ _ | refine qD ?_ | refine qA ?_ _); exact B148.out⟩, ⟨by repeat (first | (with_reducible first | exact HB.out | apply eA | apply eN | apply eD | refine eS ?_ GE148.out) | exact HB.out)⟩⟩
 case rest =>
  clear HC6
  try clear c1
  try clear p2
  try clear c4
  try clear c9
  try clear c9b0
  try clear c9b1
  try clear c10
  try clear c10b0
  try clear c10b1
  try clear c11
  try clear c11b0
  try clear c11b1
  try clear c12
  try clear c12b0
  try clear c12b1
  try clear c13
  try clear c13b0
  try clear c13b1
  try clear c14
  try clear c14b0
  obtain ⟨kq, x61_5, rfl, HA, HJ5, B148, HB⟩ := hcut
  cases kq with
  | zero => exact absurd HA.out (by simp [shelf_Take.j0])
  | succ kj5 =>
   have H := HA.out
   clear HA
   simp only [shelf_Take.j0] at H
   by_cases c15 : x61_5 = true
   ·subst c15
    have H1 : (some (0, 0, (⟨#[]⟩ : ByteArray), 3)) = some (r1, r2, r3, r4) := by rw [if_pos rfl] at H; exact H
    clear H
    have H := H1
    clear H1
    simp only [Option.some.injEq, Prod.mk.injEq] at H
    obtain ⟨rfl, rfl, rfl, rfl⟩ := H
    obtain ⟨z16_0, z16_1, z16_2, f16_0, f16_1, f16_2⟩ := cells3 B148.out
    go_wp2
    refine bodyPost_ret (results_ct rfl _ _ g148 87 #[.int .i64 0, .int .i64 0, .string (⟨#[]⟩ : ByteArray)] (0, 0) _ rfl (by (with_reducible repeat first | refine qN ?_ _ | refine qD ?_ | refine qA ?_ _); apply puts3; (with_reducible repeat first | refine qN ?_ _ | refine qD ?_ | refine qA ?_ _); exact B148.out) Try.underlying87 rfl (by kernel_rfl)) rfl ?_
    exact ⟨by first | rfl | (simp [errW_none, errW_some] <;> rfl) | (simp [*, errW_none, errW_some] <;> rfl), by repeat (first | (with_reducible first | exact HB.out | apply eA | apply eN | apply eD | refine eS ?_ GE148.out) | exact HB.out)⟩
   ·replace c15 := Bool.eq_false_iff.mpr c15
    subst c15
    have H1 : ((shelf_May.f (wrap64 (t151)) (wrap64 (t154)) t157).bind fun t161 => (if t161 = true then (some (wrap64 (t151), wrap64 (t154), t157, 0)) else (some (0, 0, (⟨#[]⟩ : ByteArray), 3)))) = some (r1, r2, r3, r4) := by rw [if_neg (show ¬ (false = true) by decide)] at H; exact H
    clear H
    have H := H1
    clear H1
    replace H := Option.bind_eq_some_iff.mp H
    obtain ⟨t161, A170, H⟩ := H
    replace H : (if t161 = true then (some (wrap64 (t151), wrap64 (t154), t157, 0)) else (some (0, 0, (⟨#[]⟩ : ByteArray), 3))) = some (r1, r2, r3, r4) := H
    have A17 := qM A170
    clear A170
    by_cases c18 : t161 = true
    ·subst c18
     have H1 : (some (wrap64 (t151), wrap64 (t154), t157, 0)) = some (r1, r2, r3, r4) := by rw [if_pos rfl] at H; exact H
     clear H
     have H := H1
     clear H1
     simp only [Option.some.injEq, Prod.mk.injEq] at H
     obtain ⟨rfl, rfl, rfl, rfl⟩ := H
     go_wp2_with (first | ((with_reducible refine gate_dst (N := 12) rfl ?_); refine box_event ?hg (N := 12) ?hd (cs := #[.int .i64 0, .int .i64 0, .string (⟨#[]⟩ : ByteArray)]) (t := 87) ?hr ?_; (case hd => rfl); (case hg => rfl); (case hr => first | (go_simp; done) | (go_simp; rfl)); intro g160 hg w19 hbox hb; have n0_ := qM (qB (g := g148) (by (with_reducible repeat first | refine qN ?_ _ | refine qD ?_ | refine qA ?_ _); exact B148.out) hb); have n1_ := qM (eT (by repeat (first | (with_reducible first | exact HB.out | apply eA | apply eN | apply eD | refine eU ?_ (by assumption)) | exact HB.out)) hb); have n2_ := qM (hbox); have n3_ := qM ((by rw [hg]; exact (eZ (by repeat (first | (with_reducible first | exact HB.out | apply eA | apply eN | apply eD | refine eU ?_ (by assumption)) | exact HB.out))) : w.heap.size ≤ g160)); have n4_ := n3_; have n5_ := qM ((by rw [hg]; exact Nat.ne_of_lt (qL (g := g148) (by (with_reducible repeat first | refine qN ?_ _ | refine qD ?_ | refine qA ?_ _); exact B148.out)) : g148 ≠ g160)); have n6_ := qM (Ne.symm n5_.out); clear B148 HB; have B148 := n0_; have HB := n1_; have B160 := n2_; have GW160 := n3_; have GE160 := n4_; have NB148_160 := n5_; have NB160_148 := n6_; clear n0_ n1_ n2_ n3_ n4_ n5_ n6_; clear hb hbox hg; have hnb20 := NB160_148.out; have hnc20 := NB148_160.out; obtain ⟨z21_0, z21_1, z21_2, f21_0, f21_1, f21_2⟩ := cells3 B160.out) | ((with_reducible refine gate_callee (f := 47) rfl ?_); refine goesL_ (some 70) rfl rfl Try.func47 (by kernel_rfl) rfl #[.agg #[.int .i64 (wrap64 (t151)), .int .i64 (wrap64 (t154)), .string t157]] rfl (by (try simp only [List.map_toArray, List.map_cons, List.map_nil]); first | done | rfl | (simp only [List.length_drop, List.length_take]; rfl)) ?_; (with_reducible refine (shelf_May.calls (wrap64 (t151)) (wrap64 (t154)) t157 true _ A17.out).mono ?_); rintro e w22 ⟨rfl, hb⟩; refine ⟨_, rfl, ?_⟩; have n0_ := qM (qB (g := g148) (o := .cells #[.int .i64 0, .int .i64 0, .string (⟨#[]⟩ : ByteArray)] 87 (0, 0)) (by (with_reducible repeat first | refine qN ?_ _ | refine qD ?_ | refine qA ?_ _); (iterate 3 (refine qR ?_ NB148_160.out _; (with_reducible repeat first | refine qN ?_ _ | refine qD ?_ | refine qA ?_ _))); exact B148.out) hb); have n1_ := qM (qB (g := g160) (by (with_reducible repeat first | refine qN ?_ _ | refine qD ?_ | refine qA ?_ _); apply puts3; (with_reducible repeat first | refine qN ?_ _ | refine qD ?_ | refine qA ?_ _); exact B160.out) hb); have n2_ := qM (eT (by repeat (first | (with_reducible first | exact HB.out | apply eA | apply eN | apply eD | refine eU ?_ (by assumption)) | exact HB.out)) hb); clear B148 B160 HB; have B148 := n0_; have B160 := n1_; have HB := n2_; clear n0_ n1_ n2_; (try clear hb); (try clear hb2); (try clear hk); (try clear hi); obtain ⟨z23_0, z23_1, z23_2, f23_0, f23_1, f23_2⟩ := cells3 B160.out; obtain ⟨z24_0, z24_1, z24_2, f24_0, f24_1, f24_2⟩ := cells3 B148.out))
     refine bodyPost_ret (results_ct rfl _ _ g148 87 #[.int .i64 (wrap64 (t151)), .int .i64 (wrap64 (t154)), .string t157] (0, 0) _ rfl (by (with_reducible repeat first | refine qN ?_ _ | refine qD ?_ | refine qA ?_ _); apply puts3; (with_reducible repeat first | refine qN ?_ _ | refine qD ?_ | refine qA ?_ _); exact B148.out) Try.underlying87 rfl (by kernel_rfl)) rfl ?_
     exact ⟨by first | rfl | (simp [errW_none, errW_some] <;> rfl) | (simp [*, errW_none, errW_some] <;> rfl), by repeat (first | (with_reducible first | exact HB.out | apply eA | apply eN | apply eD | refine eS ?_ GE148.out | refine eS ?_ GE160.out) | exact HB.out)⟩
    ·replace c18 := Bool.eq_false_iff.mpr c18
     subst c18
     have H1 : (some (0, 0, (⟨#[]⟩ : ByteArray), 3)) = some (r1, r2, r3, r4) := by rw [if_neg (show ¬ (false = true) by decide)] at H; exact H
     clear H
     have H := H1
     clear H1
     simp only [Option.some.injEq, Prod.mk.injEq] at H
     obtain ⟨rfl, rfl, rfl, rfl⟩ := H
     go_wp2_with (first | ((with_reducible refine gate_dst (N := 12) rfl ?_); refine box_event ?hg (N := 12) ?hd (cs := #[.int .i64 0, .int .i64 0, .string (⟨#[]⟩ : ByteArray)]) (t := 87) ?hr ?_; (case hd => rfl); (case hg => rfl); (case hr => first | (go_simp; done) | (go_simp; rfl)); intro g160 hg w25 hbox hb; have n0_ := qM (qB (g := g148) (by (with_reducible repeat first | refine qN ?_ _ | refine qD ?_ | refine qA ?_ _); exact B148.out) hb); have n1_ := qM (eT (by repeat (first | (with_reducible first | exact HB.out | apply eA | apply eN | apply eD | refine eU ?_ (by assumption)) | exact HB.out)) hb); have n2_ := qM (hbox); have n3_ := qM ((by rw [hg]; exact (eZ (by repeat (first | (with_reducible first | exact HB.out | apply eA | apply eN | apply eD | refine eU ?_ (by assumption)) | exact HB.out))) : w.heap.size ≤ g160)); have n4_ := n3_; have n5_ := qM ((by rw [hg]; exact Nat.ne_of_lt (qL (g := g148) (by (with_reducible repeat first | refine qN ?_ _ | refine qD ?_ | refine qA ?_ _); exact B148.out)) : g148 ≠ g160)); have n6_ := qM (Ne.symm n5_.out); clear B148 HB; have B148 := n0_; have HB := n1_; have B160 := n2_; have GW160 := n3_; have GE160 := n4_; have NB148_160 := n5_; have NB160_148 := n6_; clear n0_ n1_ n2_ n3_ n4_ n5_ n6_; clear hb hbox hg; have hnb26 := NB160_148.out; have hnc26 := NB148_160.out; obtain ⟨z27_0, z27_1, z27_2, f27_0, f27_1, f27_2⟩ := cells3 B160.out) | ((with_reducible refine gate_callee (f := 47) rfl ?_); refine goesL_ (some 70) rfl rfl Try.func47 (by kernel_rfl) rfl #[.agg #[.int .i64 (wrap64 (t151)), .int .i64 (wrap64 (t154)), .string t157]] rfl (by (try simp only [List.map_toArray, List.map_cons, List.map_nil]); first | done | rfl | (simp only [List.length_drop, List.length_take]; rfl)) ?_; (with_reducible refine (shelf_May.calls (wrap64 (t151)) (wrap64 (t154)) t157 false _ A17.out).mono ?_); rintro e w28 ⟨rfl, hb⟩; refine ⟨_, rfl, ?_⟩; have n0_ := qM (qB (g := g148) (o := .cells #[.int .i64 0, .int .i64 0, .string (⟨#[]⟩ : ByteArray)] 87 (0, 0)) (by (with_reducible repeat first | refine qN ?_ _ | refine qD ?_ | refine qA ?_ _); (iterate 3 (refine qR ?_ NB148_160.out _; (with_reducible repeat first | refine qN ?_ _ | refine qD ?_ | refine qA ?_ _))); exact B148.out) hb); have n1_ := qM (qB (g := g160) (by (with_reducible repeat first | refine qN ?_ _ | refine qD ?_ | refine qA ?_ _); apply puts3; (with_reducible repeat first | refine qN ?_ _ | refine qD ?_ | refine qA ?_ _); exact B160.out) hb); have n2_ := qM (eT (by repeat (first | (with_reducible first | exact HB.out | apply eA | apply eN | apply eD | refine eU ?_ (by assumption)) | exact HB.out)) hb); clear B148 B160 HB; have B148 := n0_; have B160 := n1_; have HB := n2_; clear n0_ n1_ n2_; (try clear hb); (try clear hb2); (try clear hk); (try clear hi); obtain ⟨z29_0, z29_1, z29_2, f29_0, f29_1, f29_2⟩ := cells3 B148.out))
     refine bodyPost_ret (results_ct rfl _ _ g148 87 #[.int .i64 0, .int .i64 0, .string (⟨#[]⟩ : ByteArray)] (0, 0) _ rfl (by (with_reducible repeat first | refine qN ?_ _ | refine qD ?_ | refine qA ?_ _); apply puts3; (with_reducible repeat first | refine qN ?_ _ | refine qD ?_ | refine qA ?_ _); exact B148.out) Try.underlying87 rfl (by kernel_rfl)) rfl ?_
     exact ⟨by first | rfl | (simp [errW_none, errW_some] <;> rfl) | (simp [*, errW_none, errW_some] <;> rfl), by repeat (first | (with_reducible first | exact HB.out | apply eA | apply eN | apply eD | refine eS ?_ GE148.out | refine eS ?_ GE160.out) | exact HB.out)⟩

-- NOT PRINTED: function 38 (shelf_all_1)

-- NOT PRINTED: function 34 (shelf_all)

/-! ### shelf_spot_full: function 35 -/
def shelf_spot_full.f (a0_0 : Int) (a0_1 : Bool) (a0_2 : Bool) (a0_3 : Int) (a0_4 : Int) (a0_5 : ByteArray) : Option (Bool) := if a0_1 = true then (some false) else (some (!a0_2))
set_option maxHeartbeats 40000000 in
set_option maxRecDepth 100000 in
theorem shelf_spot_full.calls (a0_0 : Int) (a0_1 : Bool) (a0_2 : Bool) (a0_3 : Int) (a0_4 : Int) (a0_5 : ByteArray) (r : Bool) (w : World) (h : shelf_spot_full.f a0_0 a0_1 a0_2 a0_3 a0_4 a0_5 = some r) :
  Calls Try.prog 35 #[.agg #[.int .i64 a0_0, .bool a0_1, .bool a0_2, .int .i64 a0_3, .int .i64 a0_4, .string a0_5]] w fun e w' => e = .returned (.bool r) ∧ Below w.heap.size w w' := by
 have hu85 := Try.underlying85
 have HB := qM (Below.refl w.heap.size w)
 have H : (if a0_1 = true then (some false) else (some (!a0_2))) = some r := h
 clear h
 by_cases c2 : a0_1 = true
 ·subst c2
  have H1 : (some false) = some r := by rw [if_pos rfl] at H; exact H
  clear H
  have H := H1
  clear H1
  obtain rfl := Option.some.inj H
  go_enter Try.func35, Try.ntmps35
  go_wp2_with (first | ((with_reducible refine gate_dst (N := 1) rfl ?_); refine box_event ?hg (N := 1) ?hd (cs := #[.int .i64 a0_0, .bool true, .bool a0_2, .int .i64 a0_3, .int .i64 a0_4, .string a0_5]) (t := 85) ?hr ?_; (case hd => rfl); (case hg => rfl); (case hr => first | (go_simp; done) | (go_simp; rfl)); intro g162 hg w3 hbox hb; have n0_ := qM (eT (by repeat (first | (with_reducible first | exact HB.out | apply eA | apply eN | apply eD) | exact HB.out)) hb); have n1_ := qM (hbox); have n2_ := qM ((by rw [hg]; exact (eZ (by repeat (first | (with_reducible first | exact HB.out | apply eA | apply eN | apply eD) | exact HB.out))) : w.heap.size ≤ g162)); have n3_ := n2_; clear HB; have HB := n0_; have B162 := n1_; have GW162 := n2_; have GE162 := n3_; clear n0_ n1_ n2_ n3_; clear hb hbox hg; obtain ⟨z4_0, z4_1, z4_2, z4_3, z4_4, z4_5, f4_0, f4_1, f4_2, f4_3, f4_4, f4_5⟩ := cells6 B162.out))
  go_ret
  exact ⟨by first | rfl | (simp [errW_none, errW_some] <;> rfl) | (simp [*, errW_none, errW_some] <;> rfl), by repeat (first | (with_reducible first | exact HB.out | apply eA | apply eN | apply eD | refine eS ?_ GE162.out) | exact HB.out)⟩
 ·replace c2 := Bool.eq_false_iff.mpr c2
  subst c2
  have H1 : (some (!a0_2)) = some r := by rw [if_neg (show ¬ (false = true) by decide)] at H; exact H
  clear H
  have H := H1
  clear H1
  obtain rfl := Option.some.inj H
  go_enter Try.func35, Try.ntmps35
  go_wp2_with (first | ((with_reducible refine gate_dst (N := 1) rfl ?_); refine box_event ?hg (N := 1) ?hd (cs := #[.int .i64 a0_0, .bool false, .bool a0_2, .int .i64 a0_3, .int .i64 a0_4, .string a0_5]) (t := 85) ?hr ?_; (case hd => rfl); (case hg => rfl); (case hr => first | (go_simp; done) | (go_simp; rfl)); intro g162 hg w5 hbox hb; have n0_ := qM (eT (by repeat (first | (with_reducible first | exact HB.out | apply eA | apply eN | apply eD) | exact HB.out)) hb); have n1_ := qM (hbox); have n2_ := qM ((by rw [hg]; exact (eZ (by repeat (first | (with_reducible first | exact HB.out | apply eA | apply eN | apply eD) | exact HB.out))) : w.heap.size ≤ g162)); have n3_ := n2_; clear HB; have HB := n0_; have B162 := n1_; have GW162 := n2_; have GE162 := n3_; clear n0_ n1_ n2_ n3_; clear hb hbox hg; obtain ⟨z6_0, z6_1, z6_2, z6_3, z6_4, z6_5, f6_0, f6_1, f6_2, f6_3, f6_4, f6_5⟩ := cells6 B162.out))
  go_ret
  exact ⟨by first | rfl | (simp [errW_none, errW_some] <;> rfl) | (simp [*, errW_none, errW_some] <;> rfl), by repeat (first | (with_reducible first | exact HB.out | apply eA | apply eN | apply eD | refine eS ?_ GE162.out) | exact HB.out)⟩

end Go.Proofs.Ytlfonfceaiiinaa.PAll
