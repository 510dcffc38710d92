/- Functions of the program as plain Lean functions, and that each call comes to what they say. Laid by a program of this session (hprint.py); Lean checks it. -/
import Derived.Test.YtffjbbedjddpmaaPAllx0
import Derived.Test.YtffjbbedjddpmaaPAllx4
import Derived.Test.YtffjbbedjddpmaaPAllx6
import Derived.Test.YtffjbbedjddpmaaPAllx7
import Derived.Test.YtffjbbedjddpmaaPAllx8
namespace Go.Proofs.Ytffjbbedjddpmaa.PAll
open Go.RowKit Go.Proofs.YtffjbbedjddpmaaW.PrintWords Go.Proofs.YtffjbbedjddpmaaW.PrintLast Go.Proofs.YtffjbbedjddpmaaW.PrintMore
attribute [local go_sem] max2_int min2_int max_two min_two max_three min_three max_four min_four   -- for this text's walks alone
set_option linter.unusedVariables false
set_option linter.unusedSimpArgs false

/-! ### shelf_Take: function 25 -/
def shelf_Take.j0 : Nat → Int → Int → ByteArray → Bool → Option (Int × Int × ByteArray × Int)
 | 0, _, _, _, _ => none
 | k + 1, x5, x7, x9, x61 => if x61 = true then (some (0, 0, (⟨#[]⟩ : ByteArray), 3)) else ((shelf_May.f (wrap64 (x5)) (wrap64 (x7)) x9).bind fun t120 => (if t120 = true then (some (wrap64 (x5), wrap64 (x7), x9, 0)) else (some (0, 0, (⟨#[]⟩ : ByteArray), 3))))
def shelf_Take.f (k : Nat) (a0 : ByteArray) : Option (Int × Int × ByteArray × Int) := (crc_Open.f a0).bind fun bt108 => ((vlq_TakeNum.f k bt108.1).bind fun bt110 => ((vlq_TakeNum.f k bt110.2.1).bind fun bt113 => ((vlq_TakeText.f k bt113.2.1 512).bind fun bt116 => (if bt108.2 = 0 then (if bt110.2.2 = 0 then (if bt113.2.2 = 0 then (if bt116.2.2 = 0 then (if bt116.2.1.toList = ([] : List UInt8) then (if bt110.1 > 1048576 then (shelf_Take.j0 k bt110.1 bt113.1 bt116.1 true) else (shelf_Take.j0 k bt110.1 bt113.1 bt116.1 (decide (bt113.1 > 1024)))) else (shelf_Take.j0 k bt110.1 bt113.1 bt116.1 true)) else (shelf_Take.j0 k bt110.1 bt113.1 bt116.1 true)) else (shelf_Take.j0 k bt110.1 bt113.1 bt116.1 true)) else (shelf_Take.j0 k bt110.1 bt113.1 bt116.1 true)) else (shelf_Take.j0 k bt110.1 bt113.1 bt116.1 true)))))
theorem shelf_Take.mono_l : ∀ k, (∀ y0 y1 y2 y3, LeO (shelf_Take.j0 k y0 y1 y2 y3) (shelf_Take.j0 (k + 1) y0 y1 y2 y3))
 | 0 => fun _ _ _ _ r h => by simp [shelf_Take.j0] at h
 | k + 1 => by
  have ih0 := shelf_Take.mono_l k
  ·intro y0 y1 y2 y3
   unfold shelf_Take.j0
   repeat' first
   | (with_reducible exact ih0 _ _ _ _)
   | (with_reducible exact vlq_TakeNum.mono _ _)
   | (with_reducible exact vlq_TakeText.mono _ _ _)
   | (with_reducible exact LeO.refl _)
   | (with_reducible exact LeO.none _)
   | (with_reducible refine LeO.ite ?_ ?_)
   | (with_reducible refine LeO.bind ?_ (fun _ => ?_))
   | exact ih0 _ _ _ _
   | exact vlq_TakeNum.mono _ _
   | exact vlq_TakeText.mono _ _ _
   | exact LeO.none _
   | refine LeO.ite ?_ ?_
   | refine LeO.bind ?_ (fun _ => ?_)
theorem shelf_Take.mono : ∀ a0 k, LeO (shelf_Take.f k a0) (shelf_Take.f (k + 1) a0) := by
 intro a0 k
 have ih0 := shelf_Take.mono_l k
 unfold shelf_Take.f
 repeat' first
   | (with_reducible exact ih0 _ _ _ _)
   | (with_reducible exact vlq_TakeNum.mono _ _)
   | (with_reducible exact vlq_TakeText.mono _ _ _)
   | (with_reducible exact LeO.refl _)
   | (with_reducible exact LeO.none _)
   | (with_reducible refine LeO.ite ?_ ?_)
   | (with_reducible refine LeO.bind ?_ (fun _ => ?_))
   | exact ih0 _ _ _ _
   | exact vlq_TakeNum.mono _ _
   | exact vlq_TakeText.mono _ _ _
   | exact LeO.none _
   | refine LeO.ite ?_ ?_
   | refine LeO.bind ?_ (fun _ => ?_)
set_option maxHeartbeats 40000000 in
set_option maxRecDepth 100000 in
theorem shelf_Take.calls (k : Nat) (a0 : ByteArray) (r1 : Int) (r2 : Int) (r3 : ByteArray) (r4 : Int) (w : World) (h : shelf_Take.f k a0 = some (r1, r2, r3, r4)) :
  Calls Try.prog 25 #[.string a0] w fun e w' => e = .returned (.tuple #[.agg #[.int .i64 r1, .int .i64 r2, .string r3], .int .i64 r4]) ∧ Below w.heap.size w w' := by
 have hu43 := Try.underlying43
 have HB := qM (Below.refl w.heap.size w)
 have H : ((crc_Open.f a0).bind fun bt108 => ((vlq_TakeNum.f k bt108.1).bind fun bt110 => ((vlq_TakeNum.f k bt110.2.1).bind fun bt113 => ((vlq_TakeText.f k bt113.2.1 512).bind fun bt116 => (if bt108.2 = 0 then (if bt110.2.2 = 0 then (if bt113.2.2 = 0 then (if bt116.2.2 = 0 then (if bt116.2.1.toList = ([] : List UInt8) then (if bt110.1 > 1048576 then (shelf_Take.j0 k bt110.1 bt113.1 bt116.1 true) else (shelf_Take.j0 k bt110.1 bt113.1 bt116.1 (decide (bt113.1 > 1024)))) else (shelf_Take.j0 k bt110.1 bt113.1 bt116.1 true)) else (shelf_Take.j0 k bt110.1 bt113.1 bt116.1 true)) else (shelf_Take.j0 k bt110.1 bt113.1 bt116.1 true)) else (shelf_Take.j0 k bt110.1 bt113.1 bt116.1 true)) else (shelf_Take.j0 k bt110.1 bt113.1 bt116.1 true)))))) = some (r1, r2, r3, r4) := h
 clear h
 replace H := Option.bind_eq_some_iff.mp H
 obtain ⟨⟨t108, t109⟩, A20, H⟩ := H
 replace H : ((vlq_TakeNum.f k t108).bind fun bt110 => ((vlq_TakeNum.f k bt110.2.1).bind fun bt113 => ((vlq_TakeText.f k bt113.2.1 512).bind fun bt116 => (if t109 = 0 then (if bt110.2.2 = 0 then (if bt113.2.2 = 0 then (if bt116.2.2 = 0 then (if bt116.2.1.toList = ([] : List UInt8) then (if bt110.1 > 1048576 then (shelf_Take.j0 k bt110.1 bt113.1 bt116.1 true) else (shelf_Take.j0 k bt110.1 bt113.1 bt116.1 (decide (bt113.1 > 1024)))) else (shelf_Take.j0 k bt110.1 bt113.1 bt116.1 true)) else (shelf_Take.j0 k bt110.1 bt113.1 bt116.1 true)) else (shelf_Take.j0 k bt110.1 bt113.1 bt116.1 true)) else (shelf_Take.j0 k bt110.1 bt113.1 bt116.1 true)) else (shelf_Take.j0 k bt110.1 bt113.1 bt116.1 true))))) = some (r1, r2, r3, r4) := H
 have A2 := qM A20
 clear A20
 replace H := Option.bind_eq_some_iff.mp H
 obtain ⟨⟨t110, t111, t112⟩, A30, H⟩ := H
 replace H : ((vlq_TakeNum.f k t111).bind fun bt113 => ((vlq_TakeText.f k bt113.2.1 512).bind fun bt116 => (if t109 = 0 then (if t112 = 0 then (if bt113.2.2 = 0 then (if bt116.2.2 = 0 then (if bt116.2.1.toList = ([] : List UInt8) then (if t110 > 1048576 then (shelf_Take.j0 k t110 bt113.1 bt116.1 true) else (shelf_Take.j0 k t110 bt113.1 bt116.1 (decide (bt113.1 > 1024)))) else (shelf_Take.j0 k t110 bt113.1 bt116.1 true)) else (shelf_Take.j0 k t110 bt113.1 bt116.1 true)) else (shelf_Take.j0 k t110 bt113.1 bt116.1 true)) else (shelf_Take.j0 k t110 bt113.1 bt116.1 true)) else (shelf_Take.j0 k t110 bt113.1 bt116.1 true)))) = some (r1, r2, r3, r4) := H
 have A3 := qM A30
 clear A30
 replace H := Option.bind_eq_some_iff.mp H
 obtain ⟨⟨t113, t114, t115⟩, A40, H⟩ := H
 replace H : ((vlq_TakeText.f k t114 512).bind fun bt116 => (if t109 = 0 then (if t112 = 0 then (if t115 = 0 then (if bt116.2.2 = 0 then (if bt116.2.1.toList = ([] : List UInt8) then (if t110 > 1048576 then (shelf_Take.j0 k t110 t113 bt116.1 true) else (shelf_Take.j0 k t110 t113 bt116.1 (decide (t113 > 1024)))) else (shelf_Take.j0 k t110 t113 bt116.1 true)) else (shelf_Take.j0 k t110 t113 bt116.1 true)) else (shelf_Take.j0 k t110 t113 bt116.1 true)) else (shelf_Take.j0 k t110 t113 bt116.1 true)) else (shelf_Take.j0 k t110 t113 bt116.1 true))) = some (r1, r2, r3, r4) := H
 have A4 := qM A40
 clear A40
 replace H := Option.bind_eq_some_iff.mp H
 obtain ⟨⟨t116, t117, t118⟩, A50, H⟩ := H
 replace H : (if t109 = 0 then (if t112 = 0 then (if t115 = 0 then (if t118 = 0 then (if t117.toList = ([] : List UInt8) then (if t110 > 1048576 then (shelf_Take.j0 k t110 t113 t116 true) else (shelf_Take.j0 k t110 t113 t116 (decide (t113 > 1024)))) else (shelf_Take.j0 k t110 t113 t116 true)) else (shelf_Take.j0 k t110 t113 t116 true)) else (shelf_Take.j0 k t110 t113 t116 true)) else (shelf_Take.j0 k t110 t113 t116 true)) else (shelf_Take.j0 k t110 t113 t116 true)) = some (r1, r2, r3, r4) := H
 have A5 := qM A50
 clear A50
 have HC6 := qM H
 clear H
 go_enter Try.func25, Try.ntmps25
 go_upto_region 5 with (first | ((with_reducible refine gate_dst (N := 2) rfl ?_); refine box_event ?hg (N := 2) ?hd (cs := #[.int .i64 0, .int .i64 0, .string (⟨#[]⟩ : ByteArray)]) (t := 43) ?hr ?_; (case hd => rfl); (case hg => rfl); (case hr => first | (go_simp; done) | (go_simp; rfl)); intro g107 hg w7 hbox hb; have n0_ := qM (eT (by repeat (first | (with_reducible first | exact HB.out | apply eA | apply eN | apply eD) | exact HB.out)) hb); have n1_ := qM (hbox); have n2_ := qM ((by rw [hg]; exact (eZ (by repeat (first | (with_reducible first | exact HB.out | apply eA | apply eN | apply eD) | exact HB.out))) : w.heap.size ≤ g107)); have n3_ := n2_; clear HB; have HB := n0_; have B107 := n1_; have GW107 := n2_; have GE107 := n3_; clear n0_ n1_ n2_ n3_; clear hb hbox hg) | ((with_reducible refine gate_callee (f := 46) rfl ?_); refine goesL_ (some 15) rfl rfl Try.func46 (by kernel_rfl) rfl #[.string a0] rfl (by (try simp only [List.map_toArray, List.map_cons, List.map_nil]); first | done | rfl | (simp only [List.length_drop, List.length_take]; rfl)) ?_; (with_reducible refine (crc_Open.calls a0 t108 t109 _ A2.out).mono ?_); rintro e w8 ⟨rfl, hb⟩; refine ⟨_, rfl, ?_⟩; have n0_ := qM (qB (g := g107) (by (with_reducible repeat first | refine qN ?_ _ | refine qD ?_ | refine qA ?_ _); exact B107.out) hb); have n1_ := qM (eT (by repeat (first | (with_reducible first | exact HB.out | apply eA | apply eN | apply eD | refine eU ?_ (by assumption)) | exact HB.out)) hb); clear B107 HB; have B107 := n0_; have HB := n1_; clear n0_ n1_; (try clear hb); (try clear hb2); (try clear hk); (try clear hi)) | ((with_reducible refine gate_callee (f := 47) rfl ?_); refine goesL_ (some 20) rfl rfl Try.func47 (by kernel_rfl) rfl #[.string t108] rfl (by (try simp only [List.map_toArray, List.map_cons, List.map_nil]); first | done | rfl | (simp only [List.length_drop, List.length_take]; rfl)) ?_; (with_reducible refine (vlq_TakeNum.calls k t108 t110 t111 t112 _ A3.out).mono ?_); rintro e w' ⟨rfl, ⟨nd, rfl⟩⟩; refine ⟨_, rfl, ?_⟩) | ((with_reducible refine gate_callee (f := 47) rfl ?_); refine goesL_ (some 26) rfl rfl Try.func47 (by kernel_rfl) rfl #[.string t111] rfl (by (try simp only [List.map_toArray, List.map_cons, List.map_nil]); first | done | rfl | (simp only [List.length_drop, List.length_take]; rfl)) ?_; (with_reducible refine (vlq_TakeNum.calls k t111 t113 t114 t115 _ A4.out).mono ?_); rintro e w' ⟨rfl, ⟨nd, rfl⟩⟩; refine ⟨_, rfl, ?_⟩) | ((with_reducible refine gate_callee (f := 48) rfl ?_); refine goesL_ (some 32) rfl rfl Try.func48 (by kernel_rfl) rfl #[.string t114, .int .i64 512] rfl (by (try simp only [List.map_toArray, List.map_cons, List.map_nil]); first | done | rfl | (simp only [List.length_drop, List.length_take]; rfl)) ?_; (with_reducible refine (vlq_TakeText.calls k t114 512 t116 t117 t118 _ A5.out).mono ?_); rintro e w' ⟨rfl, ⟨nd, rfl⟩⟩; refine ⟨_, rfl, ?_⟩))
 (try simp only [Act.put, List.setIfInBounds_toArray, List.set_cons_zero, List.set_cons_succ])
 go_cut [61] (fun v61 wc => ∃ (kq : Nat) (x61_5 : Bool), v61 = .bool x61_5 ∧ Aside0 (shelf_Take.j0 kq t110 t113 t116 x61_5 = some (r1, r2, r3, r4)) ∧ Aside0 (kq ≤ k) ∧ Aside0 (wc.heap[g107]? = some (.cells #[.int .i64 0, .int .i64 0, .string (⟨#[]⟩ : ByteArray)] 43 (0, 0))) ∧ Aside0 (Below w.heap.size w wc))
 case first =>
  have H := HC6.out
  clear HC6
  by_cases c9 : t109 = 0
  ·rw [if_pos c9] at H
   have c9b0 : (t109 == 0) = true := beq_iff_eq.mpr c9
   have c9b1 : (t109 != 0) = false := bne_eq_false_iff_eq.mpr c9
   clear c9
   (first | rw [c9b0] | (simp only [i64_w, i32_w]; rw [c9b0]) | skip)
   by_cases c10 : t112 = 0
   ·rw [if_pos c10] at H
    have c10b0 : (t112 == 0) = true := beq_iff_eq.mpr c10
    have c10b1 : (t112 != 0) = false := bne_eq_false_iff_eq.mpr c10
    clear c10
    by_cases c11 : t115 = 0
    ·rw [if_pos c11] at H
     have c11b0 : (t115 == 0) = true := beq_iff_eq.mpr c11
     have c11b1 : (t115 != 0) = false := bne_eq_false_iff_eq.mpr c11
     clear c11
     by_cases c12 : t118 = 0
     ·rw [if_pos c12] at H
      have c12b0 : (t118 == 0) = true := beq_iff_eq.mpr c12
      have c12b1 : (t118 != 0) = false := bne_eq_false_iff_eq.mpr c12
      clear c12
      by_cases c13 : t117.toList = ([] : List UInt8)
      ·rw [if_pos c13] at H
       have c13b0 : (t117.toList == ([] : List UInt8)) = true := beq_iff_eq.mpr c13
       have c13b1 : (t117.toList != ([] : List UInt8)) = false := bne_eq_false_iff_eq.mpr c13
       clear c13
       by_cases c14 : t110 > 1048576
       ·rw [if_pos c14] at H
        have c14b0 : decide (1048576 < t110) = true := decide_eq_true c14
        clear c14
        have H' := qM H
        clear H
        go_wp2
        go_meet
        case rel => exact ⟨_, (true), (by first | rfl | (simp; done) | (simp [*]; done)), H', ⟨by first | omega | exact Nat.le_refl _⟩, ⟨by (with_reducible repeat first | refine qN ?_ _ | refine qD ?_ | refine qA ?_ _); exact B107.out⟩, ⟨by repeat (first | (with_reducible first | exact HB.out | apply eA | apply eN | apply eD | refine eS ?_ GE107.out) | exact HB.out)⟩⟩
       ·rw [if_neg c14] at H
        have c14b0 : decide (1048576 < t110) = false := decide_eq_false c14
        clear c14
        have H' := qM H
        clear H
        go_wp2
        go_meet
        case rel => exact ⟨_, (decide (t113 > 1024)), (by first | rfl | (simp; done) | (simp [*]; done)), H', ⟨by first | omega | exact Nat.le_refl _⟩, ⟨by (with_reducible repeat first | refine qN ?_ _ | refine qD ?_ | refine qA ?_ _); exact B107.out⟩, ⟨by repeat (first | (with_reducible first | exact HB.out | apply eA | apply eN | apply eD | refine eS ?_ GE107.out) | exact HB.out)⟩⟩
      ·rw [if_neg c13] at H
       have c13b0 : (t117.toList == ([] : List UInt8)) = false := beq_eq_false_iff_ne.mpr c13
       have c13b1 : (t117.toList != ([] : List UInt8)) = true := bne_iff_ne.mpr c13
       have H' := qM H
       clear H
       go_wp2
       go_meet
       case rel => exact ⟨_, (true), (by first | rfl | (simp; done) | (simp [*]; done)), H', ⟨by first | omega | exact Nat.le_refl _⟩, ⟨by (with_reducible repeat first | refine qN ?_ _ | refine qD ?_ | refine qA ?_ _); exact B107.out⟩, ⟨by repeat (first | (with_reducible first | exact HB.out | apply eA | apply eN | apply eD | refine eS ?_ GE107.out) | exact HB.out)⟩⟩
     ·rw [if_neg c12] at H
      have c12b0 : (t118 == 0) = false := beq_eq_false_iff_ne.mpr c12
      have c12b1 : (t118 != 0) = true := bne_iff_ne.mpr c12
      have H' := qM H
      clear H
      go_wp2
      go_meet
      case rel => exact ⟨_, (true), (by first | rfl | (simp; done) | (simp [*]; done)), H', ⟨by first | omega | exact Nat.le_refl _⟩, ⟨by (with_reducible repeat first | refine qN ?_ _ | refine qD ?_ | refine qA ?_ _); exact B107.out⟩, ⟨by repeat (first | (with_reducible first | exact HB.out | apply eA | apply eN | apply eD | refine eS ?_ GE107.out) | exact HB.out)⟩⟩
    ·rw [if_neg c11] at H
     have c11b0 : (t115 == 0) = false := beq_eq_false_iff_ne.mpr c11
     have c11b1 : (t115 != 0) = true := bne_iff_ne.mpr c11
     have H' := qM H
     clear H
     go_wp2
     go_meet
     case rel => exact ⟨_, (true), (by first | rfl | (simp; done) | (simp [*]; done)), H', ⟨by first | omega | exact Nat.le_refl _⟩, ⟨by (with_reducible repeat first | refine qN ?_ _ | refine qD ?_ | refine qA ?_ _); exact B107.out⟩, ⟨by repeat (first | (with_reducible first | exact HB.out | apply eA | apply eN | apply eD | refine eS ?_ GE107.out) | exact HB.out)⟩⟩
   ·rw [if_neg c10] at H
    have c10b0 : (t112 == 0) = false := beq_eq_false_iff_ne.mpr c10
    have c10b1 : (t112 != 0) = true := bne_iff_ne.mpr c10
    have H' := qM H
    clear H
    go_wp2
    go_meet
    case rel => exact ⟨_, (true), (by first | rfl | (simp; done) | (simp [*]; done)), H', ⟨by first | omega | exact Nat.le_refl _⟩, ⟨by (with_reducible repeat first | refine qN ?_ _ | refine qD ?_ | refine qA ?_ _); exact B107.out⟩, ⟨by repeat (first | (with_reducible first | exact HB.out | apply eA | apply eN | apply eD | refine eS ?_ GE107.out) | exact HB.out)⟩⟩
  ·rw [if_neg c9] at H
   have c9b0 : (t109 == 0) = false := beq_eq_false_iff_ne.mpr c9
   have c9b1 : (t109 != 0) = true := bne_iff_ne.mpr c9
   (first | rw [c9b0] | (simp only [i64_w, i32_w]; rw [c9b0]) | skip)
   have H' := qM H
   clear H
   go_wp2
   go_meet
   case rel => exact ⟨_, (true), (by first | rfl | (simp; done) | (simp [*]; done)), H', ⟨by first | omega | exact Nat.le_refl _⟩, ⟨by (with_reducible repeat first | refine qN ?_ _ | refine qD ?_ | refine qA ?_ _); exact B107.out⟩, ⟨by repeat (first | (with_reducible first | exact HB.out | apply eA | apply eN | apply eD | refine eS ?_ GE107.out) | exact HB.out)⟩⟩
 case rest =>
  clear HC6
  try clear c1
  try clear c2
  try clear p2
  try clear c4
  try clear c9
  try clear c9b0
  try clear c9b1
  try clear c10
  try clear c10b0
  try clear c10b1
  try clear c11
  try clear c11b0
  try clear c11b1
  try clear c12
  try clear c12b0
  try clear c12b1
  try clear c13
  try clear c13b0
  try clear c13b1
  try clear c14
  try clear c14b0
  obtain ⟨kq, x61_5, rfl, HA, HJ5, B107, HB⟩ := hcut
  cases kq with
  | zero => exact absurd HA.out (by simp [shelf_Take.j0])
  | succ kj5 =>
   have H := HA.out
   clear HA
   simp only [shelf_Take.j0] at H
   by_cases c15 : x61_5 = true
   ·subst c15
    have H1 : (some (0, 0, (⟨#[]⟩ : ByteArray), 3)) = some (r1, r2, r3, r4) := by rw [if_pos rfl] at H; exact H
    clear H
    have H := H1
    clear H1
    simp only [Option.some.injEq, Prod.mk.injEq] at H
    obtain ⟨rfl, rfl, rfl, rfl⟩ := H
    obtain ⟨z16_0, z16_1, z16_2, f16_0, f16_1, f16_2⟩ := cells3 B107.out
    go_wp2
    refine bodyPost_ret (results_ct rfl _ _ g107 43 #[.int .i64 0, .int .i64 0, .string (⟨#[]⟩ : ByteArray)] (0, 0) _ rfl (by (with_reducible repeat first | refine qN ?_ _ | refine qD ?_ | refine qA ?_ _); apply puts3; (with_reducible repeat first | refine qN ?_ _ | refine qD ?_ | refine qA ?_ _); exact B107.out) Try.underlying43 rfl (by kernel_rfl)) rfl ?_
    exact ⟨by first | rfl | (simp [errW_none, errW_some] <;> rfl) | (simp [*, errW_none, errW_some] <;> rfl), by repeat (first | (with_reducible first | exact HB.out | apply eA | apply eN | apply eD | refine eS ?_ GE107.out) | exact HB.out)⟩
   ·replace c15 := Bool.eq_false_iff.mpr c15
    subst c15
    have H1 : ((shelf_May.f (wrap64 (t110)) (wrap64 (t113)) t116).bind fun t120 => (if t120 = true then (some (wrap64 (t110), wrap64 (t113), t116, 0)) else (some (0, 0, (⟨#[]⟩ : ByteArray), 3)))) = some (r1, r2, r3, r4) := by rw [if_neg (show ¬ (false = true) by decide)] at H; exact H
    clear H
    have H := H1
    clear H1
    replace H := Option.bind_eq_some_iff.mp H
    obtain ⟨t120, A170, H⟩ := H
    replace H : (if t120 = true then (some (wrap64 (t110), wrap64 (t113), t116, 0)) else (some (0, 0, (⟨#[]⟩ : ByteArray), 3))) = some (r1, r2, r3, r4) := H
    have A17 := qM A170
    clear A170
    by_cases c18 : t120 = true
    ·subst c18
     have H1 : (some (wrap64 (t110), wrap64 (t113), t116, 0)) = some (r1, r2, r3, r4) := by rw [if_pos rfl] at H; exact H
     clear H
     have H := H1
     clear H1
     simp only [Option.some.injEq, Prod.mk.injEq] at H
     obtain ⟨rfl, rfl, rfl, rfl⟩ := H
     go_wp2_with (first | ((with_reducible refine gate_dst (N := 12) rfl ?_); refine box_event ?hg (N := 12) ?hd (cs := #[.int .i64 0, .int .i64 0, .string (⟨#[]⟩ : ByteArray)]) (t := 43) ?hr ?_; (case hd => rfl); (case hg => rfl); (case hr => first | (go_simp; done) | (go_simp; rfl)); intro g119 hg w19 hbox hb; have n0_ := qM (qB (g := g107) (by (with_reducible repeat first | refine qN ?_ _ | refine qD ?_ | refine qA ?_ _); exact B107.out) hb); have n1_ := qM (eT (by repeat (first | (with_reducible first | exact HB.out | apply eA | apply eN | apply eD | refine eU ?_ (by assumption)) | exact HB.out)) hb); have n2_ := qM (hbox); have n3_ := qM ((by rw [hg]; exact (eZ (by repeat (first | (with_reducible first | exact HB.out | apply eA | apply eN | apply eD | refine eU ?_ (by assumption)) | exact HB.out))) : w.heap.size ≤ g119)); have n4_ := n3_; have n5_ := qM ((by rw [hg]; exact Nat.ne_of_lt (qL (g := g107) (by (with_reducible repeat first | refine qN ?_ _ | refine qD ?_ | refine qA ?_ _); exact B107.out)) : g107 ≠ g119)); have n6_ := qM (Ne.symm n5_.out); clear B107 HB; have B107 := n0_; have HB := n1_; have B119 := n2_; have GW119 := n3_; have GE119 := n4_; have NB107_119 := n5_; have NB119_107 := n6_; clear n0_ n1_ n2_ n3_ n4_ n5_ n6_; clear hb hbox hg; have hnb20 := NB119_107.out; have hnc20 := NB107_119.out; obtain ⟨z21_0, z21_1, z21_2, f21_0, f21_1, f21_2⟩ := cells3 B119.out) | ((with_reducible refine gate_callee (f := 27) rfl ?_); refine goesL_ (some 70) rfl rfl Try.func27 (by kernel_rfl) rfl #[.agg #[.int .i64 (wrap64 (t110)), .int .i64 (wrap64 (t113)), .string t116]] rfl (by (try simp only [List.map_toArray, List.map_cons, List.map_nil]); first | done | rfl | (simp only [List.length_drop, List.length_take]; rfl)) ?_; (with_reducible refine (shelf_May.calls (wrap64 (t110)) (wrap64 (t113)) t116 true _ A17.out).mono ?_); rintro e w22 ⟨rfl, hb⟩; refine ⟨_, rfl, ?_⟩; have n0_ := qM (qB (g := g107) (o := .cells #[.int .i64 0, .int .i64 0, .string (⟨#[]⟩ : ByteArray)] 43 (0, 0)) (by (with_reducible repeat first | refine qN ?_ _ | refine qD ?_ | refine qA ?_ _); (iterate 3 (refine qR ?_ NB107_119.out _; (with_reducible repeat first | refine qN ?_ _ | refine qD ?_ | refine qA ?_ _))); exact B107.out) hb); have n1_ := qM (qB (g := g119) (by (with_reducible repeat first | refine qN ?_ _ | refine qD ?_ | refine qA ?_ _); apply puts3; (with_reducible repeat first | refine qN ?_ _ | refine qD ?_ | refine qA ?_ _); exact B119.out) hb); have n2_ := qM (eT (by repeat (first | (with_reducible first | exact HB.out | apply eA | apply eN | apply eD | refine eU ?_ (by assumption)) | exact HB.out)) hb); clear B107 B119 HB; have B107 := n0_; have B119 := n1_; have HB := n2_; clear n0_ n1_ n2_; (try clear hb); (try clear hb2); (try clear hk); (try clear hi); obtain ⟨z23_0, z23_1, z23_2, f23_0, f23_1, f23_2⟩ := cells3 B119.out; obtain ⟨z24_0, z24_1, z24_2, f24_0, f24_1, f24_2⟩ := cells3 B107.out))
     refine bodyPost_ret (results_ct rfl _ _ g107 43 #[.int .i64 (wrap64 (t110)), .int .i64 (wrap64 (t113)), .string t116] (0, 0) _ rfl (by (with_reducible repeat first | refine qN ?_ _ | refine qD ?_ | refine qA ?_ _); apply puts3; (with_reducible repeat first | refine qN ?_ _ | refine qD ?_ | refine qA ?_ _); exact B107.out) Try.underlying43 rfl (by kernel_rfl)) rfl ?_
     exact ⟨by first | rfl | (simp [errW_none, errW_some] <;> rfl) | (simp [*, errW_none, errW_some] <;> rfl), by repeat (first | (with_reducible first | exact HB.out | apply eA | apply eN | apply eD | refine eS ?_ GE107.out | refine eS ?_ GE119.out) | exact HB.out)⟩
    ·replace c18 := Bool.eq_false_iff.mpr c18
     subst c18
     have H1 : (some (0, 0, (⟨#[]⟩ : ByteArray), 3)) = some (r1, r2, r3, r4) := by rw [if_neg (show ¬ (false = true) by decide)] at H; exact H
     clear H
     have H := H1
     clear H1
     simp only [Option.some.injEq, Prod.mk.injEq] at H
     obtain ⟨rfl, rfl, rfl, rfl⟩ := H
     go_wp2_with (first | ((with_reducible refine gate_dst (N := 12) rfl ?_); refine box_event ?hg (N := 12) ?hd (cs := #[.int .i64 0, .int .i64 0, .string (⟨#[]⟩ : ByteArray)]) (t := 43) ?hr ?_; (case hd => rfl); (case hg => rfl); (case hr => first | (go_simp; done) | (go_simp; rfl)); intro g119 hg w25 hbox hb; have n0_ := qM (qB (g := g107) (by (with_reducible repeat first | refine qN ?_ _ | refine qD ?_ | refine qA ?_ _); exact B107.out) hb); have n1_ := qM (eT (by repeat (first | (with_reducible first | exact HB.out | apply eA | apply eN | apply eD | refine eU ?_ (by assumption)) | exact HB.out)) hb); have n2_ := qM (hbox); have n3_ := qM ((by rw [hg]; exact (eZ (by repeat (first | (with_reducible first | exact HB.out | apply eA | apply eN | apply eD | refine eU ?_ (by assumption)) | exact HB.out))) : w.heap.size ≤ g119)); have n4_ := n3_; have n5_ := qM ((by rw [hg]; exact Nat.ne_of_lt (qL (g := g107) (by (with_reducible repeat first | refine qN ?_ _ | refine qD ?_ | refine qA ?_ _); exact B107.out)) : g107 ≠ g119)); have n6_ := qM (Ne.symm n5_.out); clear B107 HB; have B107 := n0_; have HB := n1_; have B119 := n2_; have GW119 := n3_; have GE119 := n4_; have NB107_119 := n5_; have NB119_107 := n6_; clear n0_ n1_ n2_ n3_ n4_ n5_ n6_; clear hb hbox hg; have hnb26 := NB119_107.out; have hnc26 := NB107_119.out; obtain ⟨z27_0, z27_1, z27_2, f27_0, f27_1, f27_2⟩ := cells3 B119.out) | ((with_reducible refine gate_callee (f := 27) rfl ?_); refine goesL_ (some 70) rfl rfl Try.func27 (by kernel_rfl) rfl #[.agg #[.int .i64 (wrap64 (t110)), .int .i64 (wrap64 (t113)), .string t116]] rfl (by (try simp only [List.map_toArray, List.map_cons, List.map_nil]); first | done | rfl | (simp only [List.length_drop, List.length_take]; rfl)) ?_; (with_reducible refine (shelf_May.calls (wrap64 (t110)) (wrap64 (t113)) t116 false _ A17.out).mono ?_); rintro e w28 ⟨rfl, hb⟩; refine ⟨_, rfl, ?_⟩; have n0_ := qM (qB (g := g107) (o := .cells #[.int .i64 0, .int .i64 0, .string (⟨#[]⟩ : ByteArray)] 43 (0, 0)) (by (with_reducible repeat first | refine qN ?_ _ | refine qD ?_ | refine qA ?_ _); (iterate 3 (refine qR ?_ NB107_119.out _; (with_reducible repeat first | refine qN ?_ _ | refine qD ?_ | refine qA ?_ _))); exact B107.out) hb); have n1_ := qM (qB (g := g119) (by (with_reducible repeat first | refine qN ?_ _ | refine qD ?_ | refine qA ?_ _); apply puts3; (with_reducible repeat first | refine qN ?_ _ | refine qD ?_ | refine qA ?_ _); exact B119.out) hb); have n2_ := qM (eT (by repeat (first | (with_reducible first | exact HB.out | apply eA | apply eN | apply eD | refine eU ?_ (by assumption)) | exact HB.out)) hb); clear B107 B119 HB; have B107 := n0_; have B119 := n1_; have HB := n2_; clear n0_ n1_ n2_; (try clear hb); (try clear hb2); (try clear hk); (try clear hi); obtain ⟨z29_0, z29_1, z29_2, f29_0, f29_1, f29_2⟩ := cells3 B107.out))
     refine bodyPost_ret (results_ct rfl _ _ g107 43 #[.int .i64 0, .int .i64 0, .string (⟨#[]⟩ : ByteArray)] (0, 0) _ rfl (by (with_reducible repeat first | refine qN ?_ _ | refine qD ?_ | refine qA ?_ _); apply puts3; (with_reducible repeat first | refine qN ?_ _ | refine qD ?_ | refine qA ?_ _); exact B107.out) Try.underlying43 rfl (by kernel_rfl)) rfl ?_
     exact ⟨by first | rfl | (simp [errW_none, errW_some] <;> rfl) | (simp [*, errW_none, errW_some] <;> rfl), by repeat (first | (with_reducible first | exact HB.out | apply eA | apply eN | apply eD | refine eS ?_ GE107.out | refine eS ?_ GE119.out) | exact HB.out)⟩

/-! ### disk_has: function 58 -/
def disk_has.f (l0_0 : List ByteArray) (l0_1 : List (S94)) (a0_2 : Int) (a0_3 : Bool) (a1 : Int) : Option (Bool) := if a1 ≥ 0 then (some (decide (a1 < (l0_0.length : Int)))) else (some false)
set_option maxHeartbeats 40000000 in
set_option maxRecDepth 100000 in
theorem disk_has.calls (A0_0 : Option Addr) (c0_0 : Nat) (l0_0 : List ByteArray) (A0_1 : Option Addr) (c0_1 : Nat) (l0_1 : List (S94)) (a0_2 : Int) (a0_3 : Bool) (a1 : Int) (r : Bool) (w : World) (hr0_0 : Kd.C Kd.string w A0_0 l0_0.length l0_0) (hc0_0 : l0_0.length ≤ c0_0) (hr0_1 : Kd.C k94 w A0_1 l0_1.length l0_1) (hc0_1 : l0_1.length ≤ c0_1) (h : disk_has.f l0_0 l0_1 a0_2 a0_3 a1 = some r) :
  Calls Try.prog 58 #[.agg #[.slice A0_0 l0_0.length c0_0, .slice A0_1 l0_1.length c0_1, .int .i64 a0_2, .bool a0_3], .int .i64 a1] w fun e w' => e = .returned (.bool r) ∧ Below w.heap.size w w' := by
 have hu25 := Try.underlying25
 have HR0_0 := qM hr0_0
 have HC0_0 := qM hc0_0
 clear hr0_0 hc0_0
 have HR0_1 := qM hr0_1
 have HC0_1 := qM hc0_1
 clear hr0_1 hc0_1
 have HB := qM (Below.refl w.heap.size w)
 have H : (if a1 ≥ 0 then (some (decide (a1 < (l0_0.length : Int)))) else (some false)) = some r := h
 clear h
 by_cases c3 : a1 ≥ 0
 ·rw [if_pos c3] at H
  have c3b0 : decide (0 ≤ a1) = true := decide_eq_true c3
  clear c3
  obtain rfl := Option.some.inj H
  go_enter Try.func58, Try.ntmps58
  go_wp2_with (first | ((with_reducible refine gate_dst (N := 2) rfl ?_); (try (refine gate_guard (by rfl) ?_; dsimp only)); refine box_event ?hg (N := 2) ?hd (cs := #[.slice A0_0 l0_0.length c0_0, .slice A0_1 l0_1.length c0_1, .int .i64 a0_2, .bool a0_3]) (t := 25) ?hr ?_; (case hd => rfl); (case hg => rfl); (case hr => first | (go_simp; done) | (go_simp; rfl)); intro g121 hg w4 hbox hb; have n0_ := qM (eT (by repeat (first | (with_reducible first | exact HB.out | apply eA | apply eN | apply eD) | exact HB.out)) hb); have n1_ := qM (hbox); have n2_ := qM ((by rw [hg]; exact (eZ (by repeat (first | (with_reducible first | exact HB.out | apply eA | apply eN | apply eD) | exact HB.out))) : w.heap.size ≤ g121)); have n3_ := n2_; clear HB; have HB := n0_; have B121 := n1_; have GW121 := n2_; have GE121 := n3_; clear n0_ n1_ n2_ n3_; clear hb hbox hg; obtain ⟨z5_0, z5_1, z5_2, z5_3, f5_0, f5_1, f5_2, f5_3⟩ := cells4 B121.out))
  go_ret
  exact ⟨by first | rfl | (simp [errW_none, errW_some] <;> rfl) | (simp [*, errW_none, errW_some] <;> rfl), by repeat (first | (with_reducible first | exact HB.out | apply eA | apply eN | apply eD | refine eS ?_ GE121.out) | exact HB.out)⟩
 ·rw [if_neg c3] at H
  have c3b0 : decide (0 ≤ a1) = false := decide_eq_false c3
  clear c3
  obtain rfl := Option.some.inj H
  go_enter Try.func58, Try.ntmps58
  go_wp2_with (first | ((with_reducible refine gate_dst (N := 2) rfl ?_); (try (refine gate_guard (by rfl) ?_; dsimp only)); refine box_event ?hg (N := 2) ?hd (cs := #[.slice A0_0 l0_0.length c0_0, .slice A0_1 l0_1.length c0_1, .int .i64 a0_2, .bool a0_3]) (t := 25) ?hr ?_; (case hd => rfl); (case hg => rfl); (case hr => first | (go_simp; done) | (go_simp; rfl)); intro g121 hg w6 hbox hb; have n0_ := qM (eT (by repeat (first | (with_reducible first | exact HB.out | apply eA | apply eN | apply eD) | exact HB.out)) hb); have n1_ := qM (hbox); have n2_ := qM ((by rw [hg]; exact (eZ (by repeat (first | (with_reducible first | exact HB.out | apply eA | apply eN | apply eD) | exact HB.out))) : w.heap.size ≤ g121)); have n3_ := n2_; clear HB; have HB := n0_; have B121 := n1_; have GW121 := n2_; have GE121 := n3_; clear n0_ n1_ n2_ n3_; clear hb hbox hg))
  go_ret
  exact ⟨by first | rfl | (simp [errW_none, errW_some] <;> rfl) | (simp [*, errW_none, errW_some] <;> rfl), by repeat (first | (with_reducible first | exact HB.out | apply eA | apply eN | apply eD | refine eS ?_ GE121.out) | exact HB.out)⟩

end Go.Proofs.Ytffjbbedjddpmaa.PAll
