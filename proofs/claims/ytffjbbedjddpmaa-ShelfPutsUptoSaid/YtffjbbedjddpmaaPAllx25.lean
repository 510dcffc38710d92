/- Functions of the program as plain Lean functions, and that each call comes to what they say. Laid by a program of this session (hprint.py); Lean checks it. -/
import Derived.Test.YtffjbbedjddpmaaPAllx0
import Derived.Test.YtffjbbedjddpmaaPAllx23
import Derived.Test.YtffjbbedjddpmaaPAllx24
namespace Go.Proofs.Ytffjbbedjddpmaa.PAll
open Go.RowKit Go.Proofs.YtffjbbedjddpmaaW.PrintWords Go.Proofs.YtffjbbedjddpmaaW.PrintLast Go.Proofs.YtffjbbedjddpmaaW.PrintMore
attribute [local go_sem] max2_int min2_int max_two min_two max_three min_three max_four min_four   -- for this text's walks alone
set_option linter.unusedVariables false
set_option linter.unusedSimpArgs false
attribute [local irreducible] World.setCell

/-! ### hogsheadref10_Take: function 26 -/
mutual
def hogsheadref10_Take.j0 : Nat → Int → ByteArray → Bool → Option (Int × Int × ByteArray × Int)
 | 0, _, _, _ => none
 | k + 1, x6, x7, x38 => if x38 = true then (some (0, 0, (⟨#[]⟩ : ByteArray), 3)) else ((hogsheadref01_TakeNum.f k x7).bind fun bt205 => (if bt205.2.2 = 0 then (hogsheadref10_Take.j1 k x6 bt205.1 bt205.2.1 (decide (bt205.1 > 1024))) else (hogsheadref10_Take.j1 k x6 bt205.1 bt205.2.1 true)))
def hogsheadref10_Take.j1 : Nat → Int → Int → ByteArray → Bool → Option (Int × Int × ByteArray × Int)
 | 0, _, _, _, _ => none
 | k + 1, x6, x9, x10, x51 => if x51 = true then (some (0, 0, (⟨#[]⟩ : ByteArray), 3)) else ((hogsheadref01_TakeText.f k x10 512).bind fun bt208 => (if bt208.2.2 = 0 then (if (bt208.2.1.size : Int) > 0 then (some (0, 0, (⟨#[]⟩ : ByteArray), 3)) else (some (wrap64 (x6), wrap64 (x9), bt208.1, 0))) else (some (0, 0, (⟨#[]⟩ : ByteArray), 3))))
end
def hogsheadref10_Take.f (k : Nat) (a0 : ByteArray) : Option (Int × Int × ByteArray × Int) := (hogsheadref02_Open.f k a0).bind fun bt200 => (if bt200.2 = 0 then ((hogsheadref01_TakeNum.f k bt200.1).bind fun bt202 => (if bt202.2.2 = 0 then (if bt202.1 < 1 then (hogsheadref10_Take.j0 k bt202.1 bt202.2.1 true) else (hogsheadref10_Take.j0 k bt202.1 bt202.2.1 (decide (bt202.1 > 1048576)))) else (hogsheadref10_Take.j0 k bt202.1 bt202.2.1 true))) else (some (0, 0, (⟨#[]⟩ : ByteArray), 3)))
theorem hogsheadref10_Take.mono_l : ∀ k, (∀ y0 y1 y2, LeO (hogsheadref10_Take.j0 k y0 y1 y2) (hogsheadref10_Take.j0 (k + 1) y0 y1 y2)) ∧ (∀ y0 y1 y2 y3, LeO (hogsheadref10_Take.j1 k y0 y1 y2 y3) (hogsheadref10_Take.j1 (k + 1) y0 y1 y2 y3))
 | 0 => ⟨fun _ _ _ r h => by simp [hogsheadref10_Take.j0] at h, fun _ _ _ _ r h => by simp [hogsheadref10_Take.j1] at h⟩
 | k + 1 => by
  obtain ⟨ih0, ih1⟩ := hogsheadref10_Take.mono_l k
  refine ⟨?_, ?_⟩
  ·intro y0 y1 y2
   unfold hogsheadref10_Take.j0
   repeat' first
   | (with_reducible exact ih0 _ _ _)
   | (with_reducible exact ih1 _ _ _ _)
   | (with_reducible exact hogsheadref01_TakeNum.mono _ _)
   | (with_reducible exact hogsheadref01_TakeText.mono _ _ _)
   | (with_reducible exact hogsheadref02_Open.mono _ _)
   | (with_reducible exact LeO.refl _)
   | (with_reducible exact LeO.none _)
   | (with_reducible refine LeO.ite ?_ ?_)
   | (with_reducible refine LeO.bind ?_ (fun _ => ?_))
   | exact ih0 _ _ _
   | exact ih1 _ _ _ _
   | exact hogsheadref01_TakeNum.mono _ _
   | exact hogsheadref01_TakeText.mono _ _ _
   | exact hogsheadref02_Open.mono _ _
   | exact LeO.none _
   | refine LeO.ite ?_ ?_
   | refine LeO.bind ?_ (fun _ => ?_)
  ·intro y0 y1 y2 y3
   unfold hogsheadref10_Take.j1
   repeat' first
   | (with_reducible exact ih0 _ _ _)
   | (with_reducible exact ih1 _ _ _ _)
   | (with_reducible exact hogsheadref01_TakeNum.mono _ _)
   | (with_reducible exact hogsheadref01_TakeText.mono _ _ _)
   | (with_reducible exact hogsheadref02_Open.mono _ _)
   | (with_reducible exact LeO.refl _)
   | (with_reducible exact LeO.none _)
   | (with_reducible refine LeO.ite ?_ ?_)
   | (with_reducible refine LeO.bind ?_ (fun _ => ?_))
   | exact ih0 _ _ _
   | exact ih1 _ _ _ _
   | exact hogsheadref01_TakeNum.mono _ _
   | exact hogsheadref01_TakeText.mono _ _ _
   | exact hogsheadref02_Open.mono _ _
   | exact LeO.none _
   | refine LeO.ite ?_ ?_
   | refine LeO.bind ?_ (fun _ => ?_)
theorem hogsheadref10_Take.mono : ∀ a0 k, LeO (hogsheadref10_Take.f k a0) (hogsheadref10_Take.f (k + 1) a0) := by
 intro a0 k
 obtain ⟨ih0, ih1⟩ := hogsheadref10_Take.mono_l k
 unfold hogsheadref10_Take.f
 repeat' first
   | (with_reducible exact ih0 _ _ _)
   | (with_reducible exact ih1 _ _ _ _)
   | (with_reducible exact hogsheadref01_TakeNum.mono _ _)
   | (with_reducible exact hogsheadref01_TakeText.mono _ _ _)
   | (with_reducible exact hogsheadref02_Open.mono _ _)
   | (with_reducible exact LeO.refl _)
   | (with_reducible exact LeO.none _)
   | (with_reducible refine LeO.ite ?_ ?_)
   | (with_reducible refine LeO.bind ?_ (fun _ => ?_))
   | exact ih0 _ _ _
   | exact ih1 _ _ _ _
   | exact hogsheadref01_TakeNum.mono _ _
   | exact hogsheadref01_TakeText.mono _ _ _
   | exact hogsheadref02_Open.mono _ _
   | exact LeO.none _
   | refine LeO.ite ?_ ?_
   | refine LeO.bind ?_ (fun _ => ?_)
set_option maxHeartbeats 40000000 in
set_option maxRecDepth 100000 in
theorem hogsheadref10_Take.calls (k : Nat) (a0 : ByteArray) (r1 : Int) (r2 : Int) (r3 : ByteArray) (r4 : Int) (w : World) (h : hogsheadref10_Take.f k a0 = some (r1, r2, r3, r4)) :
  Calls Try.prog 26 #[.string a0] w fun e w' => e = .returned (.tuple #[.agg #[.int .i64 r1, .int .i64 r2, .string r3], .int .i64 r4]) ∧ Below w.heap.size w w' := by
 have hu43 := Try.underlying43
 have HB := qM (Below.refl w.heap.size w)
 have H : ((hogsheadref02_Open.f k a0).bind fun bt200 => (if bt200.2 = 0 then ((hogsheadref01_TakeNum.f k bt200.1).bind fun bt202 => (if bt202.2.2 = 0 then (if bt202.1 < 1 then (hogsheadref10_Take.j0 k bt202.1 bt202.2.1 true) else (hogsheadref10_Take.j0 k bt202.1 bt202.2.1 (decide (bt202.1 > 1048576)))) else (hogsheadref10_Take.j0 k bt202.1 bt202.2.1 true))) else (some (0, 0, (⟨#[]⟩ : ByteArray), 3)))) = some (r1, r2, r3, r4) := h
 clear h
 replace H := Option.bind_eq_some_iff.mp H
 obtain ⟨⟨t200, t201⟩, A20, H⟩ := H
 replace H : (if t201 = 0 then ((hogsheadref01_TakeNum.f k t200).bind fun bt202 => (if bt202.2.2 = 0 then (if bt202.1 < 1 then (hogsheadref10_Take.j0 k bt202.1 bt202.2.1 true) else (hogsheadref10_Take.j0 k bt202.1 bt202.2.1 (decide (bt202.1 > 1048576)))) else (hogsheadref10_Take.j0 k bt202.1 bt202.2.1 true))) else (some (0, 0, (⟨#[]⟩ : ByteArray), 3))) = some (r1, r2, r3, r4) := H
 have A2 := qM A20
 clear A20
 by_cases c3 : t201 = 0
 ·rw [if_pos c3] at H
  have c3b0 : (t201 == 0) = true := beq_iff_eq.mpr c3
  have c3b1 : (t201 != 0) = false := bne_eq_false_iff_eq.mpr c3
  clear c3
  replace H := Option.bind_eq_some_iff.mp H
  obtain ⟨⟨t202, t203, t204⟩, A40, H⟩ := H
  replace H : (if t204 = 0 then (if t202 < 1 then (hogsheadref10_Take.j0 k t202 t203 true) else (hogsheadref10_Take.j0 k t202 t203 (decide (t202 > 1048576)))) else (hogsheadref10_Take.j0 k t202 t203 true)) = some (r1, r2, r3, r4) := H
  have A4 := qM A40
  clear A40
  have HC5 := qM H
  clear H
  go_enter Try.func26, Try.ntmps26
  go_upto_region 5 with (first | ((with_reducible refine gate_dst (N := 2) rfl ?_); (try (refine gate_guard (by rfl) ?_; dsimp only)); refine box_event ?hg (N := 2) ?hd (cs := #[.int .i64 0, .int .i64 0, .string (⟨#[]⟩ : ByteArray)]) (t := 43) ?hr ?_; (case hd => rfl); (case hg => rfl); (case hr => first | (go_simp; done) | (go_simp; rfl)); intro g199 hg w6 hbox hb; have n0_ := qM (eT (by repeat (first | (with_reducible first | exact HB.out | apply eA | apply eN | apply eD) | exact HB.out)) hb); have n1_ := qM (hbox); have n2_ := qM ((by rw [hg]; exact (eZ (by repeat (first | (with_reducible first | exact HB.out | apply eA | apply eN | apply eD) | exact HB.out))) : w.heap.size ≤ g199)); have n3_ := n2_; clear HB; have HB := n0_; have B199 := n1_; have GW199 := n2_; have GE199 := n3_; clear n0_ n1_ n2_ n3_; clear hb hbox hg) | ((with_reducible refine gate_callee (f := 49) rfl ?_); refine goesL_ (some 17) rfl rfl Try.func49 (by kernel_rfl) rfl #[.string a0] rfl (by (try simp only [List.map_toArray, List.map_cons, List.map_nil]); first | done | rfl | (simp only [List.length_drop, List.length_take]; rfl)) ?_; (with_reducible refine (hogsheadref02_Open.calls k a0 t200 t201 _ A2.out).mono ?_); rintro e w7 ⟨rfl, hb⟩; refine ⟨_, rfl, ?_⟩; have n0_ := qM (qB (g := g199) (by (with_reducible repeat first | refine qN ?_ _ | refine qD ?_ | refine qA ?_ _); exact B199.out) hb); have n1_ := qM (eT (by repeat (first | (with_reducible first | exact HB.out | apply eA | apply eN | apply eD | refine eU ?_ (by assumption)) | exact HB.out)) hb); clear B199 HB; have B199 := n0_; have HB := n1_; clear n0_ n1_; (try clear hb); (try clear hb2); (try clear hk); (try clear hi)) | ((with_reducible refine gate_callee (f := 50) rfl ?_); refine goesL_ (some 25) rfl rfl Try.func50 (by kernel_rfl) rfl #[.string t200] rfl (by (try simp only [List.map_toArray, List.map_cons, List.map_nil]); first | done | rfl | (simp only [List.length_drop, List.length_take]; rfl)) ?_; (with_reducible refine (hogsheadref01_TakeNum.calls k t200 t202 t203 t204 _ A4.out).mono ?_); rintro e w' ⟨rfl, ⟨nd, rfl⟩⟩; refine ⟨_, rfl, ?_⟩))
  (try simp only [Act.put, List.setIfInBounds_toArray, List.set_cons_zero, List.set_cons_succ])
  go_cut [38] (fun v38 wc => ∃ (kq : Nat) (x38_4 : Bool), v38 = .bool x38_4 ∧ Aside0 (hogsheadref10_Take.j0 kq t202 t203 x38_4 = some (r1, r2, r3, r4)) ∧ Aside0 (kq ≤ k) ∧ Aside0 (wc.heap[g199]? = some (.cells #[.int .i64 0, .int .i64 0, .string (⟨#[]⟩ : ByteArray)] 43 (0, 0))) ∧ Aside0 (Below w.heap.size w wc))
  case first =>
   have H := HC5.out
   clear HC5
   by_cases c8 : t204 = 0
   ·rw [if_pos c8] at H
    have c8b0 : (t204 == 0) = true := beq_iff_eq.mpr c8
    have c8b1 : (t204 != 0) = false := bne_eq_false_iff_eq.mpr c8
    clear c8
    (first | rw [c8b0] | (simp only [i64_w, i32_w]; rw [c8b0]) | skip)
    by_cases c9 : t202 < 1
    ·rw [if_pos c9] at H
     have c9b0 : decide (t202 < 1) = true := decide_eq_true c9
     clear c9
     have H' := qM H
     clear H
     go_wp2
     go_meet
     case rel => exact ⟨_, (true), (by first | rfl | (simp; done) | (simp [*]; done)), H', ⟨by first | omega | exact Nat.le_refl _⟩, ⟨by (with_reducible repeat first | refine qN ?_ _ | refine qD ?_ | refine qA ?_ _); exact B199.out⟩, ⟨by repeat (first | (with_reducible first | exact HB.out | apply eA | apply eN | apply eD | refine eS ?_ GE199.out) | exact HB.out)⟩⟩
    ·rw [if_neg c9] at H
     have c9b0 : decide (t202 < 1) = false := decide_eq_false c9
     clear c9
     have H' := qM H
     clear H
     go_wp2
     go_meet
     case rel => exact ⟨_, (decide (t202 > 1048576)), (by first | rfl | (simp; done) | (simp [*]; done)), H', ⟨by first | omega | exact Nat.le_refl _⟩, ⟨by (with_reducible repeat first | refine qN ?_ _ | refine qD ?_ | refine qA ?_ _); exact B199.out⟩, ⟨by repeat (first | (with_reducible first | exact HB.out | apply eA | apply eN | apply eD | refine eS ?_ GE199.out) | exact HB.out)⟩⟩
   ·rw [if_neg c8] at H
    have c8b0 : (t204 == 0) = false := beq_eq_false_iff_ne.mpr c8
    have c8b1 : (t204 != 0) = true := bne_iff_ne.mpr c8
    (first | rw [c8b0] | (simp only [i64_w, i32_w]; rw [c8b0]) | skip)
    have H' := qM H
    clear H
    go_wp2
    go_meet
    case rel => exact ⟨_, (true), (by first | rfl | (simp; done) | (simp [*]; done)), H', ⟨by first | omega | exact Nat.le_refl _⟩, ⟨by (with_reducible repeat first | refine qN ?_ _ | refine qD ?_ | refine qA ?_ _); exact B199.out⟩, ⟨by repeat (first | (with_reducible first | exact HB.out | apply eA | apply eN | apply eD | refine eS ?_ GE199.out) | exact HB.out)⟩⟩
  case rest =>
   clear HC5
   try clear c2
   try clear p2
   try clear c3
   try clear c3b0
   try clear c3b1
   try clear c4
   try clear c5
   try clear c8
   try clear c8b0
   try clear c8b1
   try clear c9
   try clear c9b0
   obtain ⟨kq, x38_4, rfl, HA, HJ4, B199, HB⟩ := hcut
   cases kq with
   | zero => exact absurd HA.out (by simp [hogsheadref10_Take.j0])
   | succ kj4 =>
    have H := HA.out
    clear HA
    simp only [hogsheadref10_Take.j0] at H
    by_cases c10 : x38_4 = true
    ·subst c10
     have H1 : (some (0, 0, (⟨#[]⟩ : ByteArray), 3)) = some (r1, r2, r3, r4) := by rw [if_pos rfl] at H; exact H
     clear H
     have H := H1
     clear H1
     simp only [Option.some.injEq, Prod.mk.injEq] at H
     obtain ⟨rfl, rfl, rfl, rfl⟩ := H
     obtain ⟨z11_0, z11_1, z11_2, f11_0, f11_1, f11_2⟩ := cells3 B199.out
     go_wp2
     refine bodyPost_ret (results_ct rfl _ _ g199 43 #[.int .i64 0, .int .i64 0, .string (⟨#[]⟩ : ByteArray)] (0, 0) _ rfl (by (with_reducible repeat first | refine qN ?_ _ | refine qD ?_ | refine qA ?_ _); apply puts3; (with_reducible repeat first | refine qN ?_ _ | refine qD ?_ | refine qA ?_ _); exact B199.out) Try.underlying43 rfl (by kernel_rfl)) rfl ?_
     exact ⟨by first | rfl | (simp [errW_none, errW_some] <;> rfl) | (simp [*, errW_none, errW_some] <;> rfl), by repeat (first | (with_reducible first | exact HB.out | apply eA | apply eN | apply eD | refine eS ?_ GE199.out) | exact HB.out)⟩
    ·replace c10 := Bool.eq_false_iff.mpr c10
     subst c10
     have H1 : ((hogsheadref01_TakeNum.f kj4 t203).bind fun bt205 => (if bt205.2.2 = 0 then (hogsheadref10_Take.j1 kj4 t202 bt205.1 bt205.2.1 (decide (bt205.1 > 1024))) else (hogsheadref10_Take.j1 kj4 t202 bt205.1 bt205.2.1 true))) = some (r1, r2, r3, r4) := by rw [if_neg (show ¬ (false = true) by decide)] at H; exact H
     clear H
     have H := H1
     clear H1
     replace H := Option.bind_eq_some_iff.mp H
     obtain ⟨⟨t205, t206, t207⟩, A120, H⟩ := H
     replace H : (if t207 = 0 then (hogsheadref10_Take.j1 kj4 t202 t205 t206 (decide (t205 > 1024))) else (hogsheadref10_Take.j1 kj4 t202 t205 t206 true)) = some (r1, r2, r3, r4) := H
     have A12 := qM A120
     clear A120
     have HC13 := qM H
     clear H
     go_upto_region 8 with (first | ((with_reducible refine gate_callee (f := 50) rfl ?_); refine goesL_ (some 42) rfl rfl Try.func50 (by kernel_rfl) rfl #[.string t203] rfl (by (try simp only [List.map_toArray, List.map_cons, List.map_nil]); first | done | rfl | (simp only [List.length_drop, List.length_take]; rfl)) ?_; (with_reducible refine (hogsheadref01_TakeNum.calls kj4 t203 t205 t206 t207 _ A12.out).mono ?_); rintro e w' ⟨rfl, ⟨nd, rfl⟩⟩; refine ⟨_, rfl, ?_⟩))
     (try simp only [Act.put, List.setIfInBounds_toArray, List.set_cons_zero, List.set_cons_succ])
     go_cut [51] (fun v51 wc => ∃ (kq : Nat) (x51_12 : Bool), v51 = .bool x51_12 ∧ Aside0 (hogsheadref10_Take.j1 kq t202 t205 t206 x51_12 = some (r1, r2, r3, r4)) ∧ Aside0 (kq ≤ kj4) ∧ Aside0 (wc.heap[g199]? = some (.cells #[.int .i64 0, .int .i64 0, .string (⟨#[]⟩ : ByteArray)] 43 (0, 0))) ∧ Aside0 (Below w.heap.size w wc))
     case first =>
      have H := HC13.out
      clear HC13
      by_cases c14 : t207 = 0
      ·rw [if_pos c14] at H
       have c14b0 : (t207 == 0) = true := beq_iff_eq.mpr c14
       have c14b1 : (t207 != 0) = false := bne_eq_false_iff_eq.mpr c14
       clear c14
       (first | rw [c14b0] | (simp only [i64_w, i32_w]; rw [c14b0]) | skip)
       have H' := qM H
       clear H
       go_wp2
       go_meet
       case rel => exact ⟨_, (decide (t205 > 1024)), (by first | rfl | (simp; done) | (simp [*]; done)), H', ⟨by have := HJ4.out; first | omega | exact Nat.le_refl _⟩, ⟨by (with_reducible repeat first | refine qN ?_ _ | refine qD ?_ | refine qA ?_ _); exact B199.out⟩, ⟨by repeat (first | (with_reducible first | exact HB.out | apply eA | apply eN | apply eD | refine eS ?_ GE199.out) | exact HB.out)⟩⟩
      ·rw [if_neg c14] at H
       have c14b0 : (t207 == 0) = false := beq_eq_false_iff_ne.mpr c14
       have c14b1 : (t207 != 0) = true := bne_iff_ne.mpr c14
       (first | rw [c14b0] | (simp only [i64_w, i32_w]; rw [c14b0]) | skip)
       have H' := qM H
       clear H
       go_wp2
       go_meet
       case rel => exact ⟨_, (true), (by first | rfl | (simp; done) | (simp [*]; done)), H', ⟨by have := HJ4.out; first | omega | exact Nat.le_refl _⟩, ⟨by (with_reducible repeat first | refine qN ?_ _ | refine qD ?_ | refine qA ?_ _); exact B199.out⟩, ⟨by repeat (first | (with_reducible first | exact HB.out | apply eA | apply eN | apply eD | refine eS ?_ GE199.out) | exact HB.out)⟩⟩
     case rest =>
      clear HC13
      try clear c1
      try clear c2
      try clear p2
      try clear c3
      try clear c3b0
      try clear c3b1
      try clear c4
      try clear c5
      try clear c8
      try clear c8b0
      try clear c8b1
      try clear c9
      try clear c9b0
      try clear c10
      try clear c14
      try clear c14b0
      try clear c14b1
      try clear z11_0
      try clear z11_1
      try clear z11_2
      try clear f11_0
      try clear f11_1
      try clear f11_2
      try clear p2
      obtain ⟨kq, x51_12, rfl, HA, HJ12, B199, HB⟩ := hcut
      cases kq with
      | zero => exact absurd HA.out (by simp [hogsheadref10_Take.j1])
      | succ kj12 =>
       have H := HA.out
       clear HA
       simp only [hogsheadref10_Take.j1] at H
       by_cases c15 : x51_12 = true
       ·subst c15
        have H1 : (some (0, 0, (⟨#[]⟩ : ByteArray), 3)) = some (r1, r2, r3, r4) := by rw [if_pos rfl] at H; exact H
        clear H
        have H := H1
        clear H1
        simp only [Option.some.injEq, Prod.mk.injEq] at H
        obtain ⟨rfl, rfl, rfl, rfl⟩ := H
        obtain ⟨z16_0, z16_1, z16_2, f16_0, f16_1, f16_2⟩ := cells3 B199.out
        go_wp2
        refine bodyPost_ret (results_ct rfl _ _ g199 43 #[.int .i64 0, .int .i64 0, .string (⟨#[]⟩ : ByteArray)] (0, 0) _ rfl (by (with_reducible repeat first | refine qN ?_ _ | refine qD ?_ | refine qA ?_ _); apply puts3; (with_reducible repeat first | refine qN ?_ _ | refine qD ?_ | refine qA ?_ _); exact B199.out) Try.underlying43 rfl (by kernel_rfl)) rfl ?_
        exact ⟨by first | rfl | (simp [errW_none, errW_some] <;> rfl) | (simp [*, errW_none, errW_some] <;> rfl), by repeat (first | (with_reducible first | exact HB.out | apply eA | apply eN | apply eD | refine eS ?_ GE199.out) | exact HB.out)⟩
       ·replace c15 := Bool.eq_false_iff.mpr c15
        subst c15
        have H1 : ((hogsheadref01_TakeText.f kj12 t206 512).bind fun bt208 => (if bt208.2.2 = 0 then (if (bt208.2.1.size : Int) > 0 then (some (0, 0, (⟨#[]⟩ : ByteArray), 3)) else (some (wrap64 (t202), wrap64 (t205), bt208.1, 0))) else (some (0, 0, (⟨#[]⟩ : ByteArray), 3)))) = some (r1, r2, r3, r4) := by rw [if_neg (show ¬ (false = true) by decide)] at H; exact H
        clear H
        have H := H1
        clear H1
        replace H := Option.bind_eq_some_iff.mp H
        obtain ⟨⟨t208, t209, t210⟩, A170, H⟩ := H
        replace H : (if t210 = 0 then (if (t209.size : Int) > 0 then (some (0, 0, (⟨#[]⟩ : ByteArray), 3)) else (some (wrap64 (t202), wrap64 (t205), t208, 0))) else (some (0, 0, (⟨#[]⟩ : ByteArray), 3))) = some (r1, r2, r3, r4) := H
        have A17 := qM A170
        clear A170
        by_cases c18 : t210 = 0
        ·rw [if_pos c18] at H
         have c18b0 : (t210 == 0) = true := beq_iff_eq.mpr c18
         have c18b1 : (t210 != 0) = false := bne_eq_false_iff_eq.mpr c18
         clear c18
         by_cases c19 : (t209.size : Int) > 0
         ·rw [if_pos c19] at H
          have c19b0 : decide (0 < (t209.size : Int)) = true := decide_eq_true c19
          have c19b1 : decide (0 < t209.size) = true := decide_eq_true (by omega)
          clear c19
          simp only [Option.some.injEq, Prod.mk.injEq] at H
          obtain ⟨rfl, rfl, rfl, rfl⟩ := H
          go_wp2_with (first | ((with_reducible refine gate_callee (f := 51) rfl ?_); refine goesL_ (some 55) rfl rfl Try.func51 (by kernel_rfl) rfl #[.string t206, .int .i64 512] rfl (by (try simp only [List.map_toArray, List.map_cons, List.map_nil]); first | done | rfl | (simp only [List.length_drop, List.length_take]; rfl)) ?_; (with_reducible refine (hogsheadref01_TakeText.calls kj12 t206 512 t208 t209 t210 _ A17.out).mono ?_); rintro e w' ⟨rfl, ⟨nd, rfl⟩⟩; refine ⟨_, rfl, ?_⟩; (try (rw [drewN_self wc]; generalize hq_ : World.drewN wc _ = wc; have n0_ : Aside0 (wc.heap[g199]? = some (.cells #[.int .i64 0, .int .i64 0, .string (⟨#[]⟩ : ByteArray)] 43 (0, 0))) := ⟨by rw [← hq_]; exact (by (with_reducible repeat first | refine qN ?_ _ | refine qD ?_ | refine qA ?_ _); exact B199.out)⟩; have n1_ : Aside0 (Below w.heap.size w wc) := ⟨by rw [← hq_]; exact (by repeat (first | (with_reducible first | exact HB.out | apply eA | apply eN | apply eD | refine eU ?_ (by assumption)) | exact HB.out))⟩; clear B199 HB hq_; have B199 := n0_; have HB := n1_; clear n0_ n1_)); obtain ⟨z20_0, z20_1, z20_2, f20_0, f20_1, f20_2⟩ := cells3 B199.out))
          refine bodyPost_ret (results_ct rfl _ _ g199 43 #[.int .i64 0, .int .i64 0, .string (⟨#[]⟩ : ByteArray)] (0, 0) _ rfl (by (with_reducible repeat first | refine qN ?_ _ | refine qD ?_ | refine qA ?_ _); apply puts3; (with_reducible repeat first | refine qN ?_ _ | refine qD ?_ | refine qA ?_ _); exact B199.out) Try.underlying43 rfl (by kernel_rfl)) rfl ?_
          exact ⟨by first | rfl | (simp [errW_none, errW_some] <;> rfl) | (simp [*, errW_none, errW_some] <;> rfl), by repeat (first | (with_reducible first | exact HB.out | apply eA | apply eN | apply eD | refine eS ?_ GE199.out) | exact HB.out)⟩
         ·rw [if_neg c19] at H
          have c19b0 : decide (0 < (t209.size : Int)) = false := decide_eq_false c19
          have c19b1 : decide (0 < t209.size) = false := decide_eq_false (by omega)
          clear c19
          simp only [Option.some.injEq, Prod.mk.injEq] at H
          obtain ⟨rfl, rfl, rfl, rfl⟩ := H
          go_wp2_with (first | ((with_reducible refine gate_callee (f := 51) rfl ?_); refine goesL_ (some 55) rfl rfl Try.func51 (by kernel_rfl) rfl #[.string t206, .int .i64 512] rfl (by (try simp only [List.map_toArray, List.map_cons, List.map_nil]); first | done | rfl | (simp only [List.length_drop, List.length_take]; rfl)) ?_; (with_reducible refine (hogsheadref01_TakeText.calls kj12 t206 512 t208 t209 t210 _ A17.out).mono ?_); rintro e w' ⟨rfl, ⟨nd, rfl⟩⟩; refine ⟨_, rfl, ?_⟩; (try (rw [drewN_self wc]; generalize hq_ : World.drewN wc _ = wc; have n0_ : Aside0 (wc.heap[g199]? = some (.cells #[.int .i64 0, .int .i64 0, .string (⟨#[]⟩ : ByteArray)] 43 (0, 0))) := ⟨by rw [← hq_]; exact (by (with_reducible repeat first | refine qN ?_ _ | refine qD ?_ | refine qA ?_ _); exact B199.out)⟩; have n1_ : Aside0 (Below w.heap.size w wc) := ⟨by rw [← hq_]; exact (by repeat (first | (with_reducible first | exact HB.out | apply eA | apply eN | apply eD | refine eU ?_ (by assumption)) | exact HB.out))⟩; clear B199 HB hq_; have B199 := n0_; have HB := n1_; clear n0_ n1_)); obtain ⟨z21_0, z21_1, z21_2, f21_0, f21_1, f21_2⟩ := cells3 B199.out))
          refine bodyPost_ret (results_ct rfl _ _ g199 43 #[.int .i64 (wrap64 (t202)), .int .i64 (wrap64 (t205)), .string t208] (0, 0) _ rfl (by (with_reducible repeat first | refine qN ?_ _ | refine qD ?_ | refine qA ?_ _); apply puts3; (with_reducible repeat first | refine qN ?_ _ | refine qD ?_ | refine qA ?_ _); exact B199.out) Try.underlying43 rfl (by kernel_rfl)) rfl ?_
          exact ⟨by first | rfl | (simp [errW_none, errW_some] <;> rfl) | (simp [*, errW_none, errW_some] <;> rfl), by repeat (first | (with_reducible first | exact HB.out | apply eA | apply eN | apply eD | refine eS ?_ GE199.out) | exact HB.out)⟩
        ·rw [if_neg c18] at H
         have c18b0 : (t210 == 0) = false := beq_eq_false_iff_ne.mpr c18
         have c18b1 : (t210 != 0) = true := bne_iff_ne.mpr c18
         simp only [Option.some.injEq, Prod.mk.injEq] at H
         obtain ⟨rfl, rfl, rfl, rfl⟩ := H
         go_wp2_with (first | ((with_reducible refine gate_callee (f := 51) rfl ?_); refine goesL_ (some 55) rfl rfl Try.func51 (by kernel_rfl) rfl #[.string t206, .int .i64 512] rfl (by (try simp only [List.map_toArray, List.map_cons, List.map_nil]); first | done | rfl | (simp only [List.length_drop, List.length_take]; rfl)) ?_; (with_reducible refine (hogsheadref01_TakeText.calls kj12 t206 512 t208 t209 t210 _ A17.out).mono ?_); rintro e w' ⟨rfl, ⟨nd, rfl⟩⟩; refine ⟨_, rfl, ?_⟩; (try (rw [drewN_self wc]; generalize hq_ : World.drewN wc _ = wc; have n0_ : Aside0 (wc.heap[g199]? = some (.cells #[.int .i64 0, .int .i64 0, .string (⟨#[]⟩ : ByteArray)] 43 (0, 0))) := ⟨by rw [← hq_]; exact (by (with_reducible repeat first | refine qN ?_ _ | refine qD ?_ | refine qA ?_ _); exact B199.out)⟩; have n1_ : Aside0 (Below w.heap.size w wc) := ⟨by rw [← hq_]; exact (by repeat (first | (with_reducible first | exact HB.out | apply eA | apply eN | apply eD | refine eU ?_ (by assumption)) | exact HB.out))⟩; clear B199 HB hq_; have B199 := n0_; have HB := n1_; clear n0_ n1_)); obtain ⟨z22_0, z22_1, z22_2, f22_0, f22_1, f22_2⟩ := cells3 B199.out))
         refine bodyPost_ret (results_ct rfl _ _ g199 43 #[.int .i64 0, .int .i64 0, .string (⟨#[]⟩ : ByteArray)] (0, 0) _ rfl (by (with_reducible repeat first | refine qN ?_ _ | refine qD ?_ | refine qA ?_ _); apply puts3; (with_reducible repeat first | refine qN ?_ _ | refine qD ?_ | refine qA ?_ _); exact B199.out) Try.underlying43 rfl (by kernel_rfl)) rfl ?_
         exact ⟨by first | rfl | (simp [errW_none, errW_some] <;> rfl) | (simp [*, errW_none, errW_some] <;> rfl), by repeat (first | (with_reducible first | exact HB.out | apply eA | apply eN | apply eD | refine eS ?_ GE199.out) | exact HB.out)⟩
 ·rw [if_neg c3] at H
  have c3b0 : (t201 == 0) = false := beq_eq_false_iff_ne.mpr c3
  have c3b1 : (t201 != 0) = true := bne_iff_ne.mpr c3
  simp only [Option.some.injEq, Prod.mk.injEq] at H
  obtain ⟨rfl, rfl, rfl, rfl⟩ := H
  go_enter Try.func26, Try.ntmps26
  go_wp2_with (first | ((with_reducible refine gate_dst (N := 2) rfl ?_); (try (refine gate_guard (by rfl) ?_; dsimp only)); refine box_event ?hg (N := 2) ?hd (cs := #[.int .i64 0, .int .i64 0, .string (⟨#[]⟩ : ByteArray)]) (t := 43) ?hr ?_; (case hd => rfl); (case hg => rfl); (case hr => first | (go_simp; done) | (go_simp; rfl)); intro g199 hg w23 hbox hb; have n0_ := qM (eT (by repeat (first | (with_reducible first | exact HB.out | apply eA | apply eN | apply eD) | exact HB.out)) hb); have n1_ := qM (hbox); have n2_ := qM ((by rw [hg]; exact (eZ (by repeat (first | (with_reducible first | exact HB.out | apply eA | apply eN | apply eD) | exact HB.out))) : w.heap.size ≤ g199)); have n3_ := n2_; clear HB; have HB := n0_; have B199 := n1_; have GW199 := n2_; have GE199 := n3_; clear n0_ n1_ n2_ n3_; clear hb hbox hg) | ((with_reducible refine gate_callee (f := 49) rfl ?_); refine goesL_ (some 17) rfl rfl Try.func49 (by kernel_rfl) rfl #[.string a0] rfl (by (try simp only [List.map_toArray, List.map_cons, List.map_nil]); first | done | rfl | (simp only [List.length_drop, List.length_take]; rfl)) ?_; (with_reducible refine (hogsheadref02_Open.calls k a0 t200 t201 _ A2.out).mono ?_); rintro e w24 ⟨rfl, hb⟩; refine ⟨_, rfl, ?_⟩; have n0_ := qM (qB (g := g199) (by (with_reducible repeat first | refine qN ?_ _ | refine qD ?_ | refine qA ?_ _); exact B199.out) hb); have n1_ := qM (eT (by repeat (first | (with_reducible first | exact HB.out | apply eA | apply eN | apply eD | refine eU ?_ (by assumption)) | exact HB.out)) hb); clear B199 HB; have B199 := n0_; have HB := n1_; clear n0_ n1_; (try clear hb); (try clear hb2); (try clear hk); (try clear hi); obtain ⟨z25_0, z25_1, z25_2, f25_0, f25_1, f25_2⟩ := cells3 B199.out))
  refine bodyPost_ret (results_ct rfl _ _ g199 43 #[.int .i64 0, .int .i64 0, .string (⟨#[]⟩ : ByteArray)] (0, 0) _ rfl (by (with_reducible repeat first | refine qN ?_ _ | refine qD ?_ | refine qA ?_ _); apply puts3; (with_reducible repeat first | refine qN ?_ _ | refine qD ?_ | refine qA ?_ _); exact B199.out) Try.underlying43 rfl (by kernel_rfl)) rfl ?_
  exact ⟨by first | rfl | (simp [errW_none, errW_some] <;> rfl) | (simp [*, errW_none, errW_some] <;> rfl), by repeat (first | (with_reducible first | exact HB.out | apply eA | apply eN | apply eD | refine eS ?_ GE199.out) | exact HB.out)⟩

end Go.Proofs.Ytffjbbedjddpmaa.PAll
