/- Functions of the program as plain Lean functions, and that each call comes to what they say. Laid by a program of this session (hprint.py); Lean checks it. -/
import Derived.Test.YthnhfmmiaknhgaaPAllx0
import Derived.Test.YthnhfmmiaknhgaaPAllx5
import Derived.Test.YthnhfmmiaknhgaaPAllx10
import Derived.Test.YthnhfmmiaknhgaaPAllx16
import Derived.Test.YthnhfmmiaknhgaaPAllx18
import Derived.Test.YthnhfmmiaknhgaaPAllx20
namespace Go.Proofs.Ythnhfmmiaknhgaa.PAll
open Go.RowKit Go.Proofs.YthnhfmmiaknhgaaW.PrintWords Go.Proofs.YthnhfmmiaknhgaaW.PrintLast Go.Proofs.YthnhfmmiaknhgaaW.PrintMore
attribute [local go_sem] max2_int min2_int max_two min_two max_three min_three max_four min_four   -- for this text's walks alone
set_option linter.unusedVariables false
set_option linter.unusedSimpArgs false

/-! ### hogsheadlaw09_CellRecords: function 3 -/
def hogsheadlaw09_CellRecords.j0 : Nat → Bool → Option (Bool)
 | 0, _ => none
 | k + 1, x6 => some x6
def hogsheadlaw09_CellRecords.f (k : Nat) (a0 : Int) (a1 : ByteArray) (a2 : ByteArray) : Option (Bool) := (hogsheadlaw09_shown.f k).bind fun t264 => ((cell_Record.f a0 a1).bind fun bt265 => ((hogsheadref09_Record.f k a0 a1).bind fun bt267 => ((cell_Take.f k a2).bind fun bt269 => ((hogsheadref09_Take.f k a2).bind fun bt272 => (if t264 = true then (if bt265.1.toList = bt267.1.toList then (if bt265.2 = bt267.2 then (if bt269.1 = bt272.1 then (if bt269.2.1.toList = bt272.2.1.toList then (hogsheadlaw09_CellRecords.j0 k (bt269.2.2 == bt272.2.2)) else (hogsheadlaw09_CellRecords.j0 k false)) else (hogsheadlaw09_CellRecords.j0 k false)) else (hogsheadlaw09_CellRecords.j0 k false)) else (hogsheadlaw09_CellRecords.j0 k false)) else (hogsheadlaw09_CellRecords.j0 k false))))))
theorem hogsheadlaw09_CellRecords.mono_l : ∀ k, (∀ y0, LeO (hogsheadlaw09_CellRecords.j0 k y0) (hogsheadlaw09_CellRecords.j0 (k + 1) y0))
 | 0 => fun _ r h => by simp [hogsheadlaw09_CellRecords.j0] at h
 | k + 1 => by
  have ih0 := hogsheadlaw09_CellRecords.mono_l k
  ·intro y0
   unfold hogsheadlaw09_CellRecords.j0
   repeat' first
   | (with_reducible exact ih0 _)
   | (with_reducible exact cell_Take.mono _ _)
   | (with_reducible exact hogsheadlaw09_shown.mono _)
   | (with_reducible exact hogsheadref09_Record.mono _ _ _)
   | (with_reducible exact hogsheadref09_Take.mono _ _)
   | (with_reducible exact LeO.refl _)
   | (with_reducible exact LeO.none _)
   | (with_reducible refine LeO.ite ?_ ?_)
   | (with_reducible refine LeO.bind ?_ (fun _ => ?_))
   | exact ih0 _
   | exact cell_Take.mono _ _
   | exact hogsheadlaw09_shown.mono _
   | exact hogsheadref09_Record.mono _ _ _
   | exact hogsheadref09_Take.mono _ _
   | exact LeO.none _
   | refine LeO.ite ?_ ?_
   | refine LeO.bind ?_ (fun _ => ?_)
theorem hogsheadlaw09_CellRecords.mono : ∀ a0 a1 a2 k, LeO (hogsheadlaw09_CellRecords.f k a0 a1 a2) (hogsheadlaw09_CellRecords.f (k + 1) a0 a1 a2) := by
 intro a0 a1 a2 k
 have ih0 := hogsheadlaw09_CellRecords.mono_l k
 unfold hogsheadlaw09_CellRecords.f
 repeat' first
   | (with_reducible exact ih0 _)
   | (with_reducible exact cell_Take.mono _ _)
   | (with_reducible exact hogsheadlaw09_shown.mono _)
   | (with_reducible exact hogsheadref09_Record.mono _ _ _)
   | (with_reducible exact hogsheadref09_Take.mono _ _)
   | (with_reducible exact LeO.refl _)
   | (with_reducible exact LeO.none _)
   | (with_reducible refine LeO.ite ?_ ?_)
   | (with_reducible refine LeO.bind ?_ (fun _ => ?_))
   | exact ih0 _
   | exact cell_Take.mono _ _
   | exact hogsheadlaw09_shown.mono _
   | exact hogsheadref09_Record.mono _ _ _
   | exact hogsheadref09_Take.mono _ _
   | exact LeO.none _
   | refine LeO.ite ?_ ?_
   | refine LeO.bind ?_ (fun _ => ?_)
set_option maxHeartbeats 40000000 in
set_option maxRecDepth 100000 in
theorem hogsheadlaw09_CellRecords.calls (k : Nat) (a0 : Int) (a1 : ByteArray) (a2 : ByteArray) (r : Bool) (w : World) (h : hogsheadlaw09_CellRecords.f k a0 a1 a2 = some r) :
  Calls Try.prog 3 #[.int .u64 a0, .string a1, .string a2] w fun e w' => e = .returned (.bool r) ∧ Below w.heap.size w w' := by
 have HB := qM (Below.refl w.heap.size w)
 have H : ((hogsheadlaw09_shown.f k).bind fun t264 => ((cell_Record.f a0 a1).bind fun bt265 => ((hogsheadref09_Record.f k a0 a1).bind fun bt267 => ((cell_Take.f k a2).bind fun bt269 => ((hogsheadref09_Take.f k a2).bind fun bt272 => (if t264 = true then (if bt265.1.toList = bt267.1.toList then (if bt265.2 = bt267.2 then (if bt269.1 = bt272.1 then (if bt269.2.1.toList = bt272.2.1.toList then (hogsheadlaw09_CellRecords.j0 k (bt269.2.2 == bt272.2.2)) else (hogsheadlaw09_CellRecords.j0 k false)) else (hogsheadlaw09_CellRecords.j0 k false)) else (hogsheadlaw09_CellRecords.j0 k false)) else (hogsheadlaw09_CellRecords.j0 k false)) else (hogsheadlaw09_CellRecords.j0 k false))))))) = some r := h
 clear h
 replace H := Option.bind_eq_some_iff.mp H
 obtain ⟨t264, A40, H⟩ := H
 replace H : ((cell_Record.f a0 a1).bind fun bt265 => ((hogsheadref09_Record.f k a0 a1).bind fun bt267 => ((cell_Take.f k a2).bind fun bt269 => ((hogsheadref09_Take.f k a2).bind fun bt272 => (if t264 = true then (if bt265.1.toList = bt267.1.toList then (if bt265.2 = bt267.2 then (if bt269.1 = bt272.1 then (if bt269.2.1.toList = bt272.2.1.toList then (hogsheadlaw09_CellRecords.j0 k (bt269.2.2 == bt272.2.2)) else (hogsheadlaw09_CellRecords.j0 k false)) else (hogsheadlaw09_CellRecords.j0 k false)) else (hogsheadlaw09_CellRecords.j0 k false)) else (hogsheadlaw09_CellRecords.j0 k false)) else (hogsheadlaw09_CellRecords.j0 k false)))))) = some r := H
 have A4 := qM A40
 clear A40
 replace H := Option.bind_eq_some_iff.mp H
 obtain ⟨⟨t265, t266⟩, A50, H⟩ := H
 replace H : ((hogsheadref09_Record.f k a0 a1).bind fun bt267 => ((cell_Take.f k a2).bind fun bt269 => ((hogsheadref09_Take.f k a2).bind fun bt272 => (if t264 = true then (if t265.toList = bt267.1.toList then (if t266 = bt267.2 then (if bt269.1 = bt272.1 then (if bt269.2.1.toList = bt272.2.1.toList then (hogsheadlaw09_CellRecords.j0 k (bt269.2.2 == bt272.2.2)) else (hogsheadlaw09_CellRecords.j0 k false)) else (hogsheadlaw09_CellRecords.j0 k false)) else (hogsheadlaw09_CellRecords.j0 k false)) else (hogsheadlaw09_CellRecords.j0 k false)) else (hogsheadlaw09_CellRecords.j0 k false))))) = some r := H
 have A5 := qM A50
 clear A50
 replace H := Option.bind_eq_some_iff.mp H
 obtain ⟨⟨t267, t268⟩, A60, H⟩ := H
 replace H : ((cell_Take.f k a2).bind fun bt269 => ((hogsheadref09_Take.f k a2).bind fun bt272 => (if t264 = true then (if t265.toList = t267.toList then (if t266 = t268 then (if bt269.1 = bt272.1 then (if bt269.2.1.toList = bt272.2.1.toList then (hogsheadlaw09_CellRecords.j0 k (bt269.2.2 == bt272.2.2)) else (hogsheadlaw09_CellRecords.j0 k false)) else (hogsheadlaw09_CellRecords.j0 k false)) else (hogsheadlaw09_CellRecords.j0 k false)) else (hogsheadlaw09_CellRecords.j0 k false)) else (hogsheadlaw09_CellRecords.j0 k false)))) = some r := H
 have A6 := qM A60
 clear A60
 replace H := Option.bind_eq_some_iff.mp H
 obtain ⟨⟨t269, t270, t271⟩, A70, H⟩ := H
 replace H : ((hogsheadref09_Take.f k a2).bind fun bt272 => (if t264 = true then (if t265.toList = t267.toList then (if t266 = t268 then (if t269 = bt272.1 then (if t270.toList = bt272.2.1.toList then (hogsheadlaw09_CellRecords.j0 k (t271 == bt272.2.2)) else (hogsheadlaw09_CellRecords.j0 k false)) else (hogsheadlaw09_CellRecords.j0 k false)) else (hogsheadlaw09_CellRecords.j0 k false)) else (hogsheadlaw09_CellRecords.j0 k false)) else (hogsheadlaw09_CellRecords.j0 k false))) = some r := H
 have A7 := qM A70
 clear A70
 replace H := Option.bind_eq_some_iff.mp H
 obtain ⟨⟨t272, t273, t274⟩, A80, H⟩ := H
 replace H : (if t264 = true then (if t265.toList = t267.toList then (if t266 = t268 then (if t269 = t272 then (if t270.toList = t273.toList then (hogsheadlaw09_CellRecords.j0 k (t271 == t274)) else (hogsheadlaw09_CellRecords.j0 k false)) else (hogsheadlaw09_CellRecords.j0 k false)) else (hogsheadlaw09_CellRecords.j0 k false)) else (hogsheadlaw09_CellRecords.j0 k false)) else (hogsheadlaw09_CellRecords.j0 k false)) = some r := H
 have A8 := qM A80
 clear A80
 have HC9 := qM H
 clear H
 go_enter Try.func3, Try.ntmps3
 go_upto_region 6 with (first | ((with_reducible refine gate_callee (f := 10) rfl ?_); refine goesL_ (some 18) rfl rfl Try.func10 (by kernel_rfl) rfl #[] rfl (by (try simp only [List.map_toArray, List.map_cons, List.map_nil]); first | done | rfl | (simp only [List.length_drop, List.length_take]; rfl)) ?_; (with_reducible refine (hogsheadlaw09_shown.calls k  t264 _ A4.out).mono ?_); rintro e w10 ⟨rfl, hb⟩; refine ⟨_, rfl, ?_⟩; have n0_ := qM (eT (by repeat (first | (with_reducible first | exact HB.out | apply eA | apply eN | apply eD) | exact HB.out)) hb); clear HB; have HB := n0_; clear n0_; (try clear hb); (try clear hb2); (try clear hk); (try clear hi)) | ((with_reducible refine gate_callee (f := 11) rfl ?_); refine goesL_ (some 22) rfl rfl Try.func11 (by kernel_rfl) rfl #[.int .u64 a0, .string a1] rfl (by (try simp only [List.map_toArray, List.map_cons, List.map_nil]); first | done | rfl | (simp only [List.length_drop, List.length_take]; rfl)) ?_; (with_reducible refine (cell_Record.calls a0 a1 t265 t266 _ A5.out).mono ?_); rintro e w11 ⟨rfl, hb⟩; refine ⟨_, rfl, ?_⟩; have n0_ := qM (eT (by repeat (first | (with_reducible first | exact HB.out | apply eA | apply eN | apply eD) | exact HB.out)) hb); clear HB; have HB := n0_; clear n0_; (try clear hb); (try clear hb2); (try clear hk); (try clear hi)) | ((with_reducible refine gate_callee (f := 12) rfl ?_); refine goesL_ (some 28) rfl rfl Try.func12 (by kernel_rfl) rfl #[.int .u64 a0, .string a1] rfl (by (try simp only [List.map_toArray, List.map_cons, List.map_nil]); first | done | rfl | (simp only [List.length_drop, List.length_take]; rfl)) ?_; (with_reducible refine (hogsheadref09_Record.calls k a0 a1 t267 t268 _ A6.out).mono ?_); rintro e w12 ⟨rfl, hb⟩; refine ⟨_, rfl, ?_⟩; have n0_ := qM (eT (by repeat (first | (with_reducible first | exact HB.out | apply eA | apply eN | apply eD) | exact HB.out)) hb); clear HB; have HB := n0_; clear n0_; (try clear hb); (try clear hb2); (try clear hk); (try clear hi)) | ((with_reducible refine gate_callee (f := 13) rfl ?_); refine goesL_ (some 33) rfl rfl Try.func13 (by kernel_rfl) rfl #[.string a2] rfl (by (try simp only [List.map_toArray, List.map_cons, List.map_nil]); first | done | rfl | (simp only [List.length_drop, List.length_take]; rfl)) ?_; (with_reducible refine (cell_Take.calls k a2 t269 t270 t271 _ A7.out).mono ?_); rintro e w13 ⟨rfl, hb⟩; refine ⟨_, rfl, ?_⟩; have n0_ := qM (eT (by repeat (first | (with_reducible first | exact HB.out | apply eA | apply eN | apply eD) | exact HB.out)) hb); clear HB; have HB := n0_; clear n0_; (try clear hb); (try clear hb2); (try clear hk); (try clear hi)) | ((with_reducible refine gate_callee (f := 14) rfl ?_); refine goesL_ (some 39) rfl rfl Try.func14 (by kernel_rfl) rfl #[.string a2] rfl (by (try simp only [List.map_toArray, List.map_cons, List.map_nil]); first | done | rfl | (simp only [List.length_drop, List.length_take]; rfl)) ?_; (with_reducible refine (hogsheadref09_Take.calls k a2 t272 t273 t274 _ A8.out).mono ?_); rintro e w14 ⟨rfl, hb⟩; refine ⟨_, rfl, ?_⟩; have n0_ := qM (eT (by repeat (first | (with_reducible first | exact HB.out | apply eA | apply eN | apply eD) | exact HB.out)) hb); clear HB; have HB := n0_; clear n0_; (try clear hb); (try clear hb2); (try clear hk); (try clear hi)))
 (try simp only [Act.put, List.setIfInBounds_toArray, List.set_cons_zero, List.set_cons_succ])
 go_cut [6] (fun v6 wc => ∃ (kq : Nat) (x6_8 : Bool), v6 = .bool x6_8 ∧ Aside0 (hogsheadlaw09_CellRecords.j0 kq x6_8 = some r) ∧ Aside0 (kq ≤ k) ∧ Aside0 (Below w.heap.size w wc))
 case first =>
  have H := HC9.out
  clear HC9
  by_cases c15 : t264 = true
  ·subst c15
   have H1 : (if t265.toList = t267.toList then (if t266 = t268 then (if t269 = t272 then (if t270.toList = t273.toList then (hogsheadlaw09_CellRecords.j0 k (t271 == t274)) else (hogsheadlaw09_CellRecords.j0 k false)) else (hogsheadlaw09_CellRecords.j0 k false)) else (hogsheadlaw09_CellRecords.j0 k false)) else (hogsheadlaw09_CellRecords.j0 k false)) = some r := by rw [if_pos rfl] at H; exact H
   clear H
   have H := H1
   clear H1
   by_cases c16 : t265.toList = t267.toList
   ·rw [if_pos c16] at H
    have c16b0 : (t265.toList == t267.toList) = true := beq_iff_eq.mpr c16
    have c16b1 : (t265.toList != t267.toList) = false := bne_eq_false_iff_eq.mpr c16
    clear c16
    (first | rw [c16b0] | (simp only [i64_w, i32_w]; rw [c16b0]) | skip)
    by_cases c17 : t266 = t268
    ·rw [if_pos c17] at H
     have c17b0 : (t266 == t268) = true := beq_iff_eq.mpr c17
     have c17b1 : (t266 != t268) = false := bne_eq_false_iff_eq.mpr c17
     clear c17
     by_cases c18 : t269 = t272
     ·rw [if_pos c18] at H
      have c18b0 : (t269 == t272) = true := beq_iff_eq.mpr c18
      have c18b1 : (t269 != t272) = false := bne_eq_false_iff_eq.mpr c18
      clear c18
      by_cases c19 : t270.toList = t273.toList
      ·rw [if_pos c19] at H
       have c19b0 : (t270.toList == t273.toList) = true := beq_iff_eq.mpr c19
       have c19b1 : (t270.toList != t273.toList) = false := bne_eq_false_iff_eq.mpr c19
       clear c19
       have H' := qM H
       clear H
       go_wp2
       go_meet
       case rel => exact ⟨_, ((t271 == t274)), (by first | rfl | (simp; done) | (simp [*]; done)), H', ⟨by first | omega | exact Nat.le_refl _⟩, ⟨by repeat (first | (with_reducible first | exact HB.out | apply eA | apply eN | apply eD) | exact HB.out)⟩⟩
      ·rw [if_neg c19] at H
       have c19b0 : (t270.toList == t273.toList) = false := beq_eq_false_iff_ne.mpr c19
       have c19b1 : (t270.toList != t273.toList) = true := bne_iff_ne.mpr c19
       have H' := qM H
       clear H
       go_wp2
       go_meet
       case rel => exact ⟨_, (false), (by first | rfl | (simp; done) | (simp [*]; done)), H', ⟨by first | omega | exact Nat.le_refl _⟩, ⟨by repeat (first | (with_reducible first | exact HB.out | apply eA | apply eN | apply eD) | exact HB.out)⟩⟩
     ·rw [if_neg c18] at H
      have c18b0 : (t269 == t272) = false := beq_eq_false_iff_ne.mpr c18
      have c18b1 : (t269 != t272) = true := bne_iff_ne.mpr c18
      have H' := qM H
      clear H
      go_wp2
      go_meet
      case rel => exact ⟨_, (false), (by first | rfl | (simp; done) | (simp [*]; done)), H', ⟨by first | omega | exact Nat.le_refl _⟩, ⟨by repeat (first | (with_reducible first | exact HB.out | apply eA | apply eN | apply eD) | exact HB.out)⟩⟩
    ·rw [if_neg c17] at H
     have c17b0 : (t266 == t268) = false := beq_eq_false_iff_ne.mpr c17
     have c17b1 : (t266 != t268) = true := bne_iff_ne.mpr c17
     have H' := qM H
     clear H
     go_wp2
     go_meet
     case rel => exact ⟨_, (false), (by first | rfl | (simp; done) | (simp [*]; done)), H', ⟨by first | omega | exact Nat.le_refl _⟩, ⟨by repeat (first | (with_reducible first | exact HB.out | apply eA | apply eN | apply eD) | exact HB.out)⟩⟩
   ·rw [if_neg c16] at H
    have c16b0 : (t265.toList == t267.toList) = false := beq_eq_false_iff_ne.mpr c16
    have c16b1 : (t265.toList != t267.toList) = true := bne_iff_ne.mpr c16
    (first | rw [c16b0] | (simp only [i64_w, i32_w]; rw [c16b0]) | skip)
    have H' := qM H
    clear H
    go_wp2
    go_meet
    case rel => exact ⟨_, (false), (by first | rfl | (simp; done) | (simp [*]; done)), H', ⟨by first | omega | exact Nat.le_refl _⟩, ⟨by repeat (first | (with_reducible first | exact HB.out | apply eA | apply eN | apply eD) | exact HB.out)⟩⟩
  ·replace c15 := Bool.eq_false_iff.mpr c15
   subst c15
   have H1 : (hogsheadlaw09_CellRecords.j0 k false) = some r := by rw [if_neg (show ¬ (false = true) by decide)] at H; exact H
   clear H
   have H := H1
   clear H1
   have H' := qM H
   clear H
   go_wp2
   go_meet
   case rel => exact ⟨_, (false), (by first | rfl | (simp; done) | (simp [*]; done)), H', ⟨by first | omega | exact Nat.le_refl _⟩, ⟨by repeat (first | (with_reducible first | exact HB.out | apply eA | apply eN | apply eD) | exact HB.out)⟩⟩
 case rest =>
  clear HC9
  try clear c1
  try clear p2
  try clear c3
  try clear c10
  try clear c11
  try clear c12
  try clear c13
  try clear c14
  try clear c15
  try clear c16
  try clear c16b0
  try clear c16b1
  try clear c17
  try clear c17b0
  try clear c17b1
  try clear c18
  try clear c18b0
  try clear c18b1
  try clear c19
  try clear c19b0
  try clear c19b1
  obtain ⟨kq, x6_8, rfl, HA, HJ8, HB⟩ := hcut
  cases kq with
  | zero => exact absurd HA.out (by simp [hogsheadlaw09_CellRecords.j0])
  | succ kj8 =>
   have H := HA.out
   clear HA
   simp only [hogsheadlaw09_CellRecords.j0] at H
   obtain rfl := Option.some.inj H
   go_wp2
   go_ret
   exact ⟨by first | rfl | (simp [errW_none, errW_some] <;> rfl) | (simp [*, errW_none, errW_some] <;> rfl), by repeat (first | (with_reducible first | exact HB.out | apply eA | apply eN | apply eD) | exact HB.out)⟩

end Go.Proofs.Ythnhfmmiaknhgaa.PAll
