/- Functions of the program as plain Lean functions, and that each call comes to what they say. Laid by a program of this session (hprint.py); Lean checks it. -/
import Derived.Test.YtbmgglgacgkffaaPAllx0
import Derived.Test.YtbmgglgacgkffaaPAllx2
import Derived.Test.YtbmgglgacgkffaaPAllx8
import Derived.Shelf.Strings.Builder1
namespace Go.Proofs.Ytbmgglgacgkffaa.PAll
open Go.RowKit Go.Proofs.YtbmgglgacgkffaaW.PrintWords Go.Proofs.YtbmgglgacgkffaaW.PrintLast Go.Proofs.YtbmgglgacgkffaaW.PrintMore
attribute [local go_sem] max2_int min2_int max_two min_two max_three min_three max_four min_four   -- for this text's walks alone
set_option linter.unusedVariables false
set_option linter.unusedSimpArgs false

/-! ### vlq_Row: function 23 -/
-- IMPORT Derived.Shelf.Strings.Builder1
set_option maxHeartbeats 1000000 in
set_option maxRecDepth 100000 in
theorem bld_used (b : Nat) (w : World) (h0 : w.cell? ⟨b, 0, none⟩ = some (.pointer (some ⟨b, 0, none⟩))) :
    Calls Try.prog 29 #[.pointer (some ⟨b, 0, none⟩)] w fun e w' => e = .returned (.tuple #[]) ∧ w' = w := by
  obtain ⟨j, hj, _⟩ := Option.map_eq_some_iff.1 (show (Try.prog.info? 59).map (·.size) = some 2 by kernel_rfl)
  go_enter Try.func29, Try.ntmps29
  go_wp2
  rw [Lib.run_neq_ptr_same w _ Try.underlying57 hj]
  go_wp2
  go_end0
  exact ⟨rfl, rfl⟩
set_option maxHeartbeats 1000000 in
set_option maxRecDepth 100000 in
theorem bld_fresh (b : Nat) (w : World) (h0 : w.cell? ⟨b, 0, none⟩ = some (.pointer none)) (hsh : w.shape? b = some (59, 2)) (hfz : w.frozen? ⟨b, 0, none⟩ = false) :
    Calls Try.prog 29 #[.pointer (some ⟨b, 0, none⟩)] w fun e w' => e = .returned (.tuple #[]) ∧ w' = w.setCell ⟨b, 0, none⟩ (.pointer (some ⟨b, 0, none⟩)) := by
  obtain ⟨j, hj, hjs⟩ := Option.map_eq_some_iff.1 (show (Try.prog.info? 59).map (·.size) = some 2 by kernel_rfl)
  go_enter Try.func29, Try.ntmps29
  go_wp2
  rw [Lib.run_to_unsafe w ⟨b, 0, none⟩ Try.underlying57 Try.underlying66 hj (by rw [hjs]; decide) hsh (Nat.zero_lt_succ 1)]
  simp only [Result.andThen]
  rw [Oper.upon_value]
  go_wp2
  rw [run_callFunc_extern Try.func30 (by kernel_rfl) (by kernel_rfl) (by kernel_rfl) (e := Extern.AbiNoEscape.same) (by kernel_rfl)]
  rw [Lib.run_noEscape]
  simp only [Result.andThen]
  rw [Oper.upon_value]
  go_wp2
  rw [Lib.run_from_unsafe w ⟨b, 0, none⟩ Try.underlying66 Try.underlying57 hj hsh (by kernel_rfl)]
  simp only [Result.andThen]
  rw [Oper.upon_value]
  go_wp2
  go_end0
  exact ⟨rfl, rfl⟩
theorem bld_check (B b : Nat) (bs : List Value) (w : World) (h : Lib.IsBuilder 59 5 B b bs w) :
    Calls Try.prog 29 #[.pointer (some ⟨b, 0, none⟩)] w fun e w' => e = .returned (.tuple #[]) ∧ (Lib.BuilderAt 59 5 B b (.pointer (some ⟨b, 0, none⟩)) bs w' ∧ Below B w w') := by
  rcases h with h | h
  · refine (bld_fresh b w h.cell0 h.shape h.frozen0).mono ?_
    rintro e w' ⟨rfl, rfl⟩
    exact ⟨rfl, h.used _, (Below.refl B w).setCell (p := ⟨b, 0, none⟩) h.1 _⟩
  · refine (bld_used b w h.cell0).mono ?_
    rintro e w' ⟨rfl, rfl⟩
    exact ⟨rfl, h, Below.refl B _⟩
set_option maxHeartbeats 2000000 in
set_option maxRecDepth 100000 in
theorem bld_write (B b : Nat) (bs : List Value) (s : ByteArray) (w : World) (h : Lib.IsBuilder 59 5 B b bs w) (hlen : bs.length + s.size ≤ 140737488355328) (hBw : B ≤ w.heap.size) :
    Calls Try.prog 27 #[.pointer (some ⟨b, 0, none⟩), .string s] w fun e w' => e = .returned (.tuple #[.int .i64 s.size, .nilIface]) ∧ (Lib.BuilderAt 59 5 B b (.pointer (some ⟨b, 0, none⟩)) (bs ++ Lib.strCells s) w' ∧ Below B w w') := by
  obtain ⟨i0, hi, hz0, hz1, hz2⟩ := info_parts (show (Try.prog.info? 5).map (fun i => (i.zero, i.size, i.bytes)) = some (some (.int .u8 0), 1, 1) by kernel_rfl)
  go_enter Try.func27, Try.ntmps27
  go_wp2_with (go_at_call 29; refine (bld_check B b bs _ h).mono ?_)
  rintro e w1 ⟨rfl, h1, hb1⟩
  obtain ⟨hB, v, hbk, hown, hne⟩ := h1
  have c0 : w1.cell? ⟨b, 0, none⟩ = some (.pointer (some ⟨b, 0, none⟩)) := by rw [Lib.cell_of_heap hbk]; rfl
  have c1 : w1.cell? ⟨b, 1, none⟩ = some v := by rw [Lib.cell_of_heap hbk]; rfl
  go_wp2_with (at_builtin; refine Lib.wpList_append_own_string _ rfl _ _ 54 9 rfl B 5 i0 Try.underlying54 Try.underlying9 hi hz0 hz1 hz2 _ _ _ rfl hown s rfl ?c3 ?c4 ?c5 ?_)
  case c3 => unfold maxLen; omega
  case c4 => omega
  case c5 => have := hb1.size; omega
  intro v' w2 hown' hgrow _
  have hlt : b < w1.heap.size := by
    rcases Nat.lt_or_ge b w1.heap.size with h' | h'
    · exact h'
    · simp [Array.getElem?_eq_none h'] at hbk
  have hb2 : w2.heap[b]? = some (.cells #[.pointer (some ⟨b, 0, none⟩), v] 59 (0, 0)) := by
    rw [hgrow.block b hlt (fun e => hne e.symm)]
    exact hbk
  have d0 : w2.cell? ⟨b, 0, none⟩ = some (.pointer (some ⟨b, 0, none⟩)) := by rw [Lib.cell_of_heap hb2]; rfl
  have d1 : w2.cell? ⟨b, 1, none⟩ = some v := by rw [Lib.cell_of_heap hb2]; rfl
  have f1 : w2.frozen? ⟨b, 1, none⟩ = false := Lib.frozen_of_heap hb2 1
  obtain ⟨ao, n', cap, rfl⟩ : ∃ ao n' cap, v' = .slice ao n' cap := by
    rcases hown'.2 with ⟨hv, _⟩ | ⟨g, cap, cur, hv, _⟩
    · exact ⟨_, _, _, hv⟩
    · exact ⟨_, _, _, hv⟩
  go_wp2
  go_ret2
  refine ⟨rfl, ?_, ?_⟩
  · exact Lib.BuilderAt.put (T := 59) (e := 5) hB hb2 (bs' := bs ++ Lib.strCells s) (by simpa [Lib.strCells_length] using hown') (by decide)
  · exact (hb1.grown hgrow (by have := hb1.size; omega) (fun k hk => (hown.lt k hk).1)).setCell (p := ⟨b, 1, none⟩) hB _
set_option maxHeartbeats 2000000 in
set_option maxRecDepth 100000 in
theorem bld_string (B b : Nat) (l : List UInt8) (w : World) (h : Lib.IsBuilder 59 5 B b (Lib.byteCells l) w) (h0 : l ≠ []) :
    Calls Try.prog 28 #[.pointer (some ⟨b, 0, none⟩)] w fun e w' => e = .returned (.string ⟨l.toArray⟩) ∧ Below B w w' := by
  obtain ⟨p, hB, v, hbk, hown, hne⟩ : ∃ p, Lib.BuilderAt 59 5 B b p (Lib.byteCells l) w := by
    rcases h with h | h
    · exact ⟨_, h⟩
    · exact ⟨_, h⟩
  have hl0 : l.length ≠ 0 := by simpa using h0
  rw [Lib.byteCells_length] at hown
  obtain ⟨g, cap, cur, rfl, hbg, hg, hnc, hcm, hcs, htake⟩ : ∃ g cap cur, v = .slice (some ⟨g, 0, none⟩) l.length cap ∧ B ≤ g ∧ w.heap[g]? = some (.cells cur 5 (0, 0)) ∧ l.length ≤ cap ∧ cap ≤ maxLen ∧ cur.size = cap * 1 ∧ cur.toList.take (l.length * 1) = Lib.byteCells l := by
    rcases hown.2 with ⟨_, hz⟩ | ⟨g, cap, cur, hv, r⟩
    · exact absurd hz hl0
    · exact ⟨g, cap, cur, hv, r⟩
  have c1 : w.drew.cell? ⟨b, 1, none⟩ = some (.slice (some ⟨g, 0, none⟩) l.length cap) := by
    have : w.drew.heap[b]? = some (.cells #[p, .slice (some ⟨g, 0, none⟩) l.length cap] 59 (0, 0)) := hbk
    rw [Lib.cell_of_heap this]; rfl
  have hSD : (Builtin.unsafeSliceData_ #[54] 65 #[.slice (some ⟨g, 0, none⟩) l.length cap]).run Try.prog w.drew = .ok (.pointer (some ⟨g, 0, none⟩)) w.drew :=
    Lib.run_unsafeSliceData_row _ _ _ _ _ _ (by omega)
  have hUS : (Builtin.unsafeString_ #[65, 3] 9 #[.pointer (some ⟨g, 0, none⟩), .int .i64 l.length]).run Try.prog w.drew = .ok (.string ⟨l.toArray⟩) (w.drew.freeze ⟨g, 0, none⟩ l.length) := by
    refine Lib.run_unsafeString_row w.drew 65 3 9 5 Try.underlying65 (by kernel_rfl) g cur.size (by have hg' : w.drew.heap[g]? = some (.cells cur 5 (0, 0)) := hg; simp [World.shape?, hg']) l h0 (by omega) (by unfold maxLen at hcm; omega) ?_
    intro j x hx
    have := hown.cells (g := g) rfl j (.int .u8 x.toNat) (by simp [Lib.byteCells, hx])
    exact this
  have mixed : Try.prog.follows Departure.mixedOrders = true := by first | rfl | kernel_rfl
  go_enter Try.func28, Try.ntmps28
  go_wp2
  go_region_o
  all_goals (go_wp2; go_ret; exact ⟨rfl, Lib.below_freeze (Below.drew (Below.refl B w)) (p := ⟨g, 0, none⟩) hbg _⟩)
theorem bld_kept {B b : Nat} {p : Value} {bs : List Value} {w w4 : World} (h : Lib.BuilderAt 59 5 B b p bs w) (hb : Below w.heap.size w w4) : Lib.BuilderAt 59 5 B b p bs w4 := by
  have hlt := h.lt
  obtain ⟨hB, v, hbk, hown, hne⟩ := h
  exact ⟨hB, v, (hb.block b hlt).trans hbk, hown.kept (grown_of_below hb none) (by cases v.ownBlock <;> simp), hne⟩
def vlq_Row.go : List ByteArray → List UInt8 → Option (List UInt8)
  | [], acc => some acc
  | t :: l, acc => (vlq_Text.f t).bind fun s => if acc.length + s.size ≤ 140737488355328 then vlq_Row.go l (acc ++ s.data.toList) else none
def vlq_Row.f (l : List ByteArray) : Option ByteArray := (vlq_Num.f (IntKind.u64.wrap (l.length : Int))).bind fun s => if s.data.toList ≠ [] ∧ s.size ≤ 140737488355328 then (vlq_Row.go l s.data.toList).map fun r => ⟨r.toArray⟩ else none
set_option maxHeartbeats 4000000 in
set_option maxRecDepth 100000 in
theorem vlq_Row.calls (A0 : Option Addr) (c0 : Nat) (l0 : List ByteArray) (r : ByteArray) (w : World) (hr0 : Kd.C Kd.string w A0 l0.length l0) (hc0 : l0.length ≤ c0) (h : vlq_Row.f l0 = some r) :
    Calls Try.prog 23 #[.slice A0 l0.length c0] w fun e w' => e = .returned (.string r) ∧ Below w.heap.size w w' := by
  have HR0 := qM hr0
  have HC0 := qM hc0
  have HL := qM (show l0.length ≤ 9223372036854775807 from hr0.2.1)
  clear hr0 hc0
  unfold vlq_Row.f at h
  obtain ⟨s, hs, h⟩ := Option.bind_eq_some_iff.mp h
  have hg : s.data.toList ≠ [] ∧ s.size ≤ 140737488355328 := Decidable.byContradiction fun hg => by
    rw [if_neg hg] at h
    cases h
  rw [if_pos hg] at h
  obtain ⟨r', h2, rfl⟩ := Option.map_eq_some_iff.mp h
  have HN := qM hs
  have HG := qM hg
  have H := qM h2
  clear hs hg h h2
  go_enter Try.func23, Try.ntmps23
  go_wp2_with (first | (go_at_call 14; refine (vlq_Num.calls (IntKind.u64.wrap (l0.length : Int)) s _ HN.out).mono ?_; rintro e w4 ⟨rfl, hb⟩; have HB4 := qM hb; clear hb; have HI := qM (show Lib.IsBuilder 59 5 w.heap.size w.heap.size [] w4 from .inl ⟨Nat.le_refl _, .slice none 0 0, (HB4.out.block w.heap.size (blk_lt (blk_new w (.cells #[.pointer none, .slice none 0 0] 59)))).trans (blk_new w (.cells #[.pointer none, .slice none 0 0] 59)), World.ownsRow_nil _ _ _ _, by simp [Value.ownBlock]⟩); have hz4 : w.heap.size ≤ w4.heap.size := (Nat.le_trans (by simp) HB4.out.size); have HZ4 := qM hz4; clear hz4) | (go_at_call 27; refine (bld_write w.heap.size w.heap.size [] s w4 HI.out (by have := HG.out.2; simpa using this) HZ4.out).mono ?_; rintro e w5 ⟨rfl, hbd, hb⟩; have HB5 := qM hb; have HD := qM hbd; clear hb hbd))
  have hB0 : Below w.heap.size w (w.alloc (.cells #[.pointer none, .slice none 0 0] 59)) := (Below.refl w.heap.size w).alloc (Nat.le_refl _) _
  have HB := qM ((hB0.trans (HB4.out.mono hB0.size)).trans HB5.out)
  clear hB0
  go_loopg [13] l0.length (fun kq v13 w' => ∃ (q : Nat) (acc : List UInt8), v13 = .int .i64 (q : Int) ∧ Aside0 (q + kq = l0.length) ∧ Aside0 (vlq_Row.go (l0.drop q) acc = some r') ∧ Aside0 (acc ≠ []) ∧ Aside0 (Lib.BuilderAt 59 5 w.heap.size w.heap.size (.pointer (some ⟨w.heap.size, 0, none⟩)) (Lib.byteCells acc) w') ∧ Aside0 (Below w.heap.size w w'))
  case atStart => exact ⟨0, s.data.toList, rfl, ⟨by omega⟩, ⟨H.out⟩, ⟨HG.out.1⟩, ⟨HD.out⟩, ⟨HB.out⟩⟩
  case round =>
   clear HB4 HI HZ4 HB5 HD HB H
   obtain ⟨q, acc, rfl, HK, HA, HNE, HD, HB⟩ := hrel
   by_cases hlt : q < l0.length
   · have HRw := Kd.C_below HR0.out HB.out
     obtain ⟨ad, e, hx⟩ := Kd.at_string HRw (q : Int) (by omega) (by omega)
     have HAd := Aside0.mk e
     cases e
     rw [Int.toNat_natCast] at hx
     have p0 : (0 ≤ (q : Int)) = True := eq_true (by omega)
     have q0 : ((q : Int) < (l0.length : Int)) = True := eq_true (by omega)
     have hx2 : l0.drop q = rdOf ByteArray.empty l0 (q : Int) :: l0.drop (q + 1) := by
       unfold rdOf
       rw [Int.toNat_natCast, List.drop_eq_getElem_cons hlt]
       simp [List.getD_eq_getElem?_getD, hlt]
     have H2 := HA.out
     rw [hx2, vlq_Row.go] at H2
     obtain ⟨s2, A2, H2⟩ := Option.bind_eq_some_iff.mp H2
     have hg2 : acc.length + s2.size ≤ 140737488355328 := Decidable.byContradiction fun hg => by
       rw [if_neg hg] at H2
       cases H2
     rw [if_pos hg2] at H2
     have N2 := qM A2
     have G2 := qM hg2
     have H' := qM H2
     have HLT := qM hlt
     clear hx2 A2 hg2 H2 HA hlt
     generalize rdOf ByteArray.empty l0 (q : Int) = x at *
     go_wp2_with (first | (go_at_call 16; refine (vlq_Text.calls x s2 _ N2.out).mono ?_; rintro e w4 ⟨rfl, hb⟩; have HB4 := qM hb; clear hb) | (go_at_call 27; refine (bld_write w.heap.size w.heap.size (Lib.byteCells acc) s2 w4 (.inr (bld_kept HD.out HB4.out)) (by rw [Lib.byteCells_length]; exact G2.out) (Nat.le_trans HB.out.size HB4.out.size)).mono ?_; rintro e w5 ⟨rfl, hbd, hb⟩; have HB5 := qM hb; have HD5 := qM hbd; clear hb hbd))
     have HB6 := qM ((HB.out.trans (HB4.out.mono HB.out.size)).trans HB5.out)
     have hgk : ∃ k2, gk = k2 + 1 := ⟨gk - 1, by have := HK.out; have := HLT.out; omega⟩
     obtain ⟨k2, rfl⟩ := hgk
     go_roundg k2
     case measure => omega
     case rel => exact ⟨q + 1, acc ++ s2.data.toList, (by have h1 := HLT.out; have h2 := HL.out; refine congrArg (Value.int .i64) ?_; first | (show wrap64 ((q : Int) + 1) = ((q + 1 : Nat) : Int); unfold wrap64; omega) | (simp only [wrap64]; omega)), ⟨by have := HK.out; omega⟩, ⟨H'.out⟩, ⟨fun h => HNE.out (List.append_eq_nil_iff.mp h).1⟩, ⟨by rw [Lib.byteCells_append]; exact HD5.out⟩, ⟨HB6.out⟩⟩
   · have hq : q = l0.length := by have := HK.out; omega
     subst hq
     have H2 := HA.out
     rw [List.drop_length, vlq_Row.go] at H2
     obtain rfl : acc = r' := Option.some.inj H2
     clear H2 HA
     go_wp2_with (first | (go_at_call 28; refine (bld_string w.heap.size w.heap.size acc _ (.inr HD.out) HNE.out).mono ?_; rintro e w5 ⟨rfl, hb⟩; have HB5 := qM hb; clear hb))
     go_ret
     exact ⟨rfl, HB.out.trans HB5.out⟩

/-! ### hogsheadref01_Num: function 15 -/
def hogsheadref01_Num.l0 : Nat → Int → ByteArray → Option (ByteArray)
 | 0, _, _ => none
 | k + 1, x0, x3 => if x0 > 0 then ((some (([(((Int.tmod x0 128) % 256) + 128) % 256] : List Int) : List Int)).bind fun y130 => (if (strOfNums y130).size + x3.size ≤ 9223372036854775807 then (hogsheadref01_Num.l0 k (IntKind.u64.wrap (Int.tdiv x0 128)) ((strOfNums y130) ++ x3)) else (none))) else (some x3)
def hogsheadref01_Num.f (k : Nat) (a0 : Int) : Option (ByteArray) := hogsheadref01_Num.l0 k (IntKind.u64.wrap (Int.tdiv a0 128)) (strOfNums (([(Int.tmod a0 128) % 256] : List Int)))
theorem hogsheadref01_Num.mono_l : ∀ k, (∀ y0 y1, LeO (hogsheadref01_Num.l0 k y0 y1) (hogsheadref01_Num.l0 (k + 1) y0 y1))
 | 0 => fun _ _ r h => by simp [hogsheadref01_Num.l0] at h
 | k + 1 => by
  have ih0 := hogsheadref01_Num.mono_l k
  ·intro y0 y1
   unfold hogsheadref01_Num.l0
   repeat' first
   | (with_reducible exact ih0 _ _)
   | (with_reducible exact LeO.refl _)
   | (with_reducible exact LeO.none _)
   | (with_reducible refine LeO.ite ?_ ?_)
   | (with_reducible refine LeO.bind ?_ (fun _ => ?_))
   | exact ih0 _ _
   | exact LeO.none _
   | refine LeO.ite ?_ ?_
   | refine LeO.bind ?_ (fun _ => ?_)
theorem hogsheadref01_Num.mono : ∀ a0 k, LeO (hogsheadref01_Num.f k a0) (hogsheadref01_Num.f (k + 1) a0) := by
 intro a0 k
 have ih0 := hogsheadref01_Num.mono_l k
 unfold hogsheadref01_Num.f
 repeat' first
   | (with_reducible exact ih0 _ _)
   | (with_reducible exact LeO.refl _)
   | (with_reducible exact LeO.none _)
   | (with_reducible refine LeO.ite ?_ ?_)
   | (with_reducible refine LeO.bind ?_ (fun _ => ?_))
   | exact ih0 _ _
   | exact LeO.none _
   | refine LeO.ite ?_ ?_
   | refine LeO.bind ?_ (fun _ => ?_)
set_option maxHeartbeats 40000000 in
set_option maxRecDepth 100000 in
theorem hogsheadref01_Num.calls (k : Nat) (a0 : Int) (r : ByteArray) (w : World) (h : hogsheadref01_Num.f k a0 = some r) :
  Calls Try.prog 15 #[.int .u64 a0] w fun e w' => e = .returned (.string r) ∧ Below w.heap.size w w' := by
 have HB := qM (Below.refl w.heap.size w)
 have H : (hogsheadref01_Num.l0 k (IntKind.u64.wrap (Int.tdiv a0 128)) (strOfNums (([(Int.tmod a0 128) % 256] : List Int)))) = some r := h
 clear h
 obtain ⟨y127, hy127⟩ : ∃ y_ : List Int, y_ = (([(Int.tmod a0 128) % 256] : List Int)) := ⟨_, rfl⟩
 replace H : (hogsheadref01_Num.l0 k (IntKind.u64.wrap (Int.tdiv a0 128)) (strOfNums y127)) = some r := by first | (rw [hy127]; with_reducible exact H) | (have H2_ := (Option.bind_some _ _).symm.trans H; rw [hy127]; with_reducible exact H2_) | (have H2_ := (Option.bind_some _ _).symm.trans H; with_reducible exact H2_) | with_reducible exact H | (rw [hy127]; exact H) | exact H
 have Ny127 := qM hy127
 clear hy127
 have H' := qM H
 clear H
 go_enter Try.func15, Try.ntmps15
 go_wp2_with (first | ((with_reducible refine gate_dst (N := 7) rfl ?_); refine Kd.R_lit (Kd.int .u8) _ 5 ?hg (N := 7) ?hd (xs := ([(Int.tmod a0 128) % 256] : List Int)) (inner := [.int .u8 ((Int.tmod a0 128) % 256)]) (ok := fun _ => True) (okp := fun _ => True) ?hr ?hp (fun _ hk => hk) trivial (Below.refl _ _) (Nat.le_refl _) (by simp) ?_; (case hd => rfl); (case hg => rfl); (case hr => first | (go_simp; done) | (go_simp; rfl)); (case hp => exact (Reps.one (show Kd.M (Kd.int .u8) _ _ _ ((Int.tmod a0 128) % 256) [.int .u8 ((Int.tmod a0 128) % 256)] from rfl) (Reps.none _ _))); intro v128 w2 ho3 hb hg_ hnew_; clear hg_ hnew_; (first | rw [← Ny127.out] at ho3 | (simp only [Int.reduceToNat] at ho3; rw [← Ny127.out] at ho3)); have n0_ := qM (Kd.R_lower ho3 (eZ (by repeat (first | (with_reducible first | exact HB.out | apply eA | apply eN | apply eD) | exact HB.out)))); have n1_ := qM (eT (by repeat (first | (with_reducible first | exact HB.out | apply eA | apply eN | apply eD) | exact HB.out)) hb); clear HB; have HO129 := n0_; have HB := n1_; clear n0_ n1_; clear hb ho3; have hcv4 := own_string (P := Try.prog) Try.underlying54 Try.underlying5 Try.underlying9 (Kd.own_of_R HO129.out)))
 go_loopg [0, 3] k (fun kq v0 v3 w' => ∃ (x0_1 : Int) (x3_1 : ByteArray), v0 = .int .u64 x0_1 ∧ v3 = .string x3_1 ∧ Aside0 (hogsheadref01_Num.l0 kq x0_1 x3_1 = some r) ∧ Aside0 (kq ≤ k) ∧ Aside0 (Below w.heap.size w w'))
 case atStart => exact ⟨(IntKind.u64.wrap (Int.tdiv a0 128)), (strOfNums y127), (by first | rfl | (simp; done) | (simp [*]; done)), (by first | rfl | (simp; done) | (simp [*]; done)), H', ⟨Nat.le_refl _⟩, ⟨by repeat (first | (with_reducible first | exact HB.out | apply eA | apply eN | apply eD) | exact HB.out)⟩⟩
 case round =>
  clear H'
  try clear c1
  try clear p2
  try clear hcv4
  obtain ⟨x0_1, x3_1, rfl, rfl, HA, HK1, HB⟩ := hrel
  cases gk with
  | zero => exact absurd HA.out (by simp [hogsheadref01_Num.l0])
  | succ k1 =>
   have H := HA.out
   clear HA
   simp only [hogsheadref01_Num.l0] at H
   by_cases c5 : x0_1 > 0
   ·rw [if_pos c5] at H
    have c5b0 : decide (0 < x0_1) = true := decide_eq_true c5
    clear c5
    obtain ⟨y130, hy130⟩ : ∃ y_ : List Int, y_ = (([(((Int.tmod x0_1 128) % 256) + 128) % 256] : List Int)) := ⟨_, rfl⟩
    replace H : (if (strOfNums y130).size + x3_1.size ≤ 9223372036854775807 then (hogsheadref01_Num.l0 k1 (IntKind.u64.wrap (Int.tdiv x0_1 128)) ((strOfNums y130) ++ x3_1)) else (none)) = some r := by first | (rw [hy130]; with_reducible exact H) | (have H2_ := (Option.bind_some _ _).symm.trans H; rw [hy130]; with_reducible exact H2_) | (have H2_ := (Option.bind_some _ _).symm.trans H; with_reducible exact H2_) | with_reducible exact H | (rw [hy130]; exact H) | exact H
    have Ny130 := qM hy130
    clear hy130
    by_cases c6 : (strOfNums y130).size + x3_1.size ≤ 9223372036854775807
    ·rw [if_pos c6] at H
     have c6b0 := eq_true c6
     have c6b1 : decide ((strOfNums y130).size + x3_1.size ≤ 9223372036854775807) = true := decide_eq_true c6
     try have c6b2 : (9223372036854775807 < (strOfNums y130).size + x3_1.size) = False := eq_false (Nat.not_lt.2 c6)
     have H' := qM H
     clear H
     go_wp2_with (first | ((with_reducible refine gate_dst (N := 17) rfl ?_); refine Kd.R_lit (Kd.int .u8) _ 5 ?hg (N := 17) ?hd (xs := ([(((Int.tmod x0_1 128) % 256) + 128) % 256] : List Int)) (inner := [.int .u8 ((((Int.tmod x0_1 128) % 256) + 128) % 256)]) (ok := fun _ => True) (okp := fun _ => True) ?hr ?hp (fun _ hk => hk) trivial (Below.refl _ _) (Nat.le_refl _) (by simp) ?_; (case hd => rfl); (case hg => rfl); (case hr => first | (go_simp; done) | (go_simp; rfl)); (case hp => exact (Reps.one (show Kd.M (Kd.int .u8) _ _ _ ((((Int.tmod x0_1 128) % 256) + 128) % 256) [.int .u8 ((((Int.tmod x0_1 128) % 256) + 128) % 256)] from rfl) (Reps.none _ _))); intro v131 w7 ho8 hb hg_ hnew_; clear hg_ hnew_; (first | rw [← Ny130.out] at ho8 | (simp only [Int.reduceToNat] at ho8; rw [← Ny130.out] at ho8)); have n0_ := qM (Kd.R_lower ho8 (eZ (by repeat (first | (with_reducible first | exact HB.out | apply eA | apply eN | apply eD) | exact HB.out)))); have n1_ := qM (eT (by repeat (first | (with_reducible first | exact HB.out | apply eA | apply eN | apply eD) | exact HB.out)) hb); clear HB; have HO132 := n0_; have HB := n1_; clear n0_ n1_; clear hb ho8; have hcv9 := own_string (P := Try.prog) Try.underlying54 Try.underlying5 Try.underlying9 (Kd.own_of_R HO132.out)))
     go_roundg k1
     case measure => have := HK1.out; omega
     case rel => exact ⟨(IntKind.u64.wrap (Int.tdiv x0_1 128)), ((strOfNums y130) ++ x3_1), (by first | rfl | (simp; done) | (simp [*]; done)), (by first | rfl | (simp; done) | (simp [*]; done)), H', ⟨by have := HK1.out; omega⟩, ⟨by repeat (first | (with_reducible first | exact HB.out | apply eA | apply eN | apply eD) | exact HB.out)⟩⟩
    ·rw [if_neg c6] at H
     exact absurd H (by simp)
   ·rw [if_neg c5] at H
    have c5b0 : decide (0 < x0_1) = false := decide_eq_false c5
    clear c5
    obtain rfl := Option.some.inj H
    go_wp2
    go_ret
    exact ⟨by first | rfl | (simp [errW_none, errW_some] <;> rfl) | (simp [*, errW_none, errW_some] <;> rfl), by repeat (first | (with_reducible first | exact HB.out | apply eA | apply eN | apply eD) | exact HB.out)⟩

end Go.Proofs.Ytbmgglgacgkffaa.PAll
