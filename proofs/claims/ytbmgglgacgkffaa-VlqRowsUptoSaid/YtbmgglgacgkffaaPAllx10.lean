/- Functions of the program as plain Lean functions, and that each call comes to what they say. Laid by a program of this session (hprint.py); Lean checks it. -/
import Derived.Test.YtbmgglgacgkffaaPAllx0
import Derived.Test.YtbmgglgacgkffaaPAllx9
import Derived.Test.YtbmgglgacgkffaaMark
namespace Go.Proofs.Ytbmgglgacgkffaa.PAll
open Go.RowKit Go.Proofs.YtbmgglgacgkffaaW.PrintWords Go.Proofs.YtbmgglgacgkffaaW.PrintLast Go.Proofs.YtbmgglgacgkffaaW.PrintMore
attribute [local go_sem] max2_int min2_int max_two min_two max_three min_three max_four min_four   -- for this text's walks alone
set_option linter.unusedVariables false
set_option linter.unusedSimpArgs false

/-! ### hogsheadref01_Text: function 17 -/
def hogsheadref01_Text.f (k : Nat) (a0 : ByteArray) : Option ByteArray := (hogsheadref01_Num.f k (IntKind.u64.wrap (a0.size : Int))).bind fun t => if t.size + a0.size ≤ 9223372036854775807 then some (t ++ a0) else none
theorem hogsheadref01_Text.mono : ∀ a0 k, LeO (hogsheadref01_Text.f k a0) (hogsheadref01_Text.f (k + 1) a0) := by
  intro a0 k
  unfold hogsheadref01_Text.f
  exact LeO.bind (hogsheadref01_Num.mono _ _) (fun _ => LeO.refl _)
set_option maxRecDepth 100000 in
theorem hogsheadref01_Text.calls (k : Nat) (a0 : ByteArray) (r : ByteArray) (w : World) (h : hogsheadref01_Text.f k a0 = some r) :
    Calls Try.prog 17 #[.string a0] w fun e w' => e = .returned (.string r) ∧ Below w.heap.size w w' := by
  obtain ⟨t, A2, H⟩ := Option.bind_eq_some_iff.mp h
  have A2 := Aside0.mk A2
  clear h
  by_cases c3 : t.size + a0.size ≤ 9223372036854775807
  · rw [if_pos c3] at H
    obtain rfl := Option.some.inj H
    clear H
    have HC := Aside0.mk c3
    clear c3
    go_enter Try.func17, Try.ntmps17
    go_wp2_with (go_at_call 15; (with_reducible refine (hogsheadref01_Num.calls k _ t _ A2.out).mono ?_); rintro e w4 ⟨rfl, hb⟩; have HB := Aside0.mk hb; clear hb; have c3b0 := eq_true HC.out; have c3b1 := decide_eq_true HC.out; have c3b2 := eq_false (Nat.not_lt.2 HC.out))
    go_ret
    exact ⟨rfl, HB.out⟩
  · rw [if_neg c3] at H
    cases H

/-! ### hogsheadref01_Row: function 24 -/
-- IMPORT Derived.Test.YtbmgglgacgkffaaMark
def hogsheadref01_Row.go : Nat → List ByteArray → List UInt8 → Option (List UInt8)
  | _, [], acc => some acc
  | k, t :: l, acc => (hogsheadref01_Text.f k t).bind fun s => if acc.length + s.size ≤ 140737488355328 then hogsheadref01_Row.go k l (acc ++ s.data.toList) else none
def hogsheadref01_Row.f (k : Nat) (l : List ByteArray) : Option ByteArray := (hogsheadref01_Num.f k (IntKind.u64.wrap (l.length : Int))).bind fun s => if s.size ≤ 140737488355328 then (hogsheadref01_Row.go k l s.data.toList).map fun r => ⟨r.toArray⟩ else none
theorem hogsheadref01_Row.mono_go : ∀ l acc k, LeO (hogsheadref01_Row.go k l acc) (hogsheadref01_Row.go (k + 1) l acc)
  | [], _, _ => fun _ h => h
  | t :: l, acc, k => LeO.bind (hogsheadref01_Text.mono t k) (fun _ => LeO.ite (hogsheadref01_Row.mono_go l _ k) (LeO.none _))
theorem hogsheadref01_Row.mono : ∀ l k, LeO (hogsheadref01_Row.f k l) (hogsheadref01_Row.f (k + 1) l) := fun l k => by
  unfold hogsheadref01_Row.f
  refine LeO.bind (hogsheadref01_Num.mono _ _) (fun _ => LeO.ite ?_ (LeO.none _))
  intro r hr
  obtain ⟨x, hx, rfl⟩ := Option.map_eq_some_iff.mp hr
  rw [hogsheadref01_Row.mono_go l _ k x hx]
  rfl
set_option maxHeartbeats 4000000 in
set_option maxRecDepth 100000 in
theorem hogsheadref01_Row.calls (k : Nat) (A0 : Option Addr) (c0 : Nat) (l0 : List ByteArray) (r : ByteArray) (w : World) (hr0 : Kd.C Kd.string w A0 l0.length l0) (hc0 : l0.length ≤ c0) (h : hogsheadref01_Row.f k l0 = some r) :
    Calls Try.prog 24 #[.slice A0 l0.length c0] w fun e w' => e = .returned (.string r) ∧ Below w.heap.size w w' := by
  obtain ⟨i0, hi, hzz⟩ := Option.map_eq_some_iff.1 (show (Try.prog.info? 5).map (fun i => (i.zero, i.size, i.bytes)) = some (some (.int .u8 0), 1, 1) by kernel_rfl)
  simp only [Prod.mk.injEq] at hzz
  obtain ⟨hz0, hz1, hz2⟩ := hzz
  have HI0 := qM hi
  have HZ0 := qM hz0
  have HZ1 := qM hz1
  have HZ2 := qM hz2
  clear hi hz0 hz1 hz2
  have HR0 := qM hr0
  have HC0 := qM hc0
  have HL := qM (show l0.length ≤ 9223372036854775807 from hr0.2.1)
  clear hr0 hc0
  unfold hogsheadref01_Row.f at h
  obtain ⟨s, hs, h⟩ := Option.bind_eq_some_iff.mp h
  have hg : s.size ≤ 140737488355328 := Decidable.byContradiction fun hg => by
    rw [if_neg hg] at h
    cases h
  rw [if_pos hg] at h
  obtain ⟨r', h2, rfl⟩ := Option.map_eq_some_iff.mp h
  have HN := qM hs
  have HG := qM hg
  have H := qM h2
  clear hs hg h h2
  go_enter Try.func24, Try.ntmps24
  go_wp2_with (first | (go_at_call 15; refine (hogsheadref01_Num.calls k (IntKind.u64.wrap (l0.length : Int)) s _ HN.out).mono ?_; rintro e w4 ⟨rfl, hb⟩; have HB4 := qM hb; clear hb) | ((with_reducible refine gate_dst (N := 9) rfl ?_); refine Mark.wpList_bytes_bts _ rfl 9 54 5 (.tmp 8) rfl Try.underlying9 Try.underlying54 Try.underlying5 s rfl ?am w.heap.size ?ab ?_; (case am => have := HG.out; unfold maxLen; omega); (case ab => exact HB4.out.size); intro v9 w5 hbt hb; have HT := qM hbt; have HB5 := qM hb; clear hbt hb))
  have HB := qM (HB4.out.trans (HB5.out.mono HB4.out.size))
  clear HB4 HB5
  go_loopg [3, 4] l0.length (fun kq v3 v4 w' => ∃ (q : Nat) (acc : List UInt8), v4 = .int .i64 (q : Int) ∧ Aside0 (q + kq = l0.length) ∧ Aside0 (hogsheadref01_Row.go k (l0.drop q) acc = some r') ∧ Aside0 (Mark.Bts w' w.heap.size 5 v3 acc) ∧ Aside0 (Below w.heap.size w w'))
  case atStart => exact ⟨0, s.data.toList, rfl, ⟨by omega⟩, ⟨H.out⟩, ⟨HT.out⟩, ⟨HB.out⟩⟩
  case round =>
   clear HT HB H HN HG
   obtain ⟨q, acc, rfl, HK, HA, HT, HB⟩ := hrel
   by_cases hlt : q < l0.length
   · have HRw := Kd.C_below HR0.out HB.out
     obtain ⟨ad, e, hx⟩ := Kd.at_string HRw (q : Int) (by omega) (by omega)
     cases e
     rw [Int.toNat_natCast] at hx
     have p0 : (0 ≤ (q : Int)) = True := eq_true (by omega)
     have q0 : ((q : Int) < (l0.length : Int)) = True := eq_true (by omega)
     have hx2 : l0.drop q = rdOf ByteArray.empty l0 (q : Int) :: l0.drop (q + 1) := by
       unfold rdOf
       rw [Int.toNat_natCast, List.drop_eq_getElem_cons hlt]
       simp [List.getD_eq_getElem?_getD, hlt]
     have H2 := HA.out
     rw [hx2, hogsheadref01_Row.go] at H2
     obtain ⟨s2, A2, H2⟩ := Option.bind_eq_some_iff.mp H2
     have hg2 : acc.length + s2.size ≤ 140737488355328 := Decidable.byContradiction fun hg => by
       rw [if_neg hg] at H2
       cases H2
     rw [if_pos hg2] at H2
     have N2 := qM A2
     have G2 := qM hg2
     have H' := qM H2
     have HLT := qM hlt
     clear hx2 A2 hg2 H2 HA hlt
     generalize rdOf ByteArray.empty l0 (q : Int) = x at *
     go_wp2_with (first | (go_at_call 17; refine (hogsheadref01_Text.calls k x s2 _ N2.out).mono ?_; rintro e w4 ⟨rfl, hb⟩; have HB4 := qM hb; clear hb) | ((with_reducible refine gate_builtin (b := .append) (xs := #[.tmp 16, .tmp 21]) rfl ?_); at_builtin; refine Mark.wpList_append_bts _ rfl (.tmp 16) (.tmp 21) 54 9 rfl w.heap.size 5 i0 Try.underlying54 Try.underlying9 HI0.out HZ0.out HZ1.out HZ2.out _ acc rfl (Mark.bts_kept HT.out HB4.out) s2 rfl G2.out ?ab ?_; (case ab => exact Nat.le_trans HB.out.size HB4.out.size); intro v' w5 hbt hgr; have HT5 := qM hbt; have HG5 := qM hgr; clear hbt hgr))
     have HB6 := qM ((HB.out.trans (HB4.out.mono HB.out.size)).grown HG5.out (Nat.le_trans HB.out.size HB4.out.size) (fun k hk => (Mark.bts_lt (Mark.bts_kept HT.out HB4.out) k hk).1))
     have hgk : ∃ k2, gk = k2 + 1 := ⟨gk - 1, by have := HK.out; have := HLT.out; omega⟩
     obtain ⟨k2, rfl⟩ := hgk
     go_roundg k2
     case measure => omega
     case rel => exact ⟨q + 1, acc ++ s2.data.toList, (by have h1 := HLT.out; have h2 := HL.out; refine congrArg (Value.int .i64) ?_; first | (show wrap64 ((q : Int) + 1) = ((q + 1 : Nat) : Int); unfold wrap64; omega) | (simp only [wrap64]; omega)), ⟨by have := HK.out; omega⟩, ⟨H'.out⟩, ⟨HT5.out⟩, ⟨HB6.out⟩⟩
   · have hq : q = l0.length := by have := HK.out; omega
     subst hq
     have H2 := HA.out
     rw [List.drop_length, hogsheadref01_Row.go] at H2
     obtain rfl : acc = r' := Option.some.inj H2
     clear H2 HA
     obtain ⟨A, c, rfl, hrd⟩ := Mark.bts_reads HT.out
     have hcv := Mark.bts_text (P := Try.prog) Try.underlying54 Try.underlying5 Try.underlying9 HT.out
     clear hrd
     go_wp2
     go_ret
     exact ⟨rfl, HB.out⟩

end Go.Proofs.Ytbmgglgacgkffaa.PAll
