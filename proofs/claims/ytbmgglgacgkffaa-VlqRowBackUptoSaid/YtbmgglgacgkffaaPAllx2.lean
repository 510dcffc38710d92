/- Functions of the program as plain Lean functions, and that each call comes to what they say. Laid by a program of this session (hprint.py); Lean checks it. -/
import Derived.Test.YtbmgglgacgkffaaPAllx0
import Derived.Test.YtbmgglgacgkffaaPAllx1
namespace Go.Proofs.Ytbmgglgacgkffaa.PAll
open Go.RowKit Go.Proofs.YtbmgglgacgkffaaW.PrintWords Go.Proofs.YtbmgglgacgkffaaW.PrintLast Go.Proofs.YtbmgglgacgkffaaW.PrintMore
attribute [local go_sem] max2_int min2_int max_two min_two max_three min_three max_four min_four   -- for this text's walks alone
set_option linter.unusedVariables false
set_option linter.unusedSimpArgs false

/-! ### vlq_Num: function 14 -/
/-- The groups above the last one, laid in front. -/
def vlq_more : Nat → Nat → List Int → List Int
  | 0, _, acc => acc
  | n + 1, v, acc => if v = 0 then acc else vlq_more n (v / 128) ((((v % 128 : Nat) : Int) + 128) :: acc)
def vlq_digits (v : Nat) : List Int := vlq_more 10 (v / 128) [((v % 128 : Nat) : Int)]
def vlq_Num.f (a : Int) : Option ByteArray := if 0 ≤ a then if a ≤ 18446744073709551615 then some (strOfNums (vlq_digits a.toNat)) else none else none
def vlq_cells (n : Nat) (acc : List Int) : Array Value := ((List.replicate n (0 : Int) ++ acc).map (Value.int .u8)).toArray
theorem vlq_cells_set (n : Nat) (acc : List Int) (b : Int) : (vlq_cells (n + 1) acc).setIfInBounds n (.int .u8 b) = vlq_cells n (b :: acc) := by
  unfold vlq_cells
  rw [← Array.toList_inj]
  simp only [Array.toList_setIfInBounds, List.map_append, List.map_cons, List.map_replicate]
  rw [List.replicate_succ', List.append_assoc, List.set_append_right _ _ (by simp)]
  simp
theorem vlq_cells_get (n i : Nat) (acc : List Int) (h : i < n) : (vlq_cells n acc)[i]? = some (.int .u8 0) := by
  unfold vlq_cells
  simp [List.getElem?_append, h]
theorem vlq_and (x : Nat) (hx : x < 18446744073709551616) : Go.bits .and .u64 (x : Int) 127 = ((x % 128 : Nat) : Int) := by
  rw [show (127 : Int) = ((127 : Nat) : Int) from rfl, u64_and_nat _ _ hx (by omega), show (127 : Nat) = 2 ^ 7 - 1 from rfl, Nat.and_two_pow_sub_one_eq_mod]
theorem vlq_or (x : Nat) (hx : x < 128) : Go.bits .or .u8 ((x : Int) % 256) 128 = ((x : Nat) : Int) + 128 := by
  rw [show ((x : Int) % 256) = ((x : Nat) : Int) from by omega, show (128 : Int) = ((128 : Nat) : Int) from rfl, u8_or_nat _ _ (by omega) (by omega)]
  have := Nat.two_pow_add_eq_or_of_lt (i := 7) (b := x) (by omega) 1
  rw [Nat.or_comm]
  have h2 : 2 ^ 7 * 1 + x = 128 ||| x := this
  omega
theorem vlq_slice (g n : Nat) (hn : n ≤ 9) (w : World) : (Instr.sliceAt 53 (.pointer (some ⟨g, 0, none⟩)) (some (.int .i64 (n : Int))) none none).run Try.prog w = .ok (.slice (some ⟨g, n, none⟩) (10 - n) (10 - n)) w := by
  have h10 : Try.prog.arrayLen 53 = 10 := by kernel_rfl
  rw [run_sliceAt_array_l w 53 ⟨g, 0, none⟩ (by kernel_rfl) .i64 n (by omega) (by rw [h10]; omega), h10]
  have hs : (sizeOf (Try.prog.elem 53)).run Try.prog w = .ok 1 w := by kernel_rfl
  rw [hs]
  simp only [Result.andThen, slicedAt, Int.toNat_natCast]
  rw [if_neg (by omega), Nat.mul_one, add_plain]
theorem vlq_conv (g n : Nat) (acc : List Int) (hn : acc.length + n = 10) (h1 : n ≤ 9) (w : World) (hk : w.heap[g]? = some (.cells (vlq_cells n acc) 53 (0, 0))) :
    (convert 54 9 (.slice (some ⟨g, n, none⟩) (10 - n) (10 - n))).run Try.prog w = .ok (.string (strOfNums acc)) w := by
  refine string_of_reads (c := 10 - n) Try.underlying54 Try.underlying5 Try.underlying9 ⟨by omega, by omega, fun _ => ⟨_, rfl, fun j hj => ?_⟩⟩
  have ha : (⟨g, n, none⟩ : Addr).add j = ⟨g, n + j, none⟩ := by
    have := Go.Deep.add_add ⟨g, 0, none⟩ n j
    rw [add_plain, add_plain] at this
    exact this
  rw [ha, blk_cell hk]
  unfold vlq_cells
  have hl : j < acc.length := by omega
  rw [List.getElem?_toArray, List.map_append, List.getElem?_append_right (by simp)]
  simp [hl]

/-- What holds at each jump: x is what is left, n places are free, the others hold acc. -/
def vlq_J (v : Nat) (w : World) (a' : Act) (w' : World) : Prop := ∃ (g x n : Nat) (acc : List Int) (u5 u6 u7 u8 u9 u10 u11 u12 u13 u14 u15 u16 u17 u18 u19 u20 u21 u22 u23 u24 : Value), a' = { tmps := #[.int .u64 x, undef, .string ⟨#[]⟩, .pointer (some ⟨g, 0, none⟩), .int .i64 n, u5, u6, u7, u8, u9, u10, u11, u12, u13, u14, u15, u16, u17, u18, u19, u20, u21, u22, u23, u24], defers := [] } ∧ n ≤ 9 ∧ acc.length + n = 10 ∧ x < 128 ^ n * 2 ∧ vlq_more (n + 1) (x / 128) acc = vlq_digits v ∧ w'.heap[g]? = some (.cells (vlq_cells n acc) 53 (0, 0)) ∧ Below w.heap.size w w' ∧ w.heap.size ≤ g
def vlq_mu (a' : Act) (_ : World) : Nat := (intOf (a'.tmps.getD 0 undef)).toNat
theorem vlq_bound (x n : Nat) (hn : n ≤ 9) (hx : x < 128 ^ n * 2) : x < 18446744073709551616 := by
  have h : 128 ^ n ≤ 128 ^ 9 := Nat.pow_le_pow_right (by omega) hn
  omega
theorem vlq_bound_step (x n : Nat) (hx : x < 128 ^ (n + 1) * 2) : x / 128 < 128 ^ n * 2 := by
  rw [Nat.pow_succ] at hx
  omega

set_option maxRecDepth 100000 in
set_option maxHeartbeats 1000000 in
theorem vlq_Num.calls (a : Int) (r : ByteArray) (w : World) (h : vlq_Num.f a = some r) :
    Calls Try.prog 14 #[.int .u64 a] w fun e w' => e = .returned (.string r) ∧ Below w.heap.size w w' := by
  unfold vlq_Num.f at h
  split at h
  case isFalse => cases h
  rename_i h0
  split at h
  case isFalse => cases h
  rename_i h1
  obtain rfl := Option.some.inj h
  clear h
  obtain ⟨v, rfl⟩ := Int.eq_ofNat_of_zero_le h0
  rw [Int.toNat_natCast]
  have ha := vlq_and v (by omega)
  have hv9 := Aside0.mk (show v < 128 ^ 9 * 2 by omega)
  go_enter Try.func14, Try.ntmps14
  go_wp2
  refine wp_scope_jumps 0 (vlq_J v w) vlq_mu rfl ?_ ?_
  · have hand := Aside0.mk (vlq_and (v / 128) (by omega))
    have hor := Aside0.mk (vlq_or (v / 128 % 128) (by omega))
    by_cases hz0 : v / 128 = 0
    · have hz : (v : Int) / 128 = 0 := by omega
      have H0 := Aside0.mk hz0
      clear hz0
      go_wp2_with (first | ((with_reducible refine gate_dst (N := 3) rfl ?_); refine box_event ?hg (N := 3) ?hd (cs := vlq_cells 10 []) (t := 53) ?hr ?_; (case hd => rfl); (case hg => rfl); (case hr => kernel_rfl); intro g hg w1 hb hB; have HG := Aside0.mk hg; have HK := Aside0.mk hb; have HB := Aside0.mk hB; clear hg hb hB; have hc1 : w1.cell? ⟨g, 9, none⟩ = some (.int .u8 0) := (blk_cell HK.out 9).trans (vlq_cells_get 10 9 [] (by omega)); have hf1 := blk_frozen HK.out 9))
      go_step3
      have HK2 := Aside0.mk ((blk_set HK.out 9 (.int .u8 ((v : Int) % 128))).trans (by rw [vlq_cells_set 9 []]))
      have hgl : w.heap.size ≤ g := by rw [HG.out]; exact Nat.le_refl _
      have HB2 := Aside0.mk (below_set (j := 9) (v := .int .u8 ((v : Int) % 128)) HB.out hgl)
      generalize w1.setCell ⟨g, 9, none⟩ (.int .u8 ((v : Int) % 128)) = w2 at *
      have hsl := vlq_slice g 9 (by omega) w2
      have hcv := vlq_conv g 9 [(v : Int) % 128] rfl (by omega) w2 HK2.out
      simp only [Int.cast_ofNat_Int, Nat.reduceSub] at hsl hcv
      clear HG HK HB hc1 hf1
      go_wp2
      simp only [Exit.jump]
      go_ret
      refine ⟨?_, HB2.out⟩
      unfold vlq_digits
      rw [H0.out]
      rfl
    · have hz : 0 < (v : Int) / 128 := by omega
      have H0 := Aside0.mk hz0
      clear hz0
      go_wp2_with (first | ((with_reducible refine gate_dst (N := 3) rfl ?_); refine box_event ?hg (N := 3) ?hd (cs := vlq_cells 10 []) (t := 53) ?hr ?_; (case hd => rfl); (case hg => rfl); (case hr => kernel_rfl); intro g hg w1 hb hB; have HG := Aside0.mk hg; have HK := Aside0.mk hb; have HB := Aside0.mk hB; clear hg hb hB; have hc1 : w1.cell? ⟨g, 9, none⟩ = some (.int .u8 0) := (blk_cell HK.out 9).trans (vlq_cells_get 10 9 [] (by omega)); have hf1 := blk_frozen HK.out 9))
      go_step3
      have HK2 := Aside0.mk ((blk_set HK.out 9 (.int .u8 ((v : Int) % 128))).trans (by rw [vlq_cells_set 9 []]))
      have hgl : w.heap.size ≤ g := by rw [HG.out]; exact Nat.le_refl _
      have HB2 := Aside0.mk (below_set (j := 9) (v := .int .u8 ((v : Int) % 128)) HB.out hgl)
      generalize w1.setCell ⟨g, 9, none⟩ (.int .u8 ((v : Int) % 128)) = w2 at *
      clear HG HK HB hc1 hf1
      have hc1 : w2.cell? ⟨g, 8, none⟩ = some (.int .u8 0) := (blk_cell HK2.out 8).trans (vlq_cells_get 9 8 _ (by omega))
      have hf1 := blk_frozen HK2.out 8
      go_wp2
      go_step3
      have e : (v : Int) / 128 = ((v / 128 : Nat) : Int) := by omega
      rw [e, hand.out, hor.out]
      refine ⟨rfl, ⟨g, v / 128, 8, [((v / 128 % 128 : Nat) : Int) + 128, (v : Int) % 128], _, _, _, _, _, _, _, _, _, _, _, _, _, _, _, _, _, _, _, _, rfl, by omega, rfl, ?_, ?_, ?_, ?_, hgl⟩⟩
      · exact vlq_bound_step v 8 hv9.out
      · unfold vlq_digits
        conv => rhs; rw [vlq_more]
        rw [if_neg H0.out]
        rfl
      · exact (blk_set HK2.out 8 _).trans (by rw [vlq_cells_set 8])
      · exact below_set HB2.out hgl
  · rintro a' w' ⟨g, x, n, acc, u5, u6, u7, u8, u9, u10, u11, u12, u13, u14, u15, u16, u17, u18, u19, u20, u21, u22, u23, u24, rfl, hn, hlen, hx, hM, hK, hB, hg⟩
    have HM := Aside0.mk hM
    have HK := Aside0.mk hK
    have HB := Aside0.mk hB
    clear hM hK hB
    have hb := vlq_bound x n hn hx
    have hand := Aside0.mk (vlq_and (x / 128) (by omega))
    have hor := Aside0.mk (vlq_or (x / 128 % 128) (by omega))
    have hxb := Aside0.mk hx
    clear hx
    have hmu : vlq_mu { tmps := #[.int .u64 x, undef, .string ⟨#[]⟩, .pointer (some ⟨g, 0, none⟩), .int .i64 n, u5, u6, u7, u8, u9, u10, u11, u12, u13, u14, u15, u16, u17, u18, u19, u20, u21, u22, u23, u24], defers := [] } w' = x := by simp [vlq_mu, intOf]
    rw [hmu]
    clear hmu
    by_cases h0 : x / 128 = 0
    · have hz : (x : Int) / 128 = 0 := by omega
      have H0 := Aside0.mk h0
      clear h0
      have hsl := vlq_slice g n hn w'
      have hcv := vlq_conv g n acc hlen hn w' HK.out
      go_wp2
      simp only [Exit.jump]
      go_ret
      refine ⟨?_, HB.out⟩
      rw [← HM.out, H0.out]
      cases n <;> rfl
    · have hz : 0 < (x : Int) / 128 := by omega
      obtain ⟨m, rfl⟩ : ∃ m, n = m + 1 := ⟨n - 1, by
        cases n with
        | zero => exact absurd hxb.out (by omega)
        | succ n => omega⟩
      have H0 := Aside0.mk h0
      clear h0
      have hc1 : w'.cell? ⟨g, m, none⟩ = some (.int .u8 0) := (blk_cell HK.out m).trans (vlq_cells_get _ _ _ (by omega))
      have hf1 := blk_frozen HK.out m
      go_wp2
      go_step3
      have e : (x : Int) / 128 = ((x / 128 : Nat) : Int) := by omega
      rw [e, hand.out, hor.out]
      refine ⟨rfl, ⟨g, x / 128, m, (((x / 128 % 128 : Nat) : Int) + 128) :: acc, _, _, _, _, _, _, _, _, _, _, _, _, _, _, _, _, _, _, _, _, rfl, by omega, by simp; omega, ?_, ?_, ?_, ?_, hg⟩, ?_⟩
      · exact vlq_bound_step x m hxb.out
      · rw [← HM.out]
        conv => rhs; rw [vlq_more]
        rw [if_neg H0.out]
      · exact (blk_set HK.out m _).trans (by rw [vlq_cells_set m])
      · exact below_set HB.out hg
      · simp [vlq_mu, intOf]
        omega


/-! ### hogsheadlaw01_shown: function 11 -/
def hogsheadlaw01_shown.f (k : Nat)  : Option (Bool) := (vlq_TakeNum.f k (⟨#[128, 1]⟩ : ByteArray)).bind fun bt101 => ((vlq_TakeNum.f k (⟨#[129]⟩ : ByteArray)).bind fun bt104 => ((vlq_Num.f 0).bind fun t107 => (if t107.toList = ([0] : List UInt8) then ((vlq_Num.f 128).bind fun t108 => (if t108.toList = ([129, 0] : List UInt8) then ((vlq_Num.f 300).bind fun t109 => (if t109.toList = ([130, 44] : List UInt8) then (if bt101.2.2 = 3 then (some (bt104.2.2 == 2)) else (some false)) else (some false))) else (some false))) else (some false))))
theorem hogsheadlaw01_shown.mono : ∀ k, LeO (hogsheadlaw01_shown.f k ) (hogsheadlaw01_shown.f (k + 1) ) := by
 intro  k
 unfold hogsheadlaw01_shown.f
 repeat' first
   | (with_reducible exact vlq_TakeNum.mono _ _)
   | (with_reducible exact LeO.refl _)
   | (with_reducible exact LeO.none _)
   | (with_reducible refine LeO.ite ?_ ?_)
   | (with_reducible refine LeO.bind ?_ (fun _ => ?_))
   | exact vlq_TakeNum.mono _ _
   | exact LeO.none _
   | refine LeO.ite ?_ ?_
   | refine LeO.bind ?_ (fun _ => ?_)
set_option maxHeartbeats 40000000 in
set_option maxRecDepth 100000 in
theorem hogsheadlaw01_shown.calls (k : Nat)  (r : Bool) (w : World) (h : hogsheadlaw01_shown.f k  = some r) :
  Calls Try.prog 11 #[] w fun e w' => e = .returned (.bool r) ∧ Below w.heap.size w w' := by
 have HB := qM (Below.refl w.heap.size w)
 have H : ((vlq_TakeNum.f k (⟨#[128, 1]⟩ : ByteArray)).bind fun bt101 => ((vlq_TakeNum.f k (⟨#[129]⟩ : ByteArray)).bind fun bt104 => ((vlq_Num.f 0).bind fun t107 => (if t107.toList = ([0] : List UInt8) then ((vlq_Num.f 128).bind fun t108 => (if t108.toList = ([129, 0] : List UInt8) then ((vlq_Num.f 300).bind fun t109 => (if t109.toList = ([130, 44] : List UInt8) then (if bt101.2.2 = 3 then (some (bt104.2.2 == 2)) else (some false)) else (some false))) else (some false))) else (some false))))) = some r := h
 clear h
 replace H := Option.bind_eq_some_iff.mp H
 obtain ⟨⟨t101, t102, t103⟩, A10, H⟩ := H
 replace H : ((vlq_TakeNum.f k (⟨#[129]⟩ : ByteArray)).bind fun bt104 => ((vlq_Num.f 0).bind fun t107 => (if t107.toList = ([0] : List UInt8) then ((vlq_Num.f 128).bind fun t108 => (if t108.toList = ([129, 0] : List UInt8) then ((vlq_Num.f 300).bind fun t109 => (if t109.toList = ([130, 44] : List UInt8) then (if t103 = 3 then (some (bt104.2.2 == 2)) else (some false)) else (some false))) else (some false))) else (some false)))) = some r := H
 have A1 := qM A10
 clear A10
 replace H := Option.bind_eq_some_iff.mp H
 obtain ⟨⟨t104, t105, t106⟩, A20, H⟩ := H
 replace H : ((vlq_Num.f 0).bind fun t107 => (if t107.toList = ([0] : List UInt8) then ((vlq_Num.f 128).bind fun t108 => (if t108.toList = ([129, 0] : List UInt8) then ((vlq_Num.f 300).bind fun t109 => (if t109.toList = ([130, 44] : List UInt8) then (if t103 = 3 then (some (t106 == 2)) else (some false)) else (some false))) else (some false))) else (some false))) = some r := H
 have A2 := qM A20
 clear A20
 replace H := Option.bind_eq_some_iff.mp H
 obtain ⟨t107, A30, H⟩ := H
 replace H : (if t107.toList = ([0] : List UInt8) then ((vlq_Num.f 128).bind fun t108 => (if t108.toList = ([129, 0] : List UInt8) then ((vlq_Num.f 300).bind fun t109 => (if t109.toList = ([130, 44] : List UInt8) then (if t103 = 3 then (some (t106 == 2)) else (some false)) else (some false))) else (some false))) else (some false)) = some r := H
 have A3 := qM A30
 clear A30
 by_cases c4 : t107.toList = ([0] : List UInt8)
 ·rw [if_pos c4] at H
  have c4b0 : (t107.toList == ([0] : List UInt8)) = true := beq_iff_eq.mpr c4
  have c4b1 : (t107.toList != ([0] : List UInt8)) = false := bne_eq_false_iff_eq.mpr c4
  clear c4
  replace H := Option.bind_eq_some_iff.mp H
  obtain ⟨t108, A50, H⟩ := H
  replace H : (if t108.toList = ([129, 0] : List UInt8) then ((vlq_Num.f 300).bind fun t109 => (if t109.toList = ([130, 44] : List UInt8) then (if t103 = 3 then (some (t106 == 2)) else (some false)) else (some false))) else (some false)) = some r := H
  have A5 := qM A50
  clear A50
  by_cases c6 : t108.toList = ([129, 0] : List UInt8)
  ·rw [if_pos c6] at H
   have c6b0 : (t108.toList == ([129, 0] : List UInt8)) = true := beq_iff_eq.mpr c6
   have c6b1 : (t108.toList != ([129, 0] : List UInt8)) = false := bne_eq_false_iff_eq.mpr c6
   clear c6
   replace H := Option.bind_eq_some_iff.mp H
   obtain ⟨t109, A70, H⟩ := H
   replace H : (if t109.toList = ([130, 44] : List UInt8) then (if t103 = 3 then (some (t106 == 2)) else (some false)) else (some false)) = some r := H
   have A7 := qM A70
   clear A70
   by_cases c8 : t109.toList = ([130, 44] : List UInt8)
   ·rw [if_pos c8] at H
    have c8b0 : (t109.toList == ([130, 44] : List UInt8)) = true := beq_iff_eq.mpr c8
    have c8b1 : (t109.toList != ([130, 44] : List UInt8)) = false := bne_eq_false_iff_eq.mpr c8
    clear c8
    by_cases c9 : t103 = 3
    ·rw [if_pos c9] at H
     have c9b0 : (t103 == 3) = true := beq_iff_eq.mpr c9
     have c9b1 : (t103 != 3) = false := bne_eq_false_iff_eq.mpr c9
     clear c9
     obtain rfl := Option.some.inj H
     go_enter Try.func11, Try.ntmps11
     go_wp2_with (first | ((with_reducible refine gate_callee (f := 12) rfl ?_); refine goesL_ (some 8) rfl rfl Try.func12 (by kernel_rfl) rfl #[.string (⟨#[128, 1]⟩ : ByteArray)] rfl (by (try simp only [List.map_toArray, List.map_cons, List.map_nil]); first | done | rfl | (simp only [List.length_drop, List.length_take]; rfl)) ?_; (with_reducible refine (vlq_TakeNum.calls k (⟨#[128, 1]⟩ : ByteArray) t101 t102 t103 _ A1.out).mono ?_); rintro e w' ⟨rfl, ⟨nd, rfl⟩⟩; refine ⟨_, rfl, ?_⟩) | ((with_reducible refine gate_callee (f := 12) rfl ?_); refine goesL_ (some 13) rfl rfl Try.func12 (by kernel_rfl) rfl #[.string (⟨#[129]⟩ : ByteArray)] rfl (by (try simp only [List.map_toArray, List.map_cons, List.map_nil]); first | done | rfl | (simp only [List.length_drop, List.length_take]; rfl)) ?_; (with_reducible refine (vlq_TakeNum.calls k (⟨#[129]⟩ : ByteArray) t104 t105 t106 _ A2.out).mono ?_); rintro e w' ⟨rfl, ⟨nd, rfl⟩⟩; refine ⟨_, rfl, ?_⟩) | ((with_reducible refine gate_callee (f := 14) rfl ?_); refine goesL_ (some 17) rfl rfl Try.func14 (by kernel_rfl) rfl #[.int .u64 0] rfl (by (try simp only [List.map_toArray, List.map_cons, List.map_nil]); first | done | rfl | (simp only [List.length_drop, List.length_take]; rfl)) ?_; (with_reducible refine (vlq_Num.calls 0 t107 _ A3.out).mono ?_); rintro e w10 ⟨rfl, hb⟩; refine ⟨_, rfl, ?_⟩; have n0_ := qM (eT (by repeat (first | (with_reducible first | exact HB.out | apply eA | apply eN | apply eD) | exact HB.out)) hb); clear HB; have HB := n0_; clear n0_; (try clear hb); (try clear hb2); (try clear hk); (try clear hi)) | (go_at_call 14; (with_reducible refine (vlq_Num.calls 128 t108 _ A5.out).mono ?_); rintro e w11 ⟨rfl, hb⟩; have n0_ := qM (eT (by repeat (first | (with_reducible first | exact HB.out | apply eA | apply eN | apply eD) | exact HB.out)) hb); clear HB; have HB := n0_; clear n0_; (try clear hb); (try clear hb2); (try clear hk); (try clear hi)) | (go_at_call 14; (with_reducible refine (vlq_Num.calls 300 t109 _ A7.out).mono ?_); rintro e w12 ⟨rfl, hb⟩; have n0_ := qM (eT (by repeat (first | (with_reducible first | exact HB.out | apply eA | apply eN | apply eD) | exact HB.out)) hb); clear HB; have HB := n0_; clear n0_; (try clear hb); (try clear hb2); (try clear hk); (try clear hi)))
     go_ret
     exact ⟨by first | rfl | (simp [errW_none, errW_some] <;> rfl) | (simp [*, errW_none, errW_some] <;> rfl), by repeat (first | (with_reducible first | exact HB.out | apply eA | apply eN | apply eD) | exact HB.out)⟩
    ·rw [if_neg c9] at H
     have c9b0 : (t103 == 3) = false := beq_eq_false_iff_ne.mpr c9
     have c9b1 : (t103 != 3) = true := bne_iff_ne.mpr c9
     obtain rfl := Option.some.inj H
     go_enter Try.func11, Try.ntmps11
     go_wp2_with (first | ((with_reducible refine gate_callee (f := 12) rfl ?_); refine goesL_ (some 8) rfl rfl Try.func12 (by kernel_rfl) rfl #[.string (⟨#[128, 1]⟩ : ByteArray)] rfl (by (try simp only [List.map_toArray, List.map_cons, List.map_nil]); first | done | rfl | (simp only [List.length_drop, List.length_take]; rfl)) ?_; (with_reducible refine (vlq_TakeNum.calls k (⟨#[128, 1]⟩ : ByteArray) t101 t102 t103 _ A1.out).mono ?_); rintro e w' ⟨rfl, ⟨nd, rfl⟩⟩; refine ⟨_, rfl, ?_⟩) | ((with_reducible refine gate_callee (f := 12) rfl ?_); refine goesL_ (some 13) rfl rfl Try.func12 (by kernel_rfl) rfl #[.string (⟨#[129]⟩ : ByteArray)] rfl (by (try simp only [List.map_toArray, List.map_cons, List.map_nil]); first | done | rfl | (simp only [List.length_drop, List.length_take]; rfl)) ?_; (with_reducible refine (vlq_TakeNum.calls k (⟨#[129]⟩ : ByteArray) t104 t105 t106 _ A2.out).mono ?_); rintro e w' ⟨rfl, ⟨nd, rfl⟩⟩; refine ⟨_, rfl, ?_⟩) | ((with_reducible refine gate_callee (f := 14) rfl ?_); refine goesL_ (some 17) rfl rfl Try.func14 (by kernel_rfl) rfl #[.int .u64 0] rfl (by (try simp only [List.map_toArray, List.map_cons, List.map_nil]); first | done | rfl | (simp only [List.length_drop, List.length_take]; rfl)) ?_; (with_reducible refine (vlq_Num.calls 0 t107 _ A3.out).mono ?_); rintro e w13 ⟨rfl, hb⟩; refine ⟨_, rfl, ?_⟩; have n0_ := qM (eT (by repeat (first | (with_reducible first | exact HB.out | apply eA | apply eN | apply eD) | exact HB.out)) hb); clear HB; have HB := n0_; clear n0_; (try clear hb); (try clear hb2); (try clear hk); (try clear hi)) | (go_at_call 14; (with_reducible refine (vlq_Num.calls 128 t108 _ A5.out).mono ?_); rintro e w14 ⟨rfl, hb⟩; have n0_ := qM (eT (by repeat (first | (with_reducible first | exact HB.out | apply eA | apply eN | apply eD) | exact HB.out)) hb); clear HB; have HB := n0_; clear n0_; (try clear hb); (try clear hb2); (try clear hk); (try clear hi)) | (go_at_call 14; (with_reducible refine (vlq_Num.calls 300 t109 _ A7.out).mono ?_); rintro e w15 ⟨rfl, hb⟩; have n0_ := qM (eT (by repeat (first | (with_reducible first | exact HB.out | apply eA | apply eN | apply eD) | exact HB.out)) hb); clear HB; have HB := n0_; clear n0_; (try clear hb); (try clear hb2); (try clear hk); (try clear hi)))
     go_ret
     exact ⟨by first | rfl | (simp [errW_none, errW_some] <;> rfl) | (simp [*, errW_none, errW_some] <;> rfl), by repeat (first | (with_reducible first | exact HB.out | apply eA | apply eN | apply eD) | exact HB.out)⟩
   ·rw [if_neg c8] at H
    have c8b0 : (t109.toList == ([130, 44] : List UInt8)) = false := beq_eq_false_iff_ne.mpr c8
    have c8b1 : (t109.toList != ([130, 44] : List UInt8)) = true := bne_iff_ne.mpr c8
    obtain rfl := Option.some.inj H
    go_enter Try.func11, Try.ntmps11
    go_wp2_with (first | ((with_reducible refine gate_callee (f := 12) rfl ?_); refine goesL_ (some 8) rfl rfl Try.func12 (by kernel_rfl) rfl #[.string (⟨#[128, 1]⟩ : ByteArray)] rfl (by (try simp only [List.map_toArray, List.map_cons, List.map_nil]); first | done | rfl | (simp only [List.length_drop, List.length_take]; rfl)) ?_; (with_reducible refine (vlq_TakeNum.calls k (⟨#[128, 1]⟩ : ByteArray) t101 t102 t103 _ A1.out).mono ?_); rintro e w' ⟨rfl, ⟨nd, rfl⟩⟩; refine ⟨_, rfl, ?_⟩) | ((with_reducible refine gate_callee (f := 12) rfl ?_); refine goesL_ (some 13) rfl rfl Try.func12 (by kernel_rfl) rfl #[.string (⟨#[129]⟩ : ByteArray)] rfl (by (try simp only [List.map_toArray, List.map_cons, List.map_nil]); first | done | rfl | (simp only [List.length_drop, List.length_take]; rfl)) ?_; (with_reducible refine (vlq_TakeNum.calls k (⟨#[129]⟩ : ByteArray) t104 t105 t106 _ A2.out).mono ?_); rintro e w' ⟨rfl, ⟨nd, rfl⟩⟩; refine ⟨_, rfl, ?_⟩) | ((with_reducible refine gate_callee (f := 14) rfl ?_); refine goesL_ (some 17) rfl rfl Try.func14 (by kernel_rfl) rfl #[.int .u64 0] rfl (by (try simp only [List.map_toArray, List.map_cons, List.map_nil]); first | done | rfl | (simp only [List.length_drop, List.length_take]; rfl)) ?_; (with_reducible refine (vlq_Num.calls 0 t107 _ A3.out).mono ?_); rintro e w16 ⟨rfl, hb⟩; refine ⟨_, rfl, ?_⟩; have n0_ := qM (eT (by repeat (first | (with_reducible first | exact HB.out | apply eA | apply eN | apply eD) | exact HB.out)) hb); clear HB; have HB := n0_; clear n0_; (try clear hb); (try clear hb2); (try clear hk); (try clear hi)) | (go_at_call 14; (with_reducible refine (vlq_Num.calls 128 t108 _ A5.out).mono ?_); rintro e w17 ⟨rfl, hb⟩; have n0_ := qM (eT (by repeat (first | (with_reducible first | exact HB.out | apply eA | apply eN | apply eD) | exact HB.out)) hb); clear HB; have HB := n0_; clear n0_; (try clear hb); (try clear hb2); (try clear hk); (try clear hi)) | (go_at_call 14; (with_reducible refine (vlq_Num.calls 300 t109 _ A7.out).mono ?_); rintro e w18 ⟨rfl, hb⟩; have n0_ := qM (eT (by repeat (first | (with_reducible first | exact HB.out | apply eA | apply eN | apply eD) | exact HB.out)) hb); clear HB; have HB := n0_; clear n0_; (try clear hb); (try clear hb2); (try clear hk); (try clear hi)))
    go_ret
    exact ⟨by first | rfl | (simp [errW_none, errW_some] <;> rfl) | (simp [*, errW_none, errW_some] <;> rfl), by repeat (first | (with_reducible first | exact HB.out | apply eA | apply eN | apply eD) | exact HB.out)⟩
  ·rw [if_neg c6] at H
   have c6b0 : (t108.toList == ([129, 0] : List UInt8)) = false := beq_eq_false_iff_ne.mpr c6
   have c6b1 : (t108.toList != ([129, 0] : List UInt8)) = true := bne_iff_ne.mpr c6
   obtain rfl := Option.some.inj H
   go_enter Try.func11, Try.ntmps11
   go_wp2_with (first | ((with_reducible refine gate_callee (f := 12) rfl ?_); refine goesL_ (some 8) rfl rfl Try.func12 (by kernel_rfl) rfl #[.string (⟨#[128, 1]⟩ : ByteArray)] rfl (by (try simp only [List.map_toArray, List.map_cons, List.map_nil]); first | done | rfl | (simp only [List.length_drop, List.length_take]; rfl)) ?_; (with_reducible refine (vlq_TakeNum.calls k (⟨#[128, 1]⟩ : ByteArray) t101 t102 t103 _ A1.out).mono ?_); rintro e w' ⟨rfl, ⟨nd, rfl⟩⟩; refine ⟨_, rfl, ?_⟩) | ((with_reducible refine gate_callee (f := 12) rfl ?_); refine goesL_ (some 13) rfl rfl Try.func12 (by kernel_rfl) rfl #[.string (⟨#[129]⟩ : ByteArray)] rfl (by (try simp only [List.map_toArray, List.map_cons, List.map_nil]); first | done | rfl | (simp only [List.length_drop, List.length_take]; rfl)) ?_; (with_reducible refine (vlq_TakeNum.calls k (⟨#[129]⟩ : ByteArray) t104 t105 t106 _ A2.out).mono ?_); rintro e w' ⟨rfl, ⟨nd, rfl⟩⟩; refine ⟨_, rfl, ?_⟩) | ((with_reducible refine gate_callee (f := 14) rfl ?_); refine goesL_ (some 17) rfl rfl Try.func14 (by kernel_rfl) rfl #[.int .u64 0] rfl (by (try simp only [List.map_toArray, List.map_cons, List.map_nil]); first | done | rfl | (simp only [List.length_drop, List.length_take]; rfl)) ?_; (with_reducible refine (vlq_Num.calls 0 t107 _ A3.out).mono ?_); rintro e w19 ⟨rfl, hb⟩; refine ⟨_, rfl, ?_⟩; have n0_ := qM (eT (by repeat (first | (with_reducible first | exact HB.out | apply eA | apply eN | apply eD) | exact HB.out)) hb); clear HB; have HB := n0_; clear n0_; (try clear hb); (try clear hb2); (try clear hk); (try clear hi)) | (go_at_call 14; (with_reducible refine (vlq_Num.calls 128 t108 _ A5.out).mono ?_); rintro e w20 ⟨rfl, hb⟩; have n0_ := qM (eT (by repeat (first | (with_reducible first | exact HB.out | apply eA | apply eN | apply eD) | exact HB.out)) hb); clear HB; have HB := n0_; clear n0_; (try clear hb); (try clear hb2); (try clear hk); (try clear hi)))
   go_ret
   exact ⟨by first | rfl | (simp [errW_none, errW_some] <;> rfl) | (simp [*, errW_none, errW_some] <;> rfl), by repeat (first | (with_reducible first | exact HB.out | apply eA | apply eN | apply eD) | exact HB.out)⟩
 ·rw [if_neg c4] at H
  have c4b0 : (t107.toList == ([0] : List UInt8)) = false := beq_eq_false_iff_ne.mpr c4
  have c4b1 : (t107.toList != ([0] : List UInt8)) = true := bne_iff_ne.mpr c4
  obtain rfl := Option.some.inj H
  go_enter Try.func11, Try.ntmps11
  go_wp2_with (first | ((with_reducible refine gate_callee (f := 12) rfl ?_); refine goesL_ (some 8) rfl rfl Try.func12 (by kernel_rfl) rfl #[.string (⟨#[128, 1]⟩ : ByteArray)] rfl (by (try simp only [List.map_toArray, List.map_cons, List.map_nil]); first | done | rfl | (simp only [List.length_drop, List.length_take]; rfl)) ?_; (with_reducible refine (vlq_TakeNum.calls k (⟨#[128, 1]⟩ : ByteArray) t101 t102 t103 _ A1.out).mono ?_); rintro e w' ⟨rfl, ⟨nd, rfl⟩⟩; refine ⟨_, rfl, ?_⟩) | ((with_reducible refine gate_callee (f := 12) rfl ?_); refine goesL_ (some 13) rfl rfl Try.func12 (by kernel_rfl) rfl #[.string (⟨#[129]⟩ : ByteArray)] rfl (by (try simp only [List.map_toArray, List.map_cons, List.map_nil]); first | done | rfl | (simp only [List.length_drop, List.length_take]; rfl)) ?_; (with_reducible refine (vlq_TakeNum.calls k (⟨#[129]⟩ : ByteArray) t104 t105 t106 _ A2.out).mono ?_); rintro e w' ⟨rfl, ⟨nd, rfl⟩⟩; refine ⟨_, rfl, ?_⟩) | ((with_reducible refine gate_callee (f := 14) rfl ?_); refine goesL_ (some 17) rfl rfl Try.func14 (by kernel_rfl) rfl #[.int .u64 0] rfl (by (try simp only [List.map_toArray, List.map_cons, List.map_nil]); first | done | rfl | (simp only [List.length_drop, List.length_take]; rfl)) ?_; (with_reducible refine (vlq_Num.calls 0 t107 _ A3.out).mono ?_); rintro e w21 ⟨rfl, hb⟩; refine ⟨_, rfl, ?_⟩; have n0_ := qM (eT (by repeat (first | (with_reducible first | exact HB.out | apply eA | apply eN | apply eD) | exact HB.out)) hb); clear HB; have HB := n0_; clear n0_; (try clear hb); (try clear hb2); (try clear hk); (try clear hi)))
  go_ret
  exact ⟨by first | rfl | (simp [errW_none, errW_some] <;> rfl) | (simp [*, errW_none, errW_some] <;> rfl), by repeat (first | (with_reducible first | exact HB.out | apply eA | apply eN | apply eD) | exact HB.out)⟩

-- NOT PRINTED: function 25 (vlq_several_string)

end Go.Proofs.Ytbmgglgacgkffaa.PAll
