/- Functions of the program as plain Lean functions, and that each call comes to what they say. Laid by a program of this session (hprint.py); Lean checks it. -/
import Derived.Test.YtbmgglgacgkffaaPAllx0
import Derived.Test.YtbmgglgacgkffaaPAllx1
import Derived.Test.YtbmgglgacgkffaaPAllx3
namespace Go.Proofs.Ytbmgglgacgkffaa.PAll
open Go.RowKit Go.Proofs.YtbmgglgacgkffaaW.PrintWords Go.Proofs.YtbmgglgacgkffaaW.PrintLast Go.Proofs.YtbmgglgacgkffaaW.PrintMore
attribute [local go_sem] max2_int min2_int max_two min_two max_three min_three max_four min_four   -- for this text's walks alone
set_option linter.unusedVariables false
set_option linter.unusedSimpArgs false

/-! ### vlq_TakeRow: function 20 -/
/-! ### several, of what TakeRow's own function takes -/
def vlq_several.l0 : Nat → Int → Int → ByteArray → List ByteArray → Int → Option (List ByteArray × ByteArray × Int)
 | 0, _, _, _, _, _ => none
 | k + 1, most, n, s, out, i => if i < n then ((vlq_TakeText.f k s most).bind fun bt => (if bt.2.2 = 0 then (if out.length < 8796093022208 then (vlq_several.l0 k most n bt.2.1 (out ++ [bt.1]) (IntKind.u64.wrap (i + 1))) else none) else (some (([] : List ByteArray), (⟨#[]⟩ : ByteArray), bt.2.2)))) else some (out, s, 0)
theorem vlq_several.mono_l : ∀ k, (∀ y0 y1 y2 y3 y4, LeO (vlq_several.l0 k y0 y1 y2 y3 y4) (vlq_several.l0 (k + 1) y0 y1 y2 y3 y4))
 | 0 => fun _ _ _ _ _ r h => by simp [vlq_several.l0] at h
 | k + 1 => by
  have ih := vlq_several.mono_l k
  intro y0 y1 y2 y3 y4
  unfold vlq_several.l0
  exact LeO.ite (LeO.bind (vlq_TakeText.mono _ _ _) (fun _ => LeO.ite (LeO.ite (ih _ _ _ _ _) (LeO.none _)) (LeO.refl _))) (LeO.refl _)
theorem vlq_one.calls (k : Nat) (s : ByteArray) (most : Int) (p : Nat) (r1 r2 : ByteArray) (r3 : Int) (w : World) (hp : w.heap[p]? = some (.cells #[.int .i64 most] 3 (0, 0))) (h : vlq_TakeText.f k s most = some (r1, r2, r3)) :
    Calls Try.prog 26 #[.string s, .pointer (some ⟨p, 0, none⟩)] w fun e w' => e = .returned (.tuple #[.string r1, .string r2, .int .i64 r3]) ∧ Drawn0 w w' := by
  have A4 := Aside0.mk h
  clear h
  have z0 : w.cell? ⟨p, 0, none⟩ = some (.int .i64 most) := (blk_cell hp 0).trans rfl
  clear hp
  go_enter Try.func26, Try.ntmps26
  go_wp2_with (first | ((with_reducible refine gate_callee (f := 18) rfl ?_); refine goesL_ (some 4) rfl rfl Try.func18 (by kernel_rfl) rfl #[.string s, .int .i64 most] rfl (by (try simp only [List.map_toArray, List.map_cons, List.map_nil]); first | done | rfl) ?_; (with_reducible refine (vlq_TakeText.calls k s most r1 r2 r3 _ A4.out).mono ?_); rintro e w' ⟨rfl, ⟨nd, rfl⟩⟩; refine ⟨_, rfl, ?_⟩) | (go_at_call 18; refine (vlq_TakeText.calls k s most r1 r2 r3 _ A4.out).mono ?_; rintro e w' ⟨rfl, ⟨nd, rfl⟩⟩))
  go_ret3
  exact ⟨rfl, ⟨⟨nd, rfl⟩⟩⟩
theorem vlq_several.calls (k : Nat) (s : ByteArray) (n : Int) (most : Int) (p : Nat) (r1 : List ByteArray) (r2 : ByteArray) (r3 : Int) (w : World) (hp : w.heap[p]? = some (.cells #[.int .i64 most] 3 (0, 0))) (h : vlq_several.l0 k most n s [] 0 = some (r1, r2, r3)) :
  Calls Try.prog 25 #[.string s, .int .u64 n, .func (.func 26) #[] #[.pointer (some ⟨p, 0, none⟩)]] w fun e w' => ∃ v0_ : Value, e = .returned (.tuple #[v0_, .string r2, .int .i64 r3]) ∧ Kd.R Kd.string 9 w' w.heap.size (fun _ => True) v0_ r1 ∧ Below w.heap.size w w' := by
 have HB := qM (Below.refl w.heap.size w)
 have H' := qM h
 have HP := qM hp
 have hlt := blk_lt hp
 have HPl := qM hlt
 clear h hp hlt
 go_enter Try.func25, Try.ntmps25
 go_wp2
 go_loopg [0, 9, 14] k (fun kq v0 v9 v14 w' => ∃ (x0 : ByteArray) (x9 : List ByteArray) (x14 : Int), v0 = .string x0 ∧ v14 = .int .u64 x14 ∧ Aside0 (vlq_several.l0 kq most n x0 x9 x14 = some (r1, r2, r3)) ∧ Aside0 (kq ≤ k) ∧ Aside0 (Kd.R Kd.string 9 w' w.heap.size (fun _ => True) v9 x9) ∧ Aside0 (Below w.heap.size w w'))
 case atStart => exact ⟨s, ([] : List ByteArray), 0, (by first | rfl | (simp; done)), (by first | rfl | (simp; done)), H', ⟨Nat.le_refl _⟩, ⟨Kd.R_nil _ _ _ _ _⟩, ⟨HB.out⟩⟩
 case round =>
  clear H' HB
  obtain ⟨x0, x9, x14, rfl, rfl, HA, HK2, HO, HB⟩ := hrel
  cases gk with
  | zero => exact absurd HA.out (by simp [vlq_several.l0])
  | succ k2 =>
   have H := HA.out
   clear HA
   simp only [vlq_several.l0] at H
   have HPr := qM ((HB.out.block p HPl.out).trans HP.out)
   by_cases c9 : x14 < n
   ·rw [if_pos c9] at H
    have c9b0 : decide (x14 < n) = true := decide_eq_true c9
    clear c9
    replace H := Option.bind_eq_some_iff.mp H
    obtain ⟨⟨t1, t2, t3⟩, A100, H⟩ := H
    dsimp only at H
    have A10 := qM A100
    clear A100
    by_cases c11 : t3 = 0
    ·rw [if_pos c11] at H
     have c11b0 : (t3 == 0) = true := beq_iff_eq.mpr c11
     have c11b1 : (t3 != 0) = false := bne_eq_false_iff_eq.mpr c11
     clear c11
     by_cases c12 : x9.length < 8796093022208
     ·rw [if_pos c12] at H
      have LMc12 := qM c12
      clear c12
      obtain ⟨y, hy⟩ : ∃ y_ : List ByteArray, y_ = (x9 ++ [t1]) := ⟨_, rfl⟩
      rw [← hy] at H
      have Ny := qM hy
      clear hy
      have H' := qM H
      clear H
      go_wp2_with (first | (go_at_call 26; refine (vlq_one.calls k2 x0 most p t1 t2 t3 _ HPr.out A10.out).mono ?_; rintro e w' ⟨rfl, ⟨nd, rfl⟩⟩) | ((with_reducible refine gate_builtin (b := .append) (xs := #[.tmp 26, .tmp 28]) rfl ?_); at_builtin; refine Kd.R_append Kd.string (w0 := w) w.heap.size rfl (.tmp 26) (.tmp 28) 40 9 (.string ⟨#[]⟩) 16 rfl Try.underlying40 info9 rfl (by decide) (by omega) u9 x9 t1 [.string t1] (fun _ => True) (fun _ => False) rfl rfl ?aP (fun _ hk => hk.elim) ?aF ?aO ?aB ?aS ?aL ?_; (case aP => exact rfl); (case aB => exact (by repeat (first | (with_reducible first | exact HB.out | apply eA | apply eN | apply eD) | exact HB.out))); (case aF => exact (fun _ _ => trivial)); (case aO => exact (by (with_reducible repeat first | apply RA | apply RN | apply RD); exact HO.out)); (case aS => exact (eZ (by repeat (first | (with_reducible first | exact HB.out | apply eA | apply eN | apply eD) | exact HB.out)))); (case aL => have := LMc12.out; omega); intro v123 w13 ho hb hg hat; rw [← Ny.out] at ho; have n0_ := qM (hb); have n1_ := qM (ho); clear HB HO; have HB := n0_; have HO2 := n1_; clear n0_ n1_; clear ho hb hg hat))
      go_roundg k2
      case measure => have := HK2.out; omega
      case rel => exact ⟨t2, y, (IntKind.u64.wrap (x14 + 1)), (by first | rfl | (simp; done) | (simp [*]; done)), (by first | rfl | (simp; done) | (simp [*]; done)), H', ⟨by have := HK2.out; omega⟩, ⟨by (with_reducible repeat first | apply RA | apply RN | apply RD); exact HO2.out⟩, ⟨by repeat (first | (with_reducible first | exact HB.out | apply eA | apply eN | apply eD) | exact HB.out)⟩⟩
     ·rw [if_neg c12] at H
      exact absurd H (by simp)
    ·rw [if_neg c11] at H
     have c11b0 : (t3 == 0) = false := beq_eq_false_iff_ne.mpr c11
     have c11b1 : (t3 != 0) = true := bne_iff_ne.mpr c11
     simp only [Option.some.injEq, Prod.mk.injEq] at H
     obtain ⟨rfl, rfl, rfl⟩ := H
     go_wp2_with (first | (go_at_call 26; refine (vlq_one.calls k2 x0 most p t1 t2 t3 _ HPr.out A10.out).mono ?_; rintro e w' ⟨rfl, ⟨nd, rfl⟩⟩))
     go_ret3
     exact ⟨_, rfl, Kd.R_nil _ _ _ _ _, by repeat (first | (with_reducible first | exact HB.out | apply eA | apply eN | apply eD) | exact HB.out)⟩
   ·rw [if_neg c9] at H
    have c9b0 : decide (x14 < n) = false := decide_eq_false c9
    clear c9
    simp only [Option.some.injEq, Prod.mk.injEq] at H
    obtain ⟨rfl, rfl, rfl⟩ := H
    go_wp2
    go_ret3
    exact ⟨_, rfl, by (with_reducible repeat first | apply RA | apply RN | apply RD); exact HO.out, by repeat (first | (with_reducible first | exact HB.out | apply eA | apply eN | apply eD) | exact HB.out)⟩
def vlq_TakeRow.f (k : Nat) (a0 : ByteArray) (a1 : Int) (a2 : Int) : Option (List ByteArray × ByteArray × Int) := (vlq_TakeNum.f k a0).bind fun bt => (if bt.2.2 = 0 then (if a1 < 0 then some (([] : List ByteArray), (⟨#[]⟩ : ByteArray), 4) else (if bt.1 > IntKind.u64.wrap a1 then some (([] : List ByteArray), (⟨#[]⟩ : ByteArray), 4) else vlq_several.l0 k a2 bt.1 bt.2.1 [] 0)) else some (([] : List ByteArray), (⟨#[]⟩ : ByteArray), bt.2.2))
theorem vlq_TakeRow.mono : ∀ a0 a1 a2 k, LeO (vlq_TakeRow.f k a0 a1 a2) (vlq_TakeRow.f (k + 1) a0 a1 a2) := fun a0 a1 a2 k => by
  unfold vlq_TakeRow.f
  exact LeO.bind (vlq_TakeNum.mono _ _) (fun _ => LeO.ite (LeO.ite (LeO.refl _) (LeO.ite (LeO.refl _) (vlq_several.mono_l k _ _ _ _ _))) (LeO.refl _))
theorem vlq_TakeRow.calls (k : Nat) (a0 : ByteArray) (a1 : Int) (a2 : Int) (r1 : List ByteArray) (r2 : ByteArray) (r3 : Int) (w : World) (h : vlq_TakeRow.f k a0 a1 a2 = some (r1, r2, r3)) :
  Calls Try.prog 20 #[.string a0, .int .i64 a1, .int .i64 a2] w fun e w' => ∃ v0_ : Value, e = .returned (.tuple #[v0_, .string r2, .int .i64 r3]) ∧ Kd.R Kd.string 9 w' w.heap.size (fun _ => True) v0_ r1 ∧ Below w.heap.size w w' := by
 have HB := qM (Below.refl w.heap.size w)
 have H := h
 clear h
 unfold vlq_TakeRow.f at H
 replace H := Option.bind_eq_some_iff.mp H
 obtain ⟨⟨t1, t2, t3⟩, A40, H⟩ := H
 dsimp only at H
 have A4 := qM A40
 clear A40
 by_cases c5 : t3 = 0
 ·rw [if_pos c5] at H
  have c5b0 : (t3 == 0) = true := beq_iff_eq.mpr c5
  have c5b1 : (t3 != 0) = false := bne_eq_false_iff_eq.mpr c5
  clear c5
  by_cases c7 : a1 < 0
  ·rw [if_pos c7] at H
   have c7b0 : decide (a1 < 0) = true := decide_eq_true c7
   clear c7
   simp only [Option.some.injEq, Prod.mk.injEq] at H
   obtain ⟨rfl, rfl, rfl⟩ := H
   go_enter Try.func20, Try.ntmps20
   go_wp2_with (first | (go_at_call 12; refine (vlq_TakeNum.calls k a0 t1 t2 t3 _ A4.out).mono ?_; rintro e w' ⟨rfl, ⟨nd, rfl⟩⟩))
   go_ret3
   exact ⟨_, rfl, Kd.R_nil _ _ _ _ _, by repeat (first | (with_reducible first | exact HB.out | apply eA | apply eN | apply eD) | exact HB.out)⟩
  ·rw [if_neg c7] at H
   have c7b0 : decide (a1 < 0) = false := decide_eq_false c7
   clear c7
   by_cases c8 : t1 > IntKind.u64.wrap a1
   ·rw [if_pos c8] at H
    have c8b0 : decide (t1 > IntKind.u64.wrap a1) = true := decide_eq_true c8
    have c8b1 : decide (IntKind.u64.wrap a1 < t1) = true := decide_eq_true c8
    clear c8
    simp only [Option.some.injEq, Prod.mk.injEq] at H
    obtain ⟨rfl, rfl, rfl⟩ := H
    go_enter Try.func20, Try.ntmps20
    go_wp2_with (first | (go_at_call 12; refine (vlq_TakeNum.calls k a0 t1 t2 t3 _ A4.out).mono ?_; rintro e w' ⟨rfl, ⟨nd, rfl⟩⟩))
    go_ret3
    exact ⟨_, rfl, Kd.R_nil _ _ _ _ _, by repeat (first | (with_reducible first | exact HB.out | apply eA | apply eN | apply eD) | exact HB.out)⟩
   ·rw [if_neg c8] at H
    have c8b0 : decide (t1 > IntKind.u64.wrap a1) = false := decide_eq_false c8
    have c8b1 : decide (IntKind.u64.wrap a1 < t1) = false := decide_eq_false c8
    clear c8
    have H' := qM H
    clear H
    go_enter Try.func20, Try.ntmps20
    go_wp2_with (first | (go_at_call 12; refine (vlq_TakeNum.calls k a0 t1 t2 t3 _ A4.out).mono ?_; rintro e w' ⟨rfl, ⟨nd, rfl⟩⟩) | (go_at_call 25; refine (vlq_several.calls k t2 t1 a2 w.heap.size r1 r2 r3 ((w.alloc (.cells #[.int .i64 a2] 3)).drewN nd) (show (w.alloc (.cells #[.int .i64 a2] 3)).heap[w.heap.size]? = _ from blk_new w (.cells #[.int .i64 a2] 3)) H'.out).mono ?_; rintro e w4 ⟨v0_, rfl, hr, hb⟩; have HR4 := qM hr; have HB4 := qM hb; clear hr hb))
    have hz : w.heap.size ≤ ((w.alloc (.cells #[.int .i64 a2] 3)).drewN nd).heap.size := by simp
    have hB1 : Below w.heap.size w ((w.alloc (.cells #[.int .i64 a2] 3)).drewN nd) := by repeat (first | (with_reducible first | exact HB.out | apply eA | apply eN | apply eD) | exact HB.out)
    go_ret3
    exact ⟨_, rfl, Kd.R_lower HR4.out hz, hB1.trans (HB4.out.mono hz)⟩
 ·rw [if_neg c5] at H
  have c5b0 : (t3 == 0) = false := beq_eq_false_iff_ne.mpr c5
  have c5b1 : (t3 != 0) = true := bne_iff_ne.mpr c5
  simp only [Option.some.injEq, Prod.mk.injEq] at H
  obtain ⟨rfl, rfl, rfl⟩ := H
  go_enter Try.func20, Try.ntmps20
  go_wp2_with (first | (go_at_call 12; refine (vlq_TakeNum.calls k a0 t1 t2 t3 _ A4.out).mono ?_; rintro e w' ⟨rfl, ⟨nd, rfl⟩⟩))
  go_ret3
  exact ⟨_, rfl, Kd.R_nil _ _ _ _ _, by repeat (first | (with_reducible first | exact HB.out | apply eA | apply eN | apply eD) | exact HB.out)⟩

end Go.Proofs.Ytbmgglgacgkffaa.PAll
