/- Functions of the program as plain Lean functions, and that each call comes to what they say. Laid by a program of this session (hprint.py); Lean checks it. -/
import Derived.Test.YthnhfmmiaknhgaaPAllx0
import Derived.Test.YthnhfmmiaknhgaaPAllx5
import Derived.Test.YthnhfmmiaknhgaaPAllx6
import Derived.LoopIn
import Derived.LoopNIn
import Derived.OwnWalkIn
import Derived.RangeFuncBound
import Derived.RangeFuncBox
import Derived.RangeFuncCalls
import Derived.RangeFuncLeaves
import Derived.RangeFuncNested
import Derived.Shelf.Abstract
import Derived.TacticsInMore
namespace Go.Proofs.Ythnhfmmiaknhgaa.PAll
open Go.RowKit Go.Proofs.YthnhfmmiaknhgaaW.PrintWords Go.Proofs.YthnhfmmiaknhgaaW.PrintLast Go.Proofs.YthnhfmmiaknhgaaW.PrintMore
attribute [local go_sem] max2_int min2_int max_two min_two max_three min_three max_four min_four   -- for this text's walks alone
set_option linter.unusedVariables false
set_option linter.unusedSimpArgs false

/-! ### cell_best: function 37 -/
-- IMPORT Derived.RangeFuncNested
-- IMPORT Derived.RangeFuncBound
-- IMPORT Derived.RangeFuncCalls
-- IMPORT Derived.RangeFuncLeaves
-- IMPORT Derived.RangeFuncBox
-- IMPORT Derived.Shelf.Abstract
-- IMPORT Derived.OwnWalkIn
-- IMPORT Derived.TacticsInMore
-- IMPORT Derived.LoopNIn
-- IMPORT Derived.LoopIn
/-- The best of the records of these slots, and of the one at hand. -/
def cell_best.go (k : Nat) (l0 : List ByteArray) (l1 : List S77) (a2 : Int) (a3 : Bool) : List Int → Int × Int × ByteArray × Bool → Option (Int × Int × ByteArray × Bool)
  | [], r => some r
  | x :: xs, r => (disk_Get.f l0 l1 a2 a3 x).bind fun g => (cell_Take.f k g.1).bind fun t => cell_best.go k l0 l1 a2 a3 xs (if t.2.2 = 0 ∧ (r.2.2.2 = false ∨ t.1 > r.2.1) then (x, t.1, t.2.1, true) else r)
def cell_best.f (k : Nat) (l0_0 : List ByteArray) (l0_1 : List S77) (a0_2 : Int) (a0_3 : Bool) (l1 : List Int) : Option (Int × Int × ByteArray × Bool) := cell_best.go k l0_0 l0_1 a0_2 a0_3 l1 (0, 0, ⟨#[]⟩, false)
theorem cell_best.mono_go (k : Nat) (l0 : List ByteArray) (l1 : List S77) (a2 : Int) (a3 : Bool) : ∀ (l : List Int) (r : Int × Int × ByteArray × Bool), LeO (cell_best.go k l0 l1 a2 a3 l r) (cell_best.go (k + 1) l0 l1 a2 a3 l r)
  | [], _ => LeO.refl _
  | x :: xs, r => LeO.bind (LeO.refl _) (fun g => LeO.bind (cell_Take.mono _ _) (fun t => cell_best.mono_go k l0 l1 a2 a3 xs _))
theorem cell_best.mono : ∀ l0_0 l0_1 a0_2 a0_3 l1 k, LeO (cell_best.f k l0_0 l0_1 a0_2 a0_3 l1) (cell_best.f (k + 1) l0_0 l0_1 a0_2 a0_3 l1) := fun l0 l1 a2 a3 l k => cell_best.mono_go k l0 l1 a2 a3 l _

/-- What a slot holds, and what it reads as. -/
def cell_got (l0 : List ByteArray) (l1 : List S77) (a2 : Int) (a3 : Bool) (x : Int) : ByteArray × Int := (disk_Get.f l0 l1 a2 a3 x).getD (⟨#[]⟩, 0)
def cell_took (k : Nat) (l0 : List ByteArray) (l1 : List S77) (a2 : Int) (a3 : Bool) (x : Int) : Int × ByteArray × Int := (cell_Take.f k (cell_got l0 l1 a2 a3 x).1).getD (0, ⟨#[]⟩, 0)
/-- The records of these slots. -/
def cell_recs (k : Nat) (l0 : List ByteArray) (l1 : List S77) (a2 : Int) (a3 : Bool) (l : List Int) : List (Int × Int × ByteArray) := l.filterMap fun x => if (cell_took k l0 l1 a2 a3 x).2.2 = 0 then some (x, (cell_took k l0 l1 a2 a3 x).1, (cell_took k l0 l1 a2 a3 x).2.1) else none
def cell_bstep (r : Int × Int × ByteArray × Bool) (x : Int × Int × ByteArray) : Int × Int × ByteArray × Bool := if r.2.2.2 = false ∨ x.2.1 > r.2.1 then (x.1, x.2.1, x.2.2, true) else r
def cell_bfold (l : List (Int × Int × ByteArray)) : Int × Int × ByteArray × Bool := l.foldl cell_bstep (0, 0, ⟨#[]⟩, false)
/-- Each slot reads as something. -/
def cell_well (k : Nat) (l0 : List ByteArray) (l1 : List S77) (a2 : Int) (a3 : Bool) (x : Int) : Prop := disk_Get.f l0 l1 a2 a3 x = some (cell_got l0 l1 a2 a3 x) ∧ cell_Take.f k (cell_got l0 l1 a2 a3 x).1 = some (cell_took k l0 l1 a2 a3 x)
theorem cell_go_well (k : Nat) (l0 : List ByteArray) (l1 : List S77) (a2 : Int) (a3 : Bool) : ∀ (l : List Int) (r q : Int × Int × ByteArray × Bool), cell_best.go k l0 l1 a2 a3 l r = some q → (∀ x ∈ l, cell_well k l0 l1 a2 a3 x) ∧ (cell_recs k l0 l1 a2 a3 l).foldl cell_bstep r = q
  | [], r, q, h => ⟨(fun x hx => by cases hx), Option.some.inj h⟩
  | x :: xs, r, q, h => by
    obtain ⟨g, hg, h⟩ := Option.bind_eq_some_iff.mp h
    obtain ⟨t, ht, h⟩ := Option.bind_eq_some_iff.mp h
    obtain ⟨h1, h2⟩ := cell_go_well k l0 l1 a2 a3 xs _ q h
    have e1 : cell_got l0 l1 a2 a3 x = g := by unfold cell_got; rw [hg]; rfl
    have e2 : cell_took k l0 l1 a2 a3 x = t := by unfold cell_took; rw [e1, ht]; rfl
    refine ⟨fun y hy => ?_, ?_⟩
    · rcases List.mem_cons.1 hy with rfl | hy
      · exact ⟨by rw [e1]; exact hg, by rw [e1, e2]; exact ht⟩
      · exact h1 y hy
    · rw [← h2]
      unfold cell_recs
      rw [List.filterMap_cons, e2]
      by_cases c : t.2.2 = 0
      · rw [if_pos c]
        simp only [List.foldl_cons]
        congr 1
        unfold cell_bstep
        simp [c]
      · rw [if_neg c, if_neg (fun h => c h.1)]
theorem cell_recs_take (k : Nat) (l0 : List ByteArray) (l1 : List S77) (a2 : Int) (a3 : Bool) (l : List Int) (i : Nat) (h : i < l.length) : cell_recs k l0 l1 a2 a3 (l.take (i + 1)) = if (cell_took k l0 l1 a2 a3 (rd l (i : Int))).2.2 = 0 then cell_recs k l0 l1 a2 a3 (l.take i) ++ [(rd l (i : Int), (cell_took k l0 l1 a2 a3 (rd l (i : Int))).1, (cell_took k l0 l1 a2 a3 (rd l (i : Int))).2.1)] else cell_recs k l0 l1 a2 a3 (l.take i) := by
  have e : rd l (i : Int) = l[i] := by
    unfold rd
    rw [Int.toNat_natCast, List.getD_eq_getElem?_getD, List.getElem?_eq_getElem h]
    rfl
  rw [List.take_succ_eq_append_getElem h, e]
  unfold cell_recs
  rw [List.filterMap_append]
  by_cases c : (cell_took k l0 l1 a2 a3 l[i]).2.2 = 0
  · rw [if_pos c, List.filterMap_cons, if_pos c, List.filterMap_nil]
  · rw [if_neg c, List.filterMap_cons, if_neg c, List.filterMap_nil, List.append_nil]
theorem cell_recs_len (k : Nat) (l0 : List ByteArray) (l1 : List S77) (a2 : Int) (a3 : Bool) (l : List Int) (i : Nat) : (cell_recs k l0 l1 a2 a3 (l.take i)).length ≤ i := by
  unfold cell_recs
  refine Nat.le_trans (List.length_filterMap_le _ _) ?_
  exact List.length_take_le _ _
theorem getD_mem_int (l : List Int) (i : Nat) (h : i < l.length) : rd l (i : Int) ∈ l := by
  unfold rd
  rw [Int.toNat_natCast, List.getD_eq_getElem?_getD, List.getElem?_eq_getElem h]
  exact List.getElem_mem h
theorem grown_of_below {w w' : World} (h : Below w.heap.size w w') : w.grownBy w' none := ⟨h.os, h.tape, h.output, h.size, fun k hk _ => h.block k hk⟩
theorem box_read {w : World} {g : Nat} {v : Value} {t : TypeId} (h : w.heap[g]? = some (.cells #[v] t (0, 0))) : w.cell? ⟨g, 0, none⟩ = some v := (blk_cell h 0).trans rfl

/-- What a round keeps: what lay below n₀, and one block besides. -/
def keepsToo (n₀ g : Nat) (W W' : World) : Prop := Below n₀ W W' ∧ W'.heap[g]? = W.heap[g]?
theorem keepsToo_t {n₀ g : Nat} {A B C : World} (h : keepsToo n₀ g A B) (k : keepsToo n₀ g B C) : keepsToo n₀ g A C := ⟨h.1.trans k.1, k.2.trans h.2⟩
theorem keepsToo_b {n₀ g : Nat} {w : World} (hn : n₀ ≤ w.heap.size) (hg : g < w.heap.size) (W : World) (l : Nat) (o o' : Obj) (hl : w.heap.size ≤ l) (h : W.heap[l]? = some o) (hc : o.isCells = false) (hk : o.isWalk = false) : keepsToo n₀ g W (W.putObj l o') :=
  ⟨belowK_b hn W l o o' hl h hc hk, World.putObj_heap_other (by omega)⟩
theorem keepsToo.set {n₀ g : Nat} {W W' : World} (h : keepsToo n₀ g W W') (p : Addr) (v : Value) (h1 : n₀ ≤ p.block) (h2 : g ≠ p.block) : keepsToo n₀ g W (W'.setCell p v) := ⟨h.1.setCell h1 v, (Below.heap_setCell _ _ _ g h2).trans h.2⟩
theorem keepsToo.refl (n₀ g : Nat) (W : World) : keepsToo n₀ g W W := ⟨Below.refl _ _, rfl⟩
theorem keepsToo.new {n₀ g : Nat} {W : World} (o : Obj) (h1 : n₀ ≤ W.heap.size) (h2 : g < W.heap.size) : keepsToo n₀ g W (W.alloc o) := ⟨(Below.refl _ _).alloc h1 _, Below.heap_alloc W o g h2⟩
theorem blk_kept {W W' : World} {row : Option Nat} {B g t : Nat} {cs : Array Value} (h : W.heap[g]? = some (.cells cs t (0, 0))) (hg : W.grownBy W' row) (hr : ∀ r, row = some r → B ≤ r ∧ ∃ o : Obj, W.heap[r]? = some o ∧ o.isCells = false) : W'.heap[g]? = some (.cells cs t (0, 0)) :=
  (hg.block g (blk_lt h) (fun e => by obtain ⟨_, o, ho, hc⟩ := hr g e.symm; rw [h] at ho; cases ho; cases hc)).trans h

section
attribute [local go_sem] Oper.semAt_some
set_option maxRecDepth 100000 in
set_option maxHeartbeats 4000000 in
theorem cell_each1 (k : Nat) (l0 : List ByteArray) (l1 : List S77) (a2 : Int) (a3 : Bool) (sl : List Int) (hw : ∀ x ∈ sl, cell_well k l0 l1 a2 a3 x) (n : Nat) (hn : 1 ≤ n) (l Bs Bd n₀ c0 c1 c : Nat) (A0 A1 : Option Addr) (A : Option Addr) (J Jx : List (Int × Int × ByteArray) → World → Prop)
    (hY : ∀ pre x W, J pre W → pre.length < sl.length → YieldAt Fence.wide (n - 1) Try.prog l #[.agg #[.int .i64 x.1, .int .u64 x.2.1, .string x.2.2]] W fun e W' =>
      (e = .returned (.bool true) ∧ J (pre ++ [x]) W' ∧ keepsToo n₀ Bd W W') ∨ (e = .returned (.bool false) ∧ Jx (pre ++ [x]) W'))
    (W : World) (hJ : AbidesFrom W.heap.size J) (hJx : AbidesFrom W.heap.size Jx) (hn₀ : n₀ ≤ W.heap.size) (hBs : W.heap[Bs]? = some (.cells #[.slice A sl.length c] 85 (0, 0))) (hBd : W.heap[Bd]? = some (.cells #[.slice A0 l0.length c0, .slice A1 l1.length c1, .int .i64 a2, .bool a3] 37 (0, 0)))
    (hr0 : ∀ W', Below n₀ W W' → Kd.C Kd.string W' A0 l0.length l0) (hc0 : l0.length ≤ c0) (hr1 : ∀ W', Below n₀ W W' → Kd.C k77 W' A1 l1.length l1) (hc1 : l1.length ≤ c1) (hr : ∀ W', Below n₀ W W' → Kd.C (Kd.int .i64) W' A sl.length sl) (hlen : sl.length ≤ 9223372036854775807) (h0 : J [] W) :
    CallsIn Fence.wide n Try.prog 52 #[.func (.yield l) #[] #[], .pointer (some ⟨Bs, 0, none⟩), .pointer (some ⟨Bd, 0, none⟩)] W fun e W' => (∃ v, e = .returned v) ∧
      ((∃ ys, ys = cell_recs k l0 l1 a2 a3 sl ∧ J ys W') ∨ (∃ pre, True ∧ Jx pre W')) := by
  have hW := Aside0.mk hw
  have HR0 := Aside0.mk hr0
  have HR1 := Aside0.mk hr1
  have HR := Aside0.mk hr
  have HC0 := Aside0.mk hc0
  have HC1 := Aside0.mk hc1
  have HBs := Aside0.mk hBs
  have HBd := Aside0.mk hBd
  have HJ := Aside0.mk hJ
  have HN := Aside0.mk hn₀
  clear hw hr0 hr1 hr hc0 hc1 hBd hJ hJx hn₀
  have hs0 := box_read hBs
  clear hBs
  have hu37 := Try.underlying37
  refine callsIn_of_wp Try.func52 rfl trivial ?_ rfl
  simp only [Try.ntmps52, List.size_toArray, List.length_cons, List.length_nil, Nat.reduceAdd, Nat.reduceSub, Array.replicate_succ, Array.replicate_zero, List.push_toArray, List.append_toArray, List.nil_append, List.cons_append]
  gi_wp2
  gi_loopw [13] (fun i wr => ∃ q : Nat, q ≤ sl.length ∧ i = .int .i64 q ∧ J (cell_recs k l0 l1 a2 a3 (sl.take q)) wr ∧ keepsToo n₀ Bd W wr)
    (fun i _ => sl.length - (intOf i).toNat)
  case atStart => exact ⟨0, Nat.zero_le _, rfl, h0, Below.refl _ _, rfl⟩
  case round =>
    obtain ⟨q, hq, rfl, hJs, hB, hBq⟩ := hrel
    have hBl := blk_lt (hBq.trans HBd.out)
    have HBl := Aside0.mk hBl
    have HBq := Aside0.mk hBq
    clear hBl hBq
    have HB := Aside0.mk hB
    have HJs := Aside0.mk hJs
    clear hB hJs
    by_cases hlt : q < sl.length
    · have hmem : rd sl (q : Int) ∈ sl := getD_mem_int sl q hlt
      obtain ⟨hg, ht⟩ := hW.out _ hmem
      have HT := Aside0.mk (cell_recs_take k l0 l1 a2 a3 sl q hlt)
      have HP := Aside0.mk (cell_recs_len k l0 l1 a2 a3 sl q)
      obtain ⟨ad, e, hx⟩ := Kd.at_int (HR.out wr HB.out) (q : Int) (by omega) (by omega)
      have HA := Aside0.mk e
      cases e
      rw [Int.toNat_natCast] at hx
      have p0 : (0 ≤ (q : Int)) = True := eq_true (by omega)
      have q0 : ((q : Int) < (sl.length : Int)) = True := eq_true (by omega)
      have hBd' := HBq.out.trans HBd.out
      have HD := Aside0.mk hBd'
      clear hBd'
      have hd0 : wr.cell? ⟨Bd, 0, none⟩ = some (.slice A0 l0.length c0) := (blk_cell HD.out 0).trans rfl
      have hd1 : wr.cell? ⟨Bd, 1, none⟩ = some (.slice A1 l1.length c1) := (blk_cell HD.out 1).trans rfl
      have hd2 : wr.cell? ⟨Bd, 2, none⟩ = some (.int .i64 a2) := (blk_cell HD.out 2).trans rfl
      have hd3 : wr.cell? ⟨Bd, 3, none⟩ = some (.bool a3) := (blk_cell HD.out 3).trans rfl
      clear hmem
      generalize rd sl (q : Int) = x at *
      generalize cell_got l0 l1 a2 a3 x = g at *
      generalize cell_took k l0 l1 a2 a3 x = t at *
      obtain ⟨g1, g2⟩ := g
      obtain ⟨t1, t2, t3⟩ := t
      have HG := Aside0.mk hg
      have HTk := Aside0.mk ht
      clear hg ht
      simp only at HT HTk
      clear h0 hs0
      by_cases c0 : t3 = 0
      · have HT2 := Aside0.mk (HT.out.trans (if_pos c0))
        subst c0
        clear HT
        gi_wp2_with (first | (refine ⟨trivial, ?_⟩; gi_at_call 53; refine (callsIn_wide.2 (disk_Get.calls A0 _ l0 A1 _ l1 a2 a3 x g1 g2 _ (HR0.out wr HB.out) HC0.out (HR1.out wr HB.out) HC1.out HG.out)).mono ?_; rintro e w4 ⟨rfl, hb⟩; have HB4 := Aside0.mk hb; clear hb) | (refine ⟨trivial, ?_⟩; gi_at_call 13; refine (callsIn_wide.2 (cell_Take.calls k g1 t1 t2 0 _ HTk.out)).mono ?_; rintro e w5 ⟨rfl, hb⟩; have HB5 := Aside0.mk (below_step HB4.out hb); clear hb; obtain ⟨fn, tmps, assign, body, hy, hR⟩ := hY _ (x, t1, t2) w5 (HJ.out _ wr w5 none HJs.out (grown_of_below HB5.out) (fun r e => by cases e)) (Nat.lt_of_le_of_lt HP.out hlt); dsimp only at hy))
        refine hR.mono ?_
        rintro e W3 (⟨rfl, hJ3, hk3⟩ | ⟨rfl, hJx3⟩)
        · have HB3 := Aside0.mk (keepsToo_t ⟨HB.out.trans (HB5.out.mono (Nat.le_trans HN.out HB.out.size)), (HB5.out.block Bd HBl.out).trans HBq.out⟩ hk3)
          have HJ3 := Aside0.mk hJ3
          clear hJ3 hk3
          gi_wp2
          go_roundw
          case rel => exact ⟨q + 1, by omega, by go_num, by rw [HT2.out]; exact HJ3.out, HB3.out⟩
          case measure => simp [intOf]; omega
        · gi_wp2
          refine bodyPost_ret (results_none rfl _ _ _) rfl ?_
          exact ⟨⟨_, rfl⟩, .inr ⟨_, trivial, hJx3⟩⟩
      · have HT2 := Aside0.mk (HT.out.trans (if_neg c0))
        have d0 : (t3 == 0) = false := beq_eq_false_iff_ne.mpr c0
        clear HT c0
        gi_wp2_with (first | (refine ⟨trivial, ?_⟩; gi_at_call 53; refine (callsIn_wide.2 (disk_Get.calls A0 _ l0 A1 _ l1 a2 a3 x g1 g2 _ (HR0.out wr HB.out) HC0.out (HR1.out wr HB.out) HC1.out HG.out)).mono ?_; rintro e w4 ⟨rfl, hb⟩; have HB4 := Aside0.mk hb; clear hb) | (refine ⟨trivial, ?_⟩; gi_at_call 13; refine (callsIn_wide.2 (cell_Take.calls k g1 t1 t2 t3 _ HTk.out)).mono ?_; rintro e w5 ⟨rfl, hb⟩; have HB5 := Aside0.mk (below_step HB4.out hb); clear hb))
        refine ⟨fun _ h => (by cases h), ?_⟩
        gi_wp2
        go_roundw
        case rel => exact ⟨q + 1, by omega, by go_num, by rw [HT2.out]; exact HJ.out _ wr w5 none HJs.out (grown_of_below HB5.out) (fun r e => by cases e), HB.out.trans (HB5.out.mono (Nat.le_trans HN.out HB.out.size)), (HB5.out.block Bd HBl.out).trans HBq.out⟩
        case measure => simp [intOf]; omega
    · obtain rfl : q = sl.length := by omega
      gi_wp2
      go_end0
      refine ⟨⟨_, rfl⟩, .inl ⟨_, rfl, ?_⟩⟩
      have := HJs.out
      rw [List.take_length] at this
      exact this

theorem cell_stops (k : Nat) (l0 : List ByteArray) (l1 : List S77) (a2 : Int) (a3 : Bool) (sl : List Int) (hw : ∀ x ∈ sl, cell_well k l0 l1 a2 a3 x) (n : Nat) (hn : 1 ≤ n) (n₀ Bs Bd c0 c1 c : Nat) (A0 A1 : Option Addr) (A : Option Addr) (w : World) (hn₀ : n₀ ≤ w.heap.size)
    (hBs : w.heap[Bs]? = some (.cells #[.slice A sl.length c] 85 (0, 0))) (hBd : w.heap[Bd]? = some (.cells #[.slice A0 l0.length c0, .slice A1 l1.length c1, .int .i64 a2, .bool a3] 37 (0, 0)))
    (hr0 : ∀ W', Below n₀ w W' → Kd.C Kd.string W' A0 l0.length l0) (hc0 : l0.length ≤ c0) (hr1 : ∀ W', Below n₀ w W' → Kd.C k77 W' A1 l1.length l1) (hc1 : l1.length ≤ c1) (hr : ∀ W', Below n₀ w W' → Kd.C (Kd.int .i64) W' A sl.length sl) (hlen : sl.length ≤ 9223372036854775807) :
    SeqStopsK Fence.wide n Try.prog 52 #[.pointer (some ⟨Bs, 0, none⟩), .pointer (some ⟨Bd, 0, none⟩)] (fun x : Int × Int × ByteArray => #[.agg #[.int .i64 x.1, .int .u64 x.2.1, .string x.2.2]]) (keepsToo n₀ Bd) (fun ys => ys = cell_recs k l0 l1 a2 a3 sl) (fun _ => True) sl.length w := fun l J Jx W hW hJ hJx hY h0 =>
  cell_each1 k l0 l1 a2 a3 sl hw n hn l Bs Bd n₀ c0 c1 c A0 A1 A J Jx hY W hJ hJx (Nat.le_trans hn₀ hW.size) ((hW.block Bs (blk_lt hBs)).trans hBs) ((hW.block Bd (blk_lt hBd)).trans hBd)
    (fun W' h => hr0 W' ((hW.mono hn₀).trans h)) hc0 (fun W' h => hr1 W' ((hW.mono hn₀).trans h)) hc1 (fun W' h => hr W' ((hW.mono hn₀).trans h)) hlen h0

set_option maxHeartbeats 1000000 in
theorem cell_each.calls (A0 A1 A : Option Addr) (n0 n1 m c0 c1 c : Nat) (a2 : Int) (a3 : Bool) (w : World) :
    Calls Try.prog 46 #[.agg #[.slice A0 n0 c0, .slice A1 n1 c1, .int .i64 a2, .bool a3], .slice A m c] w fun e w' => e = .returned (.func (.func 52) #[] #[.pointer (some ⟨w.heap.size + 1, 0, none⟩), .pointer (some ⟨w.heap.size, 0, none⟩)]) ∧ w' = (w.alloc (.cells #[.slice A0 n0 c0, .slice A1 n1 c1, .int .i64 a2, .bool a3] 37)).alloc (.cells #[.slice A m c] 85) := by
  have hu37 := Try.underlying37
  go_enter Try.func46, Try.ntmps46
  go_wp2
  go_ret
  exact ⟨rfl, rfl⟩

set_option maxRecDepth 100000 in
set_option maxHeartbeats 8000000 in
theorem cell_best.calls (k : Nat) (A0_0 : Option Addr) (c0_0 : Nat) (l0_0 : List ByteArray) (A0_1 : Option Addr) (c0_1 : Nat) (l0_1 : List (S77)) (a0_2 : Int) (a0_3 : Bool) (A1 : Option Addr) (c1 : Nat) (l1 : List Int) (r1 r2 : Int) (r3 : ByteArray) (r4 : Bool) (w : World) (hr0_0 : Kd.C Kd.string w A0_0 l0_0.length l0_0) (hc0_0 : l0_0.length ≤ c0_0) (hr0_1 : Kd.C k77 w A0_1 l0_1.length l0_1) (hc0_1 : l0_1.length ≤ c0_1) (hr1 : Kd.C (Kd.int .i64) w A1 l1.length l1) (hc1 : l1.length ≤ c1) (h : cell_best.f k l0_0 l0_1 a0_2 a0_3 l1 = some (r1, r2, r3, r4)) :
    Calls Try.prog 37 #[.agg #[.slice A0_0 l0_0.length c0_0, .slice A0_1 l0_1.length c0_1, .int .i64 a0_2, .bool a0_3], .slice A1 l1.length c1] w fun e w' => e = .returned (.tuple #[.agg #[.int .i64 r1, .int .u64 r2, .string r3], .bool r4]) ∧ Below w.heap.size w w' := by
  have hu37 := Try.underlying37
  have hu70 := Try.underlying70
  obtain ⟨hw, hf⟩ := cell_go_well k l0_0 l0_1 a0_2 a0_3 l1 _ _ h
  have HW := Aside0.mk hw
  have HF := Aside0.mk (show cell_bfold (cell_recs k l0_0 l0_1 a0_2 a0_3 l1) = (r1, r2, r3, r4) from hf)
  have HR0 := Aside0.mk hr0_0
  have HR1 := Aside0.mk hr0_1
  have HR := Aside0.mk hr1
  have HC0 := Aside0.mk hc0_0
  have HC1 := Aside0.mk hc0_1
  have HL := Aside0.mk (show l1.length ≤ 9223372036854775807 from hr1.2.1)
  clear h hw hf hr0_0 hr0_1 hr1 hc0_0 hc0_1 hc1
  refine (callsIn_wide (n := 4)).1 ?_
  refine callsIn_of_wp_marks Try.func37 rfl trivial ?_ rfl
  simp only [Try.ntmps37, List.size_toArray, List.length_cons, List.length_nil, Nat.reduceAdd, Nat.reduceSub, Array.replicate_succ, Array.replicate_zero, List.push_toArray, List.append_toArray, List.nil_append, List.cons_append]
  gi_wp2_with (first | (refine ⟨trivial, ?_⟩; gi_at_call 46; refine (callsIn_wide.2 (cell_each.calls _ _ _ _ _ _ _ _ _ _ _ _)).mono ?_; rintro e w' ⟨rfl, rfl⟩))
  have hs1 := blk_new w (.cells #[.slice A0_0 l0_0.length c0_0, .slice A0_1 l0_1.length c0_1, .int .i64 a0_2, .bool a0_3] 37)
  have hB1 := (Below.refl w.heap.size w).alloc (Nat.le_refl _) (.cells #[.slice A0_0 l0_0.length c0_0, .slice A0_1 l0_1.length c0_1, .int .i64 a0_2, .bool a0_3] 37)
  generalize hW1 : w.alloc (.cells #[.slice A0_0 l0_0.length c0_0, .slice A0_1 l0_1.length c0_1, .int .i64 a0_2, .bool a0_3] 37) = W1 at *
  have hz1 : W1.heap.size = w.heap.size + 1 := by rw [← hW1]; simp
  rw [← hz1]
  have hs2 := blk_new W1 (.cells #[.int .i64 0, .int .u64 0, .string ⟨#[]⟩] 70)
  have hB2 := hB1.alloc hB1.size (.cells #[.int .i64 0, .int .u64 0, .string ⟨#[]⟩] 70)
  generalize hW2 : W1.alloc (.cells #[.int .i64 0, .int .u64 0, .string ⟨#[]⟩] 70) = W2 at *
  have hz2 : W2.heap.size = W1.heap.size + 1 := by rw [← hW2]; simp
  rw [← hz2]
  have hs3 := blk_new W2 (.cells #[.int .i64 0, .int .u64 0, .string ⟨#[]⟩] 70)
  have hs23 := blk_alloc hs2 (.cells #[.int .i64 0, .int .u64 0, .string ⟨#[]⟩] 70)
  have hB3 := hB2.alloc hB2.size (.cells #[.int .i64 0, .int .u64 0, .string ⟨#[]⟩] 70)
  generalize hW3 : W2.alloc (.cells #[.int .i64 0, .int .u64 0, .string ⟨#[]⟩] 70) = W3 at *
  have hz3 : W3.heap.size = W2.heap.size + 1 := by rw [← hW3]; simp
  rw [← hz3]
  have hs4 := blk_new W3 (.cells #[.bool false] 4)
  have hs24 := blk_alloc hs23 (.cells #[.bool false] 4)
  have hs34 := blk_alloc hs3 (.cells #[.bool false] 4)
  have hB4 := hB3.alloc hB3.size (.cells #[.bool false] 4)
  generalize hW4 : W3.alloc (.cells #[.bool false] 4) = W4 at *
  have hz4 : W4.heap.size = W3.heap.size + 1 := by rw [← hW4]; simp
  rw [← hz4]
  have hs5 := blk_new W4 (.cells #[.slice A0_0 l0_0.length c0_0, .slice A0_1 l0_1.length c0_1, .int .i64 a0_2, .bool a0_3] 37)
  have hs25 := blk_alloc hs24 (.cells #[.slice A0_0 l0_0.length c0_0, .slice A0_1 l0_1.length c0_1, .int .i64 a0_2, .bool a0_3] 37)
  have hs35 := blk_alloc hs34 (.cells #[.slice A0_0 l0_0.length c0_0, .slice A0_1 l0_1.length c0_1, .int .i64 a0_2, .bool a0_3] 37)
  have hs45 := blk_alloc hs4 (.cells #[.slice A0_0 l0_0.length c0_0, .slice A0_1 l0_1.length c0_1, .int .i64 a0_2, .bool a0_3] 37)
  have hB5 := hB4.alloc hB4.size (.cells #[.slice A0_0 l0_0.length c0_0, .slice A0_1 l0_1.length c0_1, .int .i64 a0_2, .bool a0_3] 37)
  generalize hW5 : W4.alloc (.cells #[.slice A0_0 l0_0.length c0_0, .slice A0_1 l0_1.length c0_1, .int .i64 a0_2, .bool a0_3] 37) = W5 at *
  have hz5 : W5.heap.size = W4.heap.size + 1 := by rw [← hW5]; simp
  rw [← hz5]
  have hs6 := blk_new W5 (.cells #[.slice A1 l1.length c1] 85)
  have hs26 := blk_alloc hs25 (.cells #[.slice A1 l1.length c1] 85)
  have hs36 := blk_alloc hs35 (.cells #[.slice A1 l1.length c1] 85)
  have hs46 := blk_alloc hs45 (.cells #[.slice A1 l1.length c1] 85)
  have hs56 := blk_alloc hs5 (.cells #[.slice A1 l1.length c1] 85)
  have hB6 := hB5.alloc hB5.size (.cells #[.slice A1 l1.length c1] 85)
  generalize hW6 : W5.alloc (.cells #[.slice A1 l1.length c1] 85) = W6 at *
  have hz6 : W6.heap.size = W5.heap.size + 1 := by rw [← hW6]; simp
  clear hW1 hW2 hW3 hW4 hW5 hW6 hs1 hs2 hs3 hs23 hs4 hs24 hs34 hs5 hs25 hs35 hs45 hB1 hB2 hB3 hB4 hB5
  generalize W1.heap.size = g1 at *
  generalize W2.heap.size = g2 at *
  generalize W3.heap.size = g3 at *
  generalize W4.heap.size = g4 at *
  generalize W5.heap.size = g5 at *
  have HB6 := Aside0.mk hB6
  have n12 : g1 ≠ g2 := by omega
  have n13 : g1 ≠ g3 := by omega
  have n23 : g2 ≠ g3 := by omega
  have HZ := Aside0.mk (show w.heap.size ≤ g1 ∧ w.heap.size ≤ g2 ∧ w.heap.size ≤ g3 ∧ w.heap.size ≤ W6.heap.size ∧ g5 < W6.heap.size ∧ g4 < g5 ∧ g3 < g4 ∧ g2 < g3 ∧ g1 < g2 by omega)
  clear hz1 hz2 hz3 hz4 hz5 hz6 n12 n13 n23 hB6
  have h1 : 1 ≤ 4 := by omega
  refine wpIn_rangeFunc_ownH rfl h1 (gf := 52) (lb := #[.pointer (some ⟨g5, 0, none⟩), .pointer (some ⟨g4, 0, none⟩)]) rfl trivial (enters_of Try.func52 (by kernel_rfl) rfl)
    (cell_stops k l0_0 l0_1 a0_2 a0_3 l1 HW.out 3 (by omega) w.heap.size g5 g4 c0_0 c0_1 c1 A0_0 A0_1 A1 W6 HZ.out.2.2.2.1 hs6 hs56 (fun W' h => Kd.C_below HR0.out (HB6.out.trans h)) HC0.out (fun W' h => Kd.C_below HR1.out (HB6.out.trans h)) HC1.out (fun W' h => Kd.C_below HR.out (HB6.out.trans h)) HL.out)
    keepsToo_t (keepsToo_b HZ.out.2.2.2.1 (Nat.lt_trans HZ.out.2.2.2.2.2.1 HZ.out.2.2.2.2.1)) (Below.refl _ _) (fun _ => rfl)
    (fun pre W => (W.heap[g1]? = some (.cells #[.int .i64 0, .int .u64 0, .string ⟨#[]⟩] 70 (0, 0)) ∧ W.heap[g2]? = some (.cells #[.int .i64 (cell_bfold pre).1, .int .u64 (cell_bfold pre).2.1, .string (cell_bfold pre).2.2.1] 70 (0, 0)) ∧ W.heap[g3]? = some (.cells #[.bool (cell_bfold pre).2.2.2] 4 (0, 0)) ∧ g5 < W.heap.size) ∧ Below w.heap.size w W)
    (fun _ _ _ => False)
    (OwnFrom.and (fun s A B row hs hg hr => ⟨blk_kept hs.1 hg hr, blk_kept hs.2.1 hg hr, blk_kept hs.2.2.1 hg hr, Nat.lt_of_lt_of_le hs.2.2.2 hg.size⟩) (ownFrom_below (Nat.le_refl _) HZ.out.2.2.2.1))
    (fun _ _ _ _ _ hs _ _ => hs)
    ⟨⟨hs26, hs36, hs46, HZ.out.2.2.2.2.1⟩, HB6.out⟩
    (fun x a' W => ∃ gx, g5 < gx ∧ W.heap[gx]? = some (.cells #[.int .i64 x.1, .int .u64 x.2.1, .string x.2.2] 70 (0, 0)) ∧ a' = { tmps := #[.agg #[.slice A0_0 l0_0.length c0_0, .slice A0_1 l0_1.length c0_1, .int .i64 a0_2, .bool a0_3], .slice A1 l1.length c1, .pointer (some ⟨w.heap.size, 0, none⟩), undef, .pointer (some ⟨g1, 0, none⟩), .bool false, .pointer (some ⟨g2, 0, none⟩), .pointer (some ⟨g3, 0, none⟩), .pointer (some ⟨gx, 0, none⟩), .agg #[.slice A0_0 l0_0.length c0_0, .slice A0_1 l0_1.length c0_1, .int .i64 a0_2, .bool a0_3], .slice A1 l1.length c1, .func (.func 52) #[] #[.pointer (some ⟨g5, 0, none⟩), .pointer (some ⟨g4, 0, none⟩)], .agg #[.int .i64 x.1, .int .u64 x.2.1, .string x.2.2], undef, undef, undef, undef, undef, undef, undef, undef, undef, undef, undef, undef], defers := [] })
    (fun x a' s A B row hs hg hr => by obtain ⟨gx, h1, h2, h3⟩ := hs; exact ⟨gx, h1, blk_kept h2 hg hr, h3⟩) ?assign ?body ?done ?stop
  case assign =>
    rintro l pre x W K ⟨⟨i1, i2, i3, i4⟩, iB⟩ hK
    have I1 := Aside0.mk i1
    have I2 := Aside0.mk i2
    have I3 := Aside0.mk i3
    have I4 := Aside0.mk i4
    have IB := Aside0.mk iB
    have HK := Aside0.mk hK
    clear i1 i2 i3 i4 iB hK
    gi_wp2
    refine HK.out _ _ ((KeepsOthers.alloc _ _).from _) (keepsToo.new _ IB.out.size (Nat.lt_trans HZ.out.2.2.2.2.2.1 I4.out)) ⟨⟨blk_alloc I1.out _, blk_alloc I2.out _, blk_alloc I3.out _, ?_⟩, IB.out.alloc IB.out.size _⟩ ⟨W.heap.size, I4.out, blk_new _ _, rfl⟩
    have := I4.out
    simp
    omega
  case body =>
    rintro l pre x a' W hl ⟨r, hr⟩ ⟨⟨i1, i2, i3, i4⟩, iB⟩ ⟨gx, h5x, iX, rfl⟩ hlen
    have I1 := Aside0.mk i1
    have I2 := Aside0.mk i2
    have I3 := Aside0.mk i3
    have I4 := Aside0.mk i4
    have IB := Aside0.mk iB
    have IX := Aside0.mk iX
    have H5 := Aside0.mk h5x
    clear i1 i2 i3 i4 iB iX h5x hr hl hlen
    have hfold : cell_bfold (pre ++ [x]) = cell_bstep (cell_bfold pre) x := by unfold cell_bfold; rw [List.foldl_append]; rfl
    have HFo := Aside0.mk hfold
    clear hfold
    obtain ⟨x0, x1, x2⟩ := x
    generalize hq : cell_bfold pre = q at *
    clear hq
    obtain ⟨q0, q1, q2, q3⟩ := q
    have z0 : W.cell? ⟨gx, 0, none⟩ = some (.int .i64 x0) := (blk_cell IX.out 0).trans rfl
    have z1 : W.cell? ⟨gx, 1, none⟩ = some (.int .u64 x1) := (blk_cell IX.out 1).trans rfl
    have z2 : W.cell? ⟨gx, 2, none⟩ = some (.string x2) := (blk_cell IX.out 2).trans rfl
    have y0 : W.cell? ⟨g2, 0, none⟩ = some (.int .i64 q0) := (blk_cell I2.out 0).trans rfl
    have y1 : W.cell? ⟨g2, 1, none⟩ = some (.int .u64 q1) := (blk_cell I2.out 1).trans rfl
    have y2 : W.cell? ⟨g2, 2, none⟩ = some (.string q2) := (blk_cell I2.out 2).trans rfl
    have v0 : W.cell? ⟨g3, 0, none⟩ = some (.bool q3) := (blk_cell I3.out 0).trans rfl
    have f0 := blk_frozen I2.out 0
    have f1 := blk_frozen I2.out 1
    have f2 := blk_frozen I2.out 2
    have f3 := blk_frozen I3.out 0
    have n12 : g1 ≠ g2 := by have := HZ.out; omega
    have n13 : g1 ≠ g3 := by have := HZ.out; omega
    have n23 : g2 ≠ g3 := by have := HZ.out; omega
    have n32 : g3 ≠ g2 := fun e => n23 e.symm
    cases q3 with
    | false =>
      have HST : cell_bstep (q0, q1, q2, false) (x0, x1, x2) = (x0, x1, x2, true) := rfl
      gi_wp2
      clear z0 z1 z2 y0 y1 y2 v0 f0 f1 f2 f3
      refine ⟨((((KeepsOthers.setCell _ _ _).trans (KeepsOthers.setCell _ _ _)).trans (KeepsOthers.setCell _ _ _)).trans (KeepsOthers.setCell _ _ _)).from _, ((((keepsToo.refl _ _ _).set _ _ ?_ ?_).set _ _ ?_ ?_).set _ _ ?_ ?_).set _ _ ?_ ?_, ⟨⟨?_, ?_, ?_, ?_⟩, ?_⟩⟩
      iterate 8 (first | exact HZ.out.2.1 | exact HZ.out.2.2.1 | (have := HZ.out; show g4 ≠ _; dsimp only; omega))
      · exact blk_far (blk_far (blk_far (blk_far I1.out n12 _) n12 _) n12 _) n13 _
      · rw [HFo.out, HST]
        refine blk_far (blk_put (cs := #[.int .i64 x0, .int .u64 x1, .string q2]) (blk_put (cs := #[.int .i64 x0, .int .u64 q1, .string q2]) (blk_put I2.out 0 _ rfl) 1 _ rfl) 2 _ rfl) n23 _
      · rw [HFo.out, HST]
        exact blk_put (blk_far (blk_far (blk_far I3.out n32 _) n32 _) n32 _) 0 _ rfl
      · simpa using I4.out
      · exact (((IB.out.setCell HZ.out.2.1 _).setCell HZ.out.2.1 _).setCell HZ.out.2.1 _).setCell HZ.out.2.2.1 _
    | true =>
      by_cases c : x1 > q1
      · have d1 : decide (x1 > q1) = true := decide_eq_true c
        have d2 : decide (q1 < x1) = true := decide_eq_true c
        have HST : cell_bstep (q0, q1, q2, true) (x0, x1, x2) = (x0, x1, x2, true) := if_pos (.inr c)
        clear c
        gi_wp2
        clear z0 z1 z2 y0 y1 y2 v0 f0 f1 f2 f3
        refine ⟨((((KeepsOthers.setCell _ _ _).trans (KeepsOthers.setCell _ _ _)).trans (KeepsOthers.setCell _ _ _)).trans (KeepsOthers.setCell _ _ _)).from _, ((((keepsToo.refl _ _ _).set _ _ ?_ ?_).set _ _ ?_ ?_).set _ _ ?_ ?_).set _ _ ?_ ?_, ⟨⟨?_, ?_, ?_, ?_⟩, ?_⟩⟩
        iterate 8 (first | exact HZ.out.2.1 | exact HZ.out.2.2.1 | (have := HZ.out; show g4 ≠ _; dsimp only; omega))
        · exact blk_far (blk_far (blk_far (blk_far I1.out n12 _) n12 _) n12 _) n13 _
        · rw [HFo.out, HST]
          refine blk_far (blk_put (cs := #[.int .i64 x0, .int .u64 x1, .string q2]) (blk_put (cs := #[.int .i64 x0, .int .u64 q1, .string q2]) (blk_put I2.out 0 _ rfl) 1 _ rfl) 2 _ rfl) n23 _
        · rw [HFo.out, HST]
          exact blk_put (blk_far (blk_far (blk_far I3.out n32 _) n32 _) n32 _) 0 _ rfl
        · simpa using I4.out
        · exact (((IB.out.setCell HZ.out.2.1 _).setCell HZ.out.2.1 _).setCell HZ.out.2.1 _).setCell HZ.out.2.2.1 _
      · have d1 : decide (x1 > q1) = false := decide_eq_false c
        have d2 : decide (q1 < x1) = false := decide_eq_false c
        have HST : cell_bstep (q0, q1, q2, true) (x0, x1, x2) = (q0, q1, q2, true) := if_neg (fun h => h.elim (fun h => by cases h) c)
        clear c
        gi_wp2
        clear z0 z1 z2 y0 y1 y2 v0 f0 f1 f2 f3
        refine ⟨KeepsFrom.refl _ _, keepsToo.refl _ _ _, ⟨⟨I1.out, ?_, ?_, I4.out⟩, IB.out⟩⟩
        · rw [HFo.out, HST]
          exact I2.out
        · rw [HFo.out, HST]
          exact I3.out
  case done =>
    rintro D ys W hD rfl ⟨⟨i1, i2, i3, i4⟩, iB⟩ hK
    have I1 := Aside0.mk i1
    have I2 := Aside0.mk i2
    have I3 := Aside0.mk i3
    have I4 := Aside0.mk i4
    have IB := Aside0.mk iB
    clear i1 i2 i3 i4 iB
    have hq := HF.out
    rw [hq] at I2 I3
    clear hq
    have z0 : W.cell? ⟨g1, 0, none⟩ = some (.int .i64 0) := (blk_cell I1.out 0).trans rfl
    have z1 : W.cell? ⟨g1, 1, none⟩ = some (.int .u64 0) := (blk_cell I1.out 1).trans rfl
    have z2 : W.cell? ⟨g1, 2, none⟩ = some (.string ⟨#[]⟩) := (blk_cell I1.out 2).trans rfl
    have y0 : W.cell? ⟨g2, 0, none⟩ = some (.int .i64 r1) := (blk_cell I2.out 0).trans rfl
    have y1 : W.cell? ⟨g2, 1, none⟩ = some (.int .u64 r2) := (blk_cell I2.out 1).trans rfl
    have y2 : W.cell? ⟨g2, 2, none⟩ = some (.string r3) := (blk_cell I2.out 2).trans rfl
    have v0 : W.cell? ⟨g3, 0, none⟩ = some (.bool r4) := (blk_cell I3.out 0).trans rfl
    have f0 := blk_frozen I1.out 0
    have f1 := blk_frozen I1.out 1
    have f2 := blk_frozen I1.out 2
    have n31 : g3 ≠ g1 := by have := HZ.out; omega
    have e3 : (((W.setCell ⟨g1, 0, none⟩ (.int .i64 r1)).setCell ⟨g1, 1, none⟩ (.int .u64 r2)).setCell ⟨g1, 2, none⟩ (.string r3)).cell? ⟨g3, 0, none⟩ = some (.bool r4) :=
      (cell_far (p := ⟨g1, _, none⟩) n31 _).trans ((cell_far (p := ⟨g1, _, none⟩) n31 _).trans ((cell_far (p := ⟨g1, _, none⟩) n31 _).trans v0))
    gi_wp2
    gi_region
    have hK' : ((((W.setCell ⟨g1, 0, none⟩ (.int .i64 r1)).setCell ⟨g1, 1, none⟩ (.int .u64 r2)).setCell ⟨g1, 2, none⟩ (.string r3)).drew).heap[D]? = some (.deferred (some [])) :=
      (((KeepsOthers.setCell _ _ _).trans (KeepsOthers.setCell _ _ _)).trans (KeepsOthers.setCell _ _ _)).same D _ hK rfl
    have hBk : ((((W.setCell ⟨g1, 0, none⟩ (.int .i64 r1)).setCell ⟨g1, 1, none⟩ (.int .u64 r2)).setCell ⟨g1, 2, none⟩ (.string r3)).drew).heap[g1]? = some (.cells #[.int .i64 r1, .int .u64 r2, .string r3] 70 (0, 0)) :=
      blk_put (cs := #[.int .i64 r1, .int .u64 r2, .string ⟨#[]⟩]) (blk_put (cs := #[.int .i64 r1, .int .u64 0, .string ⟨#[]⟩]) (blk_put I1.out 0 _ rfl) 1 _ rfl) 2 _ rfl
    have hBB : Below w.heap.size w ((((W.setCell ⟨g1, 0, none⟩ (.int .i64 r1)).setCell ⟨g1, 1, none⟩ (.int .u64 r2)).setCell ⟨g1, 2, none⟩ (.string r3)).drew) := (((IB.out.setCell HZ.out.1 _).setCell HZ.out.1 _).setCell HZ.out.1 _).drew
    generalize (((W.setCell ⟨g1, 0, none⟩ (.int .i64 r1)).setCell ⟨g1, 1, none⟩ (.int .u64 r2)).setCell ⟨g1, 2, none⟩ (.string r3)).drew = W9 at *
    clear z0 z1 z2 y0 y1 y2 v0 f0 f1 f2 e3 n31
    have HK := Aside0.mk hK'
    have HBk := Aside0.mk hBk
    have HBB := Aside0.mk hBB
    clear hK' hBk hBB hK
    gi_wp2
    refine ⟨by simp, .inl ⟨_, _, rfl, run_takeDeferred HK.out, ?_⟩⟩
    refine ⟨_, results_ct rfl _ _ g1 70 #[.int .i64 r1, .int .u64 r2, .string r3] (0, 0) _ rfl ((World.putObj_heap_other (fun e => ?_)).trans HBk.out) Try.underlying70 rfl (by kernel_rfl), rfl, ?_⟩
    · have h1 := HBk.out
      have h2 := HK.out
      first | (rw [e] at h2; rw [h1] at h2; cases h2) | (rw [← e] at h2; rw [h1] at h2; cases h2)
    · exact HBB.out.trans (belowK_b (w := w) (Nat.le_refl _) W9 D _ _ (Nat.le_trans HZ.out.2.2.2.1 hD) HK.out rfl rfl)
  case stop =>
    rintro D c pre W _ _ h _
    exact h.elim
end

end Go.Proofs.Ythnhfmmiaknhgaa.PAll
