/- The range over a disk's slots: what the iterator hands out, and that it does. -/
import Derived.RangeFuncNested
import Derived.RangeFuncBound
import Derived.RangeFuncCalls
import Derived.RangeFuncLeaves
import Derived.RangeFuncBox
import Derived.Shelf.Abstract
import Derived.OwnWalkIn
import Derived.TacticsInMore
import Derived.LoopNIn
import Derived.LoopIn
import Derived.Test.YtffjbbedjddpmaaPAllx10
import Derived.Test.YtffjbbedjddpmaaPAllx9
import Derived.Test.YtffjbbedjddpmaaPAllx11
namespace Go.Proofs.Ytffjbbedjddpmaa.PAll
open Go.RowKit Go.Shelf Go.Proofs.YtffjbbedjddpmaaW.PrintWords Go.Proofs.YtffjbbedjddpmaaW.PrintLast Go.Proofs.YtffjbbedjddpmaaW.PrintMore
set_option linter.unusedVariables false
set_option linter.unusedSimpArgs false
/-- What the slots have: slot, empty, bad, the key, the bytes. -/
def shelf_go (k : Nat) (l0 : List ByteArray) (l1 : List S94) (a2 : Int) (a3 : Bool) : Nat → Nat → Option (List (Int × Bool × Bool × Int × Int × ByteArray))
  | 0, _ => some []
  | m + 1, i => (disk_Get.f l0 l1 a2 a3 (i : Int)).bind fun g => (shelf_Take.f k g.1).bind fun t => (shelf_go k l0 l1 a2 a3 m (i + 1)).bind fun r =>
      some (((i : Int), decide (g.1.toList = []), !decide (g.1.toList = []) && decide (t.2.2.2 ≠ 0), (if t.2.2.2 = 0 then t.1 else 0), (if t.2.2.2 = 0 then t.2.1 else 0), t.2.2.1) :: r)
theorem shelf_go_mono (k : Nat) (l0 : List ByteArray) (l1 : List S94) (a2 : Int) (a3 : Bool) : ∀ m i, LeO (shelf_go k l0 l1 a2 a3 m i) (shelf_go (k + 1) l0 l1 a2 a3 m i)
  | 0, _ => LeO.refl _
  | m + 1, i => LeO.bind (LeO.refl _) (fun g => LeO.bind (shelf_Take.mono _ _) (fun t => LeO.bind (shelf_go_mono k l0 l1 a2 a3 m (i + 1)) (fun r => LeO.refl _)))
def spotFull (p : Int × Bool × Bool × Int × Int × ByteArray) : Bool := !p.2.1 && !p.2.2.1
/-- The first shard of this key. -/
def spotFind (v x : Int) : List (Int × Bool × Bool × Int × Int × ByteArray) → ByteArray × Int
  | [] => (⟨#[]⟩, 7)
  | p :: l => if spotFull p = true ∧ p.2.2.2.1 = v ∧ p.2.2.2.2.1 = x then (p.2.2.2.2.2, 0) else spotFind v x l
/-- What a slot holds, and what it reads as. -/
def shelf_got (l0 : List ByteArray) (l1 : List S94) (a2 : Int) (a3 : Bool) (i : Nat) : ByteArray × Int := (disk_Get.f l0 l1 a2 a3 (i : Int)).getD (⟨#[]⟩, 0)
def shelf_took (k : Nat) (l0 : List ByteArray) (l1 : List S94) (a2 : Int) (a3 : Bool) (i : Nat) : Int × Int × ByteArray × Int := (shelf_Take.f k (shelf_got l0 l1 a2 a3 i).1).getD (0, 0, ⟨#[]⟩, 0)
abbrev Spot := Int × Bool × Bool × Int × Int × ByteArray
def shelf_spot (k : Nat) (l0 : List ByteArray) (l1 : List S94) (a2 : Int) (a3 : Bool) (i : Nat) : Spot :=
  ((i : Int), decide ((shelf_got l0 l1 a2 a3 i).1.toList = []), !decide ((shelf_got l0 l1 a2 a3 i).1.toList = []) && decide ((shelf_took k l0 l1 a2 a3 i).2.2.2 ≠ 0), (if (shelf_took k l0 l1 a2 a3 i).2.2.2 = 0 then (shelf_took k l0 l1 a2 a3 i).1 else 0), (if (shelf_took k l0 l1 a2 a3 i).2.2.2 = 0 then (shelf_took k l0 l1 a2 a3 i).2.1 else 0), (shelf_took k l0 l1 a2 a3 i).2.2.1)
def spotVal (p : Spot) : Value := .agg #[.int .i64 p.1, .bool p.2.1, .bool p.2.2.1, .int .i64 p.2.2.2.1, .int .i64 p.2.2.2.2.1, .string p.2.2.2.2.2]
/-- What the first i slots have. -/
def shelf_upto (k : Nat) (l0 : List ByteArray) (l1 : List S94) (a2 : Int) (a3 : Bool) (i : Nat) : List Spot := (List.range i).map (shelf_spot k l0 l1 a2 a3)
theorem shelf_upto_succ (k : Nat) (l0 : List ByteArray) (l1 : List S94) (a2 : Int) (a3 : Bool) (i : Nat) : shelf_upto k l0 l1 a2 a3 (i + 1) = shelf_upto k l0 l1 a2 a3 i ++ [shelf_spot k l0 l1 a2 a3 i] := by
  unfold shelf_upto
  rw [List.range_succ, List.map_append, List.map_singleton]
theorem shelf_upto_len (k : Nat) (l0 : List ByteArray) (l1 : List S94) (a2 : Int) (a3 : Bool) (i : Nat) : (shelf_upto k l0 l1 a2 a3 i).length = i := by
  unfold shelf_upto
  rw [List.length_map, List.length_range]
/-- A slot reads as something. -/
def shelf_well (k : Nat) (l0 : List ByteArray) (l1 : List S94) (a2 : Int) (a3 : Bool) (i : Nat) : Prop := disk_Get.f l0 l1 a2 a3 (i : Int) = some (shelf_got l0 l1 a2 a3 i) ∧ shelf_Take.f k (shelf_got l0 l1 a2 a3 i).1 = some (shelf_took k l0 l1 a2 a3 i)
theorem shelf_go_well (k : Nat) (l0 : List ByteArray) (l1 : List S94) (a2 : Int) (a3 : Bool) : ∀ (m i : Nat) (q : List Spot), shelf_go k l0 l1 a2 a3 m i = some q → (∀ j, i ≤ j → j < i + m → shelf_well k l0 l1 a2 a3 j) ∧ q = (List.range' i m).map (shelf_spot k l0 l1 a2 a3)
  | 0, i, q, h => ⟨fun j h1 h2 => by omega, (Option.some.inj h).symm⟩
  | m + 1, i, q, h => by
    obtain ⟨g, hg, h⟩ := Option.bind_eq_some_iff.mp h
    obtain ⟨t, ht, h⟩ := Option.bind_eq_some_iff.mp h
    obtain ⟨r, hr, h⟩ := Option.bind_eq_some_iff.mp h
    obtain ⟨h1, h2⟩ := shelf_go_well k l0 l1 a2 a3 m (i + 1) r hr
    have e1 : shelf_got l0 l1 a2 a3 i = g := by unfold shelf_got; rw [hg]; rfl
    have e2 : shelf_took k l0 l1 a2 a3 i = t := by unfold shelf_took; rw [e1, ht]; rfl
    refine ⟨fun j hj1 hj2 => ?_, ?_⟩
    · by_cases c : j = i
      · subst c
        exact ⟨by rw [e1]; exact hg, by rw [e1, e2]; exact ht⟩
      · exact h1 j (by omega) (by omega)
    · rw [← Option.some.inj h, List.range'_succ, List.map_cons, ← h2]
      unfold shelf_spot
      rw [e1, e2]
theorem shelf_all_well {k : Nat} {l0 : List ByteArray} {l1 : List S94} {a2 : Int} {a3 : Bool} {n : Nat} {q : List Spot} (h : shelf_go k l0 l1 a2 a3 n 0 = some q) : (∀ j, j < n → shelf_well k l0 l1 a2 a3 j) ∧ q = shelf_upto k l0 l1 a2 a3 n := by
  obtain ⟨h1, h2⟩ := shelf_go_well k l0 l1 a2 a3 n 0 q h
  exact ⟨fun j hj => h1 j (by omega) (by omega), by rw [h2]; unfold shelf_upto; rw [List.range_eq_range']⟩
theorem grown_of_below {w w' : World} (h : Below w.heap.size w w') : w.grownBy w' none := ⟨h.os, h.tape, h.output, h.size, fun k hk _ => h.block k hk⟩
theorem box_read {w : World} {g : Nat} {v : Value} {t : TypeId} (h : w.heap[g]? = some (.cells #[v] t (0, 0))) : w.cell? ⟨g, 0, none⟩ = some v := (blk_cell h 0).trans rfl

/-- What a round keeps: what lay below n₀, and one block besides. -/
def keepsToo (n₀ g : Nat) (W W' : World) : Prop := Below n₀ W W' ∧ W'.heap[g]? = W.heap[g]?
theorem keepsToo_t {n₀ g : Nat} {A B C : World} (h : keepsToo n₀ g A B) (k : keepsToo n₀ g B C) : keepsToo n₀ g A C := ⟨h.1.trans k.1, k.2.trans h.2⟩
theorem keepsToo_b {n₀ g : Nat} {w : World} (hn : n₀ ≤ w.heap.size) (hg : g < w.heap.size) (W : World) (l : Nat) (o o' : Obj) (hl : w.heap.size ≤ l) (h : W.heap[l]? = some o) (hc : o.isCells = false) (hk : o.isWalk = false) : keepsToo n₀ g W (W.putObj l o') :=
  ⟨belowK_b hn W l o o' hl h hc hk, World.putObj_heap_other (by omega)⟩
theorem keepsToo.set {n₀ g : Nat} {W W' : World} (h : keepsToo n₀ g W W') (p : Addr) (v : Value) (h1 : n₀ ≤ p.block) (h2 : g ≠ p.block) : keepsToo n₀ g W (W'.setCell p v) := ⟨h.1.setCell h1 v, (Below.heap_setCell _ _ _ g h2).trans h.2⟩
theorem keepsToo.refl (n₀ g : Nat) (W : World) : keepsToo n₀ g W W := ⟨Below.refl _ _, rfl⟩
theorem keepsToo.new {n₀ g : Nat} {W : World} (o : Obj) (h1 : n₀ ≤ W.heap.size) (h2 : g < W.heap.size) : keepsToo n₀ g W (W.alloc o) := ⟨(Below.refl _ _).alloc h1 _, Below.heap_alloc W o g h2⟩
theorem blk_kept {W W' : World} {row : Option Nat} {B g t : Nat} {cs : Array Value} (h : W.heap[g]? = some (.cells cs t (0, 0))) (hg : W.grownBy W' row) (hr : ∀ r, row = some r → B ≤ r ∧ ∃ o : Obj, W.heap[r]? = some o ∧ o.isCells = false) : W'.heap[g]? = some (.cells cs t (0, 0)) :=
  (hg.block g (blk_lt h) (fun e => by obtain ⟨_, o, ho, hc⟩ := hr g e.symm; rw [h] at ho; cases ho; cases hc)).trans h

section
attribute [local go_sem] Oper.semAt_some
set_option maxRecDepth 100000 in
set_option maxHeartbeats 4000000 in
theorem shelf_all1 (k : Nat) (l0 : List ByteArray) (l1 : List S94) (a2 : Int) (a3 : Bool) (hw : ∀ j, j < l0.length → shelf_well k l0 l1 a2 a3 j) (n : Nat) (hn : 1 ≤ n) (l Bd n₀ c0 c1 : Nat) (A0 A1 : Option Addr) (J Jx : List Spot → World → Prop)
    (G : Spot → Prop) (hG : ∀ j, j < l0.length → G (shelf_spot k l0 l1 a2 a3 j)) (hY : ∀ pre x W, J pre W → pre.length < l0.length → G x → YieldAt Fence.wide (n - 1) Try.prog l #[spotVal x] W fun e W' =>
      (e = .returned (.bool true) ∧ J (pre ++ [x]) W' ∧ keepsToo n₀ Bd W W') ∨ (e = .returned (.bool false) ∧ Jx (pre ++ [x]) W'))
    (W : World) (hJ : AbidesFrom W.heap.size J) (hn₀ : n₀ ≤ W.heap.size) (hBd : W.heap[Bd]? = some (.cells #[.slice A0 l0.length c0, .slice A1 l1.length c1, .int .i64 a2, .bool a3] 25 (0, 0)))
    (hr0 : ∀ W', Below n₀ W W' → Kd.C Kd.string W' A0 l0.length l0) (hc0 : l0.length ≤ c0) (hr1 : ∀ W', Below n₀ W W' → Kd.C k94 W' A1 l1.length l1) (hc1 : l1.length ≤ c1) (hlen : l0.length ≤ 9223372036854775807) (h0 : J [] W) :
    CallsIn Fence.wide n Try.prog 55 #[.func (.yield l) #[] #[], .pointer (some ⟨Bd, 0, none⟩)] W fun e W' => (∃ v, e = .returned v) ∧
      ((∃ ys, ys = shelf_upto k l0 l1 a2 a3 l0.length ∧ J ys W') ∨ (∃ pre, (∃ m, m ≤ l0.length ∧ pre = shelf_upto k l0 l1 a2 a3 m) ∧ Jx pre W')) := by
  have hW := Aside0.mk hw
  have HR0 := Aside0.mk hr0
  have HR1 := Aside0.mk hr1
  have HC0 := Aside0.mk hc0
  have HC1 := Aside0.mk hc1
  have HBd := Aside0.mk hBd
  have HJ := Aside0.mk hJ
  have HN := Aside0.mk hn₀
  clear hw hr0 hr1 hc0 hc1 hBd hJ hn₀
  have hs0 : W.cell? ⟨Bd, 0, none⟩ = some (.slice A0 l0.length c0) := (blk_cell HBd.out 0).trans rfl
  have hu25 := Try.underlying25
  have hu43 := Try.underlying43
  have hu75 := Try.underlying75
  have hu27 := Try.underlying27
  refine callsIn_of_wp Try.func55 rfl trivial ?_ rfl
  simp only [Try.ntmps55, List.size_toArray, List.length_cons, List.length_nil, Nat.reduceAdd, Nat.reduceSub, Array.replicate_succ, Array.replicate_zero, List.push_toArray, List.append_toArray, List.nil_append, List.cons_append]
  gi_wp2
  gi_loopw [12] (fun i wr => ∃ q : Nat, q ≤ l0.length ∧ i = .int .i64 q ∧ J (shelf_upto k l0 l1 a2 a3 q) wr ∧ keepsToo n₀ Bd W wr)
    (fun i _ => l0.length - (intOf i).toNat)
  case atStart => exact ⟨0, Nat.zero_le _, rfl, h0, Below.refl _ _, rfl⟩
  case round =>
    obtain ⟨q, hq, rfl, hJs, hB, hBq⟩ := hrel
    have hBl := blk_lt (hBq.trans HBd.out)
    have HBl := Aside0.mk hBl
    have HBq := Aside0.mk hBq
    clear hBl hBq
    have HB := Aside0.mk hB
    have HJs := Aside0.mk hJs
    clear hB hJs h0 hs0
    by_cases hlt : q < l0.length
    · obtain ⟨hg, ht⟩ := hW.out q hlt
      have HT := Aside0.mk (shelf_upto_succ k l0 l1 a2 a3 q)
      have HGq := Aside0.mk (hG q hlt)
      have HP := Aside0.mk (shelf_upto_len k l0 l1 a2 a3 q)
      have HSp := Aside0.mk (show shelf_spot k l0 l1 a2 a3 q = shelf_spot k l0 l1 a2 a3 q from rfl)
      conv at HSp => arg 1; rhs; unfold shelf_spot
      have hBd' := HBq.out.trans HBd.out
      have HD := Aside0.mk hBd'
      clear hBd'
      have hd0 : wr.cell? ⟨Bd, 0, none⟩ = some (.slice A0 l0.length c0) := (blk_cell HD.out 0).trans rfl
      have hd1 : wr.cell? ⟨Bd, 1, none⟩ = some (.slice A1 l1.length c1) := (blk_cell HD.out 1).trans rfl
      have hd2 : wr.cell? ⟨Bd, 2, none⟩ = some (.int .i64 a2) := (blk_cell HD.out 2).trans rfl
      have hd3 : wr.cell? ⟨Bd, 3, none⟩ = some (.bool a3) := (blk_cell HD.out 3).trans rfl
      generalize shelf_spot k l0 l1 a2 a3 q = sp at *
      generalize shelf_got l0 l1 a2 a3 q = g at *
      generalize shelf_took k l0 l1 a2 a3 q = t at *
      obtain ⟨g1, g2⟩ := g
      obtain ⟨t1, t2, t3, t4⟩ := t
      have HG := Aside0.mk hg
      have HTk := Aside0.mk ht
      clear hg ht
      simp only at HTk HSp
      by_cases ce : g1.toList = ([] : List UInt8)
      · have e0 : (g1.toList == ([] : List UInt8)) = true := beq_iff_eq.mpr ce
        have e1 : (g1.toList != ([] : List UInt8)) = false := bne_eq_false_iff_eq.mpr ce
        rw [decide_eq_true ce, Bool.not_true, Bool.false_and] at HSp
        clear ce
        by_cases c0 : t4 = 0
        · have d0 : (t4 == 0) = true := beq_iff_eq.mpr c0
          rw [if_pos c0, if_pos c0] at HSp
          clear c0
          gi_wp2_with (first | (refine ⟨trivial, ?_⟩; gi_at_call 56; refine (callsIn_wide.2 (disk_Get.calls A0 _ l0 A1 _ l1 a2 a3 (q : Int) g1 g2 _ (HR0.out wr HB.out) HC0.out (HR1.out wr HB.out) HC1.out HG.out)).mono ?_; rintro e w4 ⟨rfl, hb⟩; have HB4 := Aside0.mk hb; clear hb) | (refine ⟨trivial, ?_⟩; gi_at_call 25; refine (callsIn_wide.2 (shelf_Take.calls k g1 t1 t2 t3 t4 _ HTk.out)).mono ?_; rintro e w5 ⟨rfl, hb⟩; have HB5 := Aside0.mk (((below_step HB4.out hb).alloc (below_step HB4.out hb).size (.cells #[.int .i64 t1, .int .i64 t2, .string t3] 43)).alloc (Nat.le_trans (below_step HB4.out hb).size (by simp)) (.cells #[.int .i64 (q : Int), .bool true, .bool false, .int .i64 t1, .int .i64 t2, .string t3] 75)); clear hb; obtain ⟨fn, tmps, assign, body, hy, hR⟩ := hY _ ((q : Int), true, false, t1, t2, t3) _ (HJ.out _ wr _ none HJs.out (grown_of_below HB5.out) (fun r e => by cases e)) (by rw [HP.out]; exact hlt) (HSp.out ▸ HGq.out); dsimp only [spotVal] at hy))
          refine hR.mono ?_
          rintro e W3 (⟨rfl, hJ3, hk3⟩ | ⟨rfl, hJx3⟩)
          · have HB3 := Aside0.mk (keepsToo_t ⟨HB.out.trans (HB5.out.mono (Nat.le_trans HN.out HB.out.size)), (HB5.out.block Bd HBl.out).trans HBq.out⟩ hk3)
            have HJ3 := Aside0.mk hJ3
            clear hJ3 hk3
            gi_wp2
            go_roundw
            case rel => exact ⟨q + 1, by omega, by go_num, by rw [HT.out, HSp.out]; exact HJ3.out, HB3.out⟩
            case measure => simp [intOf]; omega
          · gi_wp2
            refine bodyPost_ret (results_none rfl _ _ _) rfl ?_
            exact ⟨⟨_, rfl⟩, .inr ⟨_, ⟨q + 1, by omega, by rw [HT.out, HSp.out]⟩, hJx3⟩⟩
        · have d0 : (t4 == 0) = false := beq_eq_false_iff_ne.mpr c0
          rw [if_neg c0, if_neg c0] at HSp
          clear c0
          gi_wp2_with (first | (refine ⟨trivial, ?_⟩; gi_at_call 56; refine (callsIn_wide.2 (disk_Get.calls A0 _ l0 A1 _ l1 a2 a3 (q : Int) g1 g2 _ (HR0.out wr HB.out) HC0.out (HR1.out wr HB.out) HC1.out HG.out)).mono ?_; rintro e w4 ⟨rfl, hb⟩; have HB4 := Aside0.mk hb; clear hb) | (refine ⟨trivial, ?_⟩; gi_at_call 25; refine (callsIn_wide.2 (shelf_Take.calls k g1 t1 t2 t3 t4 _ HTk.out)).mono ?_; rintro e w5 ⟨rfl, hb⟩; have HB5 := Aside0.mk (((below_step HB4.out hb).alloc (below_step HB4.out hb).size (.cells #[.int .i64 t1, .int .i64 t2, .string t3] 43)).alloc (Nat.le_trans (below_step HB4.out hb).size (by simp)) (.cells #[.int .i64 (q : Int), .bool true, .bool false, .int .i64 0, .int .i64 0, .string t3] 75)); clear hb; obtain ⟨fn, tmps, assign, body, hy, hR⟩ := hY _ ((q : Int), true, false, 0, 0, t3) _ (HJ.out _ wr _ none HJs.out (grown_of_below HB5.out) (fun r e => by cases e)) (by rw [HP.out]; exact hlt) (HSp.out ▸ HGq.out); dsimp only [spotVal] at hy))
          refine hR.mono ?_
          rintro e W3 (⟨rfl, hJ3, hk3⟩ | ⟨rfl, hJx3⟩)
          · have HB3 := Aside0.mk (keepsToo_t ⟨HB.out.trans (HB5.out.mono (Nat.le_trans HN.out HB.out.size)), (HB5.out.block Bd HBl.out).trans HBq.out⟩ hk3)
            have HJ3 := Aside0.mk hJ3
            clear hJ3 hk3
            gi_wp2
            go_roundw
            case rel => exact ⟨q + 1, by omega, by go_num, by rw [HT.out, HSp.out]; exact HJ3.out, HB3.out⟩
            case measure => simp [intOf]; omega
          · gi_wp2
            refine bodyPost_ret (results_none rfl _ _ _) rfl ?_
            exact ⟨⟨_, rfl⟩, .inr ⟨_, ⟨q + 1, by omega, by rw [HT.out, HSp.out]⟩, hJx3⟩⟩
      · have e0 : (g1.toList == ([] : List UInt8)) = false := beq_eq_false_iff_ne.mpr ce
        have e1 : (g1.toList != ([] : List UInt8)) = true := bne_iff_ne.mpr ce
        rw [decide_eq_false ce, Bool.not_false, Bool.true_and] at HSp
        clear ce
        by_cases c0 : t4 = 0
        · have d0 : (t4 == 0) = true := beq_iff_eq.mpr c0
          have d1 : (t4 != 0) = false := bne_eq_false_iff_eq.mpr c0
          rw [if_pos c0, if_pos c0, decide_eq_false (fun h => h c0)] at HSp
          clear c0
          gi_wp2_with (first | (refine ⟨trivial, ?_⟩; gi_at_call 56; refine (callsIn_wide.2 (disk_Get.calls A0 _ l0 A1 _ l1 a2 a3 (q : Int) g1 g2 _ (HR0.out wr HB.out) HC0.out (HR1.out wr HB.out) HC1.out HG.out)).mono ?_; rintro e w4 ⟨rfl, hb⟩; have HB4 := Aside0.mk hb; clear hb) | (refine ⟨trivial, ?_⟩; gi_at_call 25; refine (callsIn_wide.2 (shelf_Take.calls k g1 t1 t2 t3 t4 _ HTk.out)).mono ?_; rintro e w5 ⟨rfl, hb⟩; have HB5 := Aside0.mk (((below_step HB4.out hb).alloc (below_step HB4.out hb).size (.cells #[.int .i64 t1, .int .i64 t2, .string t3] 43)).alloc (Nat.le_trans (below_step HB4.out hb).size (by simp)) (.cells #[.int .i64 (q : Int), .bool false, .bool false, .int .i64 t1, .int .i64 t2, .string t3] 75)); clear hb; obtain ⟨fn, tmps, assign, body, hy, hR⟩ := hY _ ((q : Int), false, false, t1, t2, t3) _ (HJ.out _ wr _ none HJs.out (grown_of_below HB5.out) (fun r e => by cases e)) (by rw [HP.out]; exact hlt) (HSp.out ▸ HGq.out); dsimp only [spotVal] at hy))
          refine hR.mono ?_
          rintro e W3 (⟨rfl, hJ3, hk3⟩ | ⟨rfl, hJx3⟩)
          · have HB3 := Aside0.mk (keepsToo_t ⟨HB.out.trans (HB5.out.mono (Nat.le_trans HN.out HB.out.size)), (HB5.out.block Bd HBl.out).trans HBq.out⟩ hk3)
            have HJ3 := Aside0.mk hJ3
            clear hJ3 hk3
            gi_wp2
            go_roundw
            case rel => exact ⟨q + 1, by omega, by go_num, by rw [HT.out, HSp.out]; exact HJ3.out, HB3.out⟩
            case measure => simp [intOf]; omega
          · gi_wp2
            refine bodyPost_ret (results_none rfl _ _ _) rfl ?_
            exact ⟨⟨_, rfl⟩, .inr ⟨_, ⟨q + 1, by omega, by rw [HT.out, HSp.out]⟩, hJx3⟩⟩
        · have d0 : (t4 == 0) = false := beq_eq_false_iff_ne.mpr c0
          have d1 : (t4 != 0) = true := bne_iff_ne.mpr c0
          rw [if_neg c0, if_neg c0, decide_eq_true c0] at HSp
          clear c0
          gi_wp2_with (first | (refine ⟨trivial, ?_⟩; gi_at_call 56; refine (callsIn_wide.2 (disk_Get.calls A0 _ l0 A1 _ l1 a2 a3 (q : Int) g1 g2 _ (HR0.out wr HB.out) HC0.out (HR1.out wr HB.out) HC1.out HG.out)).mono ?_; rintro e w4 ⟨rfl, hb⟩; have HB4 := Aside0.mk hb; clear hb) | (refine ⟨trivial, ?_⟩; gi_at_call 25; refine (callsIn_wide.2 (shelf_Take.calls k g1 t1 t2 t3 t4 _ HTk.out)).mono ?_; rintro e w5 ⟨rfl, hb⟩; have HB5 := Aside0.mk (((below_step HB4.out hb).alloc (below_step HB4.out hb).size (.cells #[.int .i64 t1, .int .i64 t2, .string t3] 43)).alloc (Nat.le_trans (below_step HB4.out hb).size (by simp)) (.cells #[.int .i64 (q : Int), .bool false, .bool true, .int .i64 0, .int .i64 0, .string t3] 75)); clear hb; obtain ⟨fn, tmps, assign, body, hy, hR⟩ := hY _ ((q : Int), false, true, 0, 0, t3) _ (HJ.out _ wr _ none HJs.out (grown_of_below HB5.out) (fun r e => by cases e)) (by rw [HP.out]; exact hlt) (HSp.out ▸ HGq.out); dsimp only [spotVal] at hy))
          refine hR.mono ?_
          rintro e W3 (⟨rfl, hJ3, hk3⟩ | ⟨rfl, hJx3⟩)
          · have HB3 := Aside0.mk (keepsToo_t ⟨HB.out.trans (HB5.out.mono (Nat.le_trans HN.out HB.out.size)), (HB5.out.block Bd HBl.out).trans HBq.out⟩ hk3)
            have HJ3 := Aside0.mk hJ3
            clear hJ3 hk3
            gi_wp2
            go_roundw
            case rel => exact ⟨q + 1, by omega, by go_num, by rw [HT.out, HSp.out]; exact HJ3.out, HB3.out⟩
            case measure => simp [intOf]; omega
          · gi_wp2
            refine bodyPost_ret (results_none rfl _ _ _) rfl ?_
            exact ⟨⟨_, rfl⟩, .inr ⟨_, ⟨q + 1, by omega, by rw [HT.out, HSp.out]⟩, hJx3⟩⟩
    · obtain rfl : q = l0.length := by omega
      gi_wp2
      go_end0
      exact ⟨⟨_, rfl⟩, .inl ⟨_, rfl, HJs.out⟩⟩

theorem shelf_stops (k : Nat) (l0 : List ByteArray) (l1 : List S94) (a2 : Int) (a3 : Bool) (hw : ∀ j, j < l0.length → shelf_well k l0 l1 a2 a3 j) (n : Nat) (hn : 1 ≤ n) (n₀ Bd c0 c1 : Nat) (A0 A1 : Option Addr) (w : World) (hn₀ : n₀ ≤ w.heap.size)
    (hBd : w.heap[Bd]? = some (.cells #[.slice A0 l0.length c0, .slice A1 l1.length c1, .int .i64 a2, .bool a3] 25 (0, 0)))
    (hr0 : ∀ W', Below n₀ w W' → Kd.C Kd.string W' A0 l0.length l0) (hc0 : l0.length ≤ c0) (hr1 : ∀ W', Below n₀ w W' → Kd.C k94 W' A1 l1.length l1) (hc1 : l1.length ≤ c1) (hlen : l0.length ≤ 9223372036854775807) :
    SeqStopsK Fence.wide n Try.prog 55 #[.pointer (some ⟨Bd, 0, none⟩)] (fun x : Spot => #[spotVal x]) (keepsToo n₀ Bd) (fun ys => ys = shelf_upto k l0 l1 a2 a3 l0.length) (fun pre => ∃ m, m ≤ l0.length ∧ pre = shelf_upto k l0 l1 a2 a3 m) l0.length w := fun l J Jx W hW hJ _ hY h0 =>
  shelf_all1 k l0 l1 a2 a3 hw n hn l Bd n₀ c0 c1 A0 A1 J Jx (fun _ => True) (fun _ _ => trivial) (fun pre x W a b _ => hY pre x W a b) W hJ (Nat.le_trans hn₀ hW.size) ((hW.block Bd (blk_lt hBd)).trans hBd)
    (fun W' h => hr0 W' ((hW.mono hn₀).trans h)) hc0 (fun W' h => hr1 W' ((hW.mono hn₀).trans h)) hc1 hlen h0

/-- The same at spots of which something is known. -/
theorem shelf_stopsG (G : Spot → Prop) (k : Nat) (l0 : List ByteArray) (l1 : List S94) (a2 : Int) (a3 : Bool) (hw : ∀ j, j < l0.length → shelf_well k l0 l1 a2 a3 j) (hG : ∀ j, j < l0.length → G (shelf_spot k l0 l1 a2 a3 j)) (n : Nat) (hn : 1 ≤ n) (n₀ Bd c0 c1 : Nat) (A0 A1 : Option Addr) (w : World) (hn₀ : n₀ ≤ w.heap.size)
    (hBd : w.heap[Bd]? = some (.cells #[.slice A0 l0.length c0, .slice A1 l1.length c1, .int .i64 a2, .bool a3] 25 (0, 0)))
    (hr0 : ∀ W', Below n₀ w W' → Kd.C Kd.string W' A0 l0.length l0) (hc0 : l0.length ≤ c0) (hr1 : ∀ W', Below n₀ w W' → Kd.C k94 W' A1 l1.length l1) (hc1 : l1.length ≤ c1) (hlen : l0.length ≤ 9223372036854775807) :
    SeqStopsK Fence.wide n Try.prog 55 #[.pointer (some ⟨Bd, 0, none⟩)] (fun x : {x : Spot // G x} => #[spotVal x.1]) (keepsToo n₀ Bd) (fun ys => ys.map (·.1) = shelf_upto k l0 l1 a2 a3 l0.length) (fun pre => ∃ m, m ≤ l0.length ∧ pre.map (·.1) = shelf_upto k l0 l1 a2 a3 m) l0.length w := fun l J Jx W hW hJ hJx hY h0 => by
  refine (shelf_all1 k l0 l1 a2 a3 hw n hn l Bd n₀ c0 c1 A0 A1 (fun pre W => ∃ p : List {x : Spot // G x}, p.map (·.1) = pre ∧ J p W) (fun pre W => ∃ p : List {x : Spot // G x}, p.map (·.1) = pre ∧ Jx p W) G hG ?_ W ?_ (Nat.le_trans hn₀ hW.size) ((hW.block Bd (blk_lt hBd)).trans hBd)
    (fun W' h => hr0 W' ((hW.mono hn₀).trans h)) hc0 (fun W' h => hr1 W' ((hW.mono hn₀).trans h)) hc1 hlen ⟨[], rfl, h0⟩).mono ?_
  · rintro pre x W1 ⟨p, rfl, hp⟩ hlt hx
    obtain ⟨fn, tmps, assign, body, hy, hR⟩ := hY p ⟨x, hx⟩ W1 hp (by simpa using hlt)
    refine ⟨fn, tmps, assign, body, hy, hR.mono ?_⟩
    rintro e W' (⟨rfl, a, b⟩ | ⟨rfl, a⟩)
    · exact .inl ⟨rfl, ⟨p ++ [⟨x, hx⟩], by simp, a⟩, b⟩
    · exact .inr ⟨rfl, ⟨p ++ [⟨x, hx⟩], by simp, a⟩⟩
  · rintro s A B row ⟨p, e, hp⟩ hg hr
    exact ⟨p, e, hJ p A B row hp hg hr⟩
  · rintro e W' ⟨hv, ⟨ys, hys, p, hp, hJp⟩ | ⟨pre, ⟨m, hm, hpre⟩, p, hp, hJp⟩⟩
    · exact ⟨hv, .inl ⟨p, hp.trans hys, hJp⟩⟩
    · exact ⟨hv, .inr ⟨p, ⟨m, hm, hp.trans hpre⟩, hJp⟩⟩

set_option maxHeartbeats 1000000 in
theorem shelf_all.calls (A0 A1 : Option Addr) (n0 n1 c0 c1 : Nat) (a2 : Int) (a3 : Bool) (w : World) :
    Calls Try.prog 36 #[.agg #[.slice A0 n0 c0, .slice A1 n1 c1, .int .i64 a2, .bool a3]] w fun e w' => e = .returned (.func (.func 55) #[] #[.pointer (some ⟨w.heap.size, 0, none⟩)]) ∧ w' = w.alloc (.cells #[.slice A0 n0 c0, .slice A1 n1 c1, .int .i64 a2, .bool a3] 25) := by
  have hu25 := Try.underlying25
  go_enter Try.func36, Try.ntmps36
  go_wp2
  go_ret
  exact ⟨rfl, rfl⟩
end
theorem keepsFrom_below {B : Nat} {W W' : World} (h : Below W.heap.size W W') : KeepsFrom B W W' := ⟨h.size, fun k o _ hk _ => (h.block k (Array.getElem?_eq_some_iff.1 hk).1).trans hk⟩
/-- A block of cells of another type is not the row that an append turns. -/
theorem blk_row_kept {W w1 : World} {tmp : Obj} {g t e base size k : Nat} {cs : Array Value} {v : Value} {xs : List Value} (h : W.heap[g]? = some (.cells cs t (0, 0))) (hte : t ≠ e) (hr : W.ownsRow base e size v k xs) (hg : (W.alloc tmp).grownBy w1 v.ownBlock) : w1.heap[g]? = some (.cells cs t (0, 0)) := by
  refine (hg.block g (by have := blk_lt h; simp; omega) ?_).trans (blk_alloc h tmp)
  rcases hr.2 with ⟨rfl, _⟩ | ⟨b, cap, cur, rfl, _, hgb, _⟩
  · simp [Value.ownBlock]
  · intro e'
    obtain rfl : g = b := by simpa [Value.ownBlock] using e'
    have := h.symm.trans hgb
    simp at this
    exact hte this.2
def spotsOf {G : Spot → Prop} (pre : List {x : Spot // G x}) : List Spot := pre.map (·.1)
theorem spotsOf_add {G : Spot → Prop} (pre : List {x : Spot // G x}) (x : {x : Spot // G x}) : spotsOf (pre ++ [x]) = spotsOf pre ++ [x.1] := by
  unfold spotsOf
  rw [List.map_append, List.map_singleton]
end Go.Proofs.Ytffjbbedjddpmaa.PAll
