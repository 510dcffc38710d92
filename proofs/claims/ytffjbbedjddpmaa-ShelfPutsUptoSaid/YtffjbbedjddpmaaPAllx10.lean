/- Functions of the program as plain Lean functions, and that each call comes to what they say. Laid by a program of this session (hprint.py); Lean checks it. -/
import Derived.Test.YtffjbbedjddpmaaPAllx0
import Derived.Test.YtffjbbedjddpmaaPAllx9
namespace Go.Proofs.Ytffjbbedjddpmaa.PAll
open Go.RowKit Go.Proofs.YtffjbbedjddpmaaW.PrintWords Go.Proofs.YtffjbbedjddpmaaW.PrintLast Go.Proofs.YtffjbbedjddpmaaW.PrintMore
attribute [local go_sem] max2_int min2_int max_two min_two max_three min_three max_four min_four   -- for this text's walks alone
set_option linter.unusedVariables false
set_option linter.unusedSimpArgs false

/-! ### disk_Get: function 56 -/
/-- What the last write to a slot left. -/
def disk_last (l : List S94) (slot : Int) (d : ByteArray) : ByteArray := l.foldl (fun s x => if x.f0 = slot then x.f1 else s) d
theorem disk_last_take (l : List S94) (slot : Int) (d : ByteArray) (i : Nat) (h : i < l.length) : disk_last (l.take (i + 1)) slot d = if (rd_T94 l (i : Int)).f0 = slot then (rd_T94 l (i : Int)).f1 else disk_last (l.take i) slot d := by
  unfold disk_last rd_T94
  rw [List.take_add_one, List.getElem?_eq_getElem h, Option.toList_some, List.foldl_append, Int.toNat_natCast, List.getD_eq_getElem?_getD, List.getElem?_eq_getElem h]
  rfl
def disk_Get.f (l0_0 : List ByteArray) (l0_1 : List (S94)) (a0_2 : Int) (a0_3 : Bool) (a1 : Int) : Option (ByteArray × Int) := if 0 ≤ a1 ∧ a1 < (l0_0.length : Int) then some (disk_last l0_1 a1 (l0_0.getD a1.toNat ⟨#[]⟩), 0) else some (⟨#[]⟩, 1)
def disk_GJ (A0_0 : Option Addr) (c0_0 : Nat) (l0_0 : List ByteArray) (A0_1 : Option Addr) (c0_1 : Nat) (l0_1 : List (S94)) (a0_2 : Int) (a0_3 : Bool) (a1 : Int) (w : World) (a' : Act) (w' : World) : Prop := ∃ (g i : Nat) (u0 u3 u7 u8 u9 u10 u11 u12 u13 u14 u15 u16 u17 u18 u19 u20 u21 u22 u23 u24 u25 u26 u27 u28 u29 u30 u31 u32 u33 u34 u35 u36 : Value), a' = { tmps := #[u0, .int .i64 a1, .pointer (some ⟨g, 0, none⟩), u3, .string ⟨#[]⟩, .int .i64 0, .int .i64 i, u7, u8, u9, u10, u11, u12, u13, u14, u15, u16, u17, u18, u19, u20, u21, u22, u23, u24, u25, u26, u27, u28, u29, u30, u31, u32, u33, u34, u35, u36], defers := [] } ∧ i ≤ l0_1.length ∧ disk_last (l0_1.take i) a1 (l0_0.getD a1.toNat ⟨#[]⟩) = disk_last l0_1 a1 (l0_0.getD a1.toNat ⟨#[]⟩) ∧ w'.heap[g]? = some (.cells #[.slice A0_0 l0_0.length c0_0, .slice A0_1 l0_1.length c0_1, .int .i64 a0_2, .bool a0_3] 25 (0, 0)) ∧ Below w.heap.size w w'
def disk_Gmu (a' : Act) (_ : World) : Nat := (intOf (a'.tmps.getD 6 undef)).toNat
theorem disk_jumps {P : Program} {a : Act} {w : World} {Q : Exit → Act → World → Prop} {c rest : Code} (l : Nat) (J : Act → World → Prop) (μ : Act → World → Nat) (hf : findLabel c l = some (Code.skip.seq rest))
    (pass : ∀ a w, J a w → rest.wp P (Exit.jump l (fun a' w' => J a' w' ∧ μ a' w' < μ a w) Q) a w)
    (first : (∀ a w, J a w → rest.wp P (Exit.jump l J Q) a w) → c.wp P (Exit.jump l J Q) a w) : (Code.scope c).wp P Q a w := by
  refine wp_scope_jumps l J μ hf (first fun a w h => Code.wp_mono (fun e a' w' hq => ?_) (pass a w h)) (fun a w h => ?_)
  · cases e with
    | goto l' => exact ⟨hq.1, hq.2.1⟩
    | _ => exact hq
  · exact wp_seq (wp_skip (pass a w h))
set_option maxHeartbeats 8000000 in
set_option maxRecDepth 100000 in
theorem disk_Get.calls (A0_0 : Option Addr) (c0_0 : Nat) (l0_0 : List ByteArray) (A0_1 : Option Addr) (c0_1 : Nat) (l0_1 : List (S94)) (a0_2 : Int) (a0_3 : Bool) (a1 : Int) (r1 : ByteArray) (r2 : Int) (w : World) (hr0_0 : Kd.C Kd.string w A0_0 l0_0.length l0_0) (hc0_0 : l0_0.length ≤ c0_0) (hr0_1 : Kd.C k94 w A0_1 l0_1.length l0_1) (hc0_1 : l0_1.length ≤ c0_1) (h : disk_Get.f l0_0 l0_1 a0_2 a0_3 a1 = some (r1, r2)) :
    Calls Try.prog 56 #[.agg #[.slice A0_0 l0_0.length c0_0, .slice A0_1 l0_1.length c0_1, .int .i64 a0_2, .bool a0_3], .int .i64 a1] w fun e w' => e = .returned (.tuple #[.string r1, .int .i64 r2]) ∧ Below w.heap.size w w' := by
  have hu25 := Try.underlying25
  have hu47 := Try.underlying94
  have HR0 := Aside0.mk hr0_0
  have HC0 := Aside0.mk hc0_0
  have HR1 := Aside0.mk hr0_1
  have HC1 := Aside0.mk hc0_1
  clear hr0_0 hc0_0 hr0_1 hc0_1
  unfold disk_Get.f at h
  by_cases c : 0 ≤ a1 ∧ a1 < (l0_0.length : Int)
  · rw [if_pos c] at h
    simp only [Option.some.injEq, Prod.mk.injEq] at h
    obtain ⟨rfl, rfl⟩ := h
    have HC := Aside0.mk c
    clear c
    have hh : disk_has.f l0_0 l0_1 a0_2 a0_3 a1 = some true := by
      unfold disk_has.f
      rw [if_pos HC.out.1, decide_eq_true HC.out.2]
    have HH := Aside0.mk hh
    clear hh
    go_enter Try.func56, Try.ntmps56
    go_wp2_with (first | ((with_reducible refine gate_dst (N := 2) rfl ?_); refine box_event ?hg (N := 2) ?hd (cs := #[.slice A0_0 l0_0.length c0_0, .slice A0_1 l0_1.length c0_1, .int .i64 a0_2, .bool a0_3]) (t := 25) ?hr ?_; (case hd => rfl); (case hg => rfl); (case hr => first | (go_simp; done) | (go_simp; rfl)); intro g hg w1 hk hb; have HK := Aside0.mk hk; have HB := Aside0.mk hb; have HG := Aside0.mk hg; clear hk hb hg; have hcz0 : w1.cell? ⟨g, 0, none⟩ = some (.slice A0_0 l0_0.length c0_0) := (blk_cell HK.out 0).trans rfl; have hcz1 : w1.cell? ⟨g, 1, none⟩ = some (.slice A0_1 l0_1.length c0_1) := (blk_cell HK.out 1).trans rfl; have hcz2 : w1.cell? ⟨g, 2, none⟩ = some (.int .i64 a0_2) := (blk_cell HK.out 2).trans rfl; have hcz3 : w1.cell? ⟨g, 3, none⟩ = some (.bool a0_3) := (blk_cell HK.out 3).trans rfl; have hfz0 := blk_frozen HK.out 0; have hfz1 := blk_frozen HK.out 1; have hfz2 := blk_frozen HK.out 2; have hfz3 := blk_frozen HK.out 3))
    refine disk_jumps 0 (disk_GJ A0_0 c0_0 l0_0 A0_1 c0_1 l0_1 a0_2 a0_3 a1 w) disk_Gmu rfl ?_ ?_
    · rintro a' w' ⟨g, i, u0, u3, u7, u8, u9, u10, u11, u12, u13, u14, u15, u16, u17, u18, u19, u20, u21, u22, u23, u24, u25, u26, u27, u28, u29, u30, u31, u32, u33, u34, u35, u36, rfl, hi, hl, hk, hb⟩
      clear hcz0 hcz1 hcz2 hcz3 hfz0 hfz1 hfz2 hfz3
      have HI := Aside0.mk hi
      have HL := Aside0.mk hl
      have HK := Aside0.mk hk
      have HB := Aside0.mk hb
      clear hi hl hk hb
      have hmu : disk_Gmu { tmps := #[u0, .int .i64 a1, .pointer (some ⟨g, 0, none⟩), u3, .string ⟨#[]⟩, .int .i64 0, .int .i64 i, u7, u8, u9, u10, u11, u12, u13, u14, u15, u16, u17, u18, u19, u20, u21, u22, u23, u24, u25, u26, u27, u28, u29, u30, u31, u32, u33, u34, u35, u36], defers := [] } w' = i := rfl
      rw [hmu]
      clear hmu
      have hcz0 : w'.cell? ⟨g, 0, none⟩ = some (.slice A0_0 l0_0.length c0_0) := (blk_cell HK.out 0).trans rfl
      have hcz1 : w'.cell? ⟨g, 1, none⟩ = some (.slice A0_1 l0_1.length c0_1) := (blk_cell HK.out 1).trans rfl
      have hfz0 := blk_frozen HK.out 0
      have hfz1 := blk_frozen HK.out 1
      cases i with
      | zero =>
        have p0 : 0 ≤ a1 := HC.out.1
        have q0 : a1 < (l0_0.length : Int) := HC.out.2
        obtain ⟨ad, e, hx⟩ := Kd.at_string HR0.out a1 p0 q0
        cases e
        replace hx := (HB.out.cell (World.block_lt_of_cell? w _ hx)).trans hx
        replace p0 := eq_true p0
        replace q0 := eq_true q0
        go_wp2
        simp only [Exit.jump]
        go_ret2
        refine ⟨?_, HB.out⟩
        rw [← HL.out]
        rfl
      | succ i =>
        have p0 : 0 ≤ (i : Int) := by omega
        have hil : i < l0_1.length := HI.out
        have q0 : (i : Int) < (l0_1.length : Int) := by omega
        have HL2 := Aside0.mk ((disk_last_take l0_1 a1 (l0_0.getD a1.toNat ⟨#[]⟩) i hil).symm.trans HL.out)
        have HI2 := Aside0.mk hil
        clear hil HI HL
        obtain ⟨ad, e, hx0, hx1⟩ := at_T94 HR1.out i p0 q0
        cases e
        replace hx0 := (HB.out.cell (World.block_lt_of_cell? w _ hx0)).trans hx0
        replace hx1 := (HB.out.cell (World.block_lt_of_cell? w _ hx1)).trans hx1
        simp only [Int.toNat_natCast] at hx0 hx1
        have hwr : wrap64 (i : Int) = (i : Int) := by have := HR1.out.2.1; unfold wrap64; omega
        have hn : decide ((i : Int) < 0) = false := decide_eq_false (by omega)
        have hdp : decide (0 ≤ (i : Int)) = true := decide_eq_true p0
        replace p0 := eq_true p0
        replace q0 := eq_true q0
        by_cases hs : (rd_T94 l0_1 (i : Int)).f0 = a1
        · have HL3 := Aside0.mk HL2.out
          rw [if_pos hs] at HL3
          clear HL2
          have hs2 : ((rd_T94 l0_1 (i : Int)).f0 == a1) = true := by simpa using hs
          clear hs
          go_wp2
          simp only [Exit.jump]
          go_ret2
          refine ⟨?_, HB.out⟩
          rw [← HL3.out]
          rfl
        · have HL3 := Aside0.mk HL2.out
          rw [if_neg hs] at HL3
          clear HL2
          have hs2 : ((rd_T94 l0_1 (i : Int)).f0 == a1) = false := by simpa using hs
          clear hs
          go_wp2
          go_step3
          rw [hwr]
          refine ⟨rfl, ⟨g, i, _, _, _, _, _, _, _, _, _, _, _, _, _, _, _, _, _, _, _, _, _, _, _, _, _, _, _, _, _, _, _, _, rfl, Nat.le_of_lt HI2.out, HL3.out, HK.out, HB.out⟩, ?_⟩
          simp [disk_Gmu, intOf]
    · intro jumps_on
      go_wp2_with (first | (go_at_call 58; (with_reducible refine (disk_has.calls A0_0 c0_0 l0_0 A0_1 c0_1 l0_1 a0_2 a0_3 a1 true _ (Kd.C_below HR0.out HB.out) HC0.out (Kd.C_below HR1.out HB.out) HC1.out HH.out).mono ?_); rintro e w2 ⟨rfl, hb⟩; have HK2 := Aside0.mk (blk_below HK.out hb); have HB2 := Aside0.mk (below_step HB.out hb); clear hb hcz0 hcz1 hcz2 hcz3 hfz0 hfz1 hfz2 hfz3; have hcz0 : w2.cell? ⟨g, 0, none⟩ = some (.slice A0_0 l0_0.length c0_0) := (blk_cell HK2.out 0).trans rfl; have hcz1 : w2.cell? ⟨g, 1, none⟩ = some (.slice A0_1 l0_1.length c0_1) := (blk_cell HK2.out 1).trans rfl; have hfz0 := blk_frozen HK2.out 0; have hfz1 := blk_frozen HK2.out 1))
      go_step3
      rename_i K hK
      apply hK
      refine jumps_on _ _ ⟨g, l0_1.length, _, _, _, _, _, _, _, _, _, _, _, _, _, _, _, _, _, _, _, _, _, _, _, _, _, _, _, _, _, _, _, _, rfl, Nat.le_refl _, ?_, HK2.out, HB2.out⟩
      rw [List.take_length]
  · rw [if_neg c] at h
    simp only [Option.some.injEq, Prod.mk.injEq] at h
    obtain ⟨rfl, rfl⟩ := h
    have hh : disk_has.f l0_0 l0_1 a0_2 a0_3 a1 = some false := by
      unfold disk_has.f
      by_cases h0 : a1 ≥ 0
      · rw [if_pos h0, decide_eq_false (fun h1 => c ⟨h0, h1⟩)]
      · rw [if_neg h0]
    have HH := Aside0.mk hh
    clear hh
    go_enter Try.func56, Try.ntmps56
    go_wp2_with (first | ((with_reducible refine gate_dst (N := 2) rfl ?_); refine box_event ?hg (N := 2) ?hd (cs := #[.slice A0_0 l0_0.length c0_0, .slice A0_1 l0_1.length c0_1, .int .i64 a0_2, .bool a0_3]) (t := 25) ?hr ?_; (case hd => rfl); (case hg => rfl); (case hr => first | (go_simp; done) | (go_simp; rfl)); intro g hg w1 hk hb; have HK := Aside0.mk hk; have HB := Aside0.mk hb; have HG := Aside0.mk hg; clear hk hb hg; have hcz0 : w1.cell? ⟨g, 0, none⟩ = some (.slice A0_0 l0_0.length c0_0) := (blk_cell HK.out 0).trans rfl; have hcz1 : w1.cell? ⟨g, 1, none⟩ = some (.slice A0_1 l0_1.length c0_1) := (blk_cell HK.out 1).trans rfl; have hcz2 : w1.cell? ⟨g, 2, none⟩ = some (.int .i64 a0_2) := (blk_cell HK.out 2).trans rfl; have hcz3 : w1.cell? ⟨g, 3, none⟩ = some (.bool a0_3) := (blk_cell HK.out 3).trans rfl; have hfz0 := blk_frozen HK.out 0; have hfz1 := blk_frozen HK.out 1; have hfz2 := blk_frozen HK.out 2; have hfz3 := blk_frozen HK.out 3))
    refine wp_scope_straight ?_
    go_wp2_with (first | (go_at_call 58; (with_reducible refine (disk_has.calls A0_0 c0_0 l0_0 A0_1 c0_1 l0_1 a0_2 a0_3 a1 false _ (Kd.C_below HR0.out HB.out) HC0.out (Kd.C_below HR1.out HB.out) HC1.out HH.out).mono ?_); rintro e w2 ⟨rfl, hb⟩; have HK2 := Aside0.mk (blk_below HK.out hb); have HB2 := Aside0.mk (below_step HB.out hb); clear hb hcz0 hcz1 hcz2 hcz3 hfz0 hfz1 hfz2 hfz3; have hcz0 : w2.cell? ⟨g, 0, none⟩ = some (.slice A0_0 l0_0.length c0_0) := (blk_cell HK2.out 0).trans rfl; have hcz1 : w2.cell? ⟨g, 1, none⟩ = some (.slice A0_1 l0_1.length c0_1) := (blk_cell HK2.out 1).trans rfl; have hfz0 := blk_frozen HK2.out 0; have hfz1 := blk_frozen HK2.out 1))
    simp only [Exit.noGoto]
    go_ret2
    exact ⟨rfl, HB2.out⟩

end Go.Proofs.Ytffjbbedjddpmaa.PAll
