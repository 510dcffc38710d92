/- Functions of the program as plain Lean functions, and that each call comes to what they say. Laid by a program of this session (hprint.py); Lean checks it. -/
import Derived.Test.YtmaojfeikbdkhaaPAllx0
import Derived.Test.YtmaojfeikbdkhaaPAllx1
import Derived.Test.YtmaojfeikbdkhaaFlip
namespace Go.Proofs.Ytmaojfeikbdkhaa.PAll
open Go.RowKit Go.Proofs.YtmaojfeikbdkhaaW.PrintWords Go.Proofs.YtmaojfeikbdkhaaW.PrintLast Go.Proofs.YtmaojfeikbdkhaaW.PrintMore
attribute [local go_sem] max2_int min2_int max_two min_two max_three min_three max_four min_four   -- for this text's walks alone
set_option linter.unusedVariables false
set_option linter.unusedSimpArgs false

attribute [local go_sem high] eqA47
/-! ### hogsheadref08_Burst: function 25 -/
-- IMPORT Derived.Test.YtmaojfeikbdkhaaFlip
def hogsheadref08_Burst.f (l0_0 : List ByteArray) (l0_1 : List (S47)) (a0_2 : Int) (a0_3 : Bool) (a1 a2 a3 : Int) : Option (List ByteArray × (List (S47)) × Int × Bool × Int) := Mark.burst_f l0_0 l0_1 a0_2 a0_3 a1 a2 a3
set_option maxHeartbeats 40000000 in
set_option maxRecDepth 100000 in
theorem hogsheadref08_Burst.calls (P0_0_ : Nat → Prop) (A0_0 : Option Addr) (c0_0 : Nat) (l0_0 : List ByteArray) (P0_1_ : Nat → Prop) (A0_1 : Option Addr) (c0_1 : Nat) (l0_1 : List (S47)) (a0_2 : Int) (a0_3 : Bool) (a1 a2 a3 : Int) (r1 : List ByteArray) (r2 : List (S47)) (r3 : Int) (r4 : Bool) (r5 : Int) (w : World) (hs0_0 : Kd.V Kd.string 9 w w.heap.size (fun k_ => P0_0_ k_) (.slice A0_0 l0_0.length c0_0) l0_0) (hs0_1 : Kd.V k47 47 w w.heap.size (fun k_ => P0_1_ k_) (.slice A0_1 l0_1.length c0_1) l0_1) (h : hogsheadref08_Burst.f l0_0 l0_1 a0_2 a0_3 a1 a2 a3 = some (r1, r2, r3, r4, r5)) :
    Calls Try.prog 25 #[.agg #[.slice A0_0 l0_0.length c0_0, .slice A0_1 l0_1.length c0_1, .int .i64 a0_2, .bool a0_3], .int .i64 a1, .int .i64 a2, .int .u32 a3] w fun e w' => ∃ v0_ v1_ : Value, e = .returned (.tuple #[.agg #[v0_, v1_, .int .i64 r3, .bool r4], .int .i64 r5]) ∧ Kd.V Kd.string 9 w' w.heap.size (fun k_ => ((P0_0_ k_ ∨ P0_1_ k_) ∨ w.heap.size ≤ k_)) v0_ r1 ∧ Kd.V k47 47 w' w.heap.size (fun k_ => ((P0_0_ k_ ∨ P0_1_ k_) ∨ w.heap.size ≤ k_)) v1_ r2 ∧ Below w.heap.size w w' := by
  have hu25 := Try.underlying25
  have HR0 := qM (Kd.V_reads' hs0_0).2.2
  have HC0 := qM (Kd.V_reads' hs0_0).2.1
  have HR1 := qM (Kd.V_reads' hs0_1).2.2
  have HC1 := qM (Kd.V_reads' hs0_1).2.1
  have HS0 := qM hs0_0
  have HS1 := qM hs0_1
  clear hs0_0 hs0_1
  unfold hogsheadref08_Burst.f Mark.burst_f at h
  have hg : l0_0.length < 8796093022208 ∧ (rdOf ByteArray.empty l0_0 a1).size ≤ 1152921504606846975 ∧ 0 ≤ a3 ∧ a3 < 4294967296 := Decidable.byContradiction fun hg => by
    rw [if_neg hg] at h
    cases h
  rw [if_pos hg] at h
  obtain ⟨hl1, hq1, h0, h1⟩ := hg
  obtain ⟨b, rfl⟩ := Int.eq_ofNat_of_zero_le h0
  have HLEN := qM hl1
  have HQ := qM hq1
  have Hb := qM h1
  clear hl1 hq1 h0 h1
  by_cases cs : 0 ≤ a1 ∧ a1 < (l0_0.length : Int)
  · rw [if_pos cs] at h
    have CS := qM cs
    have HPOS := qM (show 0 < l0_0.length by omega)
    obtain ⟨ad, e, hx⟩ := Kd.at_string HR0.out a1 cs.1 cs.2
    cases e
    have HX := qM hx
    clear hx
    have p0 := eq_true cs.1
    have q0 := eq_true cs.2
    have s1 : decide (a1 < 0) = false := decide_eq_false (by omega)
    have s2 : decide (a1 ≥ (l0_0.length : Int)) = false := decide_eq_false (by omega)
    have s3 : decide ((l0_0.length : Int) ≤ a1) = false := decide_eq_false (by omega)
    clear cs
    generalize hs : rdOf ByteArray.empty l0_0 a1 = s at *
    clear hs
    have hw1 : wrap64 (8 * (s.size : Int)) = 8 * (s.size : Int) := by have := HQ.out; unfold wrap64; omega
    have hw2 : wrap64 (8 * (s.size : Int) - 32) = 8 * (s.size : Int) - 32 := by have := HQ.out; unfold wrap64; omega
    by_cases c2 : a2 < 0
    · rw [if_pos c2] at h
      simp only [Option.some.injEq, Prod.mk.injEq] at h
      obtain ⟨rfl, rfl, rfl, rfl, rfl⟩ := h
      have c2b : decide (a2 < 0) = true := decide_eq_true c2
      clear c2
      go_enter Try.func25, Try.ntmps25
      go_wp2_with (first | ((with_reducible refine gate_dst (N := 4) rfl ?_); refine box_event ?hg (N := 4) ?hd (cs := #[.slice (some ad) l0_0.length c0_0, .slice A0_1 l0_1.length c0_1, .int .i64 a0_2, .bool a0_3]) (t := 25) ?hr ?_; (case hd => rfl); (case hg => rfl); (case hr => first | (go_simp; done) | (go_simp; rfl)); intro g1 hg w_g1 hk hb; have B1 := qM hk; have G1 := qM (show w.heap.size ≤ g1 by rw [hg]; exact Nat.le_refl _); have HB := qM hb; clear hk hb hg) | ((with_reducible refine gate_dst (N := 8) rfl ?_); refine box_event ?hg (N := 8) ?hd (cs := #[.slice none 0 0, .slice none 0 0, .int .i64 0, .bool false]) (t := 25) ?hr ?_; (case hd => rfl); (case hg => rfl); (case hr => first | (go_simp; done) | (go_simp; rfl)); intro g2 hg w_g2 hk hb; have B2 := qM hk; have NE := qM (show g1 ≠ g2 by have := blk_lt B1.out; rw [hg]; omega); have G2 := qM (show w.heap.size ≤ g2 by rw [hg]; exact HB.out.size); replace B1 := qM (blk_below B1.out hb); replace HB := qM (below_step HB.out hb); obtain ⟨z0, z1, z2, z3, f0, f1, f2, f3⟩ := cells4 B1.out; obtain ⟨y0, y1, y2, y3, j0, j1, j2, j3⟩ := cells4 B2.out; have hne1 := NE.out; have hne2 := Ne.symm NE.out; have hx2 := (HB.out.cell (World.block_lt_of_cell? w _ HX.out)).trans HX.out; clear hk hb hg))
      refine bodyPost_ret (results_ct rfl _ _ g2 25 #[.slice (some ad) l0_0.length c0_0, .slice A0_1 l0_1.length c0_1, .int .i64 a0_2, .bool a0_3] (0, 0) _ rfl (puts4 B2.out) Try.underlying25 rfl (by kernel_rfl)) rfl ?_
      have hbf := below_set (j := 3) (v := .bool a0_3) (below_set (j := 2) (v := .int .i64 a0_2) (below_set (j := 1) (v := .slice A0_1 l0_1.length c0_1) (below_set (j := 0) (v := .slice (some ad) l0_0.length c0_0) HB.out G2.out) G2.out) G2.out) G2.out
      exact ⟨_, _, rfl, Kd.V_mono (Kd.V_below HS0.out hbf) (fun k hk => .inl (.inl hk)), Kd.V_mono (Kd.V_below HS1.out hbf) (fun k hk => .inl (.inr hk)), hbf⟩
    · rw [if_neg c2] at h
      have c2b : decide (a2 < 0) = false := decide_eq_false c2
      obtain ⟨a, rfl⟩ := Int.eq_ofNat_of_zero_le (Int.not_lt.mp c2)
      clear c2
      by_cases c3 : (a : Int) > 8 * (s.size : Int) - 32
      · rw [if_pos c3] at h
        simp only [Option.some.injEq, Prod.mk.injEq] at h
        obtain ⟨rfl, rfl, rfl, rfl, rfl⟩ := h
        have c3b : decide ((a : Int) > 8 * (s.size : Int) - 32) = true := decide_eq_true c3
        have c3c : decide (8 * (s.size : Int) - 32 < (a : Int)) = true := decide_eq_true c3
        clear c3
        go_enter Try.func25, Try.ntmps25
        go_wp2_with (first | ((with_reducible refine gate_dst (N := 4) rfl ?_); refine box_event ?hg (N := 4) ?hd (cs := #[.slice (some ad) l0_0.length c0_0, .slice A0_1 l0_1.length c0_1, .int .i64 a0_2, .bool a0_3]) (t := 25) ?hr ?_; (case hd => rfl); (case hg => rfl); (case hr => first | (go_simp; done) | (go_simp; rfl)); intro g1 hg w_g1 hk hb; have B1 := qM hk; have G1 := qM (show w.heap.size ≤ g1 by rw [hg]; exact Nat.le_refl _); have HB := qM hb; clear hk hb hg) | ((with_reducible refine gate_dst (N := 8) rfl ?_); refine box_event ?hg (N := 8) ?hd (cs := #[.slice none 0 0, .slice none 0 0, .int .i64 0, .bool false]) (t := 25) ?hr ?_; (case hd => rfl); (case hg => rfl); (case hr => first | (go_simp; done) | (go_simp; rfl)); intro g2 hg w_g2 hk hb; have B2 := qM hk; have NE := qM (show g1 ≠ g2 by have := blk_lt B1.out; rw [hg]; omega); have G2 := qM (show w.heap.size ≤ g2 by rw [hg]; exact HB.out.size); replace B1 := qM (blk_below B1.out hb); replace HB := qM (below_step HB.out hb); obtain ⟨z0, z1, z2, z3, f0, f1, f2, f3⟩ := cells4 B1.out; obtain ⟨y0, y1, y2, y3, j0, j1, j2, j3⟩ := cells4 B2.out; have hne1 := NE.out; have hne2 := Ne.symm NE.out; have hx2 := (HB.out.cell (World.block_lt_of_cell? w _ HX.out)).trans HX.out; clear hk hb hg))
        refine bodyPost_ret (results_ct rfl _ _ g2 25 #[.slice (some ad) l0_0.length c0_0, .slice A0_1 l0_1.length c0_1, .int .i64 a0_2, .bool a0_3] (0, 0) _ rfl (puts4 B2.out) Try.underlying25 rfl (by kernel_rfl)) rfl ?_
        have hbf := below_set (j := 3) (v := .bool a0_3) (below_set (j := 2) (v := .int .i64 a0_2) (below_set (j := 1) (v := .slice A0_1 l0_1.length c0_1) (below_set (j := 0) (v := .slice (some ad) l0_0.length c0_0) HB.out G2.out) G2.out) G2.out) G2.out
        exact ⟨_, _, rfl, Kd.V_mono (Kd.V_below HS0.out hbf) (fun k hk => .inl (.inl hk)), Kd.V_mono (Kd.V_below HS1.out hbf) (fun k hk => .inl (.inr hk)), hbf⟩
      · rw [if_neg c3] at h
        have c3b : decide ((a : Int) > 8 * (s.size : Int) - 32) = false := decide_eq_false c3
        have c3c : decide (8 * (s.size : Int) - 32 < (a : Int)) = false := decide_eq_false c3
        have HA := qM (show a + 32 ≤ 8 * s.size by omega)
        clear c3
        simp only [Int.toNat_natCast] at h
        simp only [Option.some.injEq, Prod.mk.injEq] at h
        obtain ⟨rfl, rfl, rfl, rfl, rfl⟩ := h
        go_enter Try.func25, Try.ntmps25
        go_wp2_with (first | ((with_reducible refine gate_dst (N := 4) rfl ?_); refine box_event ?hg (N := 4) ?hd (cs := #[.slice (some ad) l0_0.length c0_0, .slice A0_1 l0_1.length c0_1, .int .i64 a0_2, .bool a0_3]) (t := 25) ?hr ?_; (case hd => rfl); (case hg => rfl); (case hr => first | (go_simp; done) | (go_simp; rfl)); intro g1 hg w_g1 hk hb; have B1 := qM hk; have G1 := qM (show w.heap.size ≤ g1 by rw [hg]; exact Nat.le_refl _); have HB := qM hb; clear hk hb hg) | ((with_reducible refine gate_dst (N := 8) rfl ?_); refine box_event ?hg (N := 8) ?hd (cs := #[.slice none 0 0, .slice none 0 0, .int .i64 0, .bool false]) (t := 25) ?hr ?_; (case hd => rfl); (case hg => rfl); (case hr => first | (go_simp; done) | (go_simp; rfl)); intro g2 hg w_g2 hk hb; have B2 := qM hk; have NE := qM (show g1 ≠ g2 by have := blk_lt B1.out; rw [hg]; omega); have G2 := qM (show w.heap.size ≤ g2 by rw [hg]; exact HB.out.size); replace B1 := qM (blk_below B1.out hb); replace HB := qM (below_step HB.out hb); obtain ⟨z0, z1, z2, z3, f0, f1, f2, f3⟩ := cells4 B1.out; obtain ⟨y0, y1, y2, y3, j0, j1, j2, j3⟩ := cells4 B2.out; have hne1 := NE.out; have hne2 := Ne.symm NE.out; have hx2 := (HB.out.cell (World.block_lt_of_cell? w _ HX.out)).trans HX.out; clear hk hb hg) | ((with_reducible refine gate_dst (N := 45) rfl ?_); refine Mark.wpList_bytes _ rfl 9 71 5 (.tmp 44) rfl Try.underlying9 Try.underlying71 Try.underlying5 s rfl ?_; intro g c z w4 hgw hcz hcm hk hb; have HK := qM hk; have N1 := qM (show g1 ≠ g by have := blk_lt B1.out; rw [hgw]; omega); have N2 := qM (show g2 ≠ g by have := blk_lt B2.out; rw [hgw]; omega); have HG := qM (show w.heap.size ≤ g by rw [hgw]; exact HB.out.size); replace B1 := qM (blk_below B1.out hb); replace B2 := qM (blk_below B2.out hb); replace HB := qM (below_step HB.out hb); have HC := qM hcz; have HM := qM hcm; clear hk hb hgw hcz hcm z0 z1 z2 z3 f0 f1 f2 f3 y0 y1 y2 y3 j0 j1 j2 j3 hx2))
        clear hw1 hw2 c2b c3b c3c
        have HL := qM (show s.data.toList.length = s.size from data_length s)
        obtain ⟨a32, ha32⟩ : ∃ x : Nat, x = a + 32 := ⟨_, rfl⟩
        have ea : wrap64 ((a : Int) + 32) = (a32 : Int) := Mark.wrap_32 a a32 s.size ha32 HA.out HQ.out
        have HA32 := qM ha32
        clear ha32
        go_loopg [3, 11] 32 (fun kq v3 v11 w' => ∃ (k b' : Nat) (l : List UInt8), v11 = .int .i64 (k : Int) ∧ v3 = .int .u32 (b' : Int) ∧ Aside0 (k + kq = a32) ∧ Aside0 (b' < 4294967296) ∧ Aside0 (l.length = s.size) ∧ Aside0 (Mark.turnL kq l k b' = Mark.turnL 32 s.data.toList a b) ∧ Aside0 (w'.heap[g]? = some (.cells (Mark.mcells l z) 5 (c, c + 1))) ∧ Aside0 (w'.heap[g1]? = some (.cells #[.slice (some ad) l0_0.length c0_0, .slice A0_1 l0_1.length c0_1, .int .i64 a0_2, .bool a0_3] 25 (0, 0))) ∧ Aside0 (w'.heap[g2]? = some (.cells #[.slice none 0 0, .slice none 0 0, .int .i64 0, .bool false] 25 (0, 0))) ∧ Aside0 (Below w.heap.size w w'))
        case atStart => exact ⟨a, b, s.data.toList, rfl, rfl, ⟨HA32.out.symm⟩, ⟨by have := Hb.out; omega⟩, HL, ⟨rfl⟩, HK, B1, B2, HB⟩
        case round =>
          clear HK B1 B2 HB HL Hb
          obtain ⟨k, b', l, rfl, rfl, HI, Hb, HL, HF, HK, B1, B2, HB⟩ := hrel
          cases gk with
          | zero =>
            have hka : ¬ (k < a32) := by have := HI.out; omega
            have d9 : decide ((k : Int) < (a32 : Int)) = false := decide_eq_false (by omega)
            have hl : Mark.Bts wr w.heap.size 5 (.slice (some ⟨g, 0, none⟩) s.size c) l := by
              have h1 := HL.out
              have h2 := HC.out
              have hz := Mark.mcells_size l z
              exact ⟨g, c, _, _, by rw [h1], HG.out, HK.out, .inr (by rw [hz]; show l.length + z ≤ c; omega), by omega, HM.out (by have := HQ.out; unfold maxLen; omega), by omega, Mark.mcells_take l z⟩
            have HT := qM hl
            clear hl
            have HF2 := qM (show l = Mark.turnL 32 s.data.toList a b from HF.out)
            clear HF HK HC HM
            obtain ⟨z0, z1, z2, z3, f0, f1, f2, f3⟩ := cells4 B1.out
            go_wp2_with (first | ((with_reducible refine gate_dst (N := 78) rfl ?_); refine Kd.R_lit Kd.string _ 9 ?hg (N := 78) ?hd (xs := ([] : List ByteArray)) (inner := []) (ok := fun _ => True) (okp := fun _ => True) ?hr ?hp (fun _ hk => hk) trivial (Below.refl _ _) (Nat.le_refl _) (by simp) ?_; (case hd => rfl); (case hg => rfl); (case hr => first | (go_simp; done) | (go_simp; rfl)); (case hp => exact (Reps.none _ _)); intro v78 w5 ho hb hg_ hnew_; have HNG := qM (show (Value.slice (some ⟨g, 0, none⟩) s.size c).ownBlock ≠ v78.ownBlock from fun e => by obtain ⟨bb, hbb, hle⟩ := hnew_; have e2 : some g = some bb := e.trans hbb; have e3 : g = bb := Option.some.inj e2; have h2 := (Mark.bts_lt HT.out g rfl).2; exact absurd h2 (by rw [e3]; exact Nat.not_lt.mpr hle)); have HO := qM (Kd.R_lower ho HB.out.size); replace B1 := qM (blk_below B1.out hb); replace B2 := qM (blk_below B2.out hb); replace HT := qM (Mark.bts_kept HT.out hb); replace HB := qM (below_step HB.out hb); clear ho hb hg_ hnew_ z0 z1 z2 z3 f0 f1 f2 f3; obtain ⟨z0, z1, z2, z3, f0, f1, f2, f3⟩ := cells4 B1.out) | ((with_reducible refine gate_builtin (b := .append) (xs := #[.tmp 78, .tmp 80]) rfl ?_); (try (refine gate_guard (by rfl) ?_; dsimp only)); at_builtin; refine Kd.R_append_rows Kd.string (w0 := w) w.heap.size rfl (.tmp 78) (.tmp 80) 22 9 (.string ⟨#[]⟩) 16 rfl Try.underlying22 info9 rfl (by decide) (by omega) v78 [] l0_0 _ _ _ (fun _ => True) (fun _ => False) rfl rfl ?aO ?aR (fun _ _ h => h) (fun _ h => h.elim) ?aF ?aB ?aS ?aL ?_; (case aR => exact Kd.C_below HR0.out HB.out); (case aB => exact HB.out); (case aF => exact (fun _ _ => trivial)); (case aO => exact HO.out); (case aS => exact HB.out.size); (case aL => have := HLEN.out; simp only [List.length_nil]; omega); intro v81 w6 ho hb hg hat; rw [List.nil_append] at ho; have hB1 := blk_grown B1.out hg (Kd.R_ne HO.out B1.out (by decide)); have hB2 := blk_grown B2.out hg (Kd.R_ne HO.out B2.out (by decide)); have hT := Mark.bts_grown HT.out hg HNG.out; obtain ⟨go, co, hv, hgo, hgl, hcx⟩ := Kd.R_form ho HPOS.out; subst hv; clear B1 B2 HT HO HB HNG hg hat hgl hcx z0 z1 z2 z3 f0 f1 f2 f3; have HGO := qM hgo; have B1 := qM hB1; have B2 := qM hB2; have HT := qM hT; have HR := qM ho; have HB := qM hb; clear hgo hB1 hB2 hT ho hb; obtain ⟨z0, z1, z2, z3, f0, f1, f2, f3⟩ := cells4 B1.out; obtain ⟨hc7, hf7⟩ := Kd.R_celln ByteArray.empty HR.out a1 CS.out.1 CS.out.2) | ((with_reducible refine gate_dst (N := 85) rfl ?_); refine Mark.wpList_text _ rfl 71 9 5 (.tmp 84) rfl Try.underlying71 Try.underlying5 Try.underlying9 _ rfl w.heap.size l HT.out ?_) | ((with_reducible refine gate_store (t := 9) (p := 86) rfl ?_); refine store_event (t := 9) (p := 86) (v := ?vo7) (w1 := w6.setCell ⟨go, a1.toNat, none⟩ (.string ⟨l.toArray⟩)) ?hg ?ho ?hn ?hr ?_; (case ho => rfl); (case hg => rfl); (case hn => rfl); (case hr => first | (go_simp; done) | (go_simp; rfl)); intro w7 hw; have HP := Kd.R_putg HR.out a1 (⟨l.toArray⟩ : ByteArray); have hgr : w6.grownBy w7 (some go) := (by rw [hw]; exact HP.2); have hR : Kd.R Kd.string 9 w7 w.heap.size (fun _ => True) (.slice (some ⟨go, 0, none⟩) l0_0.length co) (l0_0.set a1.toNat ⟨l.toArray⟩) := (by rw [hw]; exact HP.1); have hB1 := blk_grown B1.out hgr (Kd.R_ne HR.out B1.out (by decide)); have hB2 := blk_grown B2.out hgr (Kd.R_ne HR.out B2.out (by decide)); have hHB : Below w.heap.size w w7 := (by rw [hw]; exact below_set HB.out HGO.out); clear HP B1 B2 HT HR HB hw hgr z0 z1 z2 z3 f0 f1 f2 f3 hc7 hf7; have B1 := qM hB1; have B2 := qM hB2; have HR := qM hR; have HB := qM hHB; clear hB1 hB2 hR hHB; obtain ⟨z0, z1, z2, z3, f0, f1, f2, f3⟩ := cells4 B1.out; obtain ⟨y0, y1, y2, y3, j0, j1, j2, j3⟩ := cells4 B2.out; have hne1 := NE.out; have hne2 := Ne.symm NE.out) | ((with_reducible refine gate_store (t := 22) (p := 88) rfl ?_); refine store_event (t := 22) (p := 88) (v := ?vo6) (w1 := w7.setCell ⟨g1, 0, none⟩ (.slice (some ⟨go, 0, none⟩) l0_0.length co)) ?hg ?ho ?hn ?hr ?_; (case ho => rfl); (case hg => rfl); (case hn => rfl); (case hr => first | (go_simp; done) | (go_simp; rfl)); intro w8 hw; have hB1 : w8.heap[g1]? = some (.cells #[.slice (some ⟨go, 0, none⟩) l0_0.length co, .slice A0_1 l0_1.length c0_1, .int .i64 a0_2, .bool a0_3] 25 (0, 0)) := (by rw [hw]; exact blk_put B1.out 0 _ rfl); have hB2 : w8.heap[g2]? = some (.cells #[.slice none 0 0, .slice none 0 0, .int .i64 0, .bool false] 25 (0, 0)) := (by rw [hw]; exact blk_far B2.out (Ne.symm NE.out) _); have hR : Kd.R Kd.string 9 w8 w.heap.size (fun _ => True) (.slice (some ⟨go, 0, none⟩) l0_0.length co) (l0_0.set a1.toNat ⟨l.toArray⟩) := (by rw [hw]; exact Kd.R_mono (Kd.R_far (p := ⟨g1, 0, none⟩) (Kd.R_types HR.out B1.out (by decide)) (fun _ hk => hk.2) _) (fun _ h => h.1)); have hHB : Below w.heap.size w w8 := (by rw [hw]; exact below_set HB.out G1.out); clear B1 B2 HR HB hw z0 z1 z2 z3 f0 f1 f2 f3 y0 y1 y2 y3 j0 j1 j2 j3; have B1 := qM hB1; have B2 := qM hB2; have HR := qM hR; have HB := qM hHB; clear hB1 hB2 hR hHB; obtain ⟨z0, z1, z2, z3, f0, f1, f2, f3⟩ := cells4 B1.out; obtain ⟨y0, y1, y2, y3, j0, j1, j2, j3⟩ := cells4 B2.out))
            refine bodyPost_ret (results_ct rfl _ _ g2 25 #[.slice (some ⟨go, 0, none⟩) l0_0.length co, .slice A0_1 l0_1.length c0_1, .int .i64 a0_2, .bool a0_3] (0, 0) _ rfl (puts4 B2.out) Try.underlying25 rfl (by kernel_rfl)) rfl ?_
            have hbf := below_set (j := 3) (v := .bool a0_3) (below_set (j := 2) (v := .int .i64 a0_2) (below_set (j := 1) (v := .slice A0_1 l0_1.length c0_1) (below_set (j := 0) (v := .slice (some ⟨go, 0, none⟩) l0_0.length co) HB.out G2.out) G2.out) G2.out) G2.out
            have hRt := Kd.R_types HR.out B2.out (by decide)
            have hRf := Kd.R_far (p := ⟨g2, 3, none⟩) (Kd.R_far (p := ⟨g2, 2, none⟩) (Kd.R_far (p := ⟨g2, 1, none⟩) (Kd.R_far (p := ⟨g2, 0, none⟩) hRt (fun _ hk => hk.2) (.slice (some ⟨go, 0, none⟩) l0_0.length co)) (fun _ hk => hk.2) (.slice A0_1 l0_1.length c0_1)) (fun _ hk => hk.2) (.int .i64 a0_2)) (fun _ hk => hk.2) (.bool a0_3)
            refine ⟨_, _, rfl, ?_, Kd.V_mono (Kd.V_below HS1.out hbf) (fun k hk => .inl (.inr hk)), hbf⟩
            rw [← HF2.out]
            exact Kd.V_mono (Kd.R_V (Kd.R_bound hRf)) (fun k hk => .inr hk.2.1)
          | succ k2 =>
            have hka : k < a32 := by have := HI.out; omega
            have d9 : decide ((k : Int) < (a32 : Int)) = true := decide_eq_true (by omega)
            obtain ⟨m, n, hk, e2, e2b, e3b, e3, e6, pm, qm, ek⟩ := Mark.turn_nums2 k s.size (by have := HI.out; have := HA32.out; have := HA.out; omega) HQ.out
            have HKS := qM hk
            have EK := qM ek
            clear hk ek
            by_cases c4 : b' / 2147483648 = 1
            · have d4 : ((b' : Int) / 2147483648 % 4294967296 == 1) = true := beq_iff_eq.mpr (by omega)
              have d5 : ((b' : Int) / 2147483648 == 1) = true := beq_iff_eq.mpr (by omega)
              have HF2 : Aside0 (Mark.turnL k2 (Mark.flipL l k) (k + 1) (b' % 2147483648 * 2) = Mark.turnL 32 s.data.toList a b) := ⟨by have h1 := HF.out; rw [Mark.turnL, if_pos c4] at h1; exact h1⟩
              clear c4 HF
              go_wp2
              go_loop [12, 13] (fun v12 v13 => ∃ (j x : Nat), v13 = .int .i64 (j : Int) ∧ v12 = .int .u8 (x : Int) ∧ Aside0 (x = 128 / 2 ^ j) ∧ j ≤ n) (fun _ v13 => n - (intOf v13).toNat)
              case atStart => exact ⟨0, 128, rfl, rfl, ⟨rfl⟩, Nat.zero_le _⟩
              case round =>
                obtain ⟨j, x, rfl, rfl, HX2, hj⟩ := hrel
                by_cases hjs : j < n
                · have f1 : decide ((j : Int) < (n : Int)) = true := decide_eq_true (by omega)
                  go_wp2
                  go_round
                  case rel => exact ⟨j + 1, x / 2, by go_num, by refine congrArg (Value.int .u8) ?_; have := HX2.out; have := Nat.div_le_self 128 (2 ^ j); omega, ⟨by rw [HX2.out]; exact Mark.half_bit j⟩, by omega⟩
                  case measure => simp [intOf]; omega
                · have f1 : decide ((j : Int) < (n : Int)) = false := decide_eq_false (by omega)
                  obtain rfl : j = n := by omega
                  clear hj hjs
                  obtain ⟨y, hy, hc1, hf1⟩ := Mark.byte_at (m := m) HK.out (by rw [HL.out]; exact HC.out) (by rw [HL.out]; exact HKS.out.2.2)
                  have HFL := qM (Mark.flip_cells l z k m j x y HKS.out.1 HKS.out.2.1 HX2.out hy (by rw [HL.out]; exact HKS.out.2.2))
                  have HK5 := qM (Mark.blk_setF HK.out m (.int .u8 (Go.bits .xor .u8 (y : Int) (x : Int))))
                  clear hy
                  go_wp2
                  go_roundg k2
                  case measure => omega
                  case rel => exact ⟨k + 1, b' % 2147483648 * 2, Mark.flipL l k, congrArg (Value.int .i64) EK.out, by refine congrArg (Value.int .u32) ?_; omega, ⟨by have := HI.out; omega⟩, ⟨by have := Hb.out; omega⟩, ⟨by rw [Mark.flipL_length]; exact HL.out⟩, HF2, ⟨by rw [← HFL.out]; exact HK5.out⟩, ⟨blk_far B1.out N1.out _⟩, ⟨blk_far B2.out N2.out _⟩, ⟨below_set HB.out HG.out⟩⟩
            · have d4 : ((b' : Int) / 2147483648 % 4294967296 == 1) = false := beq_eq_false_iff_ne.mpr (by have := Hb.out; omega)
              have d5 : ((b' : Int) / 2147483648 == 1) = false := beq_eq_false_iff_ne.mpr (by omega)
              have HF2 : Aside0 (Mark.turnL k2 l (k + 1) (b' % 2147483648 * 2) = Mark.turnL 32 s.data.toList a b) := ⟨by have h1 := HF.out; rw [Mark.turnL, if_neg c4] at h1; exact h1⟩
              clear c4 HF
              go_wp2
              go_roundg k2
              case measure => omega
              case rel => exact ⟨k + 1, b' % 2147483648 * 2, l, congrArg (Value.int .i64) EK.out, by refine congrArg (Value.int .u32) ?_; omega, ⟨by have := HI.out; omega⟩, ⟨by have := Hb.out; omega⟩, HL, HF2, HK, B1, B2, HB⟩
  · rw [if_neg cs] at h
    have s5 : 0 ≤ a1 → (l0_0.length : Int) ≤ a1 := fun h0 => Int.not_lt.mp (fun h1 => cs ⟨h0, h1⟩)
    clear cs
    simp only [Option.some.injEq, Prod.mk.injEq] at h
    obtain ⟨rfl, rfl, rfl, rfl, rfl⟩ := h
    by_cases s0 : a1 < 0
    · have s1 : decide (a1 < 0) = true := decide_eq_true s0
      clear s0 s5
      go_enter Try.func25, Try.ntmps25
      go_wp2_with (first | ((with_reducible refine gate_dst (N := 4) rfl ?_); refine box_event ?hg (N := 4) ?hd (cs := #[.slice A0_0 l0_0.length c0_0, .slice A0_1 l0_1.length c0_1, .int .i64 a0_2, .bool a0_3]) (t := 25) ?hr ?_; (case hd => rfl); (case hg => rfl); (case hr => first | (go_simp; done) | (go_simp; rfl)); intro g1 hg w_g1 hk hb; have B1 := qM hk; have G1 := qM (show w.heap.size ≤ g1 by rw [hg]; exact Nat.le_refl _); have HB := qM hb; clear hk hb hg) | ((with_reducible refine gate_dst (N := 8) rfl ?_); refine box_event ?hg (N := 8) ?hd (cs := #[.slice none 0 0, .slice none 0 0, .int .i64 0, .bool false]) (t := 25) ?hr ?_; (case hd => rfl); (case hg => rfl); (case hr => first | (go_simp; done) | (go_simp; rfl)); intro g2 hg w_g2 hk hb; have B2 := qM hk; have NE := qM (show g1 ≠ g2 by have := blk_lt B1.out; rw [hg]; omega); have G2 := qM (show w.heap.size ≤ g2 by rw [hg]; exact HB.out.size); replace B1 := qM (blk_below B1.out hb); replace HB := qM (below_step HB.out hb); obtain ⟨z0, z1, z2, z3, f0, f1, f2, f3⟩ := cells4 B1.out; obtain ⟨y0, y1, y2, y3, j0, j1, j2, j3⟩ := cells4 B2.out; have hne1 := NE.out; have hne2 := Ne.symm NE.out; clear hk hb hg))
      refine bodyPost_ret (results_ct rfl _ _ g2 25 #[.slice A0_0 l0_0.length c0_0, .slice A0_1 l0_1.length c0_1, .int .i64 a0_2, .bool a0_3] (0, 0) _ rfl (puts4 B2.out) Try.underlying25 rfl (by kernel_rfl)) rfl ?_
      have hbf := below_set (j := 3) (v := .bool a0_3) (below_set (j := 2) (v := .int .i64 a0_2) (below_set (j := 1) (v := .slice A0_1 l0_1.length c0_1) (below_set (j := 0) (v := .slice A0_0 l0_0.length c0_0) HB.out G2.out) G2.out) G2.out) G2.out
      exact ⟨_, _, rfl, Kd.V_mono (Kd.V_below HS0.out hbf) (fun k hk => .inl (.inl hk)), Kd.V_mono (Kd.V_below HS1.out hbf) (fun k hk => .inl (.inr hk)), hbf⟩
    · have s1 : decide (a1 < 0) = false := decide_eq_false s0
      have s2 : decide (a1 ≥ (l0_0.length : Int)) = true := decide_eq_true (s5 (by omega))
      have s3 : decide ((l0_0.length : Int) ≤ a1) = true := decide_eq_true (s5 (by omega))
      clear s0 s5
      go_enter Try.func25, Try.ntmps25
      go_wp2_with (first | ((with_reducible refine gate_dst (N := 4) rfl ?_); refine box_event ?hg (N := 4) ?hd (cs := #[.slice A0_0 l0_0.length c0_0, .slice A0_1 l0_1.length c0_1, .int .i64 a0_2, .bool a0_3]) (t := 25) ?hr ?_; (case hd => rfl); (case hg => rfl); (case hr => first | (go_simp; done) | (go_simp; rfl)); intro g1 hg w_g1 hk hb; have B1 := qM hk; have G1 := qM (show w.heap.size ≤ g1 by rw [hg]; exact Nat.le_refl _); have HB := qM hb; clear hk hb hg) | ((with_reducible refine gate_dst (N := 8) rfl ?_); refine box_event ?hg (N := 8) ?hd (cs := #[.slice none 0 0, .slice none 0 0, .int .i64 0, .bool false]) (t := 25) ?hr ?_; (case hd => rfl); (case hg => rfl); (case hr => first | (go_simp; done) | (go_simp; rfl)); intro g2 hg w_g2 hk hb; have B2 := qM hk; have NE := qM (show g1 ≠ g2 by have := blk_lt B1.out; rw [hg]; omega); have G2 := qM (show w.heap.size ≤ g2 by rw [hg]; exact HB.out.size); replace B1 := qM (blk_below B1.out hb); replace HB := qM (below_step HB.out hb); obtain ⟨z0, z1, z2, z3, f0, f1, f2, f3⟩ := cells4 B1.out; obtain ⟨y0, y1, y2, y3, j0, j1, j2, j3⟩ := cells4 B2.out; have hne1 := NE.out; have hne2 := Ne.symm NE.out; clear hk hb hg))
      refine bodyPost_ret (results_ct rfl _ _ g2 25 #[.slice A0_0 l0_0.length c0_0, .slice A0_1 l0_1.length c0_1, .int .i64 a0_2, .bool a0_3] (0, 0) _ rfl (puts4 B2.out) Try.underlying25 rfl (by kernel_rfl)) rfl ?_
      have hbf := below_set (j := 3) (v := .bool a0_3) (below_set (j := 2) (v := .int .i64 a0_2) (below_set (j := 1) (v := .slice A0_1 l0_1.length c0_1) (below_set (j := 0) (v := .slice A0_0 l0_0.length c0_0) HB.out G2.out) G2.out) G2.out) G2.out
      exact ⟨_, _, rfl, Kd.V_mono (Kd.V_below HS0.out hbf) (fun k hk => .inl (.inl hk)), Kd.V_mono (Kd.V_below HS1.out hbf) (fun k hk => .inl (.inr hk)), hbf⟩

/-! ### slices_Equal_string_string: function 33 -/
def slices_Equal_string_string.l0 : Nat → List ByteArray → List ByteArray → Int → Int → Option (Bool)
 | 0, _, _, _, _ => none
 | k + 1, x0, x1, x12, x13 => if x13 < x12 then (if 0 ≤ x13 then (if x13 < (x0.length : Int) then (if x13 < (x1.length : Int) then (if (rdOf ByteArray.empty x0 x13).toList = (rdOf ByteArray.empty x1 x13).toList then (slices_Equal_string_string.l0 k x0 x1 x12 (wrap64 (x13 + 1))) else (some false)) else (none)) else (none)) else (none)) else (some true)
def slices_Equal_string_string.f (k : Nat) (l0 : List ByteArray) (l1 : List ByteArray) : Option (Bool) := if (l0.length : Int) = (l1.length : Int) then (slices_Equal_string_string.l0 k l0 l1 (l0.length : Int) 0) else (some false)
theorem slices_Equal_string_string.mono_l : ∀ k, (∀ y0 y1 y2 y3, LeO (slices_Equal_string_string.l0 k y0 y1 y2 y3) (slices_Equal_string_string.l0 (k + 1) y0 y1 y2 y3))
 | 0 => fun _ _ _ _ r h => by simp [slices_Equal_string_string.l0] at h
 | k + 1 => by
  have ih0 := slices_Equal_string_string.mono_l k
  ·intro y0 y1 y2 y3
   unfold slices_Equal_string_string.l0
   repeat' first
   | (with_reducible exact ih0 _ _ _ _)
   | (with_reducible exact LeO.refl _)
   | (with_reducible exact LeO.none _)
   | (with_reducible refine LeO.ite ?_ ?_)
   | (with_reducible refine LeO.bind ?_ (fun _ => ?_))
   | exact ih0 _ _ _ _
   | exact LeO.none _
   | refine LeO.ite ?_ ?_
   | refine LeO.bind ?_ (fun _ => ?_)
theorem slices_Equal_string_string.mono : ∀ a0 a1 k, LeO (slices_Equal_string_string.f k a0 a1) (slices_Equal_string_string.f (k + 1) a0 a1) := by
 intro a0 a1 k
 have ih0 := slices_Equal_string_string.mono_l k
 unfold slices_Equal_string_string.f
 repeat' first
   | (with_reducible exact ih0 _ _ _ _)
   | (with_reducible exact LeO.refl _)
   | (with_reducible exact LeO.none _)
   | (with_reducible refine LeO.ite ?_ ?_)
   | (with_reducible refine LeO.bind ?_ (fun _ => ?_))
   | exact ih0 _ _ _ _
   | exact LeO.none _
   | refine LeO.ite ?_ ?_
   | refine LeO.bind ?_ (fun _ => ?_)
set_option maxHeartbeats 40000000 in
set_option maxRecDepth 100000 in
theorem slices_Equal_string_string.calls (k : Nat) (A0 : Option Addr) (c0 : Nat) (l0 : List ByteArray) (A1 : Option Addr) (c1 : Nat) (l1 : List ByteArray) (r : Bool) (w : World) (hr0 : Kd.C Kd.string w A0 l0.length l0) (hc0 : l0.length ≤ c0) (hr1 : Kd.C Kd.string w A1 l1.length l1) (hc1 : l1.length ≤ c1) (h : slices_Equal_string_string.f k l0 l1 = some r) :
  Calls Try.prog 33 #[.slice A0 l0.length c0, .slice A1 l1.length c1] w fun e w' => e = .returned (.bool r) ∧ Drawn0 w w' := by
 have HR0 := qM hr0
 have HC0 := qM hc0
 clear hr0 hc0
 have HR1 := qM hr1
 have HC1 := qM hc1
 clear hr1 hc1
 have H : (if (l0.length : Int) = (l1.length : Int) then (slices_Equal_string_string.l0 k l0 l1 (l0.length : Int) 0) else (some false)) = some r := h
 clear h
 by_cases c3 : (l0.length : Int) = (l1.length : Int)
 ·rw [if_pos c3] at H
  have c3b0 : ((l0.length : Int) == (l1.length : Int)) = true := beq_iff_eq.mpr c3
  have c3b1 : ((l0.length : Int) != (l1.length : Int)) = false := bne_eq_false_iff_eq.mpr c3
  have c3b2 : (l0.length == l1.length) = true := by first | simpa using c3 | (simp at c3 ⊢; omega)
  clear c3
  have H' := qM H
  clear H
  go_enter Try.func33, Try.ntmps33
  go_wp2
  repeat (go_quiet (fail); try go_wp2)
  go_loopg [13] k (fun kq v13 w' => ∃ (x13_1 : Int), v13 = .int .i64 x13_1 ∧ Aside0 (slices_Equal_string_string.l0 kq l0 l1 (l0.length : Int) x13_1 = some r) ∧ Aside0 (kq ≤ k) ∧ Drawn0 w w')
  case atStart => exact ⟨(0), (by first | rfl | (simp; done) | (simp [*]; done)), H', ⟨Nat.le_refl _⟩, by repeat (first | exact Drawn0.refl _ | apply Drawn0.step)⟩
  case round =>
   clear H'
   try clear c1
   try clear p2
   try clear c3
   try clear c3b0
   try clear c3b1
   try clear c3b2
   obtain ⟨x13_1, rfl, HA, HK1, ⟨m1, rfl⟩⟩ := hrel
   cases gk with
   | zero => exact absurd HA.out (by simp [slices_Equal_string_string.l0])
   | succ k1 =>
    have H := HA.out
    clear HA
    simp only [slices_Equal_string_string.l0] at H
    by_cases c4 : x13_1 < (l0.length : Int)
    ·rw [if_pos c4] at H
     have c4b0 : decide (x13_1 < (l0.length : Int)) = true := decide_eq_true c4
     clear c4
     by_cases c5 : 0 ≤ x13_1
     ·rw [if_pos c5] at H
      have c5b0 : decide (0 ≤ x13_1) = true := decide_eq_true c5
      clear c5
      by_cases c6 : x13_1 < (l0.length : Int)
      ·rw [if_pos c6] at H
       have c6b0 : decide (x13_1 < (l0.length : Int)) = true := decide_eq_true c6
       clear c6
       by_cases c7 : x13_1 < (l1.length : Int)
       ·rw [if_pos c7] at H
        have c7b0 : decide (x13_1 < (l1.length : Int)) = true := decide_eq_true c7
        clear c7
        by_cases c8 : (rdOf ByteArray.empty l0 x13_1).toList = (rdOf ByteArray.empty l1 x13_1).toList
        ·rw [if_pos c8] at H
         have c8b0 : ((rdOf ByteArray.empty l0 x13_1).toList == (rdOf ByteArray.empty l1 x13_1).toList) = true := beq_iff_eq.mpr c8
         have c8b1 : ((rdOf ByteArray.empty l0 x13_1).toList != (rdOf ByteArray.empty l1 x13_1).toList) = false := bne_eq_false_iff_eq.mpr c8
         clear c8
         have H' := qM H
         clear H
         have p239 : 0 ≤ (x13_1 : Int) := of_decide_eq_true (by first | (with_reducible assumption) | assumption)
         have q239 : x13_1 < (l0.length : Int) := of_decide_eq_true (by first | (with_reducible assumption) | assumption)
         obtain ⟨ad239, e239, hx239_0⟩ := Kd.at_string HR0.out x13_1 p239 q239
         cases e239
         replace p239 := eq_true p239
         replace q239 := eq_true q239
         have p240 : 0 ≤ (x13_1 : Int) := of_decide_eq_true (by first | (with_reducible assumption) | assumption)
         have q240 : x13_1 < (l1.length : Int) := of_decide_eq_true (by first | (with_reducible assumption) | assumption)
         obtain ⟨ad240, e240, hx240_0⟩ := Kd.at_string HR1.out x13_1 p240 q240
         cases e240
         replace p240 := eq_true p240
         replace q240 := eq_true q240
         go_wp2
         repeat (go_quiet (fail); try go_wp2)
         go_roundg k1
         case measure => have := HK1.out; omega
         case rel => exact ⟨(wrap64 (x13_1 + 1)), (by first | rfl | (simp; done) | (simp [*]; done)), H', ⟨by have := HK1.out; omega⟩, by repeat (first | exact Drawn0.refl _ | apply Drawn0.step)⟩
        ·rw [if_neg c8] at H
         have c8b0 : ((rdOf ByteArray.empty l0 x13_1).toList == (rdOf ByteArray.empty l1 x13_1).toList) = false := beq_eq_false_iff_ne.mpr c8
         have c8b1 : ((rdOf ByteArray.empty l0 x13_1).toList != (rdOf ByteArray.empty l1 x13_1).toList) = true := bne_iff_ne.mpr c8
         obtain rfl := Option.some.inj H
         have p239 : 0 ≤ (x13_1 : Int) := of_decide_eq_true (by first | (with_reducible assumption) | assumption)
         have q239 : x13_1 < (l0.length : Int) := of_decide_eq_true (by first | (with_reducible assumption) | assumption)
         obtain ⟨ad239, e239, hx239_0⟩ := Kd.at_string HR0.out x13_1 p239 q239
         cases e239
         replace p239 := eq_true p239
         replace q239 := eq_true q239
         have p240 : 0 ≤ (x13_1 : Int) := of_decide_eq_true (by first | (with_reducible assumption) | assumption)
         have q240 : x13_1 < (l1.length : Int) := of_decide_eq_true (by first | (with_reducible assumption) | assumption)
         obtain ⟨ad240, e240, hx240_0⟩ := Kd.at_string HR1.out x13_1 p240 q240
         cases e240
         replace p240 := eq_true p240
         replace q240 := eq_true q240
         go_wp2
         repeat (go_quiet (fail); try go_wp2)
         go_ret
         exact ⟨by first | rfl | (simp; done) | (simp [*]; done), by repeat (first | exact Drawn0.refl _ | apply Drawn0.step)⟩
       ·rw [if_neg c7] at H
        exact absurd H (by simp)
      ·rw [if_neg c6] at H
       exact absurd H (by simp)
     ·rw [if_neg c5] at H
      exact absurd H (by simp)
    ·rw [if_neg c4] at H
     have c4b0 : decide (x13_1 < (l0.length : Int)) = false := decide_eq_false c4
     clear c4
     obtain rfl := Option.some.inj H
     go_wp2
     repeat (go_quiet (fail); try go_wp2)
     go_ret
     exact ⟨by first | rfl | (simp; done) | (simp [*]; done), by repeat (first | exact Drawn0.refl _ | apply Drawn0.step)⟩
 ·rw [if_neg c3] at H
  have c3b0 : ((l0.length : Int) == (l1.length : Int)) = false := beq_eq_false_iff_ne.mpr c3
  have c3b1 : ((l0.length : Int) != (l1.length : Int)) = true := bne_iff_ne.mpr c3
  have c3b2 : (l0.length == l1.length) = false := by first | simpa using c3 | (simp at c3 ⊢; omega)
  obtain rfl := Option.some.inj H
  go_enter Try.func33, Try.ntmps33
  go_wp2
  repeat (go_quiet (fail); try go_wp2)
  go_ret
  exact ⟨by first | rfl | (simp; done) | (simp [*]; done), by repeat (first | exact Drawn0.refl _ | apply Drawn0.step)⟩

/-! ### api_Write_34: function 34 -/
def api_Write_34.l0 : Nat → List (S47) → List (S47) → Int → Int → Option (Bool)
 | 0, _, _, _, _ => none
 | k + 1, x0, x1, x12, x13 => if x13 < x12 then (if 0 ≤ x13 then (if x13 < (x0.length : Int) then (if x13 < (x1.length : Int) then (if (!(((rd_T47 x0 x13).f0) == ((rd_T47 x1 x13).f0)) || (!((((rd_T47 x0 x13).f1).toList) == (((rd_T47 x1 x13).f1).toList)))) = true then (some false) else (api_Write_34.l0 k x0 x1 x12 (wrap64 (x13 + 1)))) else (none)) else (none)) else (none)) else (some true)
def api_Write_34.f (k : Nat) (l0 : List (S47)) (l1 : List (S47)) : Option (Bool) := if (l0.length : Int) = (l1.length : Int) then (api_Write_34.l0 k l0 l1 (l0.length : Int) 0) else (some false)
theorem api_Write_34.mono_l : ∀ k, (∀ y0 y1 y2 y3, LeO (api_Write_34.l0 k y0 y1 y2 y3) (api_Write_34.l0 (k + 1) y0 y1 y2 y3))
 | 0 => fun _ _ _ _ r h => by simp [api_Write_34.l0] at h
 | k + 1 => by
  have ih0 := api_Write_34.mono_l k
  ·intro y0 y1 y2 y3
   unfold api_Write_34.l0
   repeat' first
   | (with_reducible exact ih0 _ _ _ _)
   | (with_reducible exact LeO.refl _)
   | (with_reducible exact LeO.none _)
   | (with_reducible refine LeO.ite ?_ ?_)
   | (with_reducible refine LeO.bind ?_ (fun _ => ?_))
   | exact ih0 _ _ _ _
   | exact LeO.none _
   | refine LeO.ite ?_ ?_
   | refine LeO.bind ?_ (fun _ => ?_)
theorem api_Write_34.mono : ∀ a0 a1 k, LeO (api_Write_34.f k a0 a1) (api_Write_34.f (k + 1) a0 a1) := by
 intro a0 a1 k
 have ih0 := api_Write_34.mono_l k
 unfold api_Write_34.f
 repeat' first
   | (with_reducible exact ih0 _ _ _ _)
   | (with_reducible exact LeO.refl _)
   | (with_reducible exact LeO.none _)
   | (with_reducible refine LeO.ite ?_ ?_)
   | (with_reducible refine LeO.bind ?_ (fun _ => ?_))
   | exact ih0 _ _ _ _
   | exact LeO.none _
   | refine LeO.ite ?_ ?_
   | refine LeO.bind ?_ (fun _ => ?_)
set_option maxHeartbeats 40000000 in
set_option maxRecDepth 100000 in
theorem api_Write_34.calls (k : Nat) (A0 : Option Addr) (c0 : Nat) (l0 : List (S47)) (A1 : Option Addr) (c1 : Nat) (l1 : List (S47)) (r : Bool) (w : World) (hr0 : Kd.C k47 w A0 l0.length l0) (hc0 : l0.length ≤ c0) (hr1 : Kd.C k47 w A1 l1.length l1) (hc1 : l1.length ≤ c1) (h : api_Write_34.f k l0 l1 = some r) :
  Calls Try.prog 34 #[.slice A0 l0.length c0, .slice A1 l1.length c1] w fun e w' => e = .returned (.bool r) ∧ Drawn0 w w' := by
 have hu47 := Try.underlying47
 have HR0 := qM hr0
 have HC0 := qM hc0
 clear hr0 hc0
 have HR1 := qM hr1
 have HC1 := qM hc1
 clear hr1 hc1
 have H : (if (l0.length : Int) = (l1.length : Int) then (api_Write_34.l0 k l0 l1 (l0.length : Int) 0) else (some false)) = some r := h
 clear h
 by_cases c3 : (l0.length : Int) = (l1.length : Int)
 ·rw [if_pos c3] at H
  have c3b0 : ((l0.length : Int) == (l1.length : Int)) = true := beq_iff_eq.mpr c3
  have c3b1 : ((l0.length : Int) != (l1.length : Int)) = false := bne_eq_false_iff_eq.mpr c3
  have c3b2 : (l0.length == l1.length) = true := by first | simpa using c3 | (simp at c3 ⊢; omega)
  clear c3
  have H' := qM H
  clear H
  go_enter Try.func34, Try.ntmps34
  go_wp2
  repeat (go_quiet (fail); try go_wp2)
  go_loopg [13] k (fun kq v13 w' => ∃ (x13_1 : Int), v13 = .int .i64 x13_1 ∧ Aside0 (api_Write_34.l0 kq l0 l1 (l0.length : Int) x13_1 = some r) ∧ Aside0 (kq ≤ k) ∧ Drawn0 w w')
  case atStart => exact ⟨(0), (by first | rfl | (simp; done) | (simp [*]; done)), H', ⟨Nat.le_refl _⟩, by repeat (first | exact Drawn0.refl _ | apply Drawn0.step)⟩
  case round =>
   clear H'
   try clear c1
   try clear p2
   try clear c3
   try clear c3b0
   try clear c3b1
   try clear c3b2
   obtain ⟨x13_1, rfl, HA, HK1, ⟨m1, rfl⟩⟩ := hrel
   cases gk with
   | zero => exact absurd HA.out (by simp [api_Write_34.l0])
   | succ k1 =>
    have H := HA.out
    clear HA
    simp only [api_Write_34.l0] at H
    by_cases c4 : x13_1 < (l0.length : Int)
    ·rw [if_pos c4] at H
     have c4b0 : decide (x13_1 < (l0.length : Int)) = true := decide_eq_true c4
     clear c4
     by_cases c5 : 0 ≤ x13_1
     ·rw [if_pos c5] at H
      have c5b0 : decide (0 ≤ x13_1) = true := decide_eq_true c5
      clear c5
      by_cases c6 : x13_1 < (l0.length : Int)
      ·rw [if_pos c6] at H
       have c6b0 : decide (x13_1 < (l0.length : Int)) = true := decide_eq_true c6
       clear c6
       by_cases c7 : x13_1 < (l1.length : Int)
       ·rw [if_pos c7] at H
        have c7b0 : decide (x13_1 < (l1.length : Int)) = true := decide_eq_true c7
        clear c7
        by_cases c8 : (!(((rd_T47 l0 x13_1).f0) == ((rd_T47 l1 x13_1).f0)) || (!((((rd_T47 l0 x13_1).f1).toList) == (((rd_T47 l1 x13_1).f1).toList)))) = true
        ·rw [if_pos c8] at H
         have c8b0 : (!(((rd_T47 l0 x13_1).f0) == ((rd_T47 l1 x13_1).f0)) || (!((((rd_T47 l0 x13_1).f1).toList) == (((rd_T47 l1 x13_1).f1).toList)))) = true := c8
         clear c8
         obtain rfl := Option.some.inj H
         have p241 : 0 ≤ (x13_1 : Int) := of_decide_eq_true (by first | (with_reducible assumption) | assumption)
         have q241 : x13_1 < (l0.length : Int) := of_decide_eq_true (by first | (with_reducible assumption) | assumption)
         obtain ⟨ad241, e241, hx241_0, hx241_1⟩ := at_T47 HR0.out x13_1 p241 q241
         cases e241
         replace p241 := eq_true p241
         replace q241 := eq_true q241
         have p242 : 0 ≤ (x13_1 : Int) := of_decide_eq_true (by first | (with_reducible assumption) | assumption)
         have q242 : x13_1 < (l1.length : Int) := of_decide_eq_true (by first | (with_reducible assumption) | assumption)
         obtain ⟨ad242, e242, hx242_0, hx242_1⟩ := at_T47 HR1.out x13_1 p242 q242
         cases e242
         replace p242 := eq_true p242
         replace q242 := eq_true q242
         go_wp2
         repeat (go_quiet (fail); try go_wp2)
         go_ret
         exact ⟨by first | rfl | (simp; done) | (simp [*]; done), by repeat (first | exact Drawn0.refl _ | apply Drawn0.step)⟩
        ·rw [if_neg c8] at H
         have c8b0 : (!(((rd_T47 l0 x13_1).f0) == ((rd_T47 l1 x13_1).f0)) || (!((((rd_T47 l0 x13_1).f1).toList) == (((rd_T47 l1 x13_1).f1).toList)))) = false := by simpa using c8
         clear c8
         have H' := qM H
         clear H
         have p241 : 0 ≤ (x13_1 : Int) := of_decide_eq_true (by first | (with_reducible assumption) | assumption)
         have q241 : x13_1 < (l0.length : Int) := of_decide_eq_true (by first | (with_reducible assumption) | assumption)
         obtain ⟨ad241, e241, hx241_0, hx241_1⟩ := at_T47 HR0.out x13_1 p241 q241
         cases e241
         replace p241 := eq_true p241
         replace q241 := eq_true q241
         have p242 : 0 ≤ (x13_1 : Int) := of_decide_eq_true (by first | (with_reducible assumption) | assumption)
         have q242 : x13_1 < (l1.length : Int) := of_decide_eq_true (by first | (with_reducible assumption) | assumption)
         obtain ⟨ad242, e242, hx242_0, hx242_1⟩ := at_T47 HR1.out x13_1 p242 q242
         cases e242
         replace p242 := eq_true p242
         replace q242 := eq_true q242
         go_wp2
         repeat (go_quiet (fail); try go_wp2)
         go_roundg k1
         case measure => have := HK1.out; omega
         case rel => exact ⟨(wrap64 (x13_1 + 1)), (by first | rfl | (simp; done) | (simp [*]; done)), H', ⟨by have := HK1.out; omega⟩, by repeat (first | exact Drawn0.refl _ | apply Drawn0.step)⟩
       ·rw [if_neg c7] at H
        exact absurd H (by simp)
      ·rw [if_neg c6] at H
       exact absurd H (by simp)
     ·rw [if_neg c5] at H
      exact absurd H (by simp)
    ·rw [if_neg c4] at H
     have c4b0 : decide (x13_1 < (l0.length : Int)) = false := decide_eq_false c4
     clear c4
     obtain rfl := Option.some.inj H
     go_wp2
     repeat (go_quiet (fail); try go_wp2)
     go_ret
     exact ⟨by first | rfl | (simp; done) | (simp [*]; done), by repeat (first | exact Drawn0.refl _ | apply Drawn0.step)⟩
 ·rw [if_neg c3] at H
  have c3b0 : ((l0.length : Int) == (l1.length : Int)) = false := beq_eq_false_iff_ne.mpr c3
  have c3b1 : ((l0.length : Int) != (l1.length : Int)) = true := bne_iff_ne.mpr c3
  have c3b2 : (l0.length == l1.length) = false := by first | simpa using c3 | (simp at c3 ⊢; omega)
  obtain rfl := Option.some.inj H
  go_enter Try.func34, Try.ntmps34
  go_wp2
  repeat (go_quiet (fail); try go_wp2)
  go_ret
  exact ⟨by first | rfl | (simp; done) | (simp [*]; done), by repeat (first | exact Drawn0.refl _ | apply Drawn0.step)⟩

/-! ### disk_Same: function 26 -/
def disk_Same.f (k : Nat) (l0_0 : List ByteArray) (l0_1 : List (S47)) (a0_2 : Int) (a0_3 : Bool) (l1_0 : List ByteArray) (l1_1 : List (S47)) (a1_2 : Int) (a1_3 : Bool) : Option (Bool) := if a0_2 = a1_2 then (if (a0_3 == a1_3) = true then ((slices_Equal_string_string.f k l0_0 l1_0).bind fun t245 => (if t245 = true then ((api_Write_34.f k l0_1 l1_1).bind fun t246 => (some t246)) else (some false))) else (some false)) else (some false)
theorem disk_Same.mono : ∀ a0 a1 a2 a3 a4 a5 a6 a7 k, LeO (disk_Same.f k a0 a1 a2 a3 a4 a5 a6 a7) (disk_Same.f (k + 1) a0 a1 a2 a3 a4 a5 a6 a7) := by
 intro a0 a1 a2 a3 a4 a5 a6 a7 k
 unfold disk_Same.f
 repeat' first
   | (with_reducible exact api_Write_34.mono _ _ _)
   | (with_reducible exact slices_Equal_string_string.mono _ _ _)
   | (with_reducible exact LeO.refl _)
   | (with_reducible exact LeO.none _)
   | (with_reducible refine LeO.ite ?_ ?_)
   | (with_reducible refine LeO.bind ?_ (fun _ => ?_))
   | exact api_Write_34.mono _ _ _
   | exact slices_Equal_string_string.mono _ _ _
   | exact LeO.none _
   | refine LeO.ite ?_ ?_
   | refine LeO.bind ?_ (fun _ => ?_)
set_option maxHeartbeats 40000000 in
set_option maxRecDepth 100000 in
theorem disk_Same.calls (k : Nat) (A0_0 : Option Addr) (c0_0 : Nat) (l0_0 : List ByteArray) (A0_1 : Option Addr) (c0_1 : Nat) (l0_1 : List (S47)) (a0_2 : Int) (a0_3 : Bool) (A1_0 : Option Addr) (c1_0 : Nat) (l1_0 : List ByteArray) (A1_1 : Option Addr) (c1_1 : Nat) (l1_1 : List (S47)) (a1_2 : Int) (a1_3 : Bool) (r : Bool) (w : World) (hr0_0 : Kd.C Kd.string w A0_0 l0_0.length l0_0) (hc0_0 : l0_0.length ≤ c0_0) (hr0_1 : Kd.C k47 w A0_1 l0_1.length l0_1) (hc0_1 : l0_1.length ≤ c0_1) (hr1_0 : Kd.C Kd.string w A1_0 l1_0.length l1_0) (hc1_0 : l1_0.length ≤ c1_0) (hr1_1 : Kd.C k47 w A1_1 l1_1.length l1_1) (hc1_1 : l1_1.length ≤ c1_1) (h : disk_Same.f k l0_0 l0_1 a0_2 a0_3 l1_0 l1_1 a1_2 a1_3 = some r) :
  Calls Try.prog 26 #[.agg #[.slice A0_0 l0_0.length c0_0, .slice A0_1 l0_1.length c0_1, .int .i64 a0_2, .bool a0_3], .agg #[.slice A1_0 l1_0.length c1_0, .slice A1_1 l1_1.length c1_1, .int .i64 a1_2, .bool a1_3]] w fun e w' => e = .returned (.bool r) ∧ Below w.heap.size w w' := by
 have hu25 := Try.underlying25
 have HR0_0 := qM hr0_0
 have HC0_0 := qM hc0_0
 clear hr0_0 hc0_0
 have HR0_1 := qM hr0_1
 have HC0_1 := qM hc0_1
 clear hr0_1 hc0_1
 have HR1_0 := qM hr1_0
 have HC1_0 := qM hc1_0
 clear hr1_0 hc1_0
 have HR1_1 := qM hr1_1
 have HC1_1 := qM hc1_1
 clear hr1_1 hc1_1
 have HB := qM (Below.refl w.heap.size w)
 have H : (if a0_2 = a1_2 then (if (a0_3 == a1_3) = true then ((slices_Equal_string_string.f k l0_0 l1_0).bind fun t245 => (if t245 = true then ((api_Write_34.f k l0_1 l1_1).bind fun t246 => (some t246)) else (some false))) else (some false)) else (some false)) = some r := h
 clear h
 by_cases c3 : a0_2 = a1_2
 ·rw [if_pos c3] at H
  have c3b0 : (a0_2 == a1_2) = true := beq_iff_eq.mpr c3
  have c3b1 : (a0_2 != a1_2) = false := bne_eq_false_iff_eq.mpr c3
  clear c3
  by_cases c4 : (a0_3 == a1_3) = true
  ·rw [if_pos c4] at H
   have c4b0 : (a0_3 == a1_3) = true := c4
   (try (have c4b1 : decide (a0_3 = a1_3) = true := by simpa using c4))
   (try (have c4b2 : (a0_3 == a1_3) = true := by simpa using c4))
   clear c4
   replace H := Option.bind_eq_some_iff.mp H
   obtain ⟨t245, A50, H⟩ := H
   replace H : (if t245 = true then ((api_Write_34.f k l0_1 l1_1).bind fun t246 => (some t246)) else (some false)) = some r := H
   have A5 := qM A50
   clear A50
   by_cases c6 : t245 = true
   ·subst c6
    have H1 : ((api_Write_34.f k l0_1 l1_1).bind fun t246 => (some t246)) = some r := by rw [if_pos rfl] at H; exact H
    clear H
    have H := H1
    clear H1
    replace H := Option.bind_eq_some_iff.mp H
    obtain ⟨t246, A70, H⟩ := H
    replace H : (some t246) = some r := H
    have A7 := qM A70
    clear A70
    obtain rfl := Option.some.inj H
    go_enter Try.func26, Try.ntmps26
    go_wp2_with (first | ((with_reducible refine gate_dst (N := 2) rfl ?_); refine box_event ?hg (N := 2) ?hd (cs := #[.slice A0_0 l0_0.length c0_0, .slice A0_1 l0_1.length c0_1, .int .i64 a0_2, .bool a0_3]) (t := 25) ?hr ?_; (case hd => rfl); (case hg => rfl); (case hr => first | (go_simp; done) | (go_simp; rfl)); intro g243 hg w8 hbox hb; have n0_ := qM (eT (by repeat (first | (with_reducible first | exact HB.out | apply eA | apply eN | apply eD) | exact HB.out)) hb); have n1_ := qM (hbox); have n2_ := qM ((by rw [hg]; exact (eZ (by repeat (first | (with_reducible first | exact HB.out | apply eA | apply eN | apply eD) | exact HB.out))) : w.heap.size ≤ g243)); have n3_ := n2_; clear HB; have HB := n0_; have B243 := n1_; have GW243 := n2_; have GE243 := n3_; clear n0_ n1_ n2_ n3_; clear hb hbox hg) | ((with_reducible refine gate_dst (N := 3) rfl ?_); refine box_event ?hg (N := 3) ?hd (cs := #[.slice A1_0 l1_0.length c1_0, .slice A1_1 l1_1.length c1_1, .int .i64 a1_2, .bool a1_3]) (t := 25) ?hr ?_; (case hd => rfl); (case hg => rfl); (case hr => first | (go_simp; done) | (go_simp; rfl)); intro g244 hg w9 hbox hb; have n0_ := qM (qB (g := g243) (by (with_reducible repeat first | refine qN ?_ _ | refine qD ?_ | refine qA ?_ _); exact B243.out) hb); have n1_ := qM (eT (by repeat (first | (with_reducible first | exact HB.out | apply eA | apply eN | apply eD | refine eU ?_ (by assumption)) | exact HB.out)) hb); have n2_ := qM (hbox); have n3_ := qM ((by rw [hg]; exact (eZ (by repeat (first | (with_reducible first | exact HB.out | apply eA | apply eN | apply eD | refine eU ?_ (by assumption)) | exact HB.out))) : w.heap.size ≤ g244)); have n4_ := n3_; have n5_ := qM ((by rw [hg]; exact Nat.ne_of_lt (qL (g := g243) (by (with_reducible repeat first | refine qN ?_ _ | refine qD ?_ | refine qA ?_ _); exact B243.out)) : g243 ≠ g244)); have n6_ := qM (Ne.symm n5_.out); clear B243 HB; have B243 := n0_; have HB := n1_; have B244 := n2_; have GW244 := n3_; have GE244 := n4_; have NB243_244 := n5_; have NB244_243 := n6_; clear n0_ n1_ n2_ n3_ n4_ n5_ n6_; clear hb hbox hg; have hnb10 := NB243_244.out; have hnc10 := NB244_243.out; obtain ⟨z11_0, z11_1, z11_2, z11_3, f11_0, f11_1, f11_2, f11_3⟩ := cells4 B243.out; obtain ⟨z12_0, z12_1, z12_2, z12_3, f12_0, f12_1, f12_2, f12_3⟩ := cells4 B244.out) | (go_at_call 33; (with_reducible refine (slices_Equal_string_string.calls k _ _ l0_0 _ _ l1_0 true _ ?side1 ?side2 ?side3 ?side4 A5.out).mono ?_); (case side1 => repeat (first | exact (Kd.C_below HR0_0.out HB.out) | (with_reducible refine Kd.C_alloc ?_ _) | (with_reducible refine Kd.C_drewN ?_ _) | (with_reducible refine Kd.C_drew ?_))); (case side2 => exact HC0_0.out); (case side3 => repeat (first | exact (Kd.C_below HR1_0.out HB.out) | (with_reducible refine Kd.C_alloc ?_ _) | (with_reducible refine Kd.C_drewN ?_ _) | (with_reducible refine Kd.C_drew ?_))); (case side4 => exact HC1_0.out); rintro e w' ⟨rfl, ⟨nd, rfl⟩⟩) | (go_at_call 34; (with_reducible refine (api_Write_34.calls k _ _ l0_1 _ _ l1_1 t246 _ ?side1 ?side2 ?side3 ?side4 A7.out).mono ?_); (case side1 => repeat (first | exact (Kd.C_below HR0_1.out (by repeat (first | (with_reducible first | exact HB.out | apply eA | apply eN | apply eD | refine eU ?_ (by assumption)) | exact HB.out))) | (with_reducible refine Kd.C_alloc ?_ _) | (with_reducible refine Kd.C_drewN ?_ _) | (with_reducible refine Kd.C_drew ?_))); (case side2 => exact HC0_1.out); (case side3 => repeat (first | exact (Kd.C_below HR1_1.out (by repeat (first | (with_reducible first | exact HB.out | apply eA | apply eN | apply eD | refine eU ?_ (by assumption)) | exact HB.out))) | (with_reducible refine Kd.C_alloc ?_ _) | (with_reducible refine Kd.C_drewN ?_ _) | (with_reducible refine Kd.C_drew ?_))); (case side4 => exact HC1_1.out); rintro e w' ⟨rfl, ⟨nd, rfl⟩⟩))
    go_ret
    exact ⟨by first | rfl | (simp [errW_none, errW_some] <;> rfl) | (simp [*, errW_none, errW_some] <;> rfl), by repeat (first | (with_reducible first | exact HB.out | apply eA | apply eN | apply eD | refine eS ?_ GE243.out | refine eS ?_ GE244.out) | exact HB.out)⟩
   ·replace c6 := Bool.eq_false_iff.mpr c6
    subst c6
    have H1 : (some false) = some r := by rw [if_neg (show ¬ (false = true) by decide)] at H; exact H
    clear H
    have H := H1
    clear H1
    obtain rfl := Option.some.inj H
    go_enter Try.func26, Try.ntmps26
    go_wp2_with (first | ((with_reducible refine gate_dst (N := 2) rfl ?_); refine box_event ?hg (N := 2) ?hd (cs := #[.slice A0_0 l0_0.length c0_0, .slice A0_1 l0_1.length c0_1, .int .i64 a0_2, .bool a0_3]) (t := 25) ?hr ?_; (case hd => rfl); (case hg => rfl); (case hr => first | (go_simp; done) | (go_simp; rfl)); intro g243 hg w13 hbox hb; have n0_ := qM (eT (by repeat (first | (with_reducible first | exact HB.out | apply eA | apply eN | apply eD) | exact HB.out)) hb); have n1_ := qM (hbox); have n2_ := qM ((by rw [hg]; exact (eZ (by repeat (first | (with_reducible first | exact HB.out | apply eA | apply eN | apply eD) | exact HB.out))) : w.heap.size ≤ g243)); have n3_ := n2_; clear HB; have HB := n0_; have B243 := n1_; have GW243 := n2_; have GE243 := n3_; clear n0_ n1_ n2_ n3_; clear hb hbox hg) | ((with_reducible refine gate_dst (N := 3) rfl ?_); refine box_event ?hg (N := 3) ?hd (cs := #[.slice A1_0 l1_0.length c1_0, .slice A1_1 l1_1.length c1_1, .int .i64 a1_2, .bool a1_3]) (t := 25) ?hr ?_; (case hd => rfl); (case hg => rfl); (case hr => first | (go_simp; done) | (go_simp; rfl)); intro g244 hg w14 hbox hb; have n0_ := qM (qB (g := g243) (by (with_reducible repeat first | refine qN ?_ _ | refine qD ?_ | refine qA ?_ _); exact B243.out) hb); have n1_ := qM (eT (by repeat (first | (with_reducible first | exact HB.out | apply eA | apply eN | apply eD | refine eU ?_ (by assumption)) | exact HB.out)) hb); have n2_ := qM (hbox); have n3_ := qM ((by rw [hg]; exact (eZ (by repeat (first | (with_reducible first | exact HB.out | apply eA | apply eN | apply eD | refine eU ?_ (by assumption)) | exact HB.out))) : w.heap.size ≤ g244)); have n4_ := n3_; have n5_ := qM ((by rw [hg]; exact Nat.ne_of_lt (qL (g := g243) (by (with_reducible repeat first | refine qN ?_ _ | refine qD ?_ | refine qA ?_ _); exact B243.out)) : g243 ≠ g244)); have n6_ := qM (Ne.symm n5_.out); clear B243 HB; have B243 := n0_; have HB := n1_; have B244 := n2_; have GW244 := n3_; have GE244 := n4_; have NB243_244 := n5_; have NB244_243 := n6_; clear n0_ n1_ n2_ n3_ n4_ n5_ n6_; clear hb hbox hg; have hnb15 := NB243_244.out; have hnc15 := NB244_243.out; obtain ⟨z16_0, z16_1, z16_2, z16_3, f16_0, f16_1, f16_2, f16_3⟩ := cells4 B243.out; obtain ⟨z17_0, z17_1, z17_2, z17_3, f17_0, f17_1, f17_2, f17_3⟩ := cells4 B244.out) | (go_at_call 33; (with_reducible refine (slices_Equal_string_string.calls k _ _ l0_0 _ _ l1_0 false _ ?side1 ?side2 ?side3 ?side4 A5.out).mono ?_); (case side1 => repeat (first | exact (Kd.C_below HR0_0.out HB.out) | (with_reducible refine Kd.C_alloc ?_ _) | (with_reducible refine Kd.C_drewN ?_ _) | (with_reducible refine Kd.C_drew ?_))); (case side2 => exact HC0_0.out); (case side3 => repeat (first | exact (Kd.C_below HR1_0.out HB.out) | (with_reducible refine Kd.C_alloc ?_ _) | (with_reducible refine Kd.C_drewN ?_ _) | (with_reducible refine Kd.C_drew ?_))); (case side4 => exact HC1_0.out); rintro e w' ⟨rfl, ⟨nd, rfl⟩⟩))
    go_ret
    exact ⟨by first | rfl | (simp [errW_none, errW_some] <;> rfl) | (simp [*, errW_none, errW_some] <;> rfl), by repeat (first | (with_reducible first | exact HB.out | apply eA | apply eN | apply eD | refine eS ?_ GE243.out | refine eS ?_ GE244.out) | exact HB.out)⟩
  ·rw [if_neg c4] at H
   have c4b0 : (a0_3 == a1_3) = false := by simpa using c4
   (try (have c4b1 : decide (a0_3 = a1_3) = false := by simpa using c4))
   (try (have c4b2 : (a0_3 == a1_3) = false := by simpa using c4))
   (try (have c4b3 : ¬ (a0_3 = a1_3) := by simpa using c4))
   clear c4
   obtain rfl := Option.some.inj H
   go_enter Try.func26, Try.ntmps26
   go_wp2_with (first | ((with_reducible refine gate_dst (N := 2) rfl ?_); refine box_event ?hg (N := 2) ?hd (cs := #[.slice A0_0 l0_0.length c0_0, .slice A0_1 l0_1.length c0_1, .int .i64 a0_2, .bool a0_3]) (t := 25) ?hr ?_; (case hd => rfl); (case hg => rfl); (case hr => first | (go_simp; done) | (go_simp; rfl)); intro g243 hg w18 hbox hb; have n0_ := qM (eT (by repeat (first | (with_reducible first | exact HB.out | apply eA | apply eN | apply eD) | exact HB.out)) hb); have n1_ := qM (hbox); have n2_ := qM ((by rw [hg]; exact (eZ (by repeat (first | (with_reducible first | exact HB.out | apply eA | apply eN | apply eD) | exact HB.out))) : w.heap.size ≤ g243)); have n3_ := n2_; clear HB; have HB := n0_; have B243 := n1_; have GW243 := n2_; have GE243 := n3_; clear n0_ n1_ n2_ n3_; clear hb hbox hg) | ((with_reducible refine gate_dst (N := 3) rfl ?_); refine box_event ?hg (N := 3) ?hd (cs := #[.slice A1_0 l1_0.length c1_0, .slice A1_1 l1_1.length c1_1, .int .i64 a1_2, .bool a1_3]) (t := 25) ?hr ?_; (case hd => rfl); (case hg => rfl); (case hr => first | (go_simp; done) | (go_simp; rfl)); intro g244 hg w19 hbox hb; have n0_ := qM (qB (g := g243) (by (with_reducible repeat first | refine qN ?_ _ | refine qD ?_ | refine qA ?_ _); exact B243.out) hb); have n1_ := qM (eT (by repeat (first | (with_reducible first | exact HB.out | apply eA | apply eN | apply eD | refine eU ?_ (by assumption)) | exact HB.out)) hb); have n2_ := qM (hbox); have n3_ := qM ((by rw [hg]; exact (eZ (by repeat (first | (with_reducible first | exact HB.out | apply eA | apply eN | apply eD | refine eU ?_ (by assumption)) | exact HB.out))) : w.heap.size ≤ g244)); have n4_ := n3_; have n5_ := qM ((by rw [hg]; exact Nat.ne_of_lt (qL (g := g243) (by (with_reducible repeat first | refine qN ?_ _ | refine qD ?_ | refine qA ?_ _); exact B243.out)) : g243 ≠ g244)); have n6_ := qM (Ne.symm n5_.out); clear B243 HB; have B243 := n0_; have HB := n1_; have B244 := n2_; have GW244 := n3_; have GE244 := n4_; have NB243_244 := n5_; have NB244_243 := n6_; clear n0_ n1_ n2_ n3_ n4_ n5_ n6_; clear hb hbox hg; have hnb20 := NB243_244.out; have hnc20 := NB244_243.out; obtain ⟨z21_0, z21_1, z21_2, z21_3, f21_0, f21_1, f21_2, f21_3⟩ := cells4 B243.out; obtain ⟨z22_0, z22_1, z22_2, z22_3, f22_0, f22_1, f22_2, f22_3⟩ := cells4 B244.out))
   go_ret
   exact ⟨by first | rfl | (simp [errW_none, errW_some] <;> rfl) | (simp [*, errW_none, errW_some] <;> rfl), by repeat (first | (with_reducible first | exact HB.out | apply eA | apply eN | apply eD | refine eS ?_ GE243.out | refine eS ?_ GE244.out) | exact HB.out)⟩
 ·rw [if_neg c3] at H
  have c3b0 : (a0_2 == a1_2) = false := beq_eq_false_iff_ne.mpr c3
  have c3b1 : (a0_2 != a1_2) = true := bne_iff_ne.mpr c3
  obtain rfl := Option.some.inj H
  go_enter Try.func26, Try.ntmps26
  go_wp2_with (first | ((with_reducible refine gate_dst (N := 2) rfl ?_); refine box_event ?hg (N := 2) ?hd (cs := #[.slice A0_0 l0_0.length c0_0, .slice A0_1 l0_1.length c0_1, .int .i64 a0_2, .bool a0_3]) (t := 25) ?hr ?_; (case hd => rfl); (case hg => rfl); (case hr => first | (go_simp; done) | (go_simp; rfl)); intro g243 hg w23 hbox hb; have n0_ := qM (eT (by repeat (first | (with_reducible first | exact HB.out | apply eA | apply eN | apply eD) | exact HB.out)) hb); have n1_ := qM (hbox); have n2_ := qM ((by rw [hg]; exact (eZ (by repeat (first | (with_reducible first | exact HB.out | apply eA | apply eN | apply eD) | exact HB.out))) : w.heap.size ≤ g243)); have n3_ := n2_; clear HB; have HB := n0_; have B243 := n1_; have GW243 := n2_; have GE243 := n3_; clear n0_ n1_ n2_ n3_; clear hb hbox hg) | ((with_reducible refine gate_dst (N := 3) rfl ?_); refine box_event ?hg (N := 3) ?hd (cs := #[.slice A1_0 l1_0.length c1_0, .slice A1_1 l1_1.length c1_1, .int .i64 a1_2, .bool a1_3]) (t := 25) ?hr ?_; (case hd => rfl); (case hg => rfl); (case hr => first | (go_simp; done) | (go_simp; rfl)); intro g244 hg w24 hbox hb; have n0_ := qM (qB (g := g243) (by (with_reducible repeat first | refine qN ?_ _ | refine qD ?_ | refine qA ?_ _); exact B243.out) hb); have n1_ := qM (eT (by repeat (first | (with_reducible first | exact HB.out | apply eA | apply eN | apply eD | refine eU ?_ (by assumption)) | exact HB.out)) hb); have n2_ := qM (hbox); have n3_ := qM ((by rw [hg]; exact (eZ (by repeat (first | (with_reducible first | exact HB.out | apply eA | apply eN | apply eD | refine eU ?_ (by assumption)) | exact HB.out))) : w.heap.size ≤ g244)); have n4_ := n3_; have n5_ := qM ((by rw [hg]; exact Nat.ne_of_lt (qL (g := g243) (by (with_reducible repeat first | refine qN ?_ _ | refine qD ?_ | refine qA ?_ _); exact B243.out)) : g243 ≠ g244)); have n6_ := qM (Ne.symm n5_.out); clear B243 HB; have B243 := n0_; have HB := n1_; have B244 := n2_; have GW244 := n3_; have GE244 := n4_; have NB243_244 := n5_; have NB244_243 := n6_; clear n0_ n1_ n2_ n3_ n4_ n5_ n6_; clear hb hbox hg; have hnb25 := NB243_244.out; have hnc25 := NB244_243.out; obtain ⟨z26_0, z26_1, z26_2, z26_3, f26_0, f26_1, f26_2, f26_3⟩ := cells4 B243.out; obtain ⟨z27_0, z27_1, z27_2, z27_3, f27_0, f27_1, f27_2, f27_3⟩ := cells4 B244.out))
  go_ret
  exact ⟨by first | rfl | (simp [errW_none, errW_some] <;> rfl) | (simp [*, errW_none, errW_some] <;> rfl), by repeat (first | (with_reducible first | exact HB.out | apply eA | apply eN | apply eD | refine eS ?_ GE243.out | refine eS ?_ GE244.out) | exact HB.out)⟩

end Go.Proofs.Ytmaojfeikbdkhaa.PAll
