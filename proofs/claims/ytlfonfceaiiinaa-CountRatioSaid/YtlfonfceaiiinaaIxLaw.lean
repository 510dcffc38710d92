/- The walk of CountRatio. -/
import Derived.Test.YtlfonfceaiiinaaIxDo
import Derived.Test.YtlfonfceaiiinaaIxNum
namespace Go.Proofs.Ytlfonfceaiiinaa.PAll
open Go.RowKit Go.Proofs.YtlfonfceaiiinaaW.PrintWords Go.Proofs.YtlfonfceaiiinaaW.PrintLast Go.Proofs.YtlfonfceaiiinaaW.PrintMore
set_option linter.unusedVariables false
set_option linter.unusedSimpArgs false
attribute [local irreducible] World.setCell
attribute [local go_sem high] eqA75
theorem hpCmd : Kd.Heap k42 := Kd.heap_iso _ (Kd.heap_pair (Kd.heap_int .i64) (Kd.heap_pair (Kd.heap_int .i64) (Kd.heap_pair (Kd.heap_int .i64) (Kd.heap_pair Kd.heap_string (Kd.heap_pair (Kd.heap_int .i64) (Kd.heap_pair (Kd.heap_int .i64) (Kd.heap_pair (Kd.heap_int .i64) (Kd.heap_pair (Kd.heap_int .u32) (Kd.heap_pair (Kd.heap_int .i64) (Kd.heap_pair (Kd.heap_int .i64) (Kd.heap_pair (Kd.heap_int .i64) (Kd.heap_slice 75 hpPlace))))))))))))
/-- A command that is read: its cells, and its places, in P. -/
theorem at_F42 {w : World} {P : Nat → Prop} {A : Option Addr} {n : Nat} {xs : List Cmd} (h : Kd.F k42 w P A n xs) (i : Int) (h0 : 0 ≤ i) (h1 : i < n) : ∃ ad A11 c11, A = some ad ∧ w.cell? (ad.add (i.toNat * 12)) = some (.int .i64 (rd_T42 xs i).f0) ∧ w.cell? ⟨(ad.add (i.toNat * 12)).block, (ad.add (i.toNat * 12)).off + 1, none⟩ = some (.int .i64 (rd_T42 xs i).f1) ∧ w.cell? ⟨(ad.add (i.toNat * 12)).block, (ad.add (i.toNat * 12)).off + 2, none⟩ = some (.int .i64 (rd_T42 xs i).f2) ∧ w.cell? ⟨(ad.add (i.toNat * 12)).block, (ad.add (i.toNat * 12)).off + 3, none⟩ = some (.string (rd_T42 xs i).f3) ∧ w.cell? ⟨(ad.add (i.toNat * 12)).block, (ad.add (i.toNat * 12)).off + 4, none⟩ = some (.int .i64 (rd_T42 xs i).f4) ∧ w.cell? ⟨(ad.add (i.toNat * 12)).block, (ad.add (i.toNat * 12)).off + 5, none⟩ = some (.int .i64 (rd_T42 xs i).f5) ∧ w.cell? ⟨(ad.add (i.toNat * 12)).block, (ad.add (i.toNat * 12)).off + 6, none⟩ = some (.int .i64 (rd_T42 xs i).f6) ∧ w.cell? ⟨(ad.add (i.toNat * 12)).block, (ad.add (i.toNat * 12)).off + 7, none⟩ = some (.int .u32 (rd_T42 xs i).f7) ∧ w.cell? ⟨(ad.add (i.toNat * 12)).block, (ad.add (i.toNat * 12)).off + 8, none⟩ = some (.int .i64 (rd_T42 xs i).f8) ∧ w.cell? ⟨(ad.add (i.toNat * 12)).block, (ad.add (i.toNat * 12)).off + 9, none⟩ = some (.int .i64 (rd_T42 xs i).f9) ∧ w.cell? ⟨(ad.add (i.toNat * 12)).block, (ad.add (i.toNat * 12)).off + 10, none⟩ = some (.int .i64 (rd_T42 xs i).f10) ∧ w.cell? ⟨(ad.add (i.toNat * 12)).block, (ad.add (i.toNat * 12)).off + 11, none⟩ = some (.slice A11 (rd_T42 xs i).f11.length c11) ∧ SlP P k75 w (.slice A11 (rd_T42 xs i).f11.length c11) (rd_T42 xs i).f11 := by
  obtain ⟨ad, c, e, _, hK, hc0, _⟩ := Kd.F_get h z42 i h0 h1
  have hc : ∀ j u, c[j]? = some u → w.cell? (ad.add (i.toNat * 12 + j)) = some u := hc0
  obtain ⟨A11, c11, rfl, l11, g11⟩ := k42_openF hK
  exact ⟨ad, A11, c11, e, hc 0 _ rfl, by rw [← add_field _ _ 1 (by omega)]; exact hc 1 _ rfl, by rw [← add_field _ _ 2 (by omega)]; exact hc 2 _ rfl, by rw [← add_field _ _ 3 (by omega)]; exact hc 3 _ rfl, by rw [← add_field _ _ 4 (by omega)]; exact hc 4 _ rfl, by rw [← add_field _ _ 5 (by omega)]; exact hc 5 _ rfl, by rw [← add_field _ _ 6 (by omega)]; exact hc 6 _ rfl, by rw [← add_field _ _ 7 (by omega)]; exact hc 7 _ rfl, by rw [← add_field _ _ 8 (by omega)]; exact hc 8 _ rfl, by rw [← add_field _ _ 9 (by omega)]; exact hc 9 _ rfl, by rw [← add_field _ _ 10 (by omega)]; exact hc 10 _ rfl, by rw [← add_field _ _ 11 (by omega)]; exact hc 11 _ rfl, ⟨A11, c11, rfl, l11, g11⟩⟩
theorem good_nil : Good 0 [] [] := ⟨fun v hv => (List.not_mem_nil hv).elim, rfl, by decide, by decide, fun v hv => (List.not_mem_nil hv).elim⟩
theorem field29_0 (a b c d : Int) (w : World) : (Instr.field 29 (.agg #[.int .i64 a, .int .i64 b, .int .i64 c, .int .i64 d]) 0).run Try.prog w = .ok (.int .i64 a) w := by
  have hu := Try.underlying29
  unfold Instr.field
  go_simp
  rfl
theorem field29_1 (a b c d : Int) (w : World) : (Instr.field 29 (.agg #[.int .i64 a, .int .i64 b, .int .i64 c, .int .i64 d]) 1).run Try.prog w = .ok (.int .i64 b) w := by
  have hu := Try.underlying29
  unfold Instr.field
  go_simp
  rfl
attribute [local go_sem high] field29_0 field29_1

set_option maxHeartbeats 40000000 in
set_option maxRecDepth 100000 in
theorem ratio_calls (A0 : Option Addr) (c0 : Nat) (l0 : List Cmd) (w : World) (hr0 : Kd.C k42 w A0 l0.length l0) (hc0 : l0.length ≤ c0) :
    Calls Try.prog 4 #[.slice A0 l0.length c0] w fun e w' => e = .returned (.bool true) ∧ Below w.heap.size w w' := by
  have HR := qM (Kd.C_F hpCmd hr0)
  clear hr0
  go_enter Try.func4, Try.ntmps4
  go_wp2_with (go_at_call 8; refine (hogsheadlaw19_shown.calls 40 true _ (Pure.shown_all 40 (Nat.le_refl _))).mono ?_; rintro e w1 ⟨rfl, hb⟩; have HB := qM hb; clear hb)
  obtain ⟨g4, w4, hg, hw, hk, hb⟩ := box_new w1 #[.slice none 0 0, .slice none 0 0, .slice none 0 0] 26
  rw [hw, hg]
  have G4 := qM (show w.heap.size ≤ g4 by rw [← hg]; exact HB.out.size)
  replace HB := qM (below_step HB.out hb)
  have B4 := qM hk
  skip
  clear hk hb hg hw
  obtain ⟨z40, z41, z42, f40, f41, f42⟩ := cells3 B4.out
  clear z40 z41 z42 f40 f41 f42
  obtain ⟨N, hN⟩ : ∃ N, N = min l0.length 300 := ⟨_, rfl⟩
  have HN := qM hN
  clear hN
  go_loopg [5] N (fun kq v5 w' => ∃ (t : Nat) (x : Int) (D0 D1 D2 : Option Addr) (d0 d1 d2 : Nat) (L0 : List Vol) (L1 : List Nam) (L2 : List Ses), v5 = .int .i64 x ∧ Aside0 (x = (t : Int)) ∧ Aside0 (kq + t = N) ∧ Aside0 (w'.heap[g4]? = some (.cells #[.slice D0 L0.length d0, .slice D1 L1.length d1, .slice D2 L2.length d2] 26 (0, 0))) ∧ Aside0 (SlP (fun q => q ≠ g4) k45 w' (.slice D0 L0.length d0) L0) ∧ Aside0 (SlP (fun q => q ≠ g4) k92 w' (.slice D1 L1.length d1) L1) ∧ Aside0 (SlP (fun q => q ≠ g4) k64 w' (.slice D2 L2.length d2) L2) ∧ Aside0 (Good t L0 L1) ∧ Aside0 (L2.length ≤ t) ∧ Aside0 (Below w.heap.size w w'))
  case atStart => exact ⟨0, 0, none, none, none, 0, 0, 0, [], [], [], rfl, ⟨rfl⟩, ⟨Nat.add_zero _⟩, B4, ⟨SlP.nil _ _ _⟩, ⟨SlP.nil _ _ _⟩, ⟨SlP.nil _ _ _⟩, ⟨good_nil⟩, ⟨Nat.le_refl _⟩, HB⟩
  case round =>
    obtain ⟨t, x, D0, D1, D2, d0, d1, d2, L0, L1, L2, rfl, HXT, HK, B4, HU0, HU1, HU2, HGD, HL2, HB⟩ := hrel
    obtain ⟨z40, z41, z42, f40, f41, f42⟩ := cells3 B4.out
    by_cases ct : t < N
    · have e1 : decide (x < (l0.length : Int)) = true := decide_eq_true (by have := HXT.out; have := HN.out; omega)
      have e2 : decide (x < 300) = true := decide_eq_true (by have := HXT.out; have := HN.out; omega)
      obtain ⟨k1, rfl⟩ : ∃ k1, gk = k1 + 1 := ⟨gk - 1, by have := HK.out; omega⟩
      obtain ⟨ad, A11, c11, e, hx0, hx1, hx2, hx3, hx4, hx5, hx6, hx7, hx8, hx9, hx10, hx11, h11⟩ := at_F42 HR.out x (by have := HXT.out; omega) (by have := HXT.out; have := HN.out; omega)
      cases e
      have H11 := qM h11
      clear h11
      have p0 : (0 ≤ x) = True := eq_true (by have := HXT.out; omega)
      have p1 : (x < (l0.length : Int)) = True := eq_true (by have := HXT.out; have := HN.out; omega)
      go_wp2
      refine start_ (n := 10) (S := fun w' => w'.heap[g4]? = some (.cells #[.slice D0 L0.length d0, .slice D1 L1.length d1, .slice D2 L2.length d2] 26 (0, 0)) ∧ w'.cell? (ad.add (x.toNat * 12)) = some (.int .i64 (rd_T42 l0 x).f0) ∧ w'.cell? ⟨(ad.add (x.toNat * 12)).block, (ad.add (x.toNat * 12)).off + 1, none⟩ = some (.int .i64 (rd_T42 l0 x).f1) ∧ w'.cell? ⟨(ad.add (x.toNat * 12)).block, (ad.add (x.toNat * 12)).off + 2, none⟩ = some (.int .i64 (rd_T42 l0 x).f2) ∧ w'.cell? ⟨(ad.add (x.toNat * 12)).block, (ad.add (x.toNat * 12)).off + 3, none⟩ = some (.string (rd_T42 l0 x).f3) ∧ w'.cell? ⟨(ad.add (x.toNat * 12)).block, (ad.add (x.toNat * 12)).off + 4, none⟩ = some (.int .i64 (rd_T42 l0 x).f4) ∧ w'.cell? ⟨(ad.add (x.toNat * 12)).block, (ad.add (x.toNat * 12)).off + 5, none⟩ = some (.int .i64 (rd_T42 l0 x).f5) ∧ w'.cell? ⟨(ad.add (x.toNat * 12)).block, (ad.add (x.toNat * 12)).off + 6, none⟩ = some (.int .i64 (rd_T42 l0 x).f6) ∧ w'.cell? ⟨(ad.add (x.toNat * 12)).block, (ad.add (x.toNat * 12)).off + 7, none⟩ = some (.int .u32 (rd_T42 l0 x).f7) ∧ w'.cell? ⟨(ad.add (x.toNat * 12)).block, (ad.add (x.toNat * 12)).off + 8, none⟩ = some (.int .i64 (rd_T42 l0 x).f8) ∧ w'.cell? ⟨(ad.add (x.toNat * 12)).block, (ad.add (x.toNat * 12)).off + 9, none⟩ = some (.int .i64 (rd_T42 l0 x).f9) ∧ w'.cell? ⟨(ad.add (x.toNat * 12)).block, (ad.add (x.toNat * 12)).off + 10, none⟩ = some (.int .i64 (rd_T42 l0 x).f10) ∧ w'.cell? ⟨(ad.add (x.toNat * 12)).block, (ad.add (x.toNat * 12)).off + 11, none⟩ = some (.slice A11 (rd_T42 l0 x).f11.length c11)) (ds := [9]) #[false, false, false, false, false, false, false, false, false, false] (by kernel_rfl) rfl rfl ⟨qD B4.out, held (below_drew1 HB.out) hx0, held (below_drew1 HB.out) hx1, held (below_drew1 HB.out) hx2, held (below_drew1 HB.out) hx3, held (below_drew1 HB.out) hx4, held (below_drew1 HB.out) hx5, held (below_drew1 HB.out) hx6, held (below_drew1 HB.out) hx7, held (below_drew1 HB.out) hx8, held (below_drew1 HB.out) hx9, held (below_drew1 HB.out) hx10, held (below_drew1 HB.out) hx11⟩ (fun hHeld => ?_)
      generalize hw : wr.drew = w14 at hHeld ⊢
      replace B4 := qM (show w14.heap[g4]? = _ from hw ▸ qD B4.out)
      replace HB := qM (show Below w.heap.size w w14 from hw ▸ below_drew1 HB.out)
      replace HU0 := qM (hw ▸ (show SlP _ _ wr.drew _ _ from Kd.V_drew HU0.out))
      replace HU1 := qM (hw ▸ (show SlP _ _ wr.drew _ _ from Kd.V_drew HU1.out))
      replace HU2 := qM (hw ▸ (show SlP _ _ wr.drew _ _ from Kd.V_drew HU2.out))
      clear z40 z41 z42 f40 f41 f42
      clear hw hx0 hx1 hx2 hx3 hx4 hx5 hx6 hx7 hx8 hx9 hx10 hx11
      refine take_ (i := 0) (N := some 20) (v := ?_) (a' := ?_) #[true, false, false, false, false, false, false, false, false, false] rfl rfl (by kernel_rfl) (fun _ _ _ h => h) (Or.inl ⟨by rfl, ?_⟩) hHeld ?_ ?_
      rotate_left
      · rintro w' ⟨b4, s0, s1, s2, s3, s4, s5, s6, s7, s8, s9, s10, s11⟩; obtain ⟨z40, z41, z42, f40, f41, f42⟩ := cells3 b4; go_simp; with_reducible rfl
      rotate_left
      · simp only [Act.put, xA, xZ, xS, i64_w, i32_w]; rfl
      refine pure_ (i := 1) (N := some 21) (v := ?_) (a' := ?_) #[true, true, false, false, false, false, false, false, false, false] rfl rfl (by kernel_rfl) (fun _ _ _ h => h) (Or.inl ⟨by rfl, ?_⟩) ?_ ?_
      rotate_left
      · intro w'; go_simp; with_reducible rfl
      rotate_left
      · simp only [Act.put, xA, xZ, xS, i64_w, i32_w]; rfl
      refine pure_ (i := 2) (N := some 22) (v := ?_) (a' := ?_) #[true, true, true, false, false, false, false, false, false, false] rfl rfl (by kernel_rfl) (fun _ _ _ h => h) (Or.inl ⟨by rfl, ?_⟩) ?_ ?_
      rotate_left
      · intro w'; go_simp; with_reducible rfl
      rotate_left
      · simp only [Act.put, xA, xZ, xS, i64_w, i32_w]; rfl
      refine pure_ (i := 3) (N := some 23) (v := ?_) (a' := ?_) #[true, true, true, true, false, false, false, false, false, false] rfl rfl (by kernel_rfl) (fun _ _ _ h => h) (Or.inl ⟨by rfl, ?_⟩) ?_ ?_
      rotate_left
      · intro w'; go_simp; with_reducible rfl
      rotate_left
      · simp only [Act.put, xA, xZ, xS, i64_w, i32_w]; rfl
      refine take_ (i := 4) (N := some 24) (v := ?_) (a' := ?_) #[true, true, true, true, true, false, false, false, false, false] rfl rfl (by kernel_rfl) (fun _ _ _ h => h) (Or.inl ⟨by rfl, ?_⟩) hHeld ?_ ?_
      rotate_left
      · rintro w' ⟨b4, s0, s1, s2, s3, s4, s5, s6, s7, s8, s9, s10, s11⟩; obtain ⟨z40, z41, z42, f40, f41, f42⟩ := cells3 b4; go_simp; with_reducible rfl
      rotate_left
      · simp only [Act.put, xA, xZ, xS, i64_w, i32_w]; rfl
      obtain ⟨z40, z41, z42, f40, f41, f42⟩ := cells3 B4.out
      refine one_ (i := 5) (N := some 25) #[true, true, true, true, true, true, false, false, false, false] rfl rfl (by kernel_rfl) (by decide) (fun K hK => ?_)
      go_simp
      refine (do_reads (fun q => q ≠ g4) _ _ _ (.slice A11 (rd_T42 l0 x).f11.length c11) L0 L1 L2 (rd_T42 l0 x) _ (fun q hq => Nat.ne_of_gt (Nat.lt_of_lt_of_le (blk_lt B4.out) hq)) HU0.out HU1.out HU2.out ((H11.out.mono (fun q hq => Nat.ne_of_lt (Nat.lt_of_lt_of_le hq G4.out))).below HB.out) t t HGD.out (by have := HK.out; have := HN.out; omega) HL2.out (by have := HK.out; have := HN.out; omega)).mono ?_
      rintro e w5 ⟨u0, u1, u2, M0, M1, M2, r, rfl, hu0, hu1, hu2, hm2, hg2, hb⟩
      unfold repV
      obtain ⟨E0, e0, rfl⟩ := Kd.V_slice hu0
      obtain ⟨E1, e1, rfl⟩ := Kd.V_slice hu1
      obtain ⟨E2, e2, rfl⟩ := Kd.V_slice hu2
      replace B4 := qM (blk_below B4.out hb)
      replace HB := qM (below_step HB.out hb)
      have HM2 := qM hm2
      have HG2 := qM hg2
      replace HU0 := qM hu0
      replace HU1 := qM hu1
      replace HU2 := qM hu2
      dsimp only
      refine hK.out _ _ ⟨B4.out, held hb hHeld.2.1, held hb hHeld.2.2.1, held hb hHeld.2.2.2.1, held hb hHeld.2.2.2.2.1, held hb hHeld.2.2.2.2.2.1, held hb hHeld.2.2.2.2.2.2.1, held hb hHeld.2.2.2.2.2.2.2.1, held hb hHeld.2.2.2.2.2.2.2.2.1, held hb hHeld.2.2.2.2.2.2.2.2.2.1, held hb hHeld.2.2.2.2.2.2.2.2.2.2.1, held hb hHeld.2.2.2.2.2.2.2.2.2.2.2.1, held hb hHeld.2.2.2.2.2.2.2.2.2.2.2.2⟩ (fun _ => ?_)
      clear hK K hu0 hu1 hu2 hm2 hg2 hb hHeld
      clear z40 z41 z42 f40 f41 f42
      obtain ⟨z40, z41, z42, f40, f41, f42⟩ := cells3 B4.out
      refine pure_ (i := 6) (N := some 19) (v := ?_) (a' := ?_) #[true, true, true, true, true, true, true, false, false, false] rfl rfl (by kernel_rfl) (fun _ _ _ h => h) (Or.inl ⟨by rfl, ?_⟩) ?_ ?_
      rotate_left
      · intro w'; go_simp; with_reducible rfl
      rotate_left
      · simp only [Act.put, xA, xZ, xS, i64_w, i32_w]; rfl
      refine pure_ (i := 7) (N := some 26) (v := ?_) (a' := ?_) #[true, true, true, true, true, true, true, true, false, false] rfl rfl (by kernel_rfl) (fun _ _ _ h => h) (Or.inl ⟨by rfl, ?_⟩) ?_ ?_
      rotate_left
      · intro w'; go_simp; with_reducible rfl
      rotate_left
      · simp only [Act.put, xA, xZ, xS, i64_w, i32_w]; rfl
      refine pure_ (i := 8) (N := some 27) (v := ?_) (a' := ?_) #[true, true, true, true, true, true, true, true, true, false] rfl rfl (by kernel_rfl) (fun _ _ _ h => h) (Or.inl ⟨by rfl, ?_⟩) ?_ ?_
      rotate_left
      · intro w'; go_simp; with_reducible rfl
      rotate_left
      · simp only [Act.put, xA, xZ, xS, i64_w, i32_w]; rfl
      refine last_ (i := 9) (N := none) #[true, true, true, true, true, true, true, true, true, true] rfl rfl (by kernel_rfl) (by decide) (fun K hK => ?_)
      refine skip_ (w1 := ?_) (by rfl) rfl ?_ ?_
      rotate_left
      · go_simp; rfl
      refine hK.out _ _ ?_
      clear hK K
      refine done_ (by kernel_rfl) ?_
      generalize hst : (((w5.setCell ⟨g4, 0, none⟩ (.slice E0 M0.length e0)).setCell ⟨g4, 1, none⟩ (.slice E1 M1.length e1)).setCell ⟨g4, 2, none⟩ (.slice E2 M2.length e2)) = w6
      replace B4 := qM (show w6.heap[g4]? = some (.cells #[.slice E0 M0.length e0, .slice E1 M1.length e1, .slice E2 M2.length e2] 26 (0, 0)) from hst ▸ (blk_put (blk_put (blk_put B4.out 0 (.slice E0 M0.length e0) rfl) 1 (.slice E1 M1.length e1) rfl) 2 (.slice E2 M2.length e2) rfl))
      replace HB := qM (show Below w.heap.size w w6 from hst ▸ (((HB.out.setCell (p := ⟨g4, 0, none⟩) G4.out (.slice E0 M0.length e0)).setCell (p := ⟨g4, 1, none⟩) G4.out (.slice E1 M1.length e1)).setCell (p := ⟨g4, 2, none⟩) G4.out (.slice E2 M2.length e2)))
      replace HU0 := qM (show SlP _ _ w6 _ _ from hst ▸ (SlP.far (p := ⟨g4, 2, none⟩) (SlP.far (p := ⟨g4, 1, none⟩) (SlP.far (p := ⟨g4, 0, none⟩) HU0.out (fun q hq => hq) (.slice E0 M0.length e0)) (fun q hq => hq) (.slice E1 M1.length e1)) (fun q hq => hq) (.slice E2 M2.length e2)))
      replace HU1 := qM (show SlP _ _ w6 _ _ from hst ▸ (SlP.far (p := ⟨g4, 2, none⟩) (SlP.far (p := ⟨g4, 1, none⟩) (SlP.far (p := ⟨g4, 0, none⟩) HU1.out (fun q hq => hq) (.slice E0 M0.length e0)) (fun q hq => hq) (.slice E1 M1.length e1)) (fun q hq => hq) (.slice E2 M2.length e2)))
      replace HU2 := qM (show SlP _ _ w6 _ _ from hst ▸ (SlP.far (p := ⟨g4, 2, none⟩) (SlP.far (p := ⟨g4, 1, none⟩) (SlP.far (p := ⟨g4, 0, none⟩) HU2.out (fun q hq => hq) (.slice E0 M0.length e0)) (fun q hq => hq) (.slice E1 M1.length e1)) (fun q hq => hq) (.slice E2 M2.length e2)))
      clear hst
      clear z40 z41 z42 f40 f41 f42
      obtain ⟨z40, z41, z42, f40, f41, f42⟩ := cells3 B4.out
      go_wp2
      go_roundg k1
      case measure => omega
      case rel => exact ⟨t + 1, _, E0, E1, E2, e0, e1, e2, M0, M1, M2, rfl, ⟨by have := HXT.out; subst this; exact Go.Proofs.Ytlfonfceaiiinaa.PB.wrap_succ (n := N) (by omega) (by have := HN.out; omega)⟩, ⟨by have := HK.out; omega⟩, B4, HU0, HU1, HU2, HG2, HM2, HB⟩
    · by_cases cl : t < l0.length
      · have e1 : decide (x < (l0.length : Int)) = true := decide_eq_true (by have := HXT.out; omega)
        have e2 : decide (x < 300) = false := decide_eq_false (by have := HXT.out; have := HN.out; omega)
        go_wp2
        go_loopg [6] L0.length (fun kq v6 w' => ∃ (t2 : Nat) (x2 : Int), v6 = .int .i64 x2 ∧ Aside0 (x2 = (t2 : Int)) ∧ Aside0 (kq + t2 = L0.length) ∧ Aside0 (∀ j : Nat, j < t2 → (rd_T45 L0 (j : Int)).f4 ≠ 3) ∧ Aside0 (w'.heap[g4]? = some (.cells #[.slice D0 L0.length d0, .slice D1 L1.length d1, .slice D2 L2.length d2] 26 (0, 0))) ∧ Aside0 (SlP (fun q => q ≠ g4) k45 w' (.slice D0 L0.length d0) L0) ∧ Aside0 (SlP (fun q => q ≠ g4) k92 w' (.slice D1 L1.length d1) L1) ∧ Aside0 (SlP (fun q => q ≠ g4) k64 w' (.slice D2 L2.length d2) L2) ∧ Aside0 (Below w.heap.size w w'))
        case atStart => exact ⟨0, 0, rfl, ⟨rfl⟩, ⟨Nat.add_zero _⟩, ⟨fun j hj => absurd hj (Nat.not_lt_zero j)⟩, B4, HU0, HU1, HU2, HB⟩
        case round =>
          obtain ⟨t2, x2, rfl, HX2, HK2, HNO, B4, HU0, HU1, HU2, HB⟩ := hrel
          obtain ⟨z40, z41, z42, f40, f41, f42⟩ := cells3 B4.out
          by_cases ct2 : t2 < L0.length
          · have dt : decide (x2 < (L0.length : Int)) = true := decide_eq_true (by have := HX2.out; omega)
            obtain ⟨k2, rfl⟩ : ∃ k2, gk = k2 + 1 := ⟨gk - 1, by have := HK2.out; omega⟩
            obtain ⟨ad2, A5, c5, A6, c6, e2, hv0, hv1, hv2, hv3, hv4, hv5, hv6, hv7, hv8, hl5, hi5, hl6, hi6⟩ := at_T45 (Kd.V_reads' HU0.out).2.2 x2 (by have := HX2.out; omega) (by have := HX2.out; omega)
            cases e2
            have p2 : (0 ≤ x2) = True := eq_true (by have := HX2.out; omega)
            have p3 : (x2 < (L0.length : Int)) = True := eq_true (by have := HX2.out; omega)
            by_cases c3 : (rd_T45 L0 x2).f4 = 3
            · have c3b : ((rd_T45 L0 x2).f4 == 3) = true := beq_iff_eq.mpr c3
              clear c3
              go_wp2
              go_ret
              exact ⟨rfl, HB.out⟩
            · have c3b : ((rd_T45 L0 x2).f4 == 3) = false := beq_eq_false_iff_ne.mpr c3
              have C3 := qM c3
              clear c3
              go_wp2
              go_roundg k2
              case measure => omega
              case rel => exact ⟨t2 + 1, _, rfl, ⟨by have := HX2.out; subst this; exact Go.Proofs.Ytlfonfceaiiinaa.PB.wrap_succ (n := L0.length) (by omega) (by have := HGD.out.2.2.1; omega)⟩, ⟨by have := HK2.out; omega⟩, ⟨fun j hj => by rcases Nat.lt_succ_iff_lt_or_eq.1 hj with hj | rfl; exact HNO.out j hj; have h1 := HX2.out; rw [← h1]; exact C3.out⟩, B4, HU0, HU1, HU2, HB⟩
          · have dt : decide (x2 < (L0.length : Int)) = false := decide_eq_false (by have := HX2.out; omega)
            obtain ⟨a, b, y1, y2, g, hD, hGL, q1, q2⟩ := Pure.ratio_num L2 HGD.out (by have := HK.out; have := HN.out; omega) (fun v hv => by obtain ⟨j, hj, rfl⟩ := List.getElem_of_mem hv; have h1 := HNO.out j (by have := HK2.out; omega); rw [rdVol L0 (j : Int) (by simpa using hj)] at h1; simpa using h1)
            have HD := qM hD
            have HGL := qM hGL
            clear hD hGL
            go_wp2
            refine start_ (n := 22) (S := fun w' => w'.heap[g4]? = some (.cells #[.slice D0 L0.length d0, .slice D1 L1.length d1, .slice D2 L2.length d2] 26 (0, 0))) (ds := [21]) #[false, false, false, false, false, false, false, false, false, false, false, false, false, false, false, false, false, false, false, false, false, false] (by kernel_rfl) rfl rfl (qD B4.out) (fun hHeld => ?_)
            generalize hw : wr.drew = w14 at hHeld ⊢
            replace B4 := qM (show w14.heap[g4]? = _ from hw ▸ qD B4.out)
            replace HB := qM (show Below w.heap.size w w14 from hw ▸ below_drew1 HB.out)
            replace HU0 := qM (hw ▸ (show SlP _ _ wr.drew _ _ from Kd.V_drew HU0.out))
            replace HU1 := qM (hw ▸ (show SlP _ _ wr.drew _ _ from Kd.V_drew HU1.out))
            replace HU2 := qM (hw ▸ (show SlP _ _ wr.drew _ _ from Kd.V_drew HU2.out))
            clear z40 z41 z42 f40 f41 f42
            clear hw
            refine pure_ (i := 0) (N := some 43) (v := ?_) (a' := ?_) #[true, false, false, false, false, false, false, false, false, false, false, false, false, false, false, false, false, false, false, false, false, false] rfl rfl (by kernel_rfl) (fun _ _ _ h => h) (Or.inl ⟨by rfl, ?_⟩) ?_ ?_
            rotate_left
            · intro w'; go_simp; with_reducible rfl
            rotate_left
            · simp only [Act.put, xA, xZ, xS, i64_w, i32_w]; rfl
            refine pure_ (i := 1) (N := some 44) (v := ?_) (a' := ?_) #[true, true, false, false, false, false, false, false, false, false, false, false, false, false, false, false, false, false, false, false, false, false] rfl rfl (by kernel_rfl) (fun _ _ _ h => h) (Or.inl ⟨by rfl, ?_⟩) ?_ ?_
            rotate_left
            · intro w'; go_simp; with_reducible rfl
            rotate_left
            · simp only [Act.put, xA, xZ, xS, i64_w, i32_w]; rfl
            refine take_ (i := 2) (N := some 45) (v := ?_) (a' := ?_) #[true, true, true, false, false, false, false, false, false, false, false, false, false, false, false, false, false, false, false, false, false, false] rfl rfl (by kernel_rfl) (fun _ _ _ h => h) (Or.inl ⟨by rfl, ?_⟩) hHeld ?_ ?_
            rotate_left
            · rintro w' b4; obtain ⟨z40, z41, z42, f40, f41, f42⟩ := cells3 b4; go_simp; with_reducible rfl
            rotate_left
            · simp only [Act.put, xA, xZ, xS, i64_w, i32_w]; rfl
            refine take_ (i := 6) (N := some 49) (v := ?_) (a' := ?_) #[true, true, true, false, false, false, true, false, false, false, false, false, false, false, false, false, false, false, false, false, false, false] rfl rfl (by kernel_rfl) (fun _ _ _ h => h) (Or.inl ⟨by rfl, ?_⟩) hHeld ?_ ?_
            rotate_left
            · rintro w' b4; obtain ⟨z40, z41, z42, f40, f41, f42⟩ := cells3 b4; go_simp; with_reducible rfl
            rotate_left
            · simp only [Act.put, xA, xZ, xS, i64_w, i32_w]; rfl
            obtain ⟨z40, z41, z42, f40, f41, f42⟩ := cells3 B4.out
            refine one_ (i := 3) (N := some 46) #[true, true, true, true, false, false, true, false, false, false, false, false, false, false, false, false, false, false, false, false, false, false] rfl rfl (by kernel_rfl) (by decide) (fun K hK => ?_)
            go_simp
            refine (count_Due.calls 100000 D0 d0 L0 D1 d1 L1 D2 d2 L2 a b y1 y2 _ (Kd.V_reads' HU0.out).2.2 (Kd.V_reads' HU0.out).2.1 (Kd.V_reads' HU1.out).2.2 (Kd.V_reads' HU1.out).2.1 (Kd.V_reads' HU2.out).2.2 (Kd.V_reads' HU2.out).2.1 HD.out).mono ?_
            rintro e w5 ⟨rfl, hb⟩
            replace B4 := qM (blk_below B4.out hb)
            replace HB := qM (below_step HB.out hb)
            replace HU0 := qM (HU0.out.below hb)
            replace HU1 := qM (HU1.out.below hb)
            replace HU2 := qM (HU2.out.below hb)
            dsimp only
            refine hK.out _ _ B4.out (fun hHeld => ?_)
            clear hK K hb
            clear z40 z41 z42 f40 f41 f42
            refine pure_ (i := 4) (N := some 47) (v := ?_) (a' := ?_) #[true, true, true, true, true, false, true, false, false, false, false, false, false, false, false, false, false, false, false, false, false, false] rfl rfl (by kernel_rfl) (fun _ _ _ h => h) (Or.inl ⟨by rfl, ?_⟩) ?_ ?_
            rotate_left
            · intro w'; go_simp; with_reducible rfl
            rotate_left
            · simp only [Act.put, xA, xZ, xS, i64_w, i32_w]; rfl
            refine pure_ (i := 5) (N := some 48) (v := ?_) (a' := ?_) #[true, true, true, true, true, true, true, false, false, false, false, false, false, false, false, false, false, false, false, false, false, false] rfl rfl (by kernel_rfl) (fun _ _ _ h => h) (Or.inl ⟨by rfl, ?_⟩) ?_ ?_
            rotate_left
            · intro w'; go_simp; with_reducible rfl
            rotate_left
            · simp only [Act.put, xA, xZ, xS, i64_w, i32_w]; rfl
            obtain ⟨z40, z41, z42, f40, f41, f42⟩ := cells3 B4.out
            refine one_ (i := 7) (N := some 50) #[true, true, true, true, true, true, true, true, false, false, false, false, false, false, false, false, false, false, false, false, false, false] rfl rfl (by kernel_rfl) (by decide) (fun K hK => ?_)
            go_simp
            refine (count_Logical.calls 100000 D0 d0 L0 D1 d1 L1 D2 d2 L2 g _ (Kd.V_reads' HU0.out).2.2 (Kd.V_reads' HU0.out).2.1 (Kd.V_reads' HU1.out).2.2 (Kd.V_reads' HU1.out).2.1 (Kd.V_reads' HU2.out).2.2 (Kd.V_reads' HU2.out).2.1 HGL.out).mono ?_
            rintro e w5 ⟨rfl, hb⟩
            replace B4 := qM (blk_below B4.out hb)
            replace HB := qM (below_step HB.out hb)
            replace HU0 := qM (HU0.out.below hb)
            replace HU1 := qM (HU1.out.below hb)
            replace HU2 := qM (HU2.out.below hb)
            dsimp only
            refine hK.out _ _ B4.out (fun hHeld => ?_)
            clear hK K hb
            clear z40 z41 z42 f40 f41 f42
            refine pure_ (i := 8) (N := some 51) (v := ?_) (a' := ?_) #[true, true, true, true, true, true, true, true, true, false, false, false, false, false, false, false, false, false, false, false, false, false] rfl rfl (by kernel_rfl) (fun _ _ _ h => h) (Or.inl ⟨by rfl, ?_⟩) ?_ ?_
            rotate_left
            · intro w'; go_simp; with_reducible rfl
            rotate_left
            · simp only [Act.put, xA, xZ, xS, i64_w, i32_w]; rfl
            refine pure_ (i := 9) (N := some 52) (v := ?_) (a' := ?_) #[true, true, true, true, true, true, true, true, true, true, false, false, false, false, false, false, false, false, false, false, false, false] rfl rfl (by kernel_rfl) (fun _ _ _ h => h) (Or.inl ⟨by rfl, ?_⟩) ?_ ?_
            rotate_left
            · intro w'; go_simp; with_reducible rfl
            rotate_left
            · simp only [Act.put, xA, xZ, xS, i64_w, i32_w]; rfl
            refine pure_ (i := 10) (N := some 53) (v := ?_) (a' := ?_) #[true, true, true, true, true, true, true, true, true, true, true, false, false, false, false, false, false, false, false, false, false, false] rfl rfl (by kernel_rfl) (fun _ _ _ h => h) (Or.inl ⟨by rfl, ?_⟩) ?_ ?_
            rotate_left
            · intro w'; go_simp; with_reducible rfl
            rotate_left
            · simp only [Act.put, xA, xZ, xS, i64_w, i32_w]; rfl
            refine pure_ (i := 11) (N := some 54) (v := ?_) (a' := ?_) #[true, true, true, true, true, true, true, true, true, true, true, true, false, false, false, false, false, false, false, false, false, false] rfl rfl (by kernel_rfl) (fun _ _ _ h => h) (Or.inl ⟨by rfl, ?_⟩) ?_ ?_
            rotate_left
            · intro w'; go_simp; with_reducible rfl
            rotate_left
            · simp only [Act.put, xA, xZ, xS, i64_w, i32_w]; rfl
            refine take_ (i := 12) (N := some 55) (v := ?_) (a' := ?_) #[true, true, true, true, true, true, true, true, true, true, true, true, true, false, false, false, false, false, false, false, false, false] rfl rfl (by kernel_rfl) (fun _ _ _ h => h) (Or.inl ⟨by rfl, ?_⟩) hHeld ?_ ?_
            rotate_left
            · rintro w' b4; obtain ⟨z40, z41, z42, f40, f41, f42⟩ := cells3 b4; go_simp; with_reducible rfl
            rotate_left
            · simp only [Act.put, xA, xZ, xS, i64_w, i32_w]; rfl
            refine take_ (i := 16) (N := some 59) (v := ?_) (a' := ?_) #[true, true, true, true, true, true, true, true, true, true, true, true, true, false, false, false, true, false, false, false, false, false] rfl rfl (by kernel_rfl) (fun _ _ _ h => h) (Or.inl ⟨by rfl, ?_⟩) hHeld ?_ ?_
            rotate_left
            · rintro w' b4; obtain ⟨z40, z41, z42, f40, f41, f42⟩ := cells3 b4; go_simp; with_reducible rfl
            rotate_left
            · simp only [Act.put, xA, xZ, xS, i64_w, i32_w]; rfl
            obtain ⟨z40, z41, z42, f40, f41, f42⟩ := cells3 B4.out
            refine one_ (i := 13) (N := some 56) #[true, true, true, true, true, true, true, true, true, true, true, true, true, true, false, false, true, false, false, false, false, false] rfl rfl (by kernel_rfl) (by decide) (fun K hK => ?_)
            go_simp
            refine (count_Due.calls 100000 D0 d0 L0 D1 d1 L1 D2 d2 L2 a b y1 y2 _ (Kd.V_reads' HU0.out).2.2 (Kd.V_reads' HU0.out).2.1 (Kd.V_reads' HU1.out).2.2 (Kd.V_reads' HU1.out).2.1 (Kd.V_reads' HU2.out).2.2 (Kd.V_reads' HU2.out).2.1 HD.out).mono ?_
            rintro e w5 ⟨rfl, hb⟩
            replace B4 := qM (blk_below B4.out hb)
            replace HB := qM (below_step HB.out hb)
            replace HU0 := qM (HU0.out.below hb)
            replace HU1 := qM (HU1.out.below hb)
            replace HU2 := qM (HU2.out.below hb)
            dsimp only
            refine hK.out _ _ B4.out (fun hHeld => ?_)
            clear hK K hb
            clear z40 z41 z42 f40 f41 f42
            refine pure_ (i := 14) (N := some 57) (v := ?_) (a' := ?_) #[true, true, true, true, true, true, true, true, true, true, true, true, true, true, true, false, true, false, false, false, false, false] rfl rfl (by kernel_rfl) (fun _ _ _ h => h) (Or.inl ⟨by rfl, ?_⟩) ?_ ?_
            rotate_left
            · intro w'; go_simp; with_reducible rfl
            rotate_left
            · simp only [Act.put, xA, xZ, xS, i64_w, i32_w]; rfl
            refine pure_ (i := 15) (N := some 58) (v := ?_) (a' := ?_) #[true, true, true, true, true, true, true, true, true, true, true, true, true, true, true, true, true, false, false, false, false, false] rfl rfl (by kernel_rfl) (fun _ _ _ h => h) (Or.inl ⟨by rfl, ?_⟩) ?_ ?_
            rotate_left
            · intro w'; go_simp; with_reducible rfl
            rotate_left
            · simp only [Act.put, xA, xZ, xS, i64_w, i32_w]; rfl
            obtain ⟨z40, z41, z42, f40, f41, f42⟩ := cells3 B4.out
            refine one_ (i := 17) (N := some 60) #[true, true, true, true, true, true, true, true, true, true, true, true, true, true, true, true, true, true, false, false, false, false] rfl rfl (by kernel_rfl) (by decide) (fun K hK => ?_)
            go_simp
            refine (count_Logical.calls 100000 D0 d0 L0 D1 d1 L1 D2 d2 L2 g _ (Kd.V_reads' HU0.out).2.2 (Kd.V_reads' HU0.out).2.1 (Kd.V_reads' HU1.out).2.2 (Kd.V_reads' HU1.out).2.1 (Kd.V_reads' HU2.out).2.2 (Kd.V_reads' HU2.out).2.1 HGL.out).mono ?_
            rintro e w5 ⟨rfl, hb⟩
            replace B4 := qM (blk_below B4.out hb)
            replace HB := qM (below_step HB.out hb)
            replace HU0 := qM (HU0.out.below hb)
            replace HU1 := qM (HU1.out.below hb)
            replace HU2 := qM (HU2.out.below hb)
            dsimp only
            refine hK.out _ _ B4.out (fun hHeld => ?_)
            clear hK K hb
            clear z40 z41 z42 f40 f41 f42
            refine pure_ (i := 18) (N := some 61) (v := ?_) (a' := ?_) #[true, true, true, true, true, true, true, true, true, true, true, true, true, true, true, true, true, true, true, false, false, false] rfl rfl (by kernel_rfl) (fun _ _ _ h => h) (Or.inl ⟨by rfl, ?_⟩) ?_ ?_
            rotate_left
            · intro w'; go_simp; with_reducible rfl
            rotate_left
            · simp only [Act.put, xA, xZ, xS, i64_w, i32_w]; rfl
            refine pure_ (i := 19) (N := some 62) (v := ?_) (a' := ?_) #[true, true, true, true, true, true, true, true, true, true, true, true, true, true, true, true, true, true, true, true, false, false] rfl rfl (by kernel_rfl) (fun _ _ _ h => h) (Or.inl ⟨by rfl, ?_⟩) ?_ ?_
            rotate_left
            · intro w'; go_simp; with_reducible rfl
            rotate_left
            · simp only [Act.put, xA, xZ, xS, i64_w, i32_w]; rfl
            refine pure_ (i := 20) (N := some 63) (v := ?_) (a' := ?_) #[true, true, true, true, true, true, true, true, true, true, true, true, true, true, true, true, true, true, true, true, true, false] rfl rfl (by kernel_rfl) (fun _ _ _ h => h) (Or.inl ⟨by rfl, ?_⟩) ?_ ?_
            rotate_left
            · intro w'; go_simp; with_reducible rfl
            rotate_left
            · simp only [Act.put, xA, xZ, xS, i64_w, i32_w]; rfl
            obtain ⟨z40, z41, z42, f40, f41, f42⟩ := cells3 B4.out
            refine last_ (i := 21) (N := some 2) #[true, true, true, true, true, true, true, true, true, true, true, true, true, true, true, true, true, true, true, true, true, true] rfl rfl (by kernel_rfl) (by decide) (fun K hK => ?_)
            go_simp
            refine hK.out _ _ ?_
            clear hK K
            refine done_ (by kernel_rfl) ?_
            go_wp2
            go_ret
            exact ⟨rfl, HB.out⟩
      · have e1 : decide (x < (l0.length : Int)) = false := decide_eq_false (by have := HXT.out; omega)
        go_wp2
        go_loopg [6] L0.length (fun kq v6 w' => ∃ (t2 : Nat) (x2 : Int), v6 = .int .i64 x2 ∧ Aside0 (x2 = (t2 : Int)) ∧ Aside0 (kq + t2 = L0.length) ∧ Aside0 (∀ j : Nat, j < t2 → (rd_T45 L0 (j : Int)).f4 ≠ 3) ∧ Aside0 (w'.heap[g4]? = some (.cells #[.slice D0 L0.length d0, .slice D1 L1.length d1, .slice D2 L2.length d2] 26 (0, 0))) ∧ Aside0 (SlP (fun q => q ≠ g4) k45 w' (.slice D0 L0.length d0) L0) ∧ Aside0 (SlP (fun q => q ≠ g4) k92 w' (.slice D1 L1.length d1) L1) ∧ Aside0 (SlP (fun q => q ≠ g4) k64 w' (.slice D2 L2.length d2) L2) ∧ Aside0 (Below w.heap.size w w'))
        case atStart => exact ⟨0, 0, rfl, ⟨rfl⟩, ⟨Nat.add_zero _⟩, ⟨fun j hj => absurd hj (Nat.not_lt_zero j)⟩, B4, HU0, HU1, HU2, HB⟩
        case round =>
          obtain ⟨t2, x2, rfl, HX2, HK2, HNO, B4, HU0, HU1, HU2, HB⟩ := hrel
          obtain ⟨z40, z41, z42, f40, f41, f42⟩ := cells3 B4.out
          by_cases ct2 : t2 < L0.length
          · have dt : decide (x2 < (L0.length : Int)) = true := decide_eq_true (by have := HX2.out; omega)
            obtain ⟨k2, rfl⟩ : ∃ k2, gk = k2 + 1 := ⟨gk - 1, by have := HK2.out; omega⟩
            obtain ⟨ad2, A5, c5, A6, c6, e2, hv0, hv1, hv2, hv3, hv4, hv5, hv6, hv7, hv8, hl5, hi5, hl6, hi6⟩ := at_T45 (Kd.V_reads' HU0.out).2.2 x2 (by have := HX2.out; omega) (by have := HX2.out; omega)
            cases e2
            have p2 : (0 ≤ x2) = True := eq_true (by have := HX2.out; omega)
            have p3 : (x2 < (L0.length : Int)) = True := eq_true (by have := HX2.out; omega)
            by_cases c3 : (rd_T45 L0 x2).f4 = 3
            · have c3b : ((rd_T45 L0 x2).f4 == 3) = true := beq_iff_eq.mpr c3
              clear c3
              go_wp2
              go_ret
              exact ⟨rfl, HB.out⟩
            · have c3b : ((rd_T45 L0 x2).f4 == 3) = false := beq_eq_false_iff_ne.mpr c3
              have C3 := qM c3
              clear c3
              go_wp2
              go_roundg k2
              case measure => omega
              case rel => exact ⟨t2 + 1, _, rfl, ⟨by have := HX2.out; subst this; exact Go.Proofs.Ytlfonfceaiiinaa.PB.wrap_succ (n := L0.length) (by omega) (by have := HGD.out.2.2.1; omega)⟩, ⟨by have := HK2.out; omega⟩, ⟨fun j hj => by rcases Nat.lt_succ_iff_lt_or_eq.1 hj with hj | rfl; exact HNO.out j hj; have h1 := HX2.out; rw [← h1]; exact C3.out⟩, B4, HU0, HU1, HU2, HB⟩
          · have dt : decide (x2 < (L0.length : Int)) = false := decide_eq_false (by have := HX2.out; omega)
            obtain ⟨a, b, y1, y2, g, hD, hGL, q1, q2⟩ := Pure.ratio_num L2 HGD.out (by have := HK.out; have := HN.out; omega) (fun v hv => by obtain ⟨j, hj, rfl⟩ := List.getElem_of_mem hv; have h1 := HNO.out j (by have := HK2.out; omega); rw [rdVol L0 (j : Int) (by simpa using hj)] at h1; simpa using h1)
            have HD := qM hD
            have HGL := qM hGL
            clear hD hGL
            go_wp2
            refine start_ (n := 22) (S := fun w' => w'.heap[g4]? = some (.cells #[.slice D0 L0.length d0, .slice D1 L1.length d1, .slice D2 L2.length d2] 26 (0, 0))) (ds := [21]) #[false, false, false, false, false, false, false, false, false, false, false, false, false, false, false, false, false, false, false, false, false, false] (by kernel_rfl) rfl rfl (qD B4.out) (fun hHeld => ?_)
            generalize hw : wr.drew = w14 at hHeld ⊢
            replace B4 := qM (show w14.heap[g4]? = _ from hw ▸ qD B4.out)
            replace HB := qM (show Below w.heap.size w w14 from hw ▸ below_drew1 HB.out)
            replace HU0 := qM (hw ▸ (show SlP _ _ wr.drew _ _ from Kd.V_drew HU0.out))
            replace HU1 := qM (hw ▸ (show SlP _ _ wr.drew _ _ from Kd.V_drew HU1.out))
            replace HU2 := qM (hw ▸ (show SlP _ _ wr.drew _ _ from Kd.V_drew HU2.out))
            clear z40 z41 z42 f40 f41 f42
            clear hw
            refine pure_ (i := 0) (N := some 43) (v := ?_) (a' := ?_) #[true, false, false, false, false, false, false, false, false, false, false, false, false, false, false, false, false, false, false, false, false, false] rfl rfl (by kernel_rfl) (fun _ _ _ h => h) (Or.inl ⟨by rfl, ?_⟩) ?_ ?_
            rotate_left
            · intro w'; go_simp; with_reducible rfl
            rotate_left
            · simp only [Act.put, xA, xZ, xS, i64_w, i32_w]; rfl
            refine pure_ (i := 1) (N := some 44) (v := ?_) (a' := ?_) #[true, true, false, false, false, false, false, false, false, false, false, false, false, false, false, false, false, false, false, false, false, false] rfl rfl (by kernel_rfl) (fun _ _ _ h => h) (Or.inl ⟨by rfl, ?_⟩) ?_ ?_
            rotate_left
            · intro w'; go_simp; with_reducible rfl
            rotate_left
            · simp only [Act.put, xA, xZ, xS, i64_w, i32_w]; rfl
            refine take_ (i := 2) (N := some 45) (v := ?_) (a' := ?_) #[true, true, true, false, false, false, false, false, false, false, false, false, false, false, false, false, false, false, false, false, false, false] rfl rfl (by kernel_rfl) (fun _ _ _ h => h) (Or.inl ⟨by rfl, ?_⟩) hHeld ?_ ?_
            rotate_left
            · rintro w' b4; obtain ⟨z40, z41, z42, f40, f41, f42⟩ := cells3 b4; go_simp; with_reducible rfl
            rotate_left
            · simp only [Act.put, xA, xZ, xS, i64_w, i32_w]; rfl
            refine take_ (i := 6) (N := some 49) (v := ?_) (a' := ?_) #[true, true, true, false, false, false, true, false, false, false, false, false, false, false, false, false, false, false, false, false, false, false] rfl rfl (by kernel_rfl) (fun _ _ _ h => h) (Or.inl ⟨by rfl, ?_⟩) hHeld ?_ ?_
            rotate_left
            · rintro w' b4; obtain ⟨z40, z41, z42, f40, f41, f42⟩ := cells3 b4; go_simp; with_reducible rfl
            rotate_left
            · simp only [Act.put, xA, xZ, xS, i64_w, i32_w]; rfl
            obtain ⟨z40, z41, z42, f40, f41, f42⟩ := cells3 B4.out
            refine one_ (i := 3) (N := some 46) #[true, true, true, true, false, false, true, false, false, false, false, false, false, false, false, false, false, false, false, false, false, false] rfl rfl (by kernel_rfl) (by decide) (fun K hK => ?_)
            go_simp
            refine (count_Due.calls 100000 D0 d0 L0 D1 d1 L1 D2 d2 L2 a b y1 y2 _ (Kd.V_reads' HU0.out).2.2 (Kd.V_reads' HU0.out).2.1 (Kd.V_reads' HU1.out).2.2 (Kd.V_reads' HU1.out).2.1 (Kd.V_reads' HU2.out).2.2 (Kd.V_reads' HU2.out).2.1 HD.out).mono ?_
            rintro e w5 ⟨rfl, hb⟩
            replace B4 := qM (blk_below B4.out hb)
            replace HB := qM (below_step HB.out hb)
            replace HU0 := qM (HU0.out.below hb)
            replace HU1 := qM (HU1.out.below hb)
            replace HU2 := qM (HU2.out.below hb)
            dsimp only
            refine hK.out _ _ B4.out (fun hHeld => ?_)
            clear hK K hb
            clear z40 z41 z42 f40 f41 f42
            refine pure_ (i := 4) (N := some 47) (v := ?_) (a' := ?_) #[true, true, true, true, true, false, true, false, false, false, false, false, false, false, false, false, false, false, false, false, false, false] rfl rfl (by kernel_rfl) (fun _ _ _ h => h) (Or.inl ⟨by rfl, ?_⟩) ?_ ?_
            rotate_left
            · intro w'; go_simp; with_reducible rfl
            rotate_left
            · simp only [Act.put, xA, xZ, xS, i64_w, i32_w]; rfl
            refine pure_ (i := 5) (N := some 48) (v := ?_) (a' := ?_) #[true, true, true, true, true, true, true, false, false, false, false, false, false, false, false, false, false, false, false, false, false, false] rfl rfl (by kernel_rfl) (fun _ _ _ h => h) (Or.inl ⟨by rfl, ?_⟩) ?_ ?_
            rotate_left
            · intro w'; go_simp; with_reducible rfl
            rotate_left
            · simp only [Act.put, xA, xZ, xS, i64_w, i32_w]; rfl
            obtain ⟨z40, z41, z42, f40, f41, f42⟩ := cells3 B4.out
            refine one_ (i := 7) (N := some 50) #[true, true, true, true, true, true, true, true, false, false, false, false, false, false, false, false, false, false, false, false, false, false] rfl rfl (by kernel_rfl) (by decide) (fun K hK => ?_)
            go_simp
            refine (count_Logical.calls 100000 D0 d0 L0 D1 d1 L1 D2 d2 L2 g _ (Kd.V_reads' HU0.out).2.2 (Kd.V_reads' HU0.out).2.1 (Kd.V_reads' HU1.out).2.2 (Kd.V_reads' HU1.out).2.1 (Kd.V_reads' HU2.out).2.2 (Kd.V_reads' HU2.out).2.1 HGL.out).mono ?_
            rintro e w5 ⟨rfl, hb⟩
            replace B4 := qM (blk_below B4.out hb)
            replace HB := qM (below_step HB.out hb)
            replace HU0 := qM (HU0.out.below hb)
            replace HU1 := qM (HU1.out.below hb)
            replace HU2 := qM (HU2.out.below hb)
            dsimp only
            refine hK.out _ _ B4.out (fun hHeld => ?_)
            clear hK K hb
            clear z40 z41 z42 f40 f41 f42
            refine pure_ (i := 8) (N := some 51) (v := ?_) (a' := ?_) #[true, true, true, true, true, true, true, true, true, false, false, false, false, false, false, false, false, false, false, false, false, false] rfl rfl (by kernel_rfl) (fun _ _ _ h => h) (Or.inl ⟨by rfl, ?_⟩) ?_ ?_
            rotate_left
            · intro w'; go_simp; with_reducible rfl
            rotate_left
            · simp only [Act.put, xA, xZ, xS, i64_w, i32_w]; rfl
            refine pure_ (i := 9) (N := some 52) (v := ?_) (a' := ?_) #[true, true, true, true, true, true, true, true, true, true, false, false, false, false, false, false, false, false, false, false, false, false] rfl rfl (by kernel_rfl) (fun _ _ _ h => h) (Or.inl ⟨by rfl, ?_⟩) ?_ ?_
            rotate_left
            · intro w'; go_simp; with_reducible rfl
            rotate_left
            · simp only [Act.put, xA, xZ, xS, i64_w, i32_w]; rfl
            refine pure_ (i := 10) (N := some 53) (v := ?_) (a' := ?_) #[true, true, true, true, true, true, true, true, true, true, true, false, false, false, false, false, false, false, false, false, false, false] rfl rfl (by kernel_rfl) (fun _ _ _ h => h) (Or.inl ⟨by rfl, ?_⟩) ?_ ?_
            rotate_left
            · intro w'; go_simp; with_reducible rfl
            rotate_left
            · simp only [Act.put, xA, xZ, xS, i64_w, i32_w]; rfl
            refine pure_ (i := 11) (N := some 54) (v := ?_) (a' := ?_) #[true, true, true, true, true, true, true, true, true, true, true, true, false, false, false, false, false, false, false, false, false, false] rfl rfl (by kernel_rfl) (fun _ _ _ h => h) (Or.inl ⟨by rfl, ?_⟩) ?_ ?_
            rotate_left
            · intro w'; go_simp; with_reducible rfl
            rotate_left
            · simp only [Act.put, xA, xZ, xS, i64_w, i32_w]; rfl
            refine take_ (i := 12) (N := some 55) (v := ?_) (a' := ?_) #[true, true, true, true, true, true, true, true, true, true, true, true, true, false, false, false, false, false, false, false, false, false] rfl rfl (by kernel_rfl) (fun _ _ _ h => h) (Or.inl ⟨by rfl, ?_⟩) hHeld ?_ ?_
            rotate_left
            · rintro w' b4; obtain ⟨z40, z41, z42, f40, f41, f42⟩ := cells3 b4; go_simp; with_reducible rfl
            rotate_left
            · simp only [Act.put, xA, xZ, xS, i64_w, i32_w]; rfl
            refine take_ (i := 16) (N := some 59) (v := ?_) (a' := ?_) #[true, true, true, true, true, true, true, true, true, true, true, true, true, false, false, false, true, false, false, false, false, false] rfl rfl (by kernel_rfl) (fun _ _ _ h => h) (Or.inl ⟨by rfl, ?_⟩) hHeld ?_ ?_
            rotate_left
            · rintro w' b4; obtain ⟨z40, z41, z42, f40, f41, f42⟩ := cells3 b4; go_simp; with_reducible rfl
            rotate_left
            · simp only [Act.put, xA, xZ, xS, i64_w, i32_w]; rfl
            obtain ⟨z40, z41, z42, f40, f41, f42⟩ := cells3 B4.out
            refine one_ (i := 13) (N := some 56) #[true, true, true, true, true, true, true, true, true, true, true, true, true, true, false, false, true, false, false, false, false, false] rfl rfl (by kernel_rfl) (by decide) (fun K hK => ?_)
            go_simp
            refine (count_Due.calls 100000 D0 d0 L0 D1 d1 L1 D2 d2 L2 a b y1 y2 _ (Kd.V_reads' HU0.out).2.2 (Kd.V_reads' HU0.out).2.1 (Kd.V_reads' HU1.out).2.2 (Kd.V_reads' HU1.out).2.1 (Kd.V_reads' HU2.out).2.2 (Kd.V_reads' HU2.out).2.1 HD.out).mono ?_
            rintro e w5 ⟨rfl, hb⟩
            replace B4 := qM (blk_below B4.out hb)
            replace HB := qM (below_step HB.out hb)
            replace HU0 := qM (HU0.out.below hb)
            replace HU1 := qM (HU1.out.below hb)
            replace HU2 := qM (HU2.out.below hb)
            dsimp only
            refine hK.out _ _ B4.out (fun hHeld => ?_)
            clear hK K hb
            clear z40 z41 z42 f40 f41 f42
            refine pure_ (i := 14) (N := some 57) (v := ?_) (a' := ?_) #[true, true, true, true, true, true, true, true, true, true, true, true, true, true, true, false, true, false, false, false, false, false] rfl rfl (by kernel_rfl) (fun _ _ _ h => h) (Or.inl ⟨by rfl, ?_⟩) ?_ ?_
            rotate_left
            · intro w'; go_simp; with_reducible rfl
            rotate_left
            · simp only [Act.put, xA, xZ, xS, i64_w, i32_w]; rfl
            refine pure_ (i := 15) (N := some 58) (v := ?_) (a' := ?_) #[true, true, true, true, true, true, true, true, true, true, true, true, true, true, true, true, true, false, false, false, false, false] rfl rfl (by kernel_rfl) (fun _ _ _ h => h) (Or.inl ⟨by rfl, ?_⟩) ?_ ?_
            rotate_left
            · intro w'; go_simp; with_reducible rfl
            rotate_left
            · simp only [Act.put, xA, xZ, xS, i64_w, i32_w]; rfl
            obtain ⟨z40, z41, z42, f40, f41, f42⟩ := cells3 B4.out
            refine one_ (i := 17) (N := some 60) #[true, true, true, true, true, true, true, true, true, true, true, true, true, true, true, true, true, true, false, false, false, false] rfl rfl (by kernel_rfl) (by decide) (fun K hK => ?_)
            go_simp
            refine (count_Logical.calls 100000 D0 d0 L0 D1 d1 L1 D2 d2 L2 g _ (Kd.V_reads' HU0.out).2.2 (Kd.V_reads' HU0.out).2.1 (Kd.V_reads' HU1.out).2.2 (Kd.V_reads' HU1.out).2.1 (Kd.V_reads' HU2.out).2.2 (Kd.V_reads' HU2.out).2.1 HGL.out).mono ?_
            rintro e w5 ⟨rfl, hb⟩
            replace B4 := qM (blk_below B4.out hb)
            replace HB := qM (below_step HB.out hb)
            replace HU0 := qM (HU0.out.below hb)
            replace HU1 := qM (HU1.out.below hb)
            replace HU2 := qM (HU2.out.below hb)
            dsimp only
            refine hK.out _ _ B4.out (fun hHeld => ?_)
            clear hK K hb
            clear z40 z41 z42 f40 f41 f42
            refine pure_ (i := 18) (N := some 61) (v := ?_) (a' := ?_) #[true, true, true, true, true, true, true, true, true, true, true, true, true, true, true, true, true, true, true, false, false, false] rfl rfl (by kernel_rfl) (fun _ _ _ h => h) (Or.inl ⟨by rfl, ?_⟩) ?_ ?_
            rotate_left
            · intro w'; go_simp; with_reducible rfl
            rotate_left
            · simp only [Act.put, xA, xZ, xS, i64_w, i32_w]; rfl
            refine pure_ (i := 19) (N := some 62) (v := ?_) (a' := ?_) #[true, true, true, true, true, true, true, true, true, true, true, true, true, true, true, true, true, true, true, true, false, false] rfl rfl (by kernel_rfl) (fun _ _ _ h => h) (Or.inl ⟨by rfl, ?_⟩) ?_ ?_
            rotate_left
            · intro w'; go_simp; with_reducible rfl
            rotate_left
            · simp only [Act.put, xA, xZ, xS, i64_w, i32_w]; rfl
            refine pure_ (i := 20) (N := some 63) (v := ?_) (a' := ?_) #[true, true, true, true, true, true, true, true, true, true, true, true, true, true, true, true, true, true, true, true, true, false] rfl rfl (by kernel_rfl) (fun _ _ _ h => h) (Or.inl ⟨by rfl, ?_⟩) ?_ ?_
            rotate_left
            · intro w'; go_simp; with_reducible rfl
            rotate_left
            · simp only [Act.put, xA, xZ, xS, i64_w, i32_w]; rfl
            obtain ⟨z40, z41, z42, f40, f41, f42⟩ := cells3 B4.out
            refine last_ (i := 21) (N := some 2) #[true, true, true, true, true, true, true, true, true, true, true, true, true, true, true, true, true, true, true, true, true, true] rfl rfl (by kernel_rfl) (by decide) (fun K hK => ?_)
            go_simp
            refine hK.out _ _ ?_
            clear hK K
            refine done_ (by kernel_rfl) ?_
            go_wp2
            go_ret
            exact ⟨rfl, HB.out⟩
end Go.Proofs.Ytlfonfceaiiinaa.PAll
