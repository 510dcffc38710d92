/- Each write that is flushed makes the turn one more, and what is read is the last one. -/
import Derived.Test.YthnhfmmiaknhgaaStCellTurns
import Derived.Test.YthnhfmmiaknhgaaCellLaws
namespace Go.Proofs.Ythnhfmmiaknhgaa.Pure
open Go.RowKit Go.Proofs.YthnhfmmiaknhgaaW.PrintWords Go.Proofs.YthnhfmmiaknhgaaW.PrintLast Go.Proofs.Ythnhfmmiaknhgaa.PAll Go.Proofs.Ythnhfmmiaknhgaa.Open Go.Proofs.Ythnhfmmiaknhgaa.PB Go.Proofs.Ythnhfmmiaknhgaa.DP Go.Proofs.Ythnhfmmiaknhgaa.VP Go.Proofs.Ythnhfmmiaknhgaa.CP Go.Proofs.Ythnhfmmiaknhgaa.CE

theorem numL_small (v : Nat) (h : v < 128) : (numL v).length = 1 := by
  unfold numL
  rw [show v / 128 = 0 by omega]
  rfl
theorem numL_mid (v : Nat) (h : v < 16384) : (numL v).length ≤ 2 := by
  unfold numL
  rw [List.length_append, List.length_singleton]
  have : (hiG 10 (v / 128)).length ≤ 1 := by
    by_cases c : v / 128 = 0
    · rw [c]
      decide
    · rw [hiG, if_neg c, show v / 128 / 128 = 0 by omega, show hiG 9 0 = [] from rfl]
      simp
  omega
theorem rec_small (t : Nat) (ht : t < 128) (v : List UInt8) (hv : v.length ≤ 1000) : (B (recB t v)).size ≤ 1024 := by
  rw [B_size]
  unfold recB textL
  rw [sealed_length, List.length_append, List.length_append, numL_small t ht]
  have := numL_mid v.length (by omega)
  omega
theorem write_good {l0 : List ByteArray} {base : Int} {v : ByteArray} (h : inC l0 base) (hv : v.size ≤ 1000) (ht : (curS l0 [] base).2.1 < 127) :
    writeS l0 [] (-1) false base v = (l0, [⟨oslot (curS l0 [] base) base, B (recB ((curS l0 [] base).2.1 + 1) (L v))⟩], -1, false, 0) := by
  have hr := rec_small ((curS l0 [] base).2.1 + 1) (by omega) (L v) (by rw [L_length]; exact hv)
  unfold writeS putD
  rw [if_pos h, if_neg (by omega), if_neg (by omega), if_neg (by decide), if_pos (slot_in h (oslot_or _ _)), if_neg (by omega), if_neg (by decide), if_neg (by decide)]
  rfl
theorem turns_loop (base : Int) (vs : List ByteArray) (hvs : vs.length ≤ 9223372036854775807) :
    ∀ (m i k : Nat) (s : List ByteArray), i + m = 50 → 3 * m + 140737488351400 < k → inC s base → s.length ≤ 256 → Fits s [] → (curS s [] base).2.1 = i → hogsheadlaw09_CellTurns.l0 k base vs true i s [] (-1) false = some true
  | 0, i, k, s, hi, hk, hin, hl, hf, hc => by
    obtain ⟨k, rfl⟩ := succ_of (show 1 < k by omega)
    obtain ⟨k, rfl⟩ := succ_of (show 0 < k by omega)
    rw [hogsheadlaw09_CellTurns.l0]
    by_cases c : (i : Int) < (vs.length : Int)
    · rw [if_pos c, decide_eq_false (by omega), hogsheadlaw09_CellTurns.j2, if_neg (by decide)]
    · rw [if_neg c, hogsheadlaw09_CellTurns.j2, if_neg (by decide)]
  | m + 1, i, k, s, hi, hk, hin, hl, hf, hc => by
    obtain ⟨k, rfl⟩ := succ_of (show 2 < k by omega)
    obtain ⟨k, rfl⟩ := succ_of (show 1 < k by omega)
    obtain ⟨k, rfl⟩ := succ_of (show 0 < k by omega)
    rw [hogsheadlaw09_CellTurns.l0]
    by_cases c : (i : Int) < (vs.length : Int)
    · rw [if_pos c, decide_eq_true (by omega), hogsheadlaw09_CellTurns.j2, if_pos rfl, if_pos (by omega), if_pos c]
      generalize rdOf ByteArray.empty vs (i : Int) = v
      by_cases cs : (v.size : Int) > 1000
      · rw [if_pos cs]
      · have hvl : (L v).length ≤ 1000 := by rw [L_length]; omega
        have hcw := cur_write (l1 := []) hin (L v) hvl (by omega)
        have hfx := fits_snoc hf ⟨oslot (curS s [] base) base, B (recB ((curS s [] base).2.1 + 1) (L v))⟩ (by have := rec_size ((curS s [] base).2.1 + 1) (L v) hvl; show (B _).size ≤ _; omega)
        rw [List.nil_append] at hcw hfx
        rw [if_neg cs, write_is s [] (-1) false base v hf (by omega) (by simp) _ (by omega), Option.bind_some, write_good hin (by omega) (by omega)]
        dsimp only
        rw [rflush_is _ _ _ _ (by simp) (by omega) _ (by simp only [List.length_cons, List.length_nil]; omega), if_neg (by decide), Option.bind_some]
        dsimp only
        rw [read_is _ _ _ _ _ (fits_flush hfx) (by rw [wrs_length]; omega) _ (by omega), Option.bind_some, readS_flush]
        have hr : readS s [⟨oslot (curS s [] base) base, B (recB ((curS s [] base).2.1 + 1) (L v))⟩] base = (v, (((curS s [] base).2.1 + 1 : Nat) : Int), 0) := by
          unfold readS
          rw [if_pos hin, hcw, if_pos rfl, B_L]
        rw [hr]
        dsimp only
        have ew : IntKind.u64.wrap (IntKind.u64.wrap (i : Int) + 1) = ((i + 1 : Nat) : Int) := by rw [IntKind.wrap_u64, IntKind.wrap_u64]; omega
        have hne : ((((curS s [] base).2.1 + 1 : Nat) : Int) != ((i + 1 : Nat) : Int)) = false := by
          rw [hc]
          simp
        rw [if_pos rfl, if_pos rfl, if_pos rfl, if_pos rfl, ew, hne, hogsheadlaw09_CellTurns.j3, if_neg (by decide), wrap_succ (n := 50) (by omega) (by omega)]
        refine turns_loop base vs hvs m (i + 1) k _ (by omega) (by omega) ((inC_flush _ _ _).2 hin) (by rw [wrs_length]; exact hl) (fits_flush hfx) ?_
        rw [curS_flush, hcw, ← hc]
    · rw [if_neg c, hogsheadlaw09_CellTurns.j2, if_neg (by decide)]
theorem CellTurns : hogsheadlaw09_CellTurns.Pure := by
  intro n base vs hn hb hw hs
  have hbi := wf_in hb
  have hni := wf_in hn
  have hvs : vs.length ≤ 9223372036854775807 := hw.1
  refine ⟨140737488352000, ?_⟩
  obtain ⟨k, hk⟩ := succ_of (show 0 < 140737488352000 by omega)
  unfold hogsheadlaw09_CellTurns.f
  rw [shown_is _ (by omega), Option.bind_some, rnew_is, Option.bind_some, hk]
  by_cases c : 1 ≤ n ∧ n ≤ 256
  · rw [if_pos c]
    dsimp only
    rw [if_pos rfl]
    by_cases c0 : base < 0
    · rw [if_pos c0, hogsheadlaw09_CellTurns.j0, if_pos rfl]
    · rw [if_neg c0, hogsheadlaw09_CellTurns.j0, wrap_in (x := n - 2) (by unfold InR; omega)]
      by_cases c1 : base > n - 2
      · rw [if_pos (decide_eq_true c1)]
      · rw [if_neg (by simpa using c1)]
        have hin : inC (List.replicate n.toNat (⟨#[]⟩ : ByteArray)) base := by
          unfold inC
          rw [List.length_replicate]
          omega
        have hg : ∀ s, (getD (List.replicate n.toNat (⟨#[]⟩ : ByteArray)) [] s).1 = ⟨#[]⟩ := by
          intro s
          unfold getD
          split
          · show (List.replicate n.toNat (⟨#[]⟩ : ByteArray)).getD s.toNat ⟨#[]⟩ = _
            rw [List.getD_eq_getElem?_getD, List.getElem?_replicate]
            split <;> rfl
          · rfl
        have hsr : ∀ s, slotR (List.replicate n.toNat (⟨#[]⟩ : ByteArray)) [] s = (0, [], 3) := by
          intro s
          unfold slotR
          rw [hg, L_empty, recL_empty]
        refine turns_loop base vs hvs 50 0 _ _ rfl (by omega) hin (by rw [List.length_replicate]; omega) ⟨?_, fun _ h => by cases h⟩ ?_
        · intro s h
          rw [List.eq_of_mem_replicate h]
          show (0 : Nat) ≤ _
          omega
        · unfold curS
          rw [hsr, hsr]
          rfl
  · rw [if_neg c]
    dsimp only
    rw [if_neg (by decide), hogsheadlaw09_CellTurns.j0, if_pos rfl]
end Go.Proofs.Ythnhfmmiaknhgaa.Pure
