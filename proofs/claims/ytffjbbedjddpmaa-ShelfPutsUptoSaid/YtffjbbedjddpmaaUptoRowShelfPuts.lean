/- ShelfPuts answers true for every input that holds together at most 1048576 values and letters, and each argument reads behind the call as it did. Laid by a program of this session (hrows.py). -/
import Derived.Test.YtffjbbedjddpmaaRows
import Derived.Test.YtffjbbedjddpmaaPureShelfPuts
import Derived.Test.YtffjbbedjddpmaaStShelfPuts
import Derived.WalkKit
import Derived.ProofKit
import Derived.OpenShut
import Derived.ShutString
import Derived.ChangeOld
import Derived.Below
import Derived.SizedLaws
import Derived.JoinedCond
namespace Go.Proofs.Ytffjbbedjddpmaa.shelfPutsUpto
open Go.ChangeShapes Go.WideShapes Go.ChangeAt Go.RowKit
open Go.ChangeMaps (open_string shut_string)
open Go.Proofs.YtffjbbedjddpmaaW.PrintWords Go.Proofs.YtffjbbedjddpmaaW.PrintLast Go.Proofs.Ytffjbbedjddpmaa.PAll Go.Proofs.Ytffjbbedjddpmaa.Open
set_option linter.unusedVariables false
theorem own : ownKnob Try.prog.godebug = none := by kernel_rfl
theorem laidOut : laidOutB Try.prog = true := by kernel_rfl
set_option maxRecDepth 100000 in
theorem contract (H : Type) (enc : TypeId × Value → H) (W : World) (base : Nat) (args : Array Value) (ds gs : List (DataW H)) (before : List MemPlace)
    (hval : ∀ (j : Nat) t v, Try.f9.params[j]? = some t → args[j]? = some v → Value.okWide Try.prog W .any base t v)
    (hW : DataW.Whole enc Try.prog Try.f9.params.toList Rows.shelfPutsSpec.vars false W args.toList ds gs before)
    (hk : Rows.uptoSmall H (ds ++ gs) = true) :
    Calls Try.prog 9 args W fun e W' => ∃ v, e = .returned v ∧ Rows.shelfPutsSpec.post enc Try.prog Try.f9 false true false false W args v W' := by
  have hW' := hW
  obtain ⟨p, q, hA0, hV, rfl, hfz, hnd⟩ := hW
  have hA : DataW.TrodAll enc Try.prog W 0 (fun _ => true) true Try.f9.params.toList args.toList ds p := hA0
  rw [Try.params9] at hA hval
  obtain ⟨v0, vs0, d0, ds0, p0, q0, hargs, rfl, rfl, h0, r0⟩ := trodAll_cons hA
  obtain ⟨v1, vs1, d1, ds1, p1, q1, rfl, rfl, rfl, h1, r1⟩ := trodAll_cons r0
  obtain ⟨v2, vs2, d2, ds2, p2, q2, rfl, rfl, rfl, h2, r2⟩ := trodAll_cons r1
  obtain ⟨rfl, rfl, rfl⟩ := trodAll_nil r2
  obtain rfl : args = #[v0, v1, v2] := by cases args; simp_all
  obtain ⟨rfl, rfl⟩ := trodVars_none hV
  have hb : Rows.uptoBulkAll ([d0, d1, d2] : List (DataW H)) ≤ 1048576 := of_decide_eq_true hk
  simp only [Rows.uptoBulkAll] at hb
  have kk0 := h0
  have lt0 : ∀ x ∈ p0, x.block < W.heap.size := by obtain ⟨m, hm⟩ := kk0; exact DataW.trod_lt m _ _ _ hm
  obtain ⟨cs0, rfl, _⟩ := okWide_struct Try.underlying25 (hval 0 25 v0 rfl rfl)
  obtain ⟨x0, hK0, hw0, hs0, ht0⟩ := (by obtain ⟨m, hm⟩ := h0; exact (o25.opens_25).2 enc W 0 (fun _ => true) true m _ d0 p0 hm : ∃ x, (k25).K W x _ ∧ o25.wf x ∧ ((∀ n ∈ d0.weights Try.prog 25, n ≤ reachBytes) → o25.sz x) ∧ o25.wt x ≤ Rows.uptoBulk d0)
  obtain ⟨A0_0, c0_0, A0_1, c0_1, hc0, hl0_0, hr0_0, hl0_1, hr0_1⟩ := k25_open hK0
  obtain rfl : cs0 = #[.slice A0_0 x0.f0.length c0_0, .slice A0_1 x0.f1.length c0_1, .int .i64 x0.f2, .bool x0.f3] := by rw [← Array.toList_inj]; exact hc0
  have kk1 := h1
  have lt1 : ∀ x ∈ p1, x.block < W.heap.size := by obtain ⟨m, hm⟩ := kk1; exact DataW.trod_lt m _ _ _ hm
  obtain ⟨cs1, rfl, _⟩ := okWide_struct Try.underlying43 (hval 1 43 v1 rfl rfl)
  obtain ⟨x1, hK1, hw1, hs1, ht1⟩ := (by obtain ⟨m, hm⟩ := h1; exact (o43.opens_43).2 enc W 0 (fun _ => true) true m _ d1 p1 hm : ∃ x, (k43).K W x _ ∧ o43.wf x ∧ ((∀ n ∈ d1.weights Try.prog 43, n ≤ reachBytes) → o43.sz x) ∧ o43.wt x ≤ Rows.uptoBulk d1)
  have hc1 := k43_open hK1
  obtain rfl : cs1 = #[.int .i64 x1.f0, .int .i64 x1.f1, .string x1.f2] := by rw [← Array.toList_inj]; exact hc1
  have kk2 := h2
  have lt2 : ∀ x ∈ p2, x.block < W.heap.size := by obtain ⟨m, hm⟩ := kk2; exact DataW.trod_lt m _ _ _ hm
  obtain ⟨cs2, rfl, _⟩ := okWide_struct Try.underlying27 (hval 2 27 v2 rfl rfl)
  obtain ⟨x2, hK2, hw2, hs2, ht2⟩ := (by obtain ⟨m, hm⟩ := h2; exact (o27.opens_27).2 enc W 0 (fun _ => true) true m _ d2 p2 hm : ∃ x, (k27).K W x _ ∧ o27.wf x ∧ ((∀ n ∈ d2.weights Try.prog 27, n ≤ reachBytes) → o27.sz x) ∧ o27.wt x ≤ Rows.uptoBulk d2)
  have hc2 := k27_open hK2
  obtain rfl : cs2 = #[.int .i64 x2.f0, .int .i64 x2.f1] := by rw [← Array.toList_inj]; exact hc2
  clear hA0 hval hk
  have hP : hogsheadlaw10_ShelfPuts.PureUpto := Pure.ShelfPutsUpto
  obtain ⟨k, h⟩ := hP x0 x1 x2 hw0 hw1 hw2 (by dsimp only at *; omega)
  refine (hogsheadlaw10_ShelfPuts.calls (k := k) (w := W) (hr0_0 := hr0_0) (hc0_0 := hl0_0) (hr0_1 := hr0_1) (hc0_1 := hl0_1) (h := h)).mono fun e W' he => ?_
  obtain ⟨he, bel⟩ := he
  subst he
  exact ⟨_, rfl, _, _, _, [], _, [], hW', trodAll_mk1 (shut_bool Try.underlying4 _), (trodAll_cons_mk (Below.trod laidOut (by kernel_rfl) (of_decide_eq_true (by kernel_rfl)) kk0 bel lt0) (trodAll_cons_mk (Below.trod laidOut (by kernel_rfl) (of_decide_eq_true (by kernel_rfl)) kk1 bel lt1) (trodAll_cons_mk (Below.trod laidOut (by kernel_rfl) (of_decide_eq_true (by kernel_rfl)) kk2 bel lt2) trodAll_mk0))), rfl, bel.frame _, fun h => by cases h⟩
set_option maxRecDepth 100000 in
theorem lifted (os : Os) (started : os.Started) (H : Type) (enc : TypeId × Value → H) (F : Stop.Interp) :
    ReturnsInHanded {} Try.checked os 9 .any ((Rows.OpenSpec.upto Rows.shelfPutsSpec).pre6 enc Try.prog Try.f9 Rows.shelfPutsUptoRow.domain false) (((Rows.OpenSpec.upto Rows.shelfPutsSpec).at F).post enc Try.prog Try.f9 false true false false) := by
  refine returnsInHanded_of_cond (C := Try.checked) (s := Rows.OpenSpec.upto Rows.shelfPutsSpec) (k := Rows.uptoSmall) rfl own started (by kernel_rfl) Try.func9
    (OpenSpec.witness (enc := enc) (C := Try.checked) (s := Rows.OpenSpec.upto Rows.shelfPutsSpec) (k := Rows.uptoSmall) rfl false ⟨#[], #[.agg #[.slice none 0 0, .slice none 0 0, .int .i64 0, .bool false], .agg #[.int .i64 0, .int .i64 0, .string ByteArray.empty], .agg #[.int .i64 0, .int .i64 0]], []⟩ 8 (by kernel_rfl) (by kernel_rfl) (by kernel_rfl)
      (x := ([.agg [.nil, .nil, .lit (.int .i64 0), .lit (.bool false)], .agg [.lit (.int .i64 0), .lit (.int .i64 0), .lit (.string [])], .agg [.lit (.int .i64 0), .lit (.int .i64 0)]], [], [])) (by kernel_rfl) rfl (by kernel_rfl)) ?_
  intro W base args ds gs before hval hW _ hk _
  exact contract H enc W base args ds gs before hval hW hk
theorem over : Rows.shelfPutsUptoRow.holds Try.pinned (Rows.OpenSpec.upto Rows.shelfPutsSpec) :=
  OpenClaim.holds_of_cond 9 Try.f9 rfl rfl rfl rfl rfl rfl rfl ⟨rfl, rfl, rfl, rfl, rfl⟩ rfl rfl rfl rfl rfl (by kernel_rfl) Try.func9 (by kernel_rfl)
    (of_decide_eq_true (by kernel_rfl)) (by unfold Func.isWrapper; first | (rw [if_pos (by decide +kernel)]; kernel_rfl) | (rw [if_neg (by decide +kernel)]; exact ⟨rfl, rfl⟩))
    (fun os started H enc _ F => lifted os started H enc F)
theorem proved : Rows.ShelfPutsUptoSaid := over
#print axioms proved
end Go.Proofs.Ytffjbbedjddpmaa.shelfPutsUpto
namespace Go.Proofs.Ytffjbbedjddpmaa
/-- The row, under a short name, for the claim. -/
theorem shelfPutsUpto_holds : Rows.ShelfPutsUptoSaid := shelfPutsUpto.proved
end Go.Proofs.Ytffjbbedjddpmaa
