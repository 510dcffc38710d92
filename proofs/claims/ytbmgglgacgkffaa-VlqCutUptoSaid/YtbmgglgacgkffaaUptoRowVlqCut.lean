/- VlqCut answers true for every input that holds together at most 1048576 values and letters, and each argument reads behind the call as it did. Laid by a program of this session (hrows.py). -/
import Derived.Test.YtbmgglgacgkffaaRows
import Derived.Test.YtbmgglgacgkffaaPureVlqCut
import Derived.Test.YtbmgglgacgkffaaStVlqCut
import Derived.WalkKit
import Derived.ProofKit
import Derived.OpenShut
import Derived.ShutString
import Derived.ChangeOld
import Derived.Below
import Derived.SizedLaws
import Derived.JoinedCond
namespace Go.Proofs.Ytbmgglgacgkffaa.vlqCutUpto
open Go.ChangeShapes Go.WideShapes Go.ChangeAt Go.RowKit
open Go.ChangeMaps (open_string shut_string)
open Go.Proofs.YtbmgglgacgkffaaW.PrintWords Go.Proofs.YtbmgglgacgkffaaW.PrintLast Go.Proofs.Ytbmgglgacgkffaa.PAll Go.Proofs.Ytbmgglgacgkffaa.Open
set_option linter.unusedVariables false
theorem own : ownKnob Try.prog.godebug = none := by kernel_rfl
theorem laidOut : laidOutB Try.prog = true := by kernel_rfl
set_option maxRecDepth 100000 in
theorem contract (H : Type) (enc : TypeId × Value → H) (W : World) (base : Nat) (args : Array Value) (ds gs : List (DataW H)) (before : List MemPlace)
    (hval : ∀ (j : Nat) t v, Try.f10.params[j]? = some t → args[j]? = some v → Value.okWide Try.prog W .any base t v)
    (hW : DataW.Whole enc Try.prog Try.f10.params.toList Rows.vlqCutSpec.vars false W args.toList ds gs before)
    (hk : Rows.uptoSmall H (ds ++ gs) = true) :
    Calls Try.prog 10 args W fun e W' => ∃ v, e = .returned v ∧ Rows.vlqCutSpec.post enc Try.prog Try.f10 false true false false W args v W' := by
  have hW' := hW
  obtain ⟨p, q, hA0, hV, rfl, hfz, hnd⟩ := hW
  have hA : DataW.TrodAll enc Try.prog W 0 (fun _ => true) true Try.f10.params.toList args.toList ds p := hA0
  rw [Try.params10] at hA hval
  obtain ⟨v0, vs0, d0, ds0, p0, q0, hargs, rfl, rfl, h0, r0⟩ := trodAll_cons hA
  obtain ⟨v1, vs1, d1, ds1, p1, q1, rfl, rfl, rfl, h1, r1⟩ := trodAll_cons r0
  obtain ⟨v2, vs2, d2, ds2, p2, q2, rfl, rfl, rfl, h2, r2⟩ := trodAll_cons r1
  obtain ⟨rfl, rfl, rfl⟩ := trodAll_nil r2
  obtain rfl : args = #[v0, v1, v2] := by cases args; simp_all
  obtain ⟨rfl, rfl⟩ := trodVars_none hV
  have hb : Rows.uptoBulkAll ([d0, d1, d2] : List (DataW H)) ≤ 1048576 := of_decide_eq_true hk
  simp only [Rows.uptoBulkAll] at hb
  have kk0 := h0
  have lt0 : ∀ x ∈ p0, x.block < W.heap.size := by obtain ⟨m, hm⟩ := kk0; exact DataW.trod_lt m _ _ _ hm
  obtain ⟨b0, rfl⟩ : ∃ x, v0 = .int .u64 x := by obtain ⟨x, rfl, _⟩ := open_int Try.underlying23 (hval 0 23 v0 rfl rfl) h0; exact ⟨x, rfl⟩
  obtain ⟨x0, hK0, hw0, hs0, ht0⟩ := (by obtain ⟨m, hm⟩ := h0; exact ((opens_int (P := Try.prog) (t := 23) Try.underlying23 (by kernel_rfl))).2 enc W 0 (fun _ => true) true m _ d0 p0 hm : ∃ x, ((Kd.int .u64)).K W x _ ∧ (Lit.int .u64 x).wf = true ∧ ((∀ n ∈ d0.weights Try.prog 23, n ≤ reachBytes) → True) ∧ 1 ≤ Rows.uptoBulk d0)
  obtain rfl : x0 = b0 := by have z := (List.cons.inj (show [_] = [_] from hK0)).1; first | (injection z with z1 z2; exact z2.symm) | (injection z with z1; exact z1.symm)
  have kk1 := h1
  have lt1 : ∀ x ∈ p1, x.block < W.heap.size := by obtain ⟨m, hm⟩ := kk1; exact DataW.trod_lt m _ _ _ hm
  obtain ⟨aa1, len1, cap1, rfl⟩ := okWide_slice Try.underlying40 (hval 1 40 v1 rfl rfl)
  obtain ⟨x1, hK1, hw1, hs1, ht1⟩ := (by obtain ⟨m, hm⟩ := h1; exact (os_s.opens_40).2 enc W 0 (fun _ => true) true m _ d1 p1 hm : ∃ x, ((Kd.slice 9 Kd.string)).K W x _ ∧ os_s.wf x ∧ ((∀ n ∈ d1.weights Try.prog 40, n ≤ reachBytes) → os_s.sz x) ∧ os_s.wt x ≤ Rows.uptoBulk d1)
  obtain ⟨A1, c1, hc1, hl1, hr1⟩ := hK1
  obtain ⟨rfl, rfl, rfl⟩ : aa1 = A1 ∧ len1 = x1.length ∧ cap1 = c1 := by simpa [Value.cells] using hc1
  have kk2 := h2
  have lt2 : ∀ x ∈ p2, x.block < W.heap.size := by obtain ⟨m, hm⟩ := kk2; exact DataW.trod_lt m _ _ _ hm
  obtain ⟨b2, rfl⟩ : ∃ x, v2 = .int .i64 x := by obtain ⟨x, rfl, _⟩ := open_int Try.underlying3 (hval 2 3 v2 rfl rfl) h2; exact ⟨x, rfl⟩
  obtain ⟨x2, hK2, hw2, hs2, ht2⟩ := (by obtain ⟨m, hm⟩ := h2; exact ((opens_int (P := Try.prog) (t := 3) Try.underlying3 (by kernel_rfl))).2 enc W 0 (fun _ => true) true m _ d2 p2 hm : ∃ x, ((Kd.int .i64)).K W x _ ∧ (Lit.int .i64 x).wf = true ∧ ((∀ n ∈ d2.weights Try.prog 3, n ≤ reachBytes) → True) ∧ 1 ≤ Rows.uptoBulk d2)
  obtain rfl : x2 = b2 := by have z := (List.cons.inj (show [_] = [_] from hK2)).1; first | (injection z with z1 z2; exact z2.symm) | (injection z with z1; exact z1.symm)
  clear hA0 hval hk
  have hP : hogsheadlaw01_VlqCut.PureUpto := Pure.VlqCutUpto
  obtain ⟨k, h⟩ := hP x0 x1 x2 hw0 hw1 hw2 (by dsimp only at *; omega)
  refine (hogsheadlaw01_VlqCut.calls (k := k) (w := W) (hr1 := hr1) (hc1 := hl1) (h := h)).mono fun e W' he => ?_
  obtain ⟨he, bel⟩ := he
  subst he
  exact ⟨_, rfl, _, _, _, [], _, [], hW', trodAll_mk1 (shut_bool Try.underlying4 _), (trodAll_cons_mk (Below.trod laidOut (by kernel_rfl) (of_decide_eq_true (by kernel_rfl)) kk0 bel lt0) (trodAll_cons_mk (Below.trod laidOut (by kernel_rfl) (of_decide_eq_true (by kernel_rfl)) kk1 bel lt1) (trodAll_cons_mk (Below.trod laidOut (by kernel_rfl) (of_decide_eq_true (by kernel_rfl)) kk2 bel lt2) trodAll_mk0))), rfl, bel.frame _, fun h => by cases h⟩
set_option maxRecDepth 100000 in
theorem lifted (os : Os) (started : os.Started) (H : Type) (enc : TypeId × Value → H) (F : Stop.Interp) :
    ReturnsInHanded {} Try.checked os 10 .any ((Rows.OpenSpec.upto Rows.vlqCutSpec).pre6 enc Try.prog Try.f10 Rows.vlqCutUptoRow.domain false) (((Rows.OpenSpec.upto Rows.vlqCutSpec).at F).post enc Try.prog Try.f10 false true false false) := by
  refine returnsInHanded_of_cond (C := Try.checked) (s := Rows.OpenSpec.upto Rows.vlqCutSpec) (k := Rows.uptoSmall) rfl own started (by kernel_rfl) Try.func10
    (OpenSpec.witness (enc := enc) (C := Try.checked) (s := Rows.OpenSpec.upto Rows.vlqCutSpec) (k := Rows.uptoSmall) rfl false ⟨#[], #[.int .u64 0, .slice none 0 0, .int .i64 0], []⟩ 8 (by kernel_rfl) (by kernel_rfl) (by kernel_rfl)
      (x := ([.lit (.int .u64 0), .nil, .lit (.int .i64 0)], [], [])) (by kernel_rfl) rfl (by kernel_rfl)) ?_
  intro W base args ds gs before hval hW _ hk _
  exact contract H enc W base args ds gs before hval hW hk
theorem over : Rows.vlqCutUptoRow.holds Try.pinned (Rows.OpenSpec.upto Rows.vlqCutSpec) :=
  OpenClaim.holds_of_cond 10 Try.f10 rfl rfl rfl rfl rfl rfl rfl ⟨rfl, rfl, rfl, rfl, rfl⟩ rfl rfl rfl rfl rfl (by kernel_rfl) Try.func10 (by kernel_rfl)
    (of_decide_eq_true (by kernel_rfl)) (by unfold Func.isWrapper; first | (rw [if_pos (by decide +kernel)]; kernel_rfl) | (rw [if_neg (by decide +kernel)]; exact ⟨rfl, rfl⟩))
    (fun os started H enc _ F => lifted os started H enc F)
theorem proved : Rows.VlqCutUptoSaid := over
#print axioms proved
end Go.Proofs.Ytbmgglgacgkffaa.vlqCutUpto
namespace Go.Proofs.Ytbmgglgacgkffaa
/-- The row, under a short name, for the claim. -/
theorem vlqCutUpto_holds : Rows.VlqCutUptoSaid := vlqCutUpto.proved
end Go.Proofs.Ytbmgglgacgkffaa
