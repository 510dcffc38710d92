/- VlqRows answers true for every input that holds together at most 1048576 values and letters, and each argument reads behind the call as it did. Laid by a program of this session (hrows.py). -/
import Derived.Test.YtbmgglgacgkffaaRows
import Derived.Test.YtbmgglgacgkffaaPureVlqRows
import Derived.Test.YtbmgglgacgkffaaStVlqRows
import Derived.WalkKit
import Derived.ProofKit
import Derived.OpenShut
import Derived.ShutString
import Derived.ChangeOld
import Derived.Below
import Derived.SizedLaws
import Derived.JoinedCond
namespace Go.Proofs.Ytbmgglgacgkffaa.vlqRowsUpto
open Go.ChangeShapes Go.WideShapes Go.ChangeAt Go.RowKit
open Go.ChangeMaps (open_string shut_string)
open Go.Proofs.YtbmgglgacgkffaaW.PrintWords Go.Proofs.YtbmgglgacgkffaaW.PrintLast Go.Proofs.Ytbmgglgacgkffaa.PAll Go.Proofs.Ytbmgglgacgkffaa.Open
set_option linter.unusedVariables false
theorem own : ownKnob Try.prog.godebug = none := by kernel_rfl
theorem laidOut : laidOutB Try.prog = true := by kernel_rfl
set_option maxRecDepth 100000 in
theorem contract (H : Type) (enc : TypeId × Value → H) (W : World) (base : Nat) (args : Array Value) (ds gs : List (DataW H)) (before : List MemPlace)
    (hval : ∀ (j : Nat) t v, Try.f8.params[j]? = some t → args[j]? = some v → Value.okWide Try.prog W .any base t v)
    (hW : DataW.Whole enc Try.prog Try.f8.params.toList Rows.vlqRowsSpec.vars false W args.toList ds gs before)
    (hk : Rows.uptoSmall H (ds ++ gs) = true) :
    Calls Try.prog 8 args W fun e W' => ∃ v, e = .returned v ∧ Rows.vlqRowsSpec.post enc Try.prog Try.f8 false true false false W args v W' := by
  have hW' := hW
  obtain ⟨p, q, hA0, hV, rfl, hfz, hnd⟩ := hW
  have hA : DataW.TrodAll enc Try.prog W 0 (fun _ => true) true Try.f8.params.toList args.toList ds p := hA0
  rw [Try.params8] at hA hval
  obtain ⟨v0, vs0, d0, ds0, p0, q0, hargs, rfl, rfl, h0, r0⟩ := trodAll_cons hA
  obtain ⟨rfl, rfl, rfl⟩ := trodAll_nil r0
  obtain rfl : args = #[v0] := by cases args; simp_all
  obtain ⟨rfl, rfl⟩ := trodVars_none hV
  have hb : Rows.uptoBulkAll ([d0] : List (DataW H)) ≤ 1048576 := of_decide_eq_true hk
  simp only [Rows.uptoBulkAll] at hb
  have kk0 := h0
  have lt0 : ∀ x ∈ p0, x.block < W.heap.size := by obtain ⟨m, hm⟩ := kk0; exact DataW.trod_lt m _ _ _ hm
  obtain ⟨cs0, rfl, _⟩ := okWide_struct Try.underlying42 (hval 0 42 v0 rfl rfl)
  obtain ⟨x0, hK0, hw0, hs0, ht0⟩ := (by obtain ⟨m, hm⟩ := h0; exact (o42.opens_42).2 enc W 0 (fun _ => true) true m _ d0 p0 hm : ∃ x, (k42).K W x _ ∧ o42.wf x ∧ ((∀ n ∈ d0.weights Try.prog 42, n ≤ reachBytes) → o42.sz x) ∧ o42.wt x ≤ Rows.uptoBulk d0)
  obtain ⟨A0_0, c0_0, hc0, hl0_0, hr0_0⟩ := k42_open hK0
  obtain rfl : cs0 = #[.slice A0_0 x0.f0.length c0_0, .string x0.f1, .int .i64 x0.f2, .int .i64 x0.f3] := by rw [← Array.toList_inj]; exact hc0
  clear hA0 hval hk
  have hP : hogsheadlaw01_VlqRows.PureUpto := Pure.VlqRowsUpto
  obtain ⟨k, h⟩ := hP x0 hw0 (by dsimp only at *; omega)
  refine (hogsheadlaw01_VlqRows.calls (k := k) (w := W) (hr0_0 := hr0_0) (hc0_0 := hl0_0) (h := h)).mono fun e W' he => ?_
  obtain ⟨he, bel⟩ := he
  subst he
  exact ⟨_, rfl, _, _, _, [], _, [], hW', trodAll_mk1 (shut_bool Try.underlying4 _), (trodAll_cons_mk (Below.trod laidOut (by kernel_rfl) (of_decide_eq_true (by kernel_rfl)) kk0 bel lt0) trodAll_mk0), rfl, bel.frame _, fun h => by cases h⟩
set_option maxRecDepth 100000 in
theorem lifted (os : Os) (started : os.Started) (H : Type) (enc : TypeId × Value → H) (F : Stop.Interp) :
    ReturnsInHanded {} Try.checked os 8 .any ((Rows.OpenSpec.upto Rows.vlqRowsSpec).pre6 enc Try.prog Try.f8 Rows.vlqRowsUptoRow.domain false) (((Rows.OpenSpec.upto Rows.vlqRowsSpec).at F).post enc Try.prog Try.f8 false true false false) := by
  refine returnsInHanded_of_cond (C := Try.checked) (s := Rows.OpenSpec.upto Rows.vlqRowsSpec) (k := Rows.uptoSmall) rfl own started (by kernel_rfl) Try.func8
    (OpenSpec.witness (enc := enc) (C := Try.checked) (s := Rows.OpenSpec.upto Rows.vlqRowsSpec) (k := Rows.uptoSmall) rfl false ⟨#[], #[.agg #[.slice none 0 0, .string ByteArray.empty, .int .i64 0, .int .i64 0]], []⟩ 8 (by kernel_rfl) (by kernel_rfl) (by kernel_rfl)
      (x := ([.agg [.nil, .lit (.string []), .lit (.int .i64 0), .lit (.int .i64 0)]], [], [])) (by kernel_rfl) rfl (by kernel_rfl)) ?_
  intro W base args ds gs before hval hW _ hk _
  exact contract H enc W base args ds gs before hval hW hk
theorem over : Rows.vlqRowsUptoRow.holds Try.pinned (Rows.OpenSpec.upto Rows.vlqRowsSpec) :=
  OpenClaim.holds_of_cond 8 Try.f8 rfl rfl rfl rfl rfl rfl rfl ⟨rfl, rfl, rfl, rfl, rfl⟩ rfl rfl rfl rfl rfl (by kernel_rfl) Try.func8 (by kernel_rfl)
    (of_decide_eq_true (by kernel_rfl)) (by unfold Func.isWrapper; first | (rw [if_pos (by decide +kernel)]; kernel_rfl) | (rw [if_neg (by decide +kernel)]; exact ⟨rfl, rfl⟩))
    (fun os started H enc _ F => lifted os started H enc F)
theorem proved : Rows.VlqRowsUptoSaid := over
#print axioms proved
end Go.Proofs.Ytbmgglgacgkffaa.vlqRowsUpto
namespace Go.Proofs.Ytbmgglgacgkffaa
/-- The row, under a short name, for the claim. -/
theorem vlqRowsUpto_holds : Rows.VlqRowsUptoSaid := vlqRowsUpto.proved
end Go.Proofs.Ytbmgglgacgkffaa
