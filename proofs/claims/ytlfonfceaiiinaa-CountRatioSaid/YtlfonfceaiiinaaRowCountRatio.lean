/- CountRatio answers true for every input, and each argument reads behind the call as it did. Laid by a program of this session (hrows.py). -/
import Derived.Test.YtlfonfceaiiinaaRows
import Derived.Test.YtlfonfceaiiinaaPureCountRatio
import Derived.Test.YtlfonfceaiiinaaStCountRatio
import Derived.WalkKit
import Derived.ProofKit
import Derived.OpenShut
import Derived.ShutString
import Derived.ChangeOld
import Derived.Below
import Derived.SizedLaws
import Derived.JoinedCond
namespace Go.Proofs.Ytlfonfceaiiinaa.countRatio
open Go.ChangeShapes Go.WideShapes Go.ChangeAt Go.RowKit
open Go.ChangeMaps (open_string shut_string)
open Go.Proofs.YtlfonfceaiiinaaW.PrintWords Go.Proofs.YtlfonfceaiiinaaW.PrintLast Go.Proofs.Ytlfonfceaiiinaa.PAll Go.Proofs.Ytlfonfceaiiinaa.Open
set_option linter.unusedVariables false
theorem own : ownKnob Try.prog.godebug = none := by kernel_rfl
theorem laidOut : laidOutB Try.prog = true := by kernel_rfl
set_option maxRecDepth 100000 in
theorem contract (H : Type) (enc : TypeId × Value → H) (W : World) (base : Nat) (args : Array Value) (ds gs : List (DataW H)) (before : List MemPlace)
    (hval : ∀ (j : Nat) t v, Try.f4.params[j]? = some t → args[j]? = some v → Value.okWide Try.prog W .any base t v)
    (hW : DataW.Whole enc Try.prog Try.f4.params.toList Rows.countRatioSpec.vars false W args.toList ds gs before)
    (hsz : (DataW.weightsEach Try.prog (Try.f4.params.toList ++ Rows.countRatioSpec.plain.varTypes Try.prog) (ds ++ gs)).all (· ≤ reachBytes) = true) :
    Calls Try.prog 4 args W fun e W' => ∃ v, e = .returned v ∧ Rows.countRatioSpec.post enc Try.prog Try.f4 false true false false W args v W' := by
  have hW' := hW
  obtain ⟨p, q, hA0, hV, rfl, hfz, hnd⟩ := hW
  have hA : DataW.TrodAll enc Try.prog W 0 (fun _ => true) true Try.f4.params.toList args.toList ds p := hA0
  rw [Try.params4] at hA hval hsz
  obtain ⟨v0, vs0, d0, ds0, p0, q0, hargs, rfl, rfl, h0, r0⟩ := trodAll_cons hA
  obtain ⟨rfl, rfl, rfl⟩ := trodAll_nil r0
  obtain rfl : args = #[v0] := by cases args; simp_all
  obtain ⟨rfl, rfl⟩ := trodVars_none hV
  have hz : ∀ n ∈ DataW.weightsEach Try.prog [33] [d0], n ≤ reachBytes := fun n hn => by have := List.all_eq_true.1 hsz n hn; simpa using this
  have kk0 := h0
  have lt0 : ∀ x ∈ p0, x.block < W.heap.size := by obtain ⟨m, hm⟩ := kk0; exact DataW.trod_lt m _ _ _ hm
  obtain ⟨aa0, len0, cap0, rfl⟩ := okWide_slice Try.underlying33 (hval 0 33 v0 rfl rfl)
  obtain ⟨x0, hK0, hw0, hs0, ht0⟩ := (by obtain ⟨m, hm⟩ := h0; exact (os_o42.opens_33).2 enc W 0 (fun _ => true) true m _ d0 p0 hm : ∃ x, ((Kd.slice 42 k42)).K W x _ ∧ os_o42.wf x ∧ ((∀ n ∈ d0.weights Try.prog 33, n ≤ reachBytes) → os_o42.sz x) ∧ os_o42.wt x ≤ Rows.uptoBulk d0)
  have hs0 := hs0 fun n hn => hz n (DataW.weights_mem_each (j := 0) rfl rfl n hn)
  obtain ⟨A0, c0, hc0, hl0, hr0⟩ := hK0
  obtain ⟨rfl, rfl, rfl⟩ : aa0 = A0 ∧ len0 = x0.length ∧ cap0 = c0 := by simpa [Value.cells] using hc0
  clear hA0 hval hsz
  have hP : hogsheadlaw19_CountRatio.Pure := Pure.CountRatio
  have h := hP x0 hw0 hs0
  refine (hogsheadlaw19_CountRatio.calls (w := W) (hr0 := hr0) (hc0 := hl0) (h := h)).mono fun e W' he => ?_
  obtain ⟨he, bel⟩ := he
  subst he
  exact ⟨_, rfl, _, _, _, [], _, [], hW', trodAll_mk1 (shut_bool Try.underlying4 _), (trodAll_cons_mk (Below.trod laidOut (by kernel_rfl) (of_decide_eq_true (by kernel_rfl)) kk0 bel lt0) trodAll_mk0), rfl, bel.frame _, fun h => by cases h⟩
set_option maxRecDepth 100000 in
theorem lifted (os : Os) (started : os.Started) (H : Type) (enc : TypeId × Value → H) :
    ReturnsInHanded {} Try.checked os 4 .any (Rows.countRatioSpec.pre6 enc Try.prog Try.f4 Rows.countRatioRow.domain false) (Rows.countRatioSpec.post enc Try.prog Try.f4 false true false false) := by
  refine returnsInHanded_of_change_sized (C := Try.checked) own started (by kernel_rfl) Try.func4
    (ChangeSpec.witness6 (enc := enc) (C := Try.checked) false ⟨#[], #[.slice none 0 0], []⟩ 8 (by kernel_rfl) (by kernel_rfl) (by kernel_rfl) (by kernel_rfl)) ?_
  intro W base args ds gs before hval hW _ hsz _
  exact contract H enc W base args ds gs before hval hW hsz
theorem over : Rows.countRatioRow.holds Try.pinned (OpenSpec.ofChange Rows.countRatioSpec) :=
  OpenClaim.holds_of_wide 4 Try.f4 rfl rfl rfl rfl rfl rfl rfl ⟨rfl, rfl, rfl, rfl, rfl⟩ rfl rfl rfl rfl rfl (by kernel_rfl) Try.func4 (by kernel_rfl)
    (of_decide_eq_true (by kernel_rfl)) (by unfold Func.isWrapper; first | (rw [if_pos (by decide +kernel)]; kernel_rfl) | (rw [if_neg (by decide +kernel)]; exact ⟨rfl, rfl⟩))
    (fun os started H enc _ => lifted os started H enc)
theorem proved : Rows.CountRatioSaid := over
#print axioms proved
end Go.Proofs.Ytlfonfceaiiinaa.countRatio
namespace Go.Proofs.Ytlfonfceaiiinaa
/-- The row, under a short name, for the claim. -/
theorem countRatio_holds : Rows.CountRatioSaid := countRatio.proved
end Go.Proofs.Ytlfonfceaiiinaa
