/- DiskTwice answers true for every input, and each argument reads behind the call as it did. Laid by a program of this session (hrows.py). -/
import Derived.Test.YtmaojfeikbdkhaaRows
import Derived.Test.YtmaojfeikbdkhaaPureDiskTwice
import Derived.Test.YtmaojfeikbdkhaaStDiskTwice
import Derived.WalkKit
import Derived.ProofKit
import Derived.OpenShut
import Derived.ShutString
import Derived.ChangeOld
import Derived.Below
import Derived.SizedLaws
import Derived.JoinedCond
namespace Go.Proofs.Ytmaojfeikbdkhaa.diskTwice
open Go.ChangeShapes Go.WideShapes Go.ChangeAt Go.RowKit
open Go.ChangeMaps (open_string shut_string)
open Go.Proofs.YtmaojfeikbdkhaaW.PrintWords Go.Proofs.YtmaojfeikbdkhaaW.PrintLast Go.Proofs.Ytmaojfeikbdkhaa.PAll Go.Proofs.Ytmaojfeikbdkhaa.Open
set_option linter.unusedVariables false
theorem own : ownKnob Try.prog.godebug = none := by kernel_rfl
theorem laidOut : laidOutB Try.prog = true := by kernel_rfl
set_option maxRecDepth 100000 in
theorem contract (H : Type) (enc : TypeId × Value → H) (W : World) (base : Nat) (args : Array Value) (ds gs : List (DataW H)) (before : List MemPlace)
    (hval : ∀ (j : Nat) t v, Try.f8.params[j]? = some t → args[j]? = some v → Value.okWide Try.prog W .any base t v)
    (hW : DataW.Whole enc Try.prog Try.f8.params.toList Rows.diskTwiceSpec.vars false W args.toList ds gs before)
    (hsz : (DataW.weightsEach Try.prog (Try.f8.params.toList ++ Rows.diskTwiceSpec.plain.varTypes Try.prog) (ds ++ gs)).all (· ≤ reachBytes) = true) :
    Calls Try.prog 8 args W fun e W' => ∃ v, e = .returned v ∧ Rows.diskTwiceSpec.post enc Try.prog Try.f8 false true false false W args v W' := by
  have hW' := hW
  obtain ⟨p, q, hA0, hV, rfl, hfz, hnd⟩ := hW
  have hA : DataW.TrodAll enc Try.prog W 0 (fun _ => true) true Try.f8.params.toList args.toList ds p := hA0
  rw [Try.params8] at hA hval hsz
  obtain ⟨v0, vs0, d0, ds0, p0, q0, hargs, rfl, rfl, h0, r0⟩ := trodAll_cons hA
  obtain ⟨rfl, rfl, rfl⟩ := trodAll_nil r0
  obtain rfl : args = #[v0] := by cases args; simp_all
  obtain ⟨rfl, rfl⟩ := trodVars_none hV
  have hz : ∀ n ∈ DataW.weightsEach Try.prog [60] [d0], n ≤ reachBytes := fun n hn => by have := List.all_eq_true.1 hsz n hn; simpa using this
  have kk0 := h0
  have lt0 : ∀ x ∈ p0, x.block < W.heap.size := by obtain ⟨m, hm⟩ := kk0; exact DataW.trod_lt m _ _ _ hm
  obtain ⟨cs0, rfl, _⟩ := okWide_struct Try.underlying60 (hval 0 60 v0 rfl rfl)
  obtain ⟨x0, hK0, hw0, hs0, ht0⟩ := (by obtain ⟨m, hm⟩ := h0; exact (o60.opens_60).2 enc W 0 (fun _ => true) true m _ d0 p0 hm : ∃ x, (k60).K W x _ ∧ o60.wf x ∧ ((∀ n ∈ d0.weights Try.prog 60, n ≤ reachBytes) → o60.sz x) ∧ o60.wt x ≤ Rows.uptoBulk d0)
  have hs0 := hs0 fun n hn => hz n (DataW.weights_mem_each (j := 0) rfl rfl n hn)
  obtain ⟨A0_0, c0_0, A0_1, c0_1, hc0, hl0_0, hr0_0, hl0_1, hr0_1⟩ := k60_open hK0
  obtain rfl : cs0 = #[.slice A0_0 x0.f0.f0.length c0_0, .slice A0_1 x0.f0.f1.length c0_1, .int .i64 x0.f0.f2, .bool x0.f0.f3, .int .i64 x0.f1, .int .i64 x0.f2, .int .u32 x0.f3] := by rw [← Array.toList_inj]; exact hc0
  clear hA0 hval hsz
  have hP : hogsheadlaw08_DiskTwice.Pure := Pure.DiskTwice
  obtain ⟨k, h⟩ := hP x0 hw0 hs0
  refine (hogsheadlaw08_DiskTwice.calls (k := k) (w := W) (hr0_0 := hr0_0) (hc0_0 := hl0_0) (hr0_1 := hr0_1) (hc0_1 := hl0_1) (h := h)).mono fun e W' he => ?_
  obtain ⟨he, bel⟩ := he
  subst he
  exact ⟨_, rfl, _, _, _, [], _, [], hW', trodAll_mk1 (shut_bool Try.underlying4 _), (trodAll_cons_mk (Below.trod laidOut (by kernel_rfl) (of_decide_eq_true (by kernel_rfl)) kk0 bel lt0) trodAll_mk0), rfl, bel.frame _, fun h => by cases h⟩
set_option maxRecDepth 100000 in
theorem lifted (os : Os) (started : os.Started) (H : Type) (enc : TypeId × Value → H) :
    ReturnsInHanded {} Try.checked os 8 .any (Rows.diskTwiceSpec.pre6 enc Try.prog Try.f8 Rows.diskTwiceRow.domain false) (Rows.diskTwiceSpec.post enc Try.prog Try.f8 false true false false) := by
  refine returnsInHanded_of_change_sized (C := Try.checked) own started (by kernel_rfl) Try.func8
    (ChangeSpec.witness6 (enc := enc) (C := Try.checked) false ⟨#[], #[.agg #[.slice none 0 0, .slice none 0 0, .int .i64 0, .bool false, .int .i64 0, .int .i64 0, .int .u32 0]], []⟩ 8 (by kernel_rfl) (by kernel_rfl) (by kernel_rfl) (by kernel_rfl)) ?_
  intro W base args ds gs before hval hW _ hsz _
  exact contract H enc W base args ds gs before hval hW hsz
theorem over : Rows.diskTwiceRow.holds Try.pinned (OpenSpec.ofChange Rows.diskTwiceSpec) :=
  OpenClaim.holds_of_wide 8 Try.f8 rfl rfl rfl rfl rfl rfl rfl ⟨rfl, rfl, rfl, rfl, rfl⟩ rfl rfl rfl rfl rfl (by kernel_rfl) Try.func8 (by kernel_rfl)
    (of_decide_eq_true (by kernel_rfl)) (by unfold Func.isWrapper; first | (rw [if_pos (by decide +kernel)]; kernel_rfl) | (rw [if_neg (by decide +kernel)]; exact ⟨rfl, rfl⟩))
    (fun os started H enc _ => lifted os started H enc)
theorem proved : Rows.DiskTwiceSaid := over
#print axioms proved
end Go.Proofs.Ytmaojfeikbdkhaa.diskTwice
namespace Go.Proofs.Ytmaojfeikbdkhaa
/-- The row, under a short name, for the claim. -/
theorem diskTwice_holds : Rows.DiskTwiceSaid := diskTwice.proved
end Go.Proofs.Ytmaojfeikbdkhaa
