/- CrcBursts answers true for every input, and each argument reads behind the call as it did. Laid by a program of this session (hrows.py). -/
import Derived.Test.YtabegniabilcpaaRows
import Derived.Test.YtabegniabilcpaaPureCrcBursts
import Derived.Test.YtabegniabilcpaaStCrcBursts
import Derived.WalkKit
import Derived.ProofKit
import Derived.OpenShut
import Derived.ShutString
import Derived.ChangeOld
import Derived.Below
import Derived.SizedLaws
import Derived.JoinedCond
namespace Go.Proofs.Ytabegniabilcpaa.crcBursts
open Go.ChangeShapes Go.WideShapes Go.ChangeAt Go.RowKit
open Go.ChangeMaps (open_string shut_string)
open Go.Proofs.YtabegniabilcpaaW.PrintWords Go.Proofs.YtabegniabilcpaaW.PrintLast Go.Proofs.Ytabegniabilcpaa.PAll Go.Proofs.Ytabegniabilcpaa.Open
set_option linter.unusedVariables false
theorem own : ownKnob Try.prog.godebug = none := by kernel_rfl
theorem laidOut : laidOutB Try.prog = true := by kernel_rfl
set_option maxRecDepth 100000 in
theorem contract (H : Type) (enc : TypeId × Value → H) (W : World) (base : Nat) (args : Array Value) (ds gs : List (DataW H)) (before : List MemPlace)
    (hval : ∀ (j : Nat) t v, Try.f10.params[j]? = some t → args[j]? = some v → Value.okWide Try.prog W .any base t v)
    (hW : DataW.Whole enc Try.prog Try.f10.params.toList Rows.crcBurstsSpec.vars false W args.toList ds gs before)
    (hsz : (DataW.weightsEach Try.prog (Try.f10.params.toList ++ Rows.crcBurstsSpec.plain.varTypes Try.prog) (ds ++ gs)).all (· ≤ reachBytes) = true) :
    Calls Try.prog 10 args W fun e W' => ∃ v, e = .returned v ∧ Rows.crcBurstsSpec.post enc Try.prog Try.f10 false true false false W args v W' := by
  have hW' := hW
  obtain ⟨p, q, hA0, hV, rfl, hfz, hnd⟩ := hW
  have hA : DataW.TrodAll enc Try.prog W 0 (fun _ => true) true Try.f10.params.toList args.toList ds p := hA0
  rw [Try.params10] at hA hval hsz
  obtain ⟨v0, vs0, d0, ds0, p0, q0, hargs, rfl, rfl, h0, r0⟩ := trodAll_cons hA
  obtain ⟨v1, vs1, d1, ds1, p1, q1, rfl, rfl, rfl, h1, r1⟩ := trodAll_cons r0
  obtain ⟨v2, vs2, d2, ds2, p2, q2, rfl, rfl, rfl, h2, r2⟩ := trodAll_cons r1
  obtain ⟨rfl, rfl, rfl⟩ := trodAll_nil r2
  obtain rfl : args = #[v0, v1, v2] := by cases args; simp_all
  obtain ⟨rfl, rfl⟩ := trodVars_none hV
  have hz : ∀ n ∈ DataW.weightsEach Try.prog [9, 3, 22] [d0, d1, d2], n ≤ reachBytes := fun n hn => by have := List.all_eq_true.1 hsz n hn; simpa using this
  have kk0 := h0
  have lt0 : ∀ x ∈ p0, x.block < W.heap.size := by obtain ⟨m, hm⟩ := kk0; exact DataW.trod_lt m _ _ _ hm
  obtain ⟨b0, rfl⟩ : ∃ x, v0 = .string x := by obtain ⟨x, rfl, _⟩ := open_string Try.underlying9 (hval 0 9 v0 rfl rfl) h0; exact ⟨x, rfl⟩
  obtain ⟨x0, hK0, hw0, hs0, ht0⟩ := (by obtain ⟨m, hm⟩ := h0; exact ((opens_string (P := Try.prog) (t := 9) Try.underlying9 (by kernel_rfl))).2 enc W 0 (fun _ => true) true m _ d0 p0 hm : ∃ x, (Kd.string).K W x _ ∧ x.size ≤ maxLen ∧ ((∀ n ∈ d0.weights Try.prog 9, n ≤ reachBytes) → x.size ≤ 140737488351232) ∧ x.size + 1 ≤ Rows.uptoBulk d0)
  have hs0 := hs0 fun n hn => hz n (DataW.weights_mem_each (j := 0) rfl rfl n hn)
  obtain rfl : x0 = b0 := by have z := (List.cons.inj (show [_] = [_] from hK0)).1; first | (injection z with z1 z2; exact z2.symm) | (injection z with z1; exact z1.symm)
  have kk1 := h1
  have lt1 : ∀ x ∈ p1, x.block < W.heap.size := by obtain ⟨m, hm⟩ := kk1; exact DataW.trod_lt m _ _ _ hm
  obtain ⟨b1, rfl⟩ : ∃ x, v1 = .int .i64 x := by obtain ⟨x, rfl, _⟩ := open_int Try.underlying3 (hval 1 3 v1 rfl rfl) h1; exact ⟨x, rfl⟩
  obtain ⟨x1, hK1, hw1, hs1, ht1⟩ := (by obtain ⟨m, hm⟩ := h1; exact ((opens_int (P := Try.prog) (t := 3) Try.underlying3 (by kernel_rfl))).2 enc W 0 (fun _ => true) true m _ d1 p1 hm : ∃ x, ((Kd.int .i64)).K W x _ ∧ (Lit.int .i64 x).wf = true ∧ ((∀ n ∈ d1.weights Try.prog 3, n ≤ reachBytes) → True) ∧ 1 ≤ Rows.uptoBulk d1)
  have hs1 := hs1 fun n hn => hz n (DataW.weights_mem_each (j := 1) rfl rfl n hn)
  obtain rfl : x1 = b1 := by have z := (List.cons.inj (show [_] = [_] from hK1)).1; first | (injection z with z1 z2; exact z2.symm) | (injection z with z1; exact z1.symm)
  have kk2 := h2
  have lt2 : ∀ x ∈ p2, x.block < W.heap.size := by obtain ⟨m, hm⟩ := kk2; exact DataW.trod_lt m _ _ _ hm
  obtain ⟨b2, rfl⟩ : ∃ x, v2 = .int .u32 x := by obtain ⟨x, rfl, _⟩ := open_int Try.underlying22 (hval 2 22 v2 rfl rfl) h2; exact ⟨x, rfl⟩
  obtain ⟨x2, hK2, hw2, hs2, ht2⟩ := (by obtain ⟨m, hm⟩ := h2; exact ((opens_int (P := Try.prog) (t := 22) Try.underlying22 (by kernel_rfl))).2 enc W 0 (fun _ => true) true m _ d2 p2 hm : ∃ x, ((Kd.int .u32)).K W x _ ∧ (Lit.int .u32 x).wf = true ∧ ((∀ n ∈ d2.weights Try.prog 22, n ≤ reachBytes) → True) ∧ 1 ≤ Rows.uptoBulk d2)
  have hs2 := hs2 fun n hn => hz n (DataW.weights_mem_each (j := 2) rfl rfl n hn)
  obtain rfl : x2 = b2 := by have z := (List.cons.inj (show [_] = [_] from hK2)).1; first | (injection z with z1 z2; exact z2.symm) | (injection z with z1; exact z1.symm)
  clear hA0 hval hsz
  have hP : hogsheadlaw02_CrcBursts.Pure := Pure.CrcBursts
  have h := hP x0 x1 x2 hw0 hw1 hw2 hs0
  refine (hogsheadlaw02_CrcBursts.calls (w := W)  (h := h)).mono fun e W' he => ?_
  obtain ⟨he, bel⟩ := he
  subst he
  exact ⟨_, rfl, _, _, _, [], _, [], hW', trodAll_mk1 (shut_bool Try.underlying4 _), (trodAll_cons_mk (Below.trod laidOut (by kernel_rfl) (of_decide_eq_true (by kernel_rfl)) kk0 bel lt0) (trodAll_cons_mk (Below.trod laidOut (by kernel_rfl) (of_decide_eq_true (by kernel_rfl)) kk1 bel lt1) (trodAll_cons_mk (Below.trod laidOut (by kernel_rfl) (of_decide_eq_true (by kernel_rfl)) kk2 bel lt2) trodAll_mk0))), rfl, bel.frame _, fun h => by cases h⟩
set_option maxRecDepth 100000 in
theorem lifted (os : Os) (started : os.Started) (H : Type) (enc : TypeId × Value → H) :
    ReturnsInHanded {} Try.checked os 10 .any (Rows.crcBurstsSpec.pre6 enc Try.prog Try.f10 Rows.crcBurstsRow.domain false) (Rows.crcBurstsSpec.post enc Try.prog Try.f10 false true false false) := by
  refine returnsInHanded_of_change_sized (C := Try.checked) own started (by kernel_rfl) Try.func10
    (ChangeSpec.witness6 (enc := enc) (C := Try.checked) false ⟨#[], #[.string ByteArray.empty, .int .i64 0, .int .u32 0], []⟩ 8 (by kernel_rfl) (by kernel_rfl) (by kernel_rfl) (by kernel_rfl)) ?_
  intro W base args ds gs before hval hW _ hsz _
  exact contract H enc W base args ds gs before hval hW hsz
theorem over : Rows.crcBurstsRow.holds Try.pinned (OpenSpec.ofChange Rows.crcBurstsSpec) :=
  OpenClaim.holds_of_wide 10 Try.f10 rfl rfl rfl rfl rfl rfl rfl ⟨rfl, rfl, rfl, rfl, rfl⟩ rfl rfl rfl rfl rfl (by kernel_rfl) Try.func10 (by kernel_rfl)
    (of_decide_eq_true (by kernel_rfl)) (by unfold Func.isWrapper; first | (rw [if_pos (by decide +kernel)]; kernel_rfl) | (rw [if_neg (by decide +kernel)]; exact ⟨rfl, rfl⟩))
    (fun os started H enc _ => lifted os started H enc)
theorem proved : Rows.CrcBurstsSaid := over
#print axioms proved
end Go.Proofs.Ytabegniabilcpaa.crcBursts
namespace Go.Proofs.Ytabegniabilcpaa
/-- The row, under a short name, for the claim. -/
theorem crcBursts_holds : Rows.CrcBurstsSaid := crcBursts.proved
end Go.Proofs.Ytabegniabilcpaa
