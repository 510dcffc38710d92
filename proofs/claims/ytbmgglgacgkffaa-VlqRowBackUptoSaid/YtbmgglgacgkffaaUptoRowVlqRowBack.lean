/- VlqRowBack answers true for every input that holds together at most 1048576 values and letters, and each argument reads behind the call as it did. Laid by a program of this session (hrows.py). -/
import Derived.Test.YtbmgglgacgkffaaRows
import Derived.Test.YtbmgglgacgkffaaPureVlqRowBack
import Derived.Test.YtbmgglgacgkffaaStVlqRowBack
import Derived.WalkKit
import Derived.ProofKit
import Derived.OpenShut
import Derived.ShutString
import Derived.ChangeOld
import Derived.Below
import Derived.SizedLaws
import Derived.JoinedCond
namespace Go.Proofs.Ytbmgglgacgkffaa.vlqRowBackUpto
open Go.ChangeShapes Go.WideShapes Go.ChangeAt Go.RowKit
open Go.ChangeMaps (open_string shut_string)
open Go.Proofs.YtbmgglgacgkffaaW.PrintWords Go.Proofs.YtbmgglgacgkffaaW.PrintLast Go.Proofs.Ytbmgglgacgkffaa.PAll Go.Proofs.Ytbmgglgacgkffaa.Open
set_option linter.unusedVariables false
theorem own : ownKnob Try.prog.godebug = none := by kernel_rfl
theorem laidOut : laidOutB Try.prog = true := by kernel_rfl
set_option maxRecDepth 100000 in
theorem contract (H : Type) (enc : TypeId × Value → H) (W : World) (base : Nat) (args : Array Value) (ds gs : List (DataW H)) (before : List MemPlace)
    (hval : ∀ (j : Nat) t v, Try.f9.params[j]? = some t → args[j]? = some v → Value.okWide Try.prog W .any base t v)
    (hW : DataW.Whole enc Try.prog Try.f9.params.toList Rows.vlqRowBackSpec.vars false W args.toList ds gs before)
    (hk : Rows.uptoSmall H (ds ++ gs) = true) :
    Calls Try.prog 9 args W fun e W' => ∃ v, e = .returned v ∧ Rows.vlqRowBackSpec.post enc Try.prog Try.f9 false true false false W args v W' := by
  have hW' := hW
  obtain ⟨p, q, hA0, hV, rfl, hfz, hnd⟩ := hW
  have hA : DataW.TrodAll enc Try.prog W 0 (fun _ => true) true Try.f9.params.toList args.toList ds p := hA0
  rw [Try.params9] at hA hval
  obtain ⟨v0, vs0, d0, ds0, p0, q0, hargs, rfl, rfl, h0, r0⟩ := trodAll_cons hA
  obtain ⟨v1, vs1, d1, ds1, p1, q1, rfl, rfl, rfl, h1, r1⟩ := trodAll_cons r0
  obtain ⟨rfl, rfl, rfl⟩ := trodAll_nil r1
  obtain rfl : args = #[v0, v1] := by cases args; simp_all
  obtain ⟨rfl, rfl⟩ := trodVars_none hV
  have hb : Rows.uptoBulkAll ([d0, d1] : List (DataW H)) ≤ 1048576 := of_decide_eq_true hk
  simp only [Rows.uptoBulkAll] at hb
  have kk0 := h0
  have lt0 : ∀ x ∈ p0, x.block < W.heap.size := by obtain ⟨m, hm⟩ := kk0; exact DataW.trod_lt m _ _ _ hm
  obtain ⟨aa0, len0, cap0, rfl⟩ := okWide_slice Try.underlying40 (hval 0 40 v0 rfl rfl)
  obtain ⟨x0, hK0, hw0, hs0, ht0⟩ := (by obtain ⟨m, hm⟩ := h0; exact (os_s.opens_40).2 enc W 0 (fun _ => true) true m _ d0 p0 hm : ∃ x, ((Kd.slice 9 Kd.string)).K W x _ ∧ os_s.wf x ∧ ((∀ n ∈ d0.weights Try.prog 40, n ≤ reachBytes) → os_s.sz x) ∧ os_s.wt x ≤ Rows.uptoBulk d0)
  obtain ⟨A0, c0, hc0, hl0, hr0⟩ := hK0
  obtain ⟨rfl, rfl, rfl⟩ : aa0 = A0 ∧ len0 = x0.length ∧ cap0 = c0 := by simpa [Value.cells] using hc0
  have kk1 := h1
  have lt1 : ∀ x ∈ p1, x.block < W.heap.size := by obtain ⟨m, hm⟩ := kk1; exact DataW.trod_lt m _ _ _ hm
  obtain ⟨b1, rfl⟩ : ∃ x, v1 = .string x := by obtain ⟨x, rfl, _⟩ := open_string Try.underlying9 (hval 1 9 v1 rfl rfl) h1; exact ⟨x, rfl⟩
  obtain ⟨x1, hK1, hw1, hs1, ht1⟩ := (by obtain ⟨m, hm⟩ := h1; exact ((opens_string (P := Try.prog) (t := 9) Try.underlying9 (by kernel_rfl))).2 enc W 0 (fun _ => true) true m _ d1 p1 hm : ∃ x, (Kd.string).K W x _ ∧ x.size ≤ maxLen ∧ ((∀ n ∈ d1.weights Try.prog 9, n ≤ reachBytes) → x.size ≤ 140737488351232) ∧ x.size + 1 ≤ Rows.uptoBulk d1)
  obtain rfl : x1 = b1 := by have z := (List.cons.inj (show [_] = [_] from hK1)).1; first | (injection z with z1 z2; exact z2.symm) | (injection z with z1; exact z1.symm)
  clear hA0 hval hk
  have hP : hogsheadlaw01_VlqRowBack.PureUpto := Pure.VlqRowBackUpto
  obtain ⟨k, h⟩ := hP x0 x1 hw0 hw1 (by dsimp only at *; omega)
  refine (hogsheadlaw01_VlqRowBack.calls (k := k) (w := W) (hr0 := hr0) (hc0 := hl0) (h := h)).mono fun e W' he => ?_
  obtain ⟨he, bel⟩ := he
  subst he
  exact ⟨_, rfl, _, _, _, [], _, [], hW', trodAll_mk1 (shut_bool Try.underlying4 _), (trodAll_cons_mk (Below.trod laidOut (by kernel_rfl) (of_decide_eq_true (by kernel_rfl)) kk0 bel lt0) (trodAll_cons_mk (Below.trod laidOut (by kernel_rfl) (of_decide_eq_true (by kernel_rfl)) kk1 bel lt1) trodAll_mk0)), rfl, bel.frame _, fun h => by cases h⟩
set_option maxRecDepth 100000 in
theorem lifted (os : Os) (started : os.Started) (H : Type) (enc : TypeId × Value → H) (F : Stop.Interp) :
    ReturnsInHanded {} Try.checked os 9 .any ((Rows.OpenSpec.upto Rows.vlqRowBackSpec).pre6 enc Try.prog Try.f9 Rows.vlqRowBackUptoRow.domain false) (((Rows.OpenSpec.upto Rows.vlqRowBackSpec).at F).post enc Try.prog Try.f9 false true false false) := by
  refine returnsInHanded_of_cond (C := Try.checked) (s := Rows.OpenSpec.upto Rows.vlqRowBackSpec) (k := Rows.uptoSmall) rfl own started (by kernel_rfl) Try.func9
    (OpenSpec.witness (enc := enc) (C := Try.checked) (s := Rows.OpenSpec.upto Rows.vlqRowBackSpec) (k := Rows.uptoSmall) rfl false ⟨#[], #[.slice none 0 0, .string ByteArray.empty], []⟩ 8 (by kernel_rfl) (by kernel_rfl) (by kernel_rfl)
      (x := ([.nil, .lit (.string [])], [], [])) (by kernel_rfl) rfl (by kernel_rfl)) ?_
  intro W base args ds gs before hval hW _ hk _
  exact contract H enc W base args ds gs before hval hW hk
theorem over : Rows.vlqRowBackUptoRow.holds Try.pinned (Rows.OpenSpec.upto Rows.vlqRowBackSpec) :=
  OpenClaim.holds_of_cond 9 Try.f9 rfl rfl rfl rfl rfl rfl rfl ⟨rfl, rfl, rfl, rfl, rfl⟩ rfl rfl rfl rfl rfl (by kernel_rfl) Try.func9 (by kernel_rfl)
    (of_decide_eq_true (by kernel_rfl)) (by unfold Func.isWrapper; first | (rw [if_pos (by decide +kernel)]; kernel_rfl) | (rw [if_neg (by decide +kernel)]; exact ⟨rfl, rfl⟩))
    (fun os started H enc _ F => lifted os started H enc F)
theorem proved : Rows.VlqRowBackUptoSaid := over
#print axioms proved
end Go.Proofs.Ytbmgglgacgkffaa.vlqRowBackUpto
namespace Go.Proofs.Ytbmgglgacgkffaa
/-- The row, under a short name, for the claim. -/
theorem vlqRowBackUpto_holds : Rows.VlqRowBackUptoSaid := vlqRowBackUpto.proved
end Go.Proofs.Ytbmgglgacgkffaa
