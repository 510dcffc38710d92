/- DiskArms answers true for every input that holds together at most 1048576 values and letters, and each argument reads behind the call as it did. Laid by a program of this session (hrows.py). -/
import Derived.Test.YtmaojfeikbdkhaaRows
import Derived.Test.YtmaojfeikbdkhaaPureDiskArms
import Derived.Test.YtmaojfeikbdkhaaStDiskArms
import Derived.WalkKit
import Derived.ProofKit
import Derived.OpenShut
import Derived.ShutString
import Derived.ChangeOld
import Derived.Below
import Derived.SizedLaws
import Derived.JoinedCond
namespace Go.Proofs.Ytmaojfeikbdkhaa.diskArmsUpto
open Go.ChangeShapes Go.WideShapes Go.ChangeAt Go.RowKit
open Go.ChangeMaps (open_string shut_string)
open Go.Proofs.YtmaojfeikbdkhaaW.PrintWords Go.Proofs.YtmaojfeikbdkhaaW.PrintLast Go.Proofs.Ytmaojfeikbdkhaa.PAll Go.Proofs.Ytmaojfeikbdkhaa.Open
set_option linter.unusedVariables false
theorem own : ownKnob Try.prog.godebug = none := by kernel_rfl
theorem laidOut : laidOutB Try.prog = true := by kernel_rfl
set_option maxRecDepth 100000 in
theorem contract (H : Type) (enc : TypeId × Value → H) (W : World) (base : Nat) (args : Array Value) (ds gs : List (DataW H)) (before : List MemPlace)
    (hval : ∀ (j : Nat) t v, Try.f7.params[j]? = some t → args[j]? = some v → Value.okWide Try.prog W .any base t v)
    (hW : DataW.Whole enc Try.prog Try.f7.params.toList Rows.diskArmsSpec.vars false W args.toList ds gs before)
    (hk : Rows.uptoSmall H (ds ++ gs) = true) :
    Calls Try.prog 7 args W fun e W' => ∃ v, e = .returned v ∧ Rows.diskArmsSpec.post enc Try.prog Try.f7 false true false false W args v W' := by
  have hW' := hW
  obtain ⟨p, q, hA0, hV, rfl, hfz, hnd⟩ := hW
  have hA : DataW.TrodAll enc Try.prog W 0 (fun _ => true) true Try.f7.params.toList args.toList ds p := hA0
  rw [Try.params7] at hA hval
  obtain ⟨v0, vs0, d0, ds0, p0, q0, hargs, rfl, rfl, h0, r0⟩ := trodAll_cons hA
  obtain ⟨v1, vs1, d1, ds1, p1, q1, rfl, rfl, rfl, h1, r1⟩ := trodAll_cons r0
  obtain ⟨v2, vs2, d2, ds2, p2, q2, rfl, rfl, rfl, h2, r2⟩ := trodAll_cons r1
  obtain ⟨rfl, rfl, rfl⟩ := trodAll_nil r2
  obtain rfl : args = #[v0, v1, v2] := by cases args; simp_all
  obtain ⟨rfl, rfl⟩ := trodVars_none hV
  have hb : Rows.uptoBulkAll ([d0, d1, d2] : List (DataW H)) ≤ 1048576 := of_decide_eq_true hk
  simp only [Rows.uptoBulkAll] at hb
  have kk0 := h0
  have lt0 : ∀ x ∈ p0, x.block < W.heap.size := by obtain ⟨m, hm⟩ := kk0; exact DataW.trod_lt m _ _ _ hm
  obtain ⟨cs0, rfl, _⟩ := okWide_struct Try.underlying25 (hval 0 25 v0 rfl rfl)
  obtain ⟨x0, hK0, hw0, hs0, ht0⟩ := (by obtain ⟨m, hm⟩ := h0; exact (o25.opens_25).2 enc W 0 (fun _ => true) true m _ d0 p0 hm : ∃ x, (k25).K W x _ ∧ o25.wf x ∧ ((∀ n ∈ d0.weights Try.prog 25, n ≤ reachBytes) → o25.sz x) ∧ o25.wt x ≤ Rows.uptoBulk d0)
  obtain ⟨A0_0, c0_0, A0_1, c0_1, hc0, hl0_0, hr0_0, hl0_1, hr0_1⟩ := k25_open hK0
  obtain rfl : cs0 = #[.slice A0_0 x0.f0.length c0_0, .slice A0_1 x0.f1.length c0_1, .int .i64 x0.f2, .bool x0.f3] := by rw [← Array.toList_inj]; exact hc0
  have kk1 := h1
  have lt1 : ∀ x ∈ p1, x.block < W.heap.size := by obtain ⟨m, hm⟩ := kk1; exact DataW.trod_lt m _ _ _ hm
  obtain ⟨b1, rfl⟩ : ∃ x, v1 = .int .i64 x := by obtain ⟨x, rfl, _⟩ := open_int Try.underlying3 (hval 1 3 v1 rfl rfl) h1; exact ⟨x, rfl⟩
  obtain ⟨x1, hK1, hw1, hs1, ht1⟩ := (by obtain ⟨m, hm⟩ := h1; exact ((opens_int (P := Try.prog) (t := 3) Try.underlying3 (by kernel_rfl))).2 enc W 0 (fun _ => true) true m _ d1 p1 hm : ∃ x, ((Kd.int .i64)).K W x _ ∧ (Lit.int .i64 x).wf = true ∧ ((∀ n ∈ d1.weights Try.prog 3, n ≤ reachBytes) → True) ∧ 1 ≤ Rows.uptoBulk d1)
  obtain rfl : x1 = b1 := by have z := (List.cons.inj (show [_] = [_] from hK1)).1; first | (injection z with z1 z2; exact z2.symm) | (injection z with z1; exact z1.symm)
  have kk2 := h2
  have lt2 : ∀ x ∈ p2, x.block < W.heap.size := by obtain ⟨m, hm⟩ := kk2; exact DataW.trod_lt m _ _ _ hm
  obtain ⟨aa2, len2, cap2, rfl⟩ := okWide_slice Try.underlying22 (hval 2 22 v2 rfl rfl)
  obtain ⟨x2, hK2, hw2, hs2, ht2⟩ := (by obtain ⟨m, hm⟩ := h2; exact (os_s.opens_22).2 enc W 0 (fun _ => true) true m _ d2 p2 hm : ∃ x, ((Kd.slice 9 Kd.string)).K W x _ ∧ os_s.wf x ∧ ((∀ n ∈ d2.weights Try.prog 22, n ≤ reachBytes) → os_s.sz x) ∧ os_s.wt x ≤ Rows.uptoBulk d2)
  obtain ⟨A2, c2, hc2, hl2, hr2⟩ := hK2
  obtain ⟨rfl, rfl, rfl⟩ : aa2 = A2 ∧ len2 = x2.length ∧ cap2 = c2 := by simpa [Value.cells] using hc2
  clear hA0 hval hk
  have hP : hogsheadlaw08_DiskArms.PureUpto := Pure.DiskArmsUpto
  obtain ⟨k, h⟩ := hP x0 x1 x2 hw0 hw1 hw2 (by dsimp only at *; omega)
  refine (hogsheadlaw08_DiskArms.calls (k := k) (w := W) (hr0_0 := hr0_0) (hc0_0 := hl0_0) (hr0_1 := hr0_1) (hc0_1 := hl0_1) (hr2 := hr2) (hc2 := hl2) (h := h)).mono fun e W' he => ?_
  obtain ⟨he, bel⟩ := he
  subst he
  exact ⟨_, rfl, _, _, _, [], _, [], hW', trodAll_mk1 (shut_bool Try.underlying4 _), (trodAll_cons_mk (Below.trod laidOut (by kernel_rfl) (of_decide_eq_true (by kernel_rfl)) kk0 bel lt0) (trodAll_cons_mk (Below.trod laidOut (by kernel_rfl) (of_decide_eq_true (by kernel_rfl)) kk1 bel lt1) (trodAll_cons_mk (Below.trod laidOut (by kernel_rfl) (of_decide_eq_true (by kernel_rfl)) kk2 bel lt2) trodAll_mk0))), rfl, bel.frame _, fun h => by cases h⟩
set_option maxRecDepth 100000 in
theorem lifted (os : Os) (started : os.Started) (H : Type) (enc : TypeId × Value → H) (F : Stop.Interp) :
    ReturnsInHanded {} Try.checked os 7 .any ((Rows.OpenSpec.upto Rows.diskArmsSpec).pre6 enc Try.prog Try.f7 Rows.diskArmsUptoRow.domain false) (((Rows.OpenSpec.upto Rows.diskArmsSpec).at F).post enc Try.prog Try.f7 false true false false) := by
  refine returnsInHanded_of_cond (C := Try.checked) (s := Rows.OpenSpec.upto Rows.diskArmsSpec) (k := Rows.uptoSmall) rfl own started (by kernel_rfl) Try.func7
    (OpenSpec.witness (enc := enc) (C := Try.checked) (s := Rows.OpenSpec.upto Rows.diskArmsSpec) (k := Rows.uptoSmall) rfl false ⟨#[], #[.agg #[.slice none 0 0, .slice none 0 0, .int .i64 0, .bool false], .int .i64 0, .slice none 0 0], []⟩ 8 (by kernel_rfl) (by kernel_rfl) (by kernel_rfl)
      (x := ([.agg [.nil, .nil, .lit (.int .i64 0), .lit (.bool false)], .lit (.int .i64 0), .nil], [], [])) (by kernel_rfl) rfl (by kernel_rfl)) ?_
  intro W base args ds gs before hval hW _ hk _
  exact contract H enc W base args ds gs before hval hW hk
theorem over : Rows.diskArmsUptoRow.holds Try.pinned (Rows.OpenSpec.upto Rows.diskArmsSpec) :=
  OpenClaim.holds_of_cond 7 Try.f7 rfl rfl rfl rfl rfl rfl rfl ⟨rfl, rfl, rfl, rfl, rfl⟩ rfl rfl rfl rfl rfl (by kernel_rfl) Try.func7 (by kernel_rfl)
    (of_decide_eq_true (by kernel_rfl)) (by unfold Func.isWrapper; first | (rw [if_pos (by decide +kernel)]; kernel_rfl) | (rw [if_neg (by decide +kernel)]; exact ⟨rfl, rfl⟩))
    (fun os started H enc _ F => lifted os started H enc F)
theorem proved : Rows.DiskArmsUptoSaid := over
#print axioms proved
end Go.Proofs.Ytmaojfeikbdkhaa.diskArmsUpto
namespace Go.Proofs.Ytmaojfeikbdkhaa
/-- The row, under a short name, for the claim. -/
theorem diskArmsUpto_holds : Rows.DiskArmsUptoSaid := diskArmsUpto.proved
end Go.Proofs.Ytmaojfeikbdkhaa
