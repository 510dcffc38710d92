/- What a reading of each argument gives, and what is left to prove of each law, over numbers and lists alone. Laid by a program of this session (hrows.py). -/
import Derived.Test.YtlfonfceaiiinaaOpen
import Derived.Test.YtlfonfceaiiinaaPAllx0
namespace Go.Proofs.Ytlfonfceaiiinaa.PAll
open Go.RowKit Go.Proofs.YtlfonfceaiiinaaW.PrintWords Go.Proofs.YtlfonfceaiiinaaW.PrintLast Go.Proofs.Ytlfonfceaiiinaa.PAll Go.Proofs.Ytlfonfceaiiinaa.Open
set_option linter.unusedVariables false
def o75.wf (x : S75) : Prop := (Lit.int .i64 x.f0).wf = true ∧ (Lit.int .i64 x.f1).wf = true
def o75.sz (x : S75) : Prop := True ∧ True
def o75.wt (x : S75) : Nat := (1) + (1) + 1
theorem o75.opens_75 : Opens Try.prog k75 75 o75.wf o75.sz o75.wt :=
  (opens_struct (P := Try.prog) (t := 75) (fun p => (⟨p.1, p.2⟩ : S75)) (fun _ => rfl) Try.underlying75 rfl (by kernel_rfl) (opensF_cons rfl (opens_int (P := Try.prog) (t := 3) Try.underlying3 (by kernel_rfl)) (opensF_one (opens_int (P := Try.prog) (t := 3) Try.underlying3 (by kernel_rfl))))).imp (fun _ h => h) (fun _ h => h) (fun x => by unfold o75.wt; (try dsimp only); omega)
def os_o75.wf (l : List (S75)) : Prop := l.length ≤ 9223372036854775807 ∧ ∀ x ∈ l, o75.wf x
def os_o75.sz (l : List (S75)) : Prop := l.length * 16 ≤ 140737488351232 ∧ ∀ x ∈ l, o75.sz x
def os_o75.wt (l : List (S75)) : Nat := sumW (fun x => o75.wt x) l + 1
theorem os_o75.opens_40 : Opens Try.prog (Kd.slice 75 k75) 40 os_o75.wf os_o75.sz os_o75.wt := opens_slice (P := Try.prog) (t := 40) (e := 75) Try.underlying40 (by kernel_rfl) (by kernel_rfl) o75.opens_75
def o42.wf (x : S42) : Prop := (Lit.int .i64 x.f0).wf = true ∧ (Lit.int .i64 x.f1).wf = true ∧ (Lit.int .i64 x.f2).wf = true ∧ x.f3.size ≤ maxLen ∧ (Lit.int .i64 x.f4).wf = true ∧ (Lit.int .i64 x.f5).wf = true ∧ (Lit.int .i64 x.f6).wf = true ∧ (Lit.int .u32 x.f7).wf = true ∧ (Lit.int .i64 x.f8).wf = true ∧ (Lit.int .i64 x.f9).wf = true ∧ (Lit.int .i64 x.f10).wf = true ∧ os_o75.wf x.f11
def o42.sz (x : S42) : Prop := True ∧ True ∧ True ∧ x.f3.size ≤ 140737488351232 ∧ True ∧ True ∧ True ∧ True ∧ True ∧ True ∧ True ∧ os_o75.sz x.f11
def o42.wt (x : S42) : Nat := (1) + (1) + (1) + (x.f3.size + 1) + (1) + (1) + (1) + (1) + (1) + (1) + (1) + (os_o75.wt x.f11) + 1
theorem o42.opens_42 : Opens Try.prog k42 42 o42.wf o42.sz o42.wt :=
  (opens_struct (P := Try.prog) (t := 42) (fun p => (⟨p.1, p.2.1, p.2.2.1, p.2.2.2.1, p.2.2.2.2.1, p.2.2.2.2.2.1, p.2.2.2.2.2.2.1, p.2.2.2.2.2.2.2.1, p.2.2.2.2.2.2.2.2.1, p.2.2.2.2.2.2.2.2.2.1, p.2.2.2.2.2.2.2.2.2.2.1, p.2.2.2.2.2.2.2.2.2.2.2⟩ : S42)) (fun _ => rfl) Try.underlying42 rfl (by kernel_rfl) (opensF_cons rfl (opens_int (P := Try.prog) (t := 3) Try.underlying3 (by kernel_rfl)) (opensF_cons rfl (opens_int (P := Try.prog) (t := 3) Try.underlying3 (by kernel_rfl)) (opensF_cons rfl (opens_int (P := Try.prog) (t := 3) Try.underlying3 (by kernel_rfl)) (opensF_cons rfl (opens_string (P := Try.prog) (t := 9) Try.underlying9 (by kernel_rfl)) (opensF_cons rfl (opens_int (P := Try.prog) (t := 3) Try.underlying3 (by kernel_rfl)) (opensF_cons rfl (opens_int (P := Try.prog) (t := 3) Try.underlying3 (by kernel_rfl)) (opensF_cons rfl (opens_int (P := Try.prog) (t := 3) Try.underlying3 (by kernel_rfl)) (opensF_cons rfl (opens_int (P := Try.prog) (t := 35) Try.underlying35 (by kernel_rfl)) (opensF_cons rfl (opens_int (P := Try.prog) (t := 3) Try.underlying3 (by kernel_rfl)) (opensF_cons rfl (opens_int (P := Try.prog) (t := 3) Try.underlying3 (by kernel_rfl)) (opensF_cons rfl (opens_int (P := Try.prog) (t := 3) Try.underlying3 (by kernel_rfl)) (opensF_one os_o75.opens_40))))))))))))).imp (fun _ h => h) (fun _ h => h) (fun x => by unfold o42.wt; (try dsimp only); omega)
def os_o42.wf (l : List (S42)) : Prop := l.length ≤ 9223372036854775807 ∧ ∀ x ∈ l, o42.wf x
def os_o42.sz (l : List (S42)) : Prop := l.length * 120 ≤ 140737488351232 ∧ ∀ x ∈ l, o42.sz x
def os_o42.wt (l : List (S42)) : Nat := sumW (fun x => o42.wt x) l + 1
theorem os_o42.opens_33 : Opens Try.prog (Kd.slice 42 k42) 33 os_o42.wf os_o42.sz os_o42.wt := opens_slice (P := Try.prog) (t := 33) (e := 42) Try.underlying33 (by kernel_rfl) (by kernel_rfl) o42.opens_42
end Go.Proofs.Ytlfonfceaiiinaa.PAll
