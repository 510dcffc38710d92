/- What a reading of each argument gives, and what is left to prove of each law, over numbers and lists alone. Laid by a program of this session (hrows.py). -/
import Derived.Test.YthnhfmmiaknhgaaOpen
import Derived.Test.YthnhfmmiaknhgaaPAllx0
namespace Go.Proofs.Ythnhfmmiaknhgaa.PAll
open Go.RowKit Go.Proofs.YthnhfmmiaknhgaaW.PrintWords Go.Proofs.YthnhfmmiaknhgaaW.PrintLast Go.Proofs.Ythnhfmmiaknhgaa.PAll Go.Proofs.Ythnhfmmiaknhgaa.Open
set_option linter.unusedVariables false
def os_s.wf (l : List ByteArray) : Prop := l.length ≤ 9223372036854775807 ∧ ∀ x ∈ l, x.size ≤ maxLen
def os_s.sz (l : List ByteArray) : Prop := l.length * 16 ≤ 140737488351232 ∧ ∀ x ∈ l, x.size ≤ 140737488351232
def os_s.wt (l : List ByteArray) : Nat := sumW (fun x => x.size + 1) l + 1
theorem os_s.opens_34 : Opens Try.prog (Kd.slice 9 Kd.string) 34 os_s.wf os_s.sz os_s.wt := opens_slice (P := Try.prog) (t := 34) (e := 9) Try.underlying34 (by kernel_rfl) (by kernel_rfl) (opens_string (P := Try.prog) (t := 9) Try.underlying9 (by kernel_rfl))
def o77.wf (x : S77) : Prop := (Lit.int .i64 x.f0).wf = true ∧ x.f1.size ≤ maxLen
def o77.sz (x : S77) : Prop := True ∧ x.f1.size ≤ 140737488351232
def o77.wt (x : S77) : Nat := (1) + (x.f1.size + 1) + 1
theorem o77.opens_77 : Opens Try.prog k77 77 o77.wf o77.sz o77.wt :=
  (opens_struct (P := Try.prog) (t := 77) (fun p => (⟨p.1, p.2⟩ : S77)) (fun _ => rfl) Try.underlying77 rfl (by kernel_rfl) (opensF_cons rfl (opens_int (P := Try.prog) (t := 3) Try.underlying3 (by kernel_rfl)) (opensF_one (opens_string (P := Try.prog) (t := 9) Try.underlying9 (by kernel_rfl))))).imp (fun _ h => h) (fun _ h => h) (fun x => by unfold o77.wt; (try dsimp only); omega)
def os_o77.wf (l : List (S77)) : Prop := l.length ≤ 9223372036854775807 ∧ ∀ x ∈ l, o77.wf x
def os_o77.sz (l : List (S77)) : Prop := l.length * 24 ≤ 140737488351232 ∧ ∀ x ∈ l, o77.sz x
def os_o77.wt (l : List (S77)) : Nat := sumW (fun x => o77.wt x) l + 1
theorem os_o77.opens_35 : Opens Try.prog (Kd.slice 77 k77) 35 os_o77.wf os_o77.sz os_o77.wt := opens_slice (P := Try.prog) (t := 35) (e := 77) Try.underlying35 (by kernel_rfl) (by kernel_rfl) o77.opens_77
def o37.wf (x : S37) : Prop := os_s.wf x.f0 ∧ os_o77.wf x.f1 ∧ (Lit.int .i64 x.f2).wf = true ∧ True
def o37.sz (x : S37) : Prop := os_s.sz x.f0 ∧ os_o77.sz x.f1 ∧ True ∧ True
def o37.wt (x : S37) : Nat := (os_s.wt x.f0) + (os_o77.wt x.f1) + (1) + (1) + 1
theorem o37.opens_37 : Opens Try.prog k37 37 o37.wf o37.sz o37.wt :=
  (opens_struct (P := Try.prog) (t := 37) (fun p => (⟨p.1, p.2.1, p.2.2.1, p.2.2.2⟩ : S37)) (fun _ => rfl) Try.underlying37 rfl (by kernel_rfl) (opensF_cons rfl os_s.opens_34 (opensF_cons rfl os_o77.opens_35 (opensF_cons rfl (opens_int (P := Try.prog) (t := 3) Try.underlying3 (by kernel_rfl)) (opensF_one (opens_bool (P := Try.prog) (t := 4) Try.underlying4 (by kernel_rfl))))))).imp (fun _ h => h) (fun _ h => h) (fun x => by unfold o37.wt; (try dsimp only); omega)
end Go.Proofs.Ythnhfmmiaknhgaa.PAll
