/- What a reading of each argument gives, and what is left to prove of each law, over numbers and lists alone. Laid by a program of this session (hrows.py). -/
import Derived.Test.YtbmgglgacgkffaaOpen
import Derived.Test.YtbmgglgacgkffaaPAllx0
namespace Go.Proofs.Ytbmgglgacgkffaa.PAll
open Go.RowKit Go.Proofs.YtbmgglgacgkffaaW.PrintWords Go.Proofs.YtbmgglgacgkffaaW.PrintLast Go.Proofs.Ytbmgglgacgkffaa.PAll Go.Proofs.Ytbmgglgacgkffaa.Open
set_option linter.unusedVariables false
def os_s.wf (l : List ByteArray) : Prop := l.length ≤ 9223372036854775807 ∧ ∀ x ∈ l, x.size ≤ maxLen
def os_s.sz (l : List ByteArray) : Prop := l.length * 16 ≤ 140737488351232 ∧ ∀ x ∈ l, x.size ≤ 140737488351232
def os_s.wt (l : List ByteArray) : Nat := sumW (fun x => x.size + 1) l + 1
theorem os_s.opens_40 : Opens Try.prog (Kd.slice 9 Kd.string) 40 os_s.wf os_s.sz os_s.wt := opens_slice (P := Try.prog) (t := 40) (e := 9) Try.underlying40 (by kernel_rfl) (by kernel_rfl) (opens_string (P := Try.prog) (t := 9) Try.underlying9 (by kernel_rfl))
def o42.wf (x : S42) : Prop := os_s.wf x.f0 ∧ x.f1.size ≤ maxLen ∧ (Lit.int .i64 x.f2).wf = true ∧ (Lit.int .i64 x.f3).wf = true
def o42.sz (x : S42) : Prop := os_s.sz x.f0 ∧ x.f1.size ≤ 140737488351232 ∧ True ∧ True
def o42.wt (x : S42) : Nat := (os_s.wt x.f0) + (x.f1.size + 1) + (1) + (1) + 1
theorem o42.opens_42 : Opens Try.prog k42 42 o42.wf o42.sz o42.wt :=
  (opens_struct (P := Try.prog) (t := 42) (fun p => (⟨p.1, p.2.1, p.2.2.1, p.2.2.2⟩ : S42)) (fun _ => rfl) Try.underlying42 rfl (by kernel_rfl) (opensF_cons rfl os_s.opens_40 (opensF_cons rfl (opens_string (P := Try.prog) (t := 9) Try.underlying9 (by kernel_rfl)) (opensF_cons rfl (opens_int (P := Try.prog) (t := 3) Try.underlying3 (by kernel_rfl)) (opensF_one (opens_int (P := Try.prog) (t := 3) Try.underlying3 (by kernel_rfl))))))).imp (fun _ h => h) (fun _ h => h) (fun x => by unfold o42.wt; (try dsimp only); omega)
end Go.Proofs.Ytbmgglgacgkffaa.PAll
