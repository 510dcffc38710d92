/- What a reading of each argument gives, and what is left to prove of each law, over numbers and lists alone. Laid by a program of this session (hrows.py). -/
import Derived.Test.YtlfonfceaiiinaaOpen
import Derived.Test.YtlfonfceaiiinaaPAllx0
namespace Go.Proofs.Ytlfonfceaiiinaa.PAll
open Go.RowKit Go.Proofs.YtlfonfceaiiinaaW.PrintWords Go.Proofs.YtlfonfceaiiinaaW.PrintLast Go.Proofs.Ytlfonfceaiiinaa.PAll Go.Proofs.Ytlfonfceaiiinaa.Open
set_option linter.unusedVariables false
def os_s.wf (l : List ByteArray) : Prop := l.length ≤ 9223372036854775807 ∧ ∀ x ∈ l, x.size ≤ maxLen
def os_s.sz (l : List ByteArray) : Prop := l.length * 16 ≤ 140737488351232 ∧ ∀ x ∈ l, x.size ≤ 140737488351232
def os_s.wt (l : List ByteArray) : Nat := sumW (fun x => x.size + 1) l + 1
theorem os_s.opens_50 : Opens Try.prog (Kd.slice 9 Kd.string) 50 os_s.wf os_s.sz os_s.wt := opens_slice (P := Try.prog) (t := 50) (e := 9) Try.underlying50 (by kernel_rfl) (by kernel_rfl) (opens_string (P := Try.prog) (t := 9) Try.underlying9 (by kernel_rfl))
def o102.wf (x : S102) : Prop := (Lit.int .i64 x.f0).wf = true ∧ x.f1.size ≤ maxLen
def o102.sz (x : S102) : Prop := True ∧ x.f1.size ≤ 140737488351232
def o102.wt (x : S102) : Nat := (1) + (x.f1.size + 1) + 1
theorem o102.opens_102 : Opens Try.prog k102 102 o102.wf o102.sz o102.wt :=
  (opens_struct (P := Try.prog) (t := 102) (fun p => (⟨p.1, p.2⟩ : S102)) (fun _ => rfl) Try.underlying102 rfl (by kernel_rfl) (opensF_cons rfl (opens_int (P := Try.prog) (t := 3) Try.underlying3 (by kernel_rfl)) (opensF_one (opens_string (P := Try.prog) (t := 9) Try.underlying9 (by kernel_rfl))))).imp (fun _ h => h) (fun _ h => h) (fun x => by unfold o102.wt; (try dsimp only); omega)
def os_o102.wf (l : List (S102)) : Prop := l.length ≤ 9223372036854775807 ∧ ∀ x ∈ l, o102.wf x
def os_o102.sz (l : List (S102)) : Prop := l.length * 24 ≤ 140737488351232 ∧ ∀ x ∈ l, o102.sz x
def os_o102.wt (l : List (S102)) : Nat := sumW (fun x => o102.wt x) l + 1
theorem os_o102.opens_51 : Opens Try.prog (Kd.slice 102 k102) 51 os_o102.wf os_o102.sz os_o102.wt := opens_slice (P := Try.prog) (t := 51) (e := 102) Try.underlying51 (by kernel_rfl) (by kernel_rfl) o102.opens_102
def o53.wf (x : S53) : Prop := os_s.wf x.f0 ∧ os_o102.wf x.f1 ∧ (Lit.int .i64 x.f2).wf = true ∧ True
def o53.sz (x : S53) : Prop := os_s.sz x.f0 ∧ os_o102.sz x.f1 ∧ True ∧ True
def o53.wt (x : S53) : Nat := (os_s.wt x.f0) + (os_o102.wt x.f1) + (1) + (1) + 1
theorem o53.opens_53 : Opens Try.prog k53 53 o53.wf o53.sz o53.wt :=
  (opens_struct (P := Try.prog) (t := 53) (fun p => (⟨p.1, p.2.1, p.2.2.1, p.2.2.2⟩ : S53)) (fun _ => rfl) Try.underlying53 rfl (by kernel_rfl) (opensF_cons rfl os_s.opens_50 (opensF_cons rfl os_o102.opens_51 (opensF_cons rfl (opens_int (P := Try.prog) (t := 3) Try.underlying3 (by kernel_rfl)) (opensF_one (opens_bool (P := Try.prog) (t := 4) Try.underlying4 (by kernel_rfl))))))).imp (fun _ h => h) (fun _ h => h) (fun x => by unfold o53.wt; (try dsimp only); omega)
def o29.wf (x : S29) : Prop := (Lit.int .i64 x.f0).wf = true ∧ (Lit.int .i64 x.f1).wf = true ∧ (Lit.int .i64 x.f2).wf = true ∧ (Lit.int .i64 x.f3).wf = true
def o29.sz (x : S29) : Prop := True ∧ True ∧ True ∧ True
def o29.wt (x : S29) : Nat := (1) + (1) + (1) + (1) + 1
theorem o29.opens_29 : Opens Try.prog k29 29 o29.wf o29.sz o29.wt :=
  (opens_struct (P := Try.prog) (t := 29) (fun p => (⟨p.1, p.2.1, p.2.2.1, p.2.2.2⟩ : S29)) (fun _ => rfl) Try.underlying29 rfl (by kernel_rfl) (opensF_cons rfl (opens_int (P := Try.prog) (t := 3) Try.underlying3 (by kernel_rfl)) (opensF_cons rfl (opens_int (P := Try.prog) (t := 3) Try.underlying3 (by kernel_rfl)) (opensF_cons rfl (opens_int (P := Try.prog) (t := 3) Try.underlying3 (by kernel_rfl)) (opensF_one (opens_int (P := Try.prog) (t := 3) Try.underlying3 (by kernel_rfl))))))).imp (fun _ h => h) (fun _ h => h) (fun x => by unfold o29.wt; (try dsimp only); omega)
def os_o29.wf (l : List (S29)) : Prop := l.length ≤ 9223372036854775807 ∧ ∀ x ∈ l, o29.wf x
def os_o29.sz (l : List (S29)) : Prop := l.length * 32 ≤ 140737488351232 ∧ ∀ x ∈ l, o29.sz x
def os_o29.wt (l : List (S29)) : Nat := sumW (fun x => o29.wt x) l + 1
theorem os_o29.opens_47 : Opens Try.prog (Kd.slice 29 k29) 47 os_o29.wf os_o29.sz os_o29.wt := opens_slice (P := Try.prog) (t := 47) (e := 29) Try.underlying47 (by kernel_rfl) (by kernel_rfl) o29.opens_29
end Go.Proofs.Ytlfonfceaiiinaa.PAll
