/- What a reading of each argument gives, and what is left to prove of each law, over numbers and lists alone. Laid by a program of this session (hrows.py). -/
import Derived.Test.YtmaojfeikbdkhaaOpen
import Derived.Test.YtmaojfeikbdkhaaPAllx0
namespace Go.Proofs.Ytmaojfeikbdkhaa.PAll
open Go.RowKit Go.Proofs.YtmaojfeikbdkhaaW.PrintWords Go.Proofs.YtmaojfeikbdkhaaW.PrintLast Go.Proofs.Ytmaojfeikbdkhaa.PAll Go.Proofs.Ytmaojfeikbdkhaa.Open
set_option linter.unusedVariables false
def os_s.wf (l : List ByteArray) : Prop := l.length ≤ 9223372036854775807 ∧ ∀ x ∈ l, x.size ≤ maxLen
def os_s.sz (l : List ByteArray) : Prop := l.length * 16 ≤ 140737488351232 ∧ ∀ x ∈ l, x.size ≤ 140737488351232
def os_s.wt (l : List ByteArray) : Nat := sumW (fun x => x.size + 1) l + 1
theorem os_s.opens_22 : Opens Try.prog (Kd.slice 9 Kd.string) 22 os_s.wf os_s.sz os_s.wt := opens_slice (P := Try.prog) (t := 22) (e := 9) Try.underlying22 (by kernel_rfl) (by kernel_rfl) (opens_string (P := Try.prog) (t := 9) Try.underlying9 (by kernel_rfl))
def o47.wf (x : S47) : Prop := (Lit.int .i64 x.f0).wf = true ∧ x.f1.size ≤ maxLen
def o47.sz (x : S47) : Prop := True ∧ x.f1.size ≤ 140737488351232
def o47.wt (x : S47) : Nat := (1) + (x.f1.size + 1) + 1
theorem o47.opens_47 : Opens Try.prog k47 47 o47.wf o47.sz o47.wt :=
  (opens_struct (P := Try.prog) (t := 47) (fun p => (⟨p.1, p.2⟩ : S47)) (fun _ => rfl) Try.underlying47 rfl (by kernel_rfl) (opensF_cons rfl (opens_int (P := Try.prog) (t := 3) Try.underlying3 (by kernel_rfl)) (opensF_one (opens_string (P := Try.prog) (t := 9) Try.underlying9 (by kernel_rfl))))).imp (fun _ h => h) (fun _ h => h) (fun x => by unfold o47.wt; (try dsimp only); omega)
def os_o47.wf (l : List (S47)) : Prop := l.length ≤ 9223372036854775807 ∧ ∀ x ∈ l, o47.wf x
def os_o47.sz (l : List (S47)) : Prop := l.length * 24 ≤ 140737488351232 ∧ ∀ x ∈ l, o47.sz x
def os_o47.wt (l : List (S47)) : Nat := sumW (fun x => o47.wt x) l + 1
theorem os_o47.opens_23 : Opens Try.prog (Kd.slice 47 k47) 23 os_o47.wf os_o47.sz os_o47.wt := opens_slice (P := Try.prog) (t := 23) (e := 47) Try.underlying23 (by kernel_rfl) (by kernel_rfl) o47.opens_47
def o25.wf (x : S25) : Prop := os_s.wf x.f0 ∧ os_o47.wf x.f1 ∧ (Lit.int .i64 x.f2).wf = true ∧ True
def o25.sz (x : S25) : Prop := os_s.sz x.f0 ∧ os_o47.sz x.f1 ∧ True ∧ True
def o25.wt (x : S25) : Nat := (os_s.wt x.f0) + (os_o47.wt x.f1) + (1) + (1) + 1
theorem o25.opens_25 : Opens Try.prog k25 25 o25.wf o25.sz o25.wt :=
  (opens_struct (P := Try.prog) (t := 25) (fun p => (⟨p.1, p.2.1, p.2.2.1, p.2.2.2⟩ : S25)) (fun _ => rfl) Try.underlying25 rfl (by kernel_rfl) (opensF_cons rfl os_s.opens_22 (opensF_cons rfl os_o47.opens_23 (opensF_cons rfl (opens_int (P := Try.prog) (t := 3) Try.underlying3 (by kernel_rfl)) (opensF_one (opens_bool (P := Try.prog) (t := 4) Try.underlying4 (by kernel_rfl))))))).imp (fun _ h => h) (fun _ h => h) (fun x => by unfold o25.wt; (try dsimp only); omega)
def o60.wf (x : S60) : Prop := o25.wf x.f0 ∧ (Lit.int .i64 x.f1).wf = true ∧ (Lit.int .i64 x.f2).wf = true ∧ (Lit.int .u32 x.f3).wf = true
def o60.sz (x : S60) : Prop := o25.sz x.f0 ∧ True ∧ True ∧ True
def o60.wt (x : S60) : Nat := (o25.wt x.f0) + (1) + (1) + (1) + 1
theorem o60.opens_60 : Opens Try.prog k60 60 o60.wf o60.sz o60.wt :=
  (opens_struct (P := Try.prog) (t := 60) (fun p => (⟨p.1, p.2.1, p.2.2.1, p.2.2.2⟩ : S60)) (fun _ => rfl) Try.underlying60 rfl (by kernel_rfl) (opensF_cons rfl o25.opens_25 (opensF_cons rfl (opens_int (P := Try.prog) (t := 3) Try.underlying3 (by kernel_rfl)) (opensF_cons rfl (opens_int (P := Try.prog) (t := 3) Try.underlying3 (by kernel_rfl)) (opensF_one (opens_int (P := Try.prog) (t := 58) Try.underlying58 (by kernel_rfl))))))).imp (fun _ h => h) (fun _ h => h) (fun x => by unfold o60.wt; (try dsimp only); omega)
def o64.wf (x : S64) : Prop := o25.wf x.f0 ∧ (Lit.int .i64 x.f1).wf = true ∧ (Lit.int .i64 x.f2).wf = true ∧ (Lit.int .i64 x.f3).wf = true ∧ (Lit.int .u32 x.f4).wf = true ∧ o25.wf x.f5
def o64.sz (x : S64) : Prop := o25.sz x.f0 ∧ True ∧ True ∧ True ∧ True ∧ o25.sz x.f5
def o64.wt (x : S64) : Nat := (o25.wt x.f0) + (1) + (1) + (1) + (1) + (o25.wt x.f5) + 1
theorem o64.opens_64 : Opens Try.prog k64 64 o64.wf o64.sz o64.wt :=
  (opens_struct (P := Try.prog) (t := 64) (fun p => (⟨p.1, p.2.1, p.2.2.1, p.2.2.2.1, p.2.2.2.2.1, p.2.2.2.2.2⟩ : S64)) (fun _ => rfl) Try.underlying64 rfl (by kernel_rfl) (opensF_cons rfl o25.opens_25 (opensF_cons rfl (opens_int (P := Try.prog) (t := 3) Try.underlying3 (by kernel_rfl)) (opensF_cons rfl (opens_int (P := Try.prog) (t := 3) Try.underlying3 (by kernel_rfl)) (opensF_cons rfl (opens_int (P := Try.prog) (t := 3) Try.underlying3 (by kernel_rfl)) (opensF_cons rfl (opens_int (P := Try.prog) (t := 58) Try.underlying58 (by kernel_rfl)) (opensF_one o25.opens_25))))))).imp (fun _ h => h) (fun _ h => h) (fun x => by unfold o64.wt; (try dsimp only); omega)
end Go.Proofs.Ytmaojfeikbdkhaa.PAll
