/- What a reading of each argument gives, and what is left to prove of each law, over numbers and lists alone. Laid by a program of this session (hrows.py). -/
import Derived.Test.YtlfonfceaiiinaaOpen
import Derived.Test.YtlfonfceaiiinaaPAllx0
namespace Go.Proofs.Ytlfonfceaiiinaa.PAll
open Go.RowKit Go.Proofs.YtlfonfceaiiinaaW.PrintWords Go.Proofs.YtlfonfceaiiinaaW.PrintLast Go.Proofs.Ytlfonfceaiiinaa.PAll Go.Proofs.Ytlfonfceaiiinaa.Open
set_option linter.unusedVariables false
def o59.wf (x : S59) : Prop := (Lit.int .i64 x.f0).wf = true ∧ (Lit.int .i64 x.f1).wf = true
def o59.sz (x : S59) : Prop := True ∧ True
def o59.wt (x : S59) : Nat := (1) + (1) + 1
theorem o59.opens_59 : Opens Try.prog k59 59 o59.wf o59.sz o59.wt :=
  (opens_struct (P := Try.prog) (t := 59) (fun p => (⟨p.1, p.2⟩ : S59)) (fun _ => rfl) Try.underlying59 rfl (by kernel_rfl) (opensF_cons rfl (opens_int (P := Try.prog) (t := 3) Try.underlying3 (by kernel_rfl)) (opensF_one (opens_int (P := Try.prog) (t := 3) Try.underlying3 (by kernel_rfl))))).imp (fun _ h => h) (fun _ h => h) (fun x => by unfold o59.wt; (try dsimp only); omega)
def os_o59.wf (l : List (S59)) : Prop := l.length ≤ 9223372036854775807 ∧ ∀ x ∈ l, o59.wf x
def os_o59.sz (l : List (S59)) : Prop := l.length * 16 ≤ 140737488351232 ∧ ∀ x ∈ l, o59.sz x
def os_o59.wt (l : List (S59)) : Nat := sumW (fun x => o59.wt x) l + 1
theorem os_o59.opens_43 : Opens Try.prog (Kd.slice 59 k59) 43 os_o59.wf os_o59.sz os_o59.wt := opens_slice (P := Try.prog) (t := 43) (e := 59) Try.underlying43 (by kernel_rfl) (by kernel_rfl) o59.opens_59
def o75.wf (x : S75) : Prop := (Lit.int .i64 x.f0).wf = true ∧ (Lit.int .i64 x.f1).wf = true
def o75.sz (x : S75) : Prop := True ∧ True
def o75.wt (x : S75) : Nat := (1) + (1) + 1
theorem o75.opens_75 : Opens Try.prog k75 75 o75.wf o75.sz o75.wt :=
  (opens_struct (P := Try.prog) (t := 75) (fun p => (⟨p.1, p.2⟩ : S75)) (fun _ => rfl) Try.underlying75 rfl (by kernel_rfl) (opensF_cons rfl (opens_int (P := Try.prog) (t := 3) Try.underlying3 (by kernel_rfl)) (opensF_one (opens_int (P := Try.prog) (t := 3) Try.underlying3 (by kernel_rfl))))).imp (fun _ h => h) (fun _ h => h) (fun x => by unfold o75.wt; (try dsimp only); omega)
def os_o75.wf (l : List (S75)) : Prop := l.length ≤ 9223372036854775807 ∧ ∀ x ∈ l, o75.wf x
def os_o75.sz (l : List (S75)) : Prop := l.length * 16 ≤ 140737488351232 ∧ ∀ x ∈ l, o75.sz x
def os_o75.wt (l : List (S75)) : Nat := sumW (fun x => o75.wt x) l + 1
theorem os_o75.opens_40 : Opens Try.prog (Kd.slice 75 k75) 40 os_o75.wf os_o75.sz os_o75.wt := opens_slice (P := Try.prog) (t := 40) (e := 75) Try.underlying40 (by kernel_rfl) (by kernel_rfl) o75.opens_75
def o45.wf (x : S45) : Prop := (Lit.int .i64 x.f0).wf = true ∧ (Lit.int .i64 x.f1).wf = true ∧ (Lit.int .i64 x.f2).wf = true ∧ (Lit.int .i64 x.f3).wf = true ∧ (Lit.int .i64 x.f4).wf = true ∧ os_o59.wf x.f5 ∧ os_o75.wf x.f6 ∧ (Lit.int .i64 x.f7).wf = true ∧ (Lit.int .i64 x.f8).wf = true
def o45.sz (x : S45) : Prop := True ∧ True ∧ True ∧ True ∧ True ∧ os_o59.sz x.f5 ∧ os_o75.sz x.f6 ∧ True ∧ True
def o45.wt (x : S45) : Nat := (1) + (1) + (1) + (1) + (1) + (os_o59.wt x.f5) + (os_o75.wt x.f6) + (1) + (1) + 1
theorem o45.opens_45 : Opens Try.prog k45 45 o45.wf o45.sz o45.wt :=
  (opens_struct (P := Try.prog) (t := 45) (fun p => (⟨p.1, p.2.1, p.2.2.1, p.2.2.2.1, p.2.2.2.2.1, p.2.2.2.2.2.1, p.2.2.2.2.2.2.1, p.2.2.2.2.2.2.2.1, p.2.2.2.2.2.2.2.2⟩ : S45)) (fun _ => rfl) Try.underlying45 rfl (by kernel_rfl) (opensF_cons rfl (opens_int (P := Try.prog) (t := 3) Try.underlying3 (by kernel_rfl)) (opensF_cons rfl (opens_int (P := Try.prog) (t := 3) Try.underlying3 (by kernel_rfl)) (opensF_cons rfl (opens_int (P := Try.prog) (t := 3) Try.underlying3 (by kernel_rfl)) (opensF_cons rfl (opens_int (P := Try.prog) (t := 3) Try.underlying3 (by kernel_rfl)) (opensF_cons rfl (opens_int (P := Try.prog) (t := 3) Try.underlying3 (by kernel_rfl)) (opensF_cons rfl os_o59.opens_43 (opensF_cons rfl os_o75.opens_40 (opensF_cons rfl (opens_int (P := Try.prog) (t := 3) Try.underlying3 (by kernel_rfl)) (opensF_one (opens_int (P := Try.prog) (t := 3) Try.underlying3 (by kernel_rfl)))))))))))).imp (fun _ h => h) (fun _ h => h) (fun x => by unfold o45.wt; (try dsimp only); omega)
def os_o45.wf (l : List (S45)) : Prop := l.length ≤ 9223372036854775807 ∧ ∀ x ∈ l, o45.wf x
def os_o45.sz (l : List (S45)) : Prop := l.length * 104 ≤ 140737488351232 ∧ ∀ x ∈ l, o45.sz x
def os_o45.wt (l : List (S45)) : Nat := sumW (fun x => o45.wt x) l + 1
theorem os_o45.opens_22 : Opens Try.prog (Kd.slice 45 k45) 22 os_o45.wf os_o45.sz os_o45.wt := opens_slice (P := Try.prog) (t := 22) (e := 45) Try.underlying22 (by kernel_rfl) (by kernel_rfl) o45.opens_45
def o92.wf (x : S92) : Prop := x.f0.size ≤ maxLen ∧ (Lit.int .i64 x.f1).wf = true ∧ (Lit.int .i64 x.f2).wf = true ∧ (Lit.int .i64 x.f3).wf = true ∧ (Lit.int .u32 x.f4).wf = true
def o92.sz (x : S92) : Prop := x.f0.size ≤ 140737488351232 ∧ True ∧ True ∧ True ∧ True
def o92.wt (x : S92) : Nat := (x.f0.size + 1) + (1) + (1) + (1) + (1) + 1
theorem o92.opens_92 : Opens Try.prog k92 92 o92.wf o92.sz o92.wt :=
  (opens_struct (P := Try.prog) (t := 92) (fun p => (⟨p.1, p.2.1, p.2.2.1, p.2.2.2.1, p.2.2.2.2⟩ : S92)) (fun _ => rfl) Try.underlying92 rfl (by kernel_rfl) (opensF_cons rfl (opens_string (P := Try.prog) (t := 9) Try.underlying9 (by kernel_rfl)) (opensF_cons rfl (opens_int (P := Try.prog) (t := 3) Try.underlying3 (by kernel_rfl)) (opensF_cons rfl (opens_int (P := Try.prog) (t := 3) Try.underlying3 (by kernel_rfl)) (opensF_cons rfl (opens_int (P := Try.prog) (t := 3) Try.underlying3 (by kernel_rfl)) (opensF_one (opens_int (P := Try.prog) (t := 35) Try.underlying35 (by kernel_rfl)))))))).imp (fun _ h => h) (fun _ h => h) (fun x => by unfold o92.wt; (try dsimp only); omega)
def os_o92.wf (l : List (S92)) : Prop := l.length ≤ 9223372036854775807 ∧ ∀ x ∈ l, o92.wf x
def os_o92.sz (l : List (S92)) : Prop := l.length * 48 ≤ 140737488351232 ∧ ∀ x ∈ l, o92.sz x
def os_o92.wt (l : List (S92)) : Nat := sumW (fun x => o92.wt x) l + 1
theorem os_o92.opens_23 : Opens Try.prog (Kd.slice 92 k92) 23 os_o92.wf os_o92.sz os_o92.wt := opens_slice (P := Try.prog) (t := 23) (e := 92) Try.underlying23 (by kernel_rfl) (by kernel_rfl) o92.opens_92
def o37.wf (x : S37) : Prop := (Lit.int .i64 x.f0).wf = true ∧ (Lit.int .i64 x.f1).wf = true ∧ (Lit.int .i64 x.f2).wf = true ∧ (Lit.int .i64 x.f3).wf = true ∧ (Lit.int .u32 x.f4).wf = true ∧ True
def o37.sz (x : S37) : Prop := True ∧ True ∧ True ∧ True ∧ True ∧ True
def o37.wt (x : S37) : Nat := (1) + (1) + (1) + (1) + (1) + (1) + 1
theorem o37.opens_37 : Opens Try.prog k37 37 o37.wf o37.sz o37.wt :=
  (opens_struct (P := Try.prog) (t := 37) (fun p => (⟨p.1, p.2.1, p.2.2.1, p.2.2.2.1, p.2.2.2.2.1, p.2.2.2.2.2⟩ : S37)) (fun _ => rfl) Try.underlying37 rfl (by kernel_rfl) (opensF_cons rfl (opens_int (P := Try.prog) (t := 34) Try.underlying34 (by kernel_rfl)) (opensF_cons rfl (opens_int (P := Try.prog) (t := 3) Try.underlying3 (by kernel_rfl)) (opensF_cons rfl (opens_int (P := Try.prog) (t := 3) Try.underlying3 (by kernel_rfl)) (opensF_cons rfl (opens_int (P := Try.prog) (t := 3) Try.underlying3 (by kernel_rfl)) (opensF_cons rfl (opens_int (P := Try.prog) (t := 35) Try.underlying35 (by kernel_rfl)) (opensF_one (opens_bool (P := Try.prog) (t := 4) Try.underlying4 (by kernel_rfl))))))))).imp (fun _ h => h) (fun _ h => h) (fun x => by unfold o37.wt; (try dsimp only); omega)
def o64.wf (x : S64) : Prop := (Lit.int .i64 x.f0).wf = true ∧ (Lit.int .i64 x.f1).wf = true ∧ o37.wf x.f2
def o64.sz (x : S64) : Prop := True ∧ True ∧ o37.sz x.f2
def o64.wt (x : S64) : Nat := (1) + (1) + (o37.wt x.f2) + 1
theorem o64.opens_64 : Opens Try.prog k64 64 o64.wf o64.sz o64.wt :=
  (opens_struct (P := Try.prog) (t := 64) (fun p => (⟨p.1, p.2.1, p.2.2⟩ : S64)) (fun _ => rfl) Try.underlying64 rfl (by kernel_rfl) (opensF_cons rfl (opens_int (P := Try.prog) (t := 3) Try.underlying3 (by kernel_rfl)) (opensF_cons rfl (opens_int (P := Try.prog) (t := 3) Try.underlying3 (by kernel_rfl)) (opensF_one o37.opens_37)))).imp (fun _ h => h) (fun _ h => h) (fun x => by unfold o64.wt; (try dsimp only); omega)
def os_o64.wf (l : List (S64)) : Prop := l.length ≤ 9223372036854775807 ∧ ∀ x ∈ l, o64.wf x
def os_o64.sz (l : List (S64)) : Prop := l.length * 56 ≤ 140737488351232 ∧ ∀ x ∈ l, o64.sz x
def os_o64.wt (l : List (S64)) : Nat := sumW (fun x => o64.wt x) l + 1
theorem os_o64.opens_24 : Opens Try.prog (Kd.slice 64 k64) 24 os_o64.wf os_o64.sz os_o64.wt := opens_slice (P := Try.prog) (t := 24) (e := 64) Try.underlying24 (by kernel_rfl) (by kernel_rfl) o64.opens_64
def o26.wf (x : S26) : Prop := os_o45.wf x.f0 ∧ os_o92.wf x.f1 ∧ os_o64.wf x.f2
def o26.sz (x : S26) : Prop := os_o45.sz x.f0 ∧ os_o92.sz x.f1 ∧ os_o64.sz x.f2
def o26.wt (x : S26) : Nat := (os_o45.wt x.f0) + (os_o92.wt x.f1) + (os_o64.wt x.f2) + 1
theorem o26.opens_26 : Opens Try.prog k26 26 o26.wf o26.sz o26.wt :=
  (opens_struct (P := Try.prog) (t := 26) (fun p => (⟨p.1, p.2.1, p.2.2⟩ : S26)) (fun _ => rfl) Try.underlying26 rfl (by kernel_rfl) (opensF_cons rfl os_o45.opens_22 (opensF_cons rfl os_o92.opens_23 (opensF_one os_o64.opens_24)))).imp (fun _ h => h) (fun _ h => h) (fun x => by unfold o26.wt; (try dsimp only); omega)
def o29.wf (x : S29) : Prop := (Lit.int .i64 x.f0).wf = true ∧ (Lit.int .i64 x.f1).wf = true ∧ (Lit.int .i64 x.f2).wf = true ∧ (Lit.int .i64 x.f3).wf = true
def o29.sz (x : S29) : Prop := True ∧ True ∧ True ∧ True
def o29.wt (x : S29) : Nat := (1) + (1) + (1) + (1) + 1
theorem o29.opens_29 : Opens Try.prog k29 29 o29.wf o29.sz o29.wt :=
  (opens_struct (P := Try.prog) (t := 29) (fun p => (⟨p.1, p.2.1, p.2.2.1, p.2.2.2⟩ : S29)) (fun _ => rfl) Try.underlying29 rfl (by kernel_rfl) (opensF_cons rfl (opens_int (P := Try.prog) (t := 3) Try.underlying3 (by kernel_rfl)) (opensF_cons rfl (opens_int (P := Try.prog) (t := 3) Try.underlying3 (by kernel_rfl)) (opensF_cons rfl (opens_int (P := Try.prog) (t := 3) Try.underlying3 (by kernel_rfl)) (opensF_one (opens_int (P := Try.prog) (t := 3) Try.underlying3 (by kernel_rfl))))))).imp (fun _ h => h) (fun _ h => h) (fun x => by unfold o29.wt; (try dsimp only); omega)
def os_o29.wf (l : List (S29)) : Prop := l.length ≤ 9223372036854775807 ∧ ∀ x ∈ l, o29.wf x
def os_o29.sz (l : List (S29)) : Prop := l.length * 32 ≤ 140737488351232 ∧ ∀ x ∈ l, o29.sz x
def os_o29.wt (l : List (S29)) : Nat := sumW (fun x => o29.wt x) l + 1
theorem os_o29.opens_47 : Opens Try.prog (Kd.slice 29 k29) 47 os_o29.wf os_o29.sz os_o29.wt := opens_slice (P := Try.prog) (t := 47) (e := 29) Try.underlying47 (by kernel_rfl) (by kernel_rfl) o29.opens_29
end Go.Proofs.Ytlfonfceaiiinaa.PAll
