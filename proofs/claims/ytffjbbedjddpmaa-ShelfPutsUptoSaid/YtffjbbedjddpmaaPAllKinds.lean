/- What a reading of each argument gives, and what is left to prove of each law, over numbers and lists alone. Laid by a program of this session (hrows.py). -/
import Derived.Test.YtffjbbedjddpmaaOpen
import Derived.Test.YtffjbbedjddpmaaPAllx0
namespace Go.Proofs.Ytffjbbedjddpmaa.PAll
open Go.RowKit Go.Proofs.YtffjbbedjddpmaaW.PrintWords Go.Proofs.YtffjbbedjddpmaaW.PrintLast Go.Proofs.Ytffjbbedjddpmaa.PAll Go.Proofs.Ytffjbbedjddpmaa.Open
set_option linter.unusedVariables false
def o43.wf (x : S43) : Prop := (Lit.int .i64 x.f0).wf = true ∧ (Lit.int .i64 x.f1).wf = true ∧ x.f2.size ≤ maxLen
def o43.sz (x : S43) : Prop := True ∧ True ∧ x.f2.size ≤ 140737488351232
def o43.wt (x : S43) : Nat := (1) + (1) + (x.f2.size + 1) + 1
theorem o43.opens_43 : Opens Try.prog k43 43 o43.wf o43.sz o43.wt :=
  (opens_struct (P := Try.prog) (t := 43) (fun p => (⟨p.1, p.2.1, p.2.2⟩ : S43)) (fun _ => rfl) Try.underlying43 rfl (by kernel_rfl) (opensF_cons rfl (opens_int (P := Try.prog) (t := 3) Try.underlying3 (by kernel_rfl)) (opensF_cons rfl (opens_int (P := Try.prog) (t := 3) Try.underlying3 (by kernel_rfl)) (opensF_one (opens_string (P := Try.prog) (t := 9) Try.underlying9 (by kernel_rfl)))))).imp (fun _ h => h) (fun _ h => h) (fun x => by unfold o43.wt; (try dsimp only); omega)
def os_s.wf (l : List ByteArray) : Prop := l.length ≤ 9223372036854775807 ∧ ∀ x ∈ l, x.size ≤ maxLen
def os_s.sz (l : List ByteArray) : Prop := l.length * 16 ≤ 140737488351232 ∧ ∀ x ∈ l, x.size ≤ 140737488351232
def os_s.wt (l : List ByteArray) : Nat := sumW (fun x => x.size + 1) l + 1
theorem os_s.opens_22 : Opens Try.prog (Kd.slice 9 Kd.string) 22 os_s.wf os_s.sz os_s.wt := opens_slice (P := Try.prog) (t := 22) (e := 9) Try.underlying22 (by kernel_rfl) (by kernel_rfl) (opens_string (P := Try.prog) (t := 9) Try.underlying9 (by kernel_rfl))
def o94.wf (x : S94) : Prop := (Lit.int .i64 x.f0).wf = true ∧ x.f1.size ≤ maxLen
def o94.sz (x : S94) : Prop := True ∧ x.f1.size ≤ 140737488351232
def o94.wt (x : S94) : Nat := (1) + (x.f1.size + 1) + 1
theorem o94.opens_94 : Opens Try.prog k94 94 o94.wf o94.sz o94.wt :=
  (opens_struct (P := Try.prog) (t := 94) (fun p => (⟨p.1, p.2⟩ : S94)) (fun _ => rfl) Try.underlying94 rfl (by kernel_rfl) (opensF_cons rfl (opens_int (P := Try.prog) (t := 3) Try.underlying3 (by kernel_rfl)) (opensF_one (opens_string (P := Try.prog) (t := 9) Try.underlying9 (by kernel_rfl))))).imp (fun _ h => h) (fun _ h => h) (fun x => by unfold o94.wt; (try dsimp only); omega)
def os_o94.wf (l : List (S94)) : Prop := l.length ≤ 9223372036854775807 ∧ ∀ x ∈ l, o94.wf x
def os_o94.sz (l : List (S94)) : Prop := l.length * 24 ≤ 140737488351232 ∧ ∀ x ∈ l, o94.sz x
def os_o94.wt (l : List (S94)) : Nat := sumW (fun x => o94.wt x) l + 1
theorem os_o94.opens_23 : Opens Try.prog (Kd.slice 94 k94) 23 os_o94.wf os_o94.sz os_o94.wt := opens_slice (P := Try.prog) (t := 23) (e := 94) Try.underlying23 (by kernel_rfl) (by kernel_rfl) o94.opens_94
def o25.wf (x : S25) : Prop := os_s.wf x.f0 ∧ os_o94.wf x.f1 ∧ (Lit.int .i64 x.f2).wf = true ∧ True
def o25.sz (x : S25) : Prop := os_s.sz x.f0 ∧ os_o94.sz x.f1 ∧ True ∧ True
def o25.wt (x : S25) : Nat := (os_s.wt x.f0) + (os_o94.wt x.f1) + (1) + (1) + 1
theorem o25.opens_25 : Opens Try.prog k25 25 o25.wf o25.sz o25.wt :=
  (opens_struct (P := Try.prog) (t := 25) (fun p => (⟨p.1, p.2.1, p.2.2.1, p.2.2.2⟩ : S25)) (fun _ => rfl) Try.underlying25 rfl (by kernel_rfl) (opensF_cons rfl os_s.opens_22 (opensF_cons rfl os_o94.opens_23 (opensF_cons rfl (opens_int (P := Try.prog) (t := 3) Try.underlying3 (by kernel_rfl)) (opensF_one (opens_bool (P := Try.prog) (t := 4) Try.underlying4 (by kernel_rfl))))))).imp (fun _ h => h) (fun _ h => h) (fun x => by unfold o25.wt; (try dsimp only); omega)
def o27.wf (x : S27) : Prop := (Lit.int .i64 x.f0).wf = true ∧ (Lit.int .i64 x.f1).wf = true
def o27.sz (x : S27) : Prop := True ∧ True
def o27.wt (x : S27) : Nat := (1) + (1) + 1
theorem o27.opens_27 : Opens Try.prog k27 27 o27.wf o27.sz o27.wt :=
  (opens_struct (P := Try.prog) (t := 27) (fun p => (⟨p.1, p.2⟩ : S27)) (fun _ => rfl) Try.underlying27 rfl (by kernel_rfl) (opensF_cons rfl (opens_int (P := Try.prog) (t := 3) Try.underlying3 (by kernel_rfl)) (opensF_one (opens_int (P := Try.prog) (t := 3) Try.underlying3 (by kernel_rfl))))).imp (fun _ h => h) (fun _ h => h) (fun x => by unfold o27.wt; (try dsimp only); omega)
def os_o43.wf (l : List (S43)) : Prop := l.length ≤ 9223372036854775807 ∧ ∀ x ∈ l, o43.wf x
def os_o43.sz (l : List (S43)) : Prop := l.length * 32 ≤ 140737488351232 ∧ ∀ x ∈ l, o43.sz x
def os_o43.wt (l : List (S43)) : Nat := sumW (fun x => o43.wt x) l + 1
theorem os_o43.opens_55 : Opens Try.prog (Kd.slice 43 k43) 55 os_o43.wf os_o43.sz os_o43.wt := opens_slice (P := Try.prog) (t := 55) (e := 43) Try.underlying55 (by kernel_rfl) (by kernel_rfl) o43.opens_43
def o57.wf (x : S57) : Prop := o25.wf x.f0 ∧ o43.wf x.f1 ∧ os_o43.wf x.f2 ∧ (Lit.int .i64 x.f3).wf = true ∧ (Lit.int .i64 x.f4).wf = true
def o57.sz (x : S57) : Prop := o25.sz x.f0 ∧ o43.sz x.f1 ∧ os_o43.sz x.f2 ∧ True ∧ True
def o57.wt (x : S57) : Nat := (o25.wt x.f0) + (o43.wt x.f1) + (os_o43.wt x.f2) + (1) + (1) + 1
theorem o57.opens_57 : Opens Try.prog k57 57 o57.wf o57.sz o57.wt :=
  (opens_struct (P := Try.prog) (t := 57) (fun p => (⟨p.1, p.2.1, p.2.2.1, p.2.2.2.1, p.2.2.2.2⟩ : S57)) (fun _ => rfl) Try.underlying57 rfl (by kernel_rfl) (opensF_cons rfl o25.opens_25 (opensF_cons rfl o43.opens_43 (opensF_cons rfl os_o43.opens_55 (opensF_cons rfl (opens_int (P := Try.prog) (t := 3) Try.underlying3 (by kernel_rfl)) (opensF_one (opens_int (P := Try.prog) (t := 3) Try.underlying3 (by kernel_rfl)))))))).imp (fun _ h => h) (fun _ h => h) (fun x => by unfold o57.wt; (try dsimp only); omega)
end Go.Proofs.Ytffjbbedjddpmaa.PAll
