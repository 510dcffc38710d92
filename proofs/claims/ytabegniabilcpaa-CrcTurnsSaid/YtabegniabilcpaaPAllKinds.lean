/- What a reading of each argument gives, and what is left to prove of each law, over numbers and lists alone. Laid by a program of this session (hrows.py). -/
import Derived.Test.YtabegniabilcpaaOpen
import Derived.Test.YtabegniabilcpaaPAllx0
namespace Go.Proofs.Ytabegniabilcpaa.PAll
open Go.RowKit Go.Proofs.YtabegniabilcpaaW.PrintWords Go.Proofs.YtabegniabilcpaaW.PrintLast Go.Proofs.Ytabegniabilcpaa.PAll Go.Proofs.Ytabegniabilcpaa.Open
set_option linter.unusedVariables false
def o30.wf (x : S30) : Prop := (Lit.int .u32 x.f0).wf = true ∧ (Lit.int .u32 x.f1).wf = true ∧ (Lit.int .u8 x.f2).wf = true ∧ (Lit.int .u8 x.f3).wf = true
def o30.sz (x : S30) : Prop := True ∧ True ∧ True ∧ True
def o30.wt (x : S30) : Nat := (1) + (1) + (1) + (1) + 1
theorem o30.opens_30 : Opens Try.prog k30 30 o30.wf o30.sz o30.wt :=
  (opens_struct (P := Try.prog) (t := 30) (fun p => (⟨p.1, p.2.1, p.2.2.1, p.2.2.2⟩ : S30)) (fun _ => rfl) Try.underlying30 rfl (by kernel_rfl) (opensF_cons rfl (opens_int (P := Try.prog) (t := 22) Try.underlying22 (by kernel_rfl)) (opensF_cons rfl (opens_int (P := Try.prog) (t := 22) Try.underlying22 (by kernel_rfl)) (opensF_cons rfl (opens_int (P := Try.prog) (t := 5) Try.underlying5 (by kernel_rfl)) (opensF_one (opens_int (P := Try.prog) (t := 5) Try.underlying5 (by kernel_rfl))))))).imp (fun _ h => h) (fun _ h => h) (fun x => by unfold o30.wt; (try dsimp only); omega)
def o32.wf (x : S32) : Prop := (Lit.int .u32 x.f0).wf = true ∧ (Lit.int .u32 x.f1).wf = true ∧ (Lit.int .u8 x.f2).wf = true ∧ (Lit.int .u8 x.f3).wf = true
def o32.sz (x : S32) : Prop := True ∧ True ∧ True ∧ True
def o32.wt (x : S32) : Nat := (1) + (1) + (1) + (1) + 1
theorem o32.opens_32 : Opens Try.prog k32 32 o32.wf o32.sz o32.wt :=
  (opens_struct (P := Try.prog) (t := 32) (fun p => (⟨p.1, p.2.1, p.2.2.1, p.2.2.2⟩ : S32)) (fun _ => rfl) Try.underlying32 rfl (by kernel_rfl) (opensF_cons rfl (opens_int (P := Try.prog) (t := 22) Try.underlying22 (by kernel_rfl)) (opensF_cons rfl (opens_int (P := Try.prog) (t := 22) Try.underlying22 (by kernel_rfl)) (opensF_cons rfl (opens_int (P := Try.prog) (t := 5) Try.underlying5 (by kernel_rfl)) (opensF_one (opens_int (P := Try.prog) (t := 5) Try.underlying5 (by kernel_rfl))))))).imp (fun _ h => h) (fun _ h => h) (fun x => by unfold o32.wt; (try dsimp only); omega)
end Go.Proofs.Ytabegniabilcpaa.PAll
