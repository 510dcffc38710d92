/- Functions of the program as plain Lean functions, and that each call comes to what they say. Laid by a program of this session (hprint.py); Lean checks it. -/
import Derived.Test.YtabegniabilcpaaProg
import Derived.Below
import Derived.Deep.Draws
import Derived.Deep.AppendLies
import Derived.Maps.AppendAt
import Derived.OwnWalk
import Derived.Laws.BytesArg
import Derived.Laws.MakeOwn
import Derived.Laws.OwnMore
import Derived.Deep.OwnRows
import Derived.Tactics
import Derived.Lib.ConvBytes
import Derived.Laws.Slices
import Derived.WalkKit
import Derived.KernelRfl
import Derived.RowKit3
import Derived.Deep.LoopGhost
import Derived.Deep.QuietTactic
import Derived.BigQuiet
import Derived.WideLaws
import Derived.Deep.DeepCutAuto
import Derived.Deep.CutBlock
import Derived.Deep.RegionHeld3
import Derived.Laws.Rows
import Derived.Lib.AppendStr
import Derived.ArgAppend
import Derived.Laws.IdiomCopy
import Derived.OrdersHeld
import Derived.Laws.BitsLemmas
import Derived.RowKit
import Derived.Handy
import Derived.OpenShut
import Derived.ScopeJumps
import Derived.WalkMore
import Derived.Laws.BitsAllLaws
import Derived.Deep.Slices
import Derived.Lib.SliceRun
import Derived.Test.YtabegniabilcpaaWWords
import Derived.Test.YtabegniabilcpaaWLast
import Derived.Test.YtabegniabilcpaaWTab
import Derived.Test.YtabegniabilcpaaWQPut
import Derived.Test.YtabegniabilcpaaWApart
import Derived.Test.YtabegniabilcpaaWArr
import Derived.Test.YtabegniabilcpaaWZeros
import Derived.Test.YtabegniabilcpaaWFoot
import Derived.Test.YtabegniabilcpaaWKept
import Derived.Test.YtabegniabilcpaaWShare
import Derived.Test.YtabegniabilcpaaWN
import Derived.Test.YtabegniabilcpaaWEqStruct
import Derived.Test.YtabegniabilcpaaWRepsOne
import Derived.Test.YtabegniabilcpaaWGuard
import Derived.Test.YtabegniabilcpaaWNEv
import Derived.Test.YtabegniabilcpaaWMore
namespace Go.Proofs.Ytabegniabilcpaa.PAll
open Go.RowKit Go.Proofs.YtabegniabilcpaaW.PrintWords Go.Proofs.YtabegniabilcpaaW.PrintLast Go.Proofs.YtabegniabilcpaaW.PrintMore
attribute [local go_sem] max2_int min2_int max_two min_two max_three min_three max_four min_four   -- for this text's walks alone
set_option linter.unusedVariables false
set_option linter.unusedSimpArgs false



def errW : Option Int → Value
  | none => .nilIface
  | some c => .iface 0 (.int .i64 c)
theorem errW_none : errW none = .nilIface := rfl
theorem errW_some (c : Int) : errW (some c) = .iface 0 (.int .i64 c) := rfl

theorem info5 : (Try.prog.info? 5).map (fun i => (i.zero, i.size, i.bytes)) = some (some (.int .u8 0), 1, 1) := by kernel_rfl
-- the values' own types

theorem nL {B g k : Nat} (h : Aside0 (B ≤ g)) (hk : k < B) : k ≠ g := fun e => Nat.not_le.2 hk (by rw [e]; exact h.out)
theorem eU {B : Nat} {W X : World} {g j : Nat} {v : Value} (h : Below B W X) (hg : Aside0 (B ≤ g)) : Below B W (X.setCell ⟨g, j, none⟩ v) := h.setCell (p := ⟨g, j, none⟩) hg.out v
theorem qM {p : Prop} (h : p) : Aside0 p := Aside0.mk h
theorem xA : type_of% @List.setIfInBounds_toArray := @List.setIfInBounds_toArray
theorem xZ : type_of% @List.set_cons_zero := @List.set_cons_zero
theorem xS : type_of% @List.set_cons_succ := @List.set_cons_succ
theorem eA : type_of% @below_alloc := @below_alloc
theorem eN : type_of% @pw_below_drewN := @pw_below_drewN
theorem eD : type_of% @below_drew1 := @below_drew1
theorem eT : type_of% @below_step := @below_step
theorem eZ : type_of% @below_size := @below_size

end Go.Proofs.Ytabegniabilcpaa.PAll
