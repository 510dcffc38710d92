/- Functions of the program as plain Lean functions, and that each call comes to what they say. Laid by a program of this session (hprint.py); Lean checks it. -/
import Derived.Test.YtbmgglgacgkffaaProg
import Derived.Below
import Derived.Deep.Draws
import Derived.Deep.AppendLies
import Derived.Maps.AppendAt
import Derived.OwnWalk
import Derived.Laws.BytesArg
import Derived.Laws.MakeOwn
import Derived.Laws.OwnMore
import Derived.Deep.OwnRows
import Derived.Tactics
import Derived.Lib.ConvBytes
import Derived.Laws.Slices
import Derived.WalkKit
import Derived.KernelRfl
import Derived.RowKit3
import Derived.Deep.LoopGhost
import Derived.Deep.QuietTactic
import Derived.BigQuiet
import Derived.WideLaws
import Derived.Deep.DeepCutAuto
import Derived.Deep.CutBlock
import Derived.Deep.RegionHeld3
import Derived.Laws.Rows
import Derived.Lib.AppendStr
import Derived.ArgAppend
import Derived.Laws.IdiomCopy
import Derived.OrdersHeld
import Derived.Laws.BitsLemmas
import Derived.RowKit
import Derived.Handy
import Derived.OpenShut
import Derived.ScopeJumps
import Derived.WalkMore
import Derived.Laws.BitsAllLaws
import Derived.Deep.Slices
import Derived.Test.YtbmgglgacgkffaaWWords
import Derived.Test.YtbmgglgacgkffaaWLast
import Derived.Test.YtbmgglgacgkffaaWTab
import Derived.Test.YtbmgglgacgkffaaWFour
import Derived.Test.YtbmgglgacgkffaaWQPut
import Derived.Test.YtbmgglgacgkffaaWApart
import Derived.Test.YtbmgglgacgkffaaWArr
import Derived.Test.YtbmgglgacgkffaaWZeros
import Derived.Test.YtbmgglgacgkffaaWFoot
import Derived.Test.YtbmgglgacgkffaaWKept
import Derived.Test.YtbmgglgacgkffaaWShare
import Derived.Test.YtbmgglgacgkffaaWN
import Derived.Test.YtbmgglgacgkffaaWFootNe
import Derived.Test.YtbmgglgacgkffaaWAt
import Derived.Test.YtbmgglgacgkffaaWEqStruct
import Derived.Test.YtbmgglgacgkffaaWRepsOne
import Derived.Test.YtbmgglgacgkffaaWInv
import Derived.Test.YtbmgglgacgkffaaWInvWords
import Derived.Test.YtbmgglgacgkffaaWGuard
import Derived.Test.YtbmgglgacgkffaaWNEv
import Derived.Test.YtbmgglgacgkffaaWMore
namespace Go.Proofs.Ytbmgglgacgkffaa.PAll
open Go.RowKit Go.Proofs.YtbmgglgacgkffaaW.PrintWords Go.Proofs.YtbmgglgacgkffaaW.PrintLast Go.Proofs.YtbmgglgacgkffaaW.PrintMore
attribute [local go_sem] max2_int min2_int max_two min_two max_three min_three max_four min_four   -- for this text's walks alone
set_option linter.unusedVariables false
set_option linter.unusedSimpArgs false



def errW : Option Int → Value
  | none => .nilIface
  | some c => .iface 0 (.int .i64 c)
theorem errW_none : errW none = .nilIface := rfl
theorem errW_some (c : Int) : errW (some c) = .iface 0 (.int .i64 c) := rfl

theorem info5 : (Try.prog.info? 5).map (fun i => (i.zero, i.size, i.bytes)) = some (some (.int .u8 0), 1, 1) := by kernel_rfl
theorem info9 : (Try.prog.info? 9).map (fun i => (i.zero, i.size, i.bytes)) = some (some (.string ⟨#[]⟩), 1, 16) := by kernel_rfl
-- the values' own types

end Go.Proofs.Ytbmgglgacgkffaa.PAll
