/- What a reading of each argument gives, and what is left to prove of each law, over numbers and lists alone. Laid by a program of this session (hrows.py). -/
import Derived.Test.YthnhfmmiaknhgaaPAllx34
import Derived.Test.YthnhfmmiaknhgaaPAllKinds
namespace Go.Proofs.Ythnhfmmiaknhgaa.PAll
open Go.RowKit Go.Proofs.YthnhfmmiaknhgaaW.PrintWords Go.Proofs.YthnhfmmiaknhgaaW.PrintLast Go.Proofs.Ythnhfmmiaknhgaa.PAll Go.Proofs.Ythnhfmmiaknhgaa.Open
def hogsheadlaw09_CellTurns.Pure : Prop := ∀ (a0 : Int) (a1 : Int) (a2 : List ByteArray), ((Lit.int .i64 a0).wf = true) → ((Lit.int .i64 a1).wf = true) → (os_s.wf a2) → (os_s.sz a2) → ∃ k, hogsheadlaw09_CellTurns.f k a0 a1 a2 = some true
def hogsheadlaw09_CellTurns.PureUpto : Prop := ∀ (a0 : Int) (a1 : Int) (a2 : List ByteArray), ((Lit.int .i64 a0).wf = true) → ((Lit.int .i64 a1).wf = true) → (os_s.wf a2) → (1 + 1 + os_s.wt a2 ≤ 1048576) → ∃ k, hogsheadlaw09_CellTurns.f k a0 a1 a2 = some true
end Go.Proofs.Ythnhfmmiaknhgaa.PAll
