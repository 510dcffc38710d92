/- What a reading of each argument gives, and what is left to prove of each law, over numbers and lists alone. Laid by a program of this session (hrows.py). -/
import Derived.Test.YthnhfmmiaknhgaaPAllx32
import Derived.Test.YthnhfmmiaknhgaaPAllKinds
namespace Go.Proofs.Ythnhfmmiaknhgaa.PAll
open Go.RowKit Go.Proofs.YthnhfmmiaknhgaaW.PrintWords Go.Proofs.YthnhfmmiaknhgaaW.PrintLast Go.Proofs.Ythnhfmmiaknhgaa.PAll Go.Proofs.Ythnhfmmiaknhgaa.Open
def hogsheadlaw09_CellCut.Pure : Prop := ∀ (a0 : Int) (a1 : ByteArray) (a2 : Int), ((Lit.int .u64 a0).wf = true) → (a1.size ≤ maxLen) → ((Lit.int .i64 a2).wf = true) → (a1.size ≤ 140737488351232) → ∃ k, hogsheadlaw09_CellCut.f k a0 a1 a2 = some true
def hogsheadlaw09_CellCut.PureUpto : Prop := ∀ (a0 : Int) (a1 : ByteArray) (a2 : Int), ((Lit.int .u64 a0).wf = true) → (a1.size ≤ maxLen) → ((Lit.int .i64 a2).wf = true) → (1 + a1.size + 1 + 1 ≤ 1048576) → ∃ k, hogsheadlaw09_CellCut.f k a0 a1 a2 = some true
end Go.Proofs.Ythnhfmmiaknhgaa.PAll
