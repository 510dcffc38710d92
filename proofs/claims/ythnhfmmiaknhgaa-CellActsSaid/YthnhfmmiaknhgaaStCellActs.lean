/- What a reading of each argument gives, and what is left to prove of each law, over numbers and lists alone. Laid by a program of this session (hrows.py). -/
import Derived.Test.YthnhfmmiaknhgaaPAllx28
import Derived.Test.YthnhfmmiaknhgaaPAllKinds
namespace Go.Proofs.Ythnhfmmiaknhgaa.PAll
open Go.RowKit Go.Proofs.YthnhfmmiaknhgaaW.PrintWords Go.Proofs.YthnhfmmiaknhgaaW.PrintLast Go.Proofs.Ythnhfmmiaknhgaa.PAll Go.Proofs.Ythnhfmmiaknhgaa.Open
def hogsheadlaw09_CellActs.Pure : Prop := ∀ (a0 : S37) (a1 : Int) (a2 : ByteArray), (o37.wf a0) → ((Lit.int .i64 a1).wf = true) → (a2.size ≤ maxLen) → (o37.sz a0) → (a2.size ≤ 140737488351232) → ∃ k, hogsheadlaw09_CellActs.f k a0.f0 a0.f1 a0.f2 a0.f3 a1 a2 = some true
def hogsheadlaw09_CellActs.PureUpto : Prop := ∀ (a0 : S37) (a1 : Int) (a2 : ByteArray), (o37.wf a0) → ((Lit.int .i64 a1).wf = true) → (a2.size ≤ maxLen) → (o37.wt a0 + 1 + a2.size + 1 ≤ 1048576) → ∃ k, hogsheadlaw09_CellActs.f k a0.f0 a0.f1 a0.f2 a0.f3 a1 a2 = some true
end Go.Proofs.Ythnhfmmiaknhgaa.PAll
