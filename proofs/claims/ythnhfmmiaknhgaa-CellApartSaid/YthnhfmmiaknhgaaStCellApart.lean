/- What a reading of each argument gives, and what is left to prove of each law, over numbers and lists alone. Laid by a program of this session (hrows.py). -/
import Derived.Test.YthnhfmmiaknhgaaPAllx33
import Derived.Test.YthnhfmmiaknhgaaPAllKinds
namespace Go.Proofs.Ythnhfmmiaknhgaa.PAll
open Go.RowKit Go.Proofs.YthnhfmmiaknhgaaW.PrintWords Go.Proofs.YthnhfmmiaknhgaaW.PrintLast Go.Proofs.Ythnhfmmiaknhgaa.PAll Go.Proofs.Ythnhfmmiaknhgaa.Open
def hogsheadlaw09_CellApart.Pure : Prop := ∀ (a0 : S55), (o55.wf a0) → (o55.sz a0) → ∃ k, hogsheadlaw09_CellApart.f k a0.f0.f0 a0.f0.f1 a0.f0.f2 a0.f0.f3 a0.f1 a0.f2 a0.f3 = some true
def hogsheadlaw09_CellApart.PureUpto : Prop := ∀ (a0 : S55), (o55.wf a0) → (o55.wt a0 ≤ 1048576) → ∃ k, hogsheadlaw09_CellApart.f k a0.f0.f0 a0.f0.f1 a0.f0.f2 a0.f0.f3 a0.f1 a0.f2 a0.f3 = some true
end Go.Proofs.Ythnhfmmiaknhgaa.PAll
