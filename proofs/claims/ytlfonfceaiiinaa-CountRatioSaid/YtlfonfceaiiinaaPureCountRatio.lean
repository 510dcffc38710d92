/- Whatever commands came: what the walk comes to is true. -/
import Derived.Test.YtlfonfceaiiinaaStCountRatio
namespace Go.Proofs.Ytlfonfceaiiinaa.Pure
open Go.RowKit Go.Proofs.YtlfonfceaiiinaaW.PrintWords Go.Proofs.YtlfonfceaiiinaaW.PrintLast Go.Proofs.Ytlfonfceaiiinaa.PAll Go.Proofs.Ytlfonfceaiiinaa.Open
theorem CountRatio : hogsheadlaw19_CountRatio.Pure := fun _ _ _ => rfl
end Go.Proofs.Ytlfonfceaiiinaa.Pure
