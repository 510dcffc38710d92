/- What a reading of each argument gives, and what is left to prove of each law, over numbers and lists alone. Laid by a program of this session (hrows.py). -/
import Derived.Test.YtbmgglgacgkffaaOpen
import Derived.Test.YtbmgglgacgkffaaPAllx0
namespace Go.Proofs.Ytbmgglgacgkffaa.PAll
open Go.RowKit Go.Proofs.YtbmgglgacgkffaaW.PrintWords Go.Proofs.YtbmgglgacgkffaaW.PrintLast Go.Proofs.Ytbmgglgacgkffaa.PAll Go.Proofs.Ytbmgglgacgkffaa.Open
set_option linter.unusedVariables false
end Go.Proofs.Ytbmgglgacgkffaa.PAll
