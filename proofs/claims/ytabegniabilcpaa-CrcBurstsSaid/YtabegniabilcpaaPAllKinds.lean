/- What a reading of each argument gives, and what is left to prove of each law, over numbers and lists alone. Laid by a program of this session (hrows.py). -/
import Derived.Test.YtabegniabilcpaaOpen
import Derived.Test.YtabegniabilcpaaPAllx0
namespace Go.Proofs.Ytabegniabilcpaa.PAll
open Go.RowKit Go.Proofs.YtabegniabilcpaaW.PrintWords Go.Proofs.YtabegniabilcpaaW.PrintLast Go.Proofs.Ytabegniabilcpaa.PAll Go.Proofs.Ytabegniabilcpaa.Open
set_option linter.unusedVariables false
end Go.Proofs.Ytabegniabilcpaa.PAll
