/- Functions of the program as plain Lean functions, and that each call comes to what they say. Laid by a program of this session (hprint.py); Lean checks it. -/
import Derived.Test.YtabegniabilcpaaPAllx0
import Derived.Test.YtabegniabilcpaaPAllx1
import Derived.Test.YtabegniabilcpaaPAllx2
namespace Go.Proofs.Ytabegniabilcpaa.PAll
open Go.RowKit Go.Proofs.YtabegniabilcpaaW.PrintWords Go.Proofs.YtabegniabilcpaaW.PrintLast Go.Proofs.YtabegniabilcpaaW.PrintMore
attribute [local go_sem] max2_int min2_int max_two min_two max_three min_three max_four min_four   -- for this text's walks alone
set_option linter.unusedVariables false
set_option linter.unusedSimpArgs false

end Go.Proofs.Ytabegniabilcpaa.PAll
