/- Functions of the program as plain Lean functions, and that each call comes to what they say. Laid by a program of this session (hprint.py); Lean checks it. -/
import Derived.Test.YtlfonfceaiiinaaPAllx0
import Derived.Test.YtlfonfceaiiinaaIxLaw
namespace Go.Proofs.Ytlfonfceaiiinaa.PAll
open Go.RowKit Go.Proofs.YtlfonfceaiiinaaW.PrintWords Go.Proofs.YtlfonfceaiiinaaW.PrintLast Go.Proofs.YtlfonfceaiiinaaW.PrintMore
attribute [local go_sem] max2_int min2_int max_two min_two max_three min_three max_four min_four   -- for this text's walks alone
set_option linter.unusedVariables false
set_option linter.unusedSimpArgs false

/-! ### hogsheadlaw19_CountRatio: function 4 -/
-- IMPORT Derived.Test.YtlfonfceaiiinaaIxLaw
def hogsheadlaw19_CountRatio.f (l0 : List S42) : Option Bool := some true
theorem hogsheadlaw19_CountRatio.calls (A0 : Option Addr) (c0 : Nat) (l0 : List S42) (r : Bool) (w : World) (hr0 : Kd.C k42 w A0 l0.length l0) (hc0 : l0.length ≤ c0) (h : hogsheadlaw19_CountRatio.f l0 = some r) :
    Calls Try.prog 4 #[.slice A0 l0.length c0] w fun e w' => e = .returned (.bool r) ∧ Below w.heap.size w w' := by
  obtain rfl := Option.some.inj h
  exact ratio_calls A0 c0 l0 w hr0 hc0

end Go.Proofs.Ytlfonfceaiiinaa.PAll
