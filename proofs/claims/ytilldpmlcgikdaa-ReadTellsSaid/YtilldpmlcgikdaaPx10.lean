-- Written by this session's own program wip/gen.py; Lean checks it.
import Derived.Test.YtilldpmlcgikdaaPx0
import Derived.Test.YtilldpmlcgikdaaReadWakes
namespace Go.Proofs.Ytilldpmlcgikdaa.P
open Go.RowKit Go.Proofs.YtilldpmlcgikdaaW.PrintWords Go.Proofs.YtilldpmlcgikdaaW.PrintLast Go.Proofs.YtilldpmlcgikdaaW.PrintMore
attribute [local go_sem] max2_int min2_int max_two min_two max_three min_three max_four min_four   -- for this text's walks alone
set_option linter.unusedVariables false
set_option linter.unusedSimpArgs false

/-! ### topiaristlaw02_wakes: function 10 -/
-- import Derived.Test.YtilldpmlcgikdaaReadWakes
def topiaristlaw02_wakes.f : Option Bool := some true
theorem topiaristlaw02_wakes.calls (r : Bool) (w : World) (h : topiaristlaw02_wakes.f = some r) :
    Calls Try.prog 10 #[] w fun e w' => e = .returned (.bool r) ∧ Below w.heap.size w w' := by
  obtain rfl := Option.some.inj h
  exact wakes_is w

end Go.Proofs.Ytilldpmlcgikdaa.P
