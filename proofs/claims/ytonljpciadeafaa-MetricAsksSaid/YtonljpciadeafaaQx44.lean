-- written by a program of this session (wip/xprint.py) over the kit's print
import Derived.Test.YtonljpciadeafaaQx0
namespace Go.Proofs.Ytonljpciadeafaa.Q
open Go.RowKit Go.Proofs.YtonljpciadeafaaW.PrintWords Go.Proofs.YtonljpciadeafaaW.PrintLast Go.Proofs.YtonljpciadeafaaW.PrintMore
attribute [local go_sem] max2_int min2_int max_two min_two max_three min_three max_four min_four   -- for this text's walks alone
set_option linter.unusedVariables false
set_option linter.unusedSimpArgs false

/-! ### seriflaw04_metricAlive: function 13 -/
def seriflaw04_metricAlive.f : Option Bool := some true
theorem seriflaw04_metricAlive.calls (r : Bool) (w : World) (h : seriflaw04_metricAlive.f = some r) : Calls Try.prog 13 #[] w fun e w' => e = .returned (.bool r) ∧ Below w.heap.size w w' := by
 obtain rfl : true = r := Option.some.inj h
 exact S.malive_calls w


end Go.Proofs.Ytonljpciadeafaa.Q
