/- MetricNames: the walk. -/
import Derived.Test.YtonljpciadeafaaMtNS
set_option linter.unusedVariables false
set_option linter.unusedSimpArgs false
namespace Go.Proofs.Ytonljpciadeafaa.S
open Go Go.RowKit Go.Proofs.YtonljpciadeafaaW.PrintWords Go.Proofs.YtonljpciadeafaaW.PrintLast Go.Proofs.YtonljpciadeafaaW.PrintMore

set_option maxRecDepth 100000 in
theorem mnames_walk (w : World) : Calls Try.prog 5 #[] w fun e w' => e = .returned (.bool true) ∧ Below w.heap.size w w' := by
  have HA := Aside0.mk (malive_calls w)
  go_enter Try.func5, Try.ntmps5
  go_wp2_with (go_at_call 13; refine HA.out.mono ?_; rintro q w1 ⟨rfl, h1⟩; have B1 := Aside0.mk h1; clear h1)
  go_ret
  exact ⟨rfl, B1.out⟩
end Go.Proofs.Ytonljpciadeafaa.S
