/- GlyfNames: the walk. Written by rk/gengf.py. -/
import Derived.Test.YtchmhcfdamdjdaaGfYG
set_option linter.unusedVariables false
set_option linter.unusedSimpArgs false
namespace Go.Proofs.Ytchmhcfdamdjdaa.G
open Go Go.RowKit Go.Proofs.YtchmhcfdamdjdaaW.PrintWords Go.Proofs.YtchmhcfdamdjdaaW.PrintLast Go.Proofs.YtchmhcfdamdjdaaW.PrintMore

set_option maxRecDepth 100000 in
theorem gnames_walk (w : World) : Calls Try.prog 3 #[] w fun e w' => e = .returned (.bool true) ∧ Below w.heap.size w w' := by
  have HA := Aside0.mk (alive_calls w)
  go_enter Try.func3, Try.ntmps3
  go_wp2_with (go_at_call 9; refine HA.out.mono ?_; rintro q w1 ⟨rfl, h1⟩; have B1 := Aside0.mk h1; clear h1)
  go_ret
  exact ⟨rfl, B1.out⟩
end Go.Proofs.Ytchmhcfdamdjdaa.G
