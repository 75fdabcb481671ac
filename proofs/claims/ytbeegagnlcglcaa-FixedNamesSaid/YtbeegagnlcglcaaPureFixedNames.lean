/- FixedNames answers true: the classes, the error and the limit have their numbers. No condition. -/
import Derived.Test.YtbeegagnlcglcaaFix
import Derived.Test.YtbeegagnlcglcaaXx3
set_option linter.unusedVariables false
set_option linter.unusedSimpArgs false
namespace Go.Proofs.Ytbeegagnlcglcaa.Pure
open Go Go.RowKit Go.Proofs.Ytbeegagnlcglcaa.X Go.Proofs.YtbeegagnlcglcaaW.PrintWords Go.Proofs.YtbeegagnlcglcaaW.PrintLast
theorem FixedNames : seriflaw01_FixedNames.Pure := by
  unfold seriflaw01_FixedNames.Pure seriflaw01_FixedNames.f
  exact Ev.rounds (Ev.bind alive_ev (Ev.now true))
end Go.Proofs.Ytbeegagnlcglcaa.Pure
