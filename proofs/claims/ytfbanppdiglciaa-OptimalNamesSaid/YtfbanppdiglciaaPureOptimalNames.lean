/- OptimalNames answers true: the chapter's example comes out and the errors, limits and kinds have their numbers. No condition. -/
import Derived.Test.YtfbanppdiglciaaOptAlive
import Derived.Test.YtfbanppdiglciaaXx9
set_option linter.unusedVariables false
set_option linter.unusedSimpArgs false
namespace Go.Proofs.Ytfbanppdiglciaa.Pure
open Go Go.RowKit Go.Proofs.Ytfbanppdiglciaa.X Go.Proofs.YtfbanppdiglciaaW.PrintWords Go.Proofs.YtfbanppdiglciaaW.PrintLast
theorem OptimalNames : seriflaw19_OptimalNames.Pure := by
  unfold seriflaw19_OptimalNames.Pure seriflaw19_OptimalNames.f
  exact Ev.rounds (Ev.bind oalive (Ev.now true))
end Go.Proofs.Ytfbanppdiglciaa.Pure
