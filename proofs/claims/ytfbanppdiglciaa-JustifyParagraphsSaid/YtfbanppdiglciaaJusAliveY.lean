/- The chapter's example, reckoned: a line is set as it should. -/
import Derived.Test.YtfbanppdiglciaaYx0
import Derived.Test.YtfbanppdiglciaaYx13
import Derived.Test.YtfbanppdiglciaaVMore
set_option linter.unusedVariables false
set_option linter.unusedSimpArgs false
namespace Go.Proofs.Ytfbanppdiglciaa.Y
open Go Go.RowKit Go.Proofs.YtfbanppdiglciaaW.PrintWords Go.Proofs.YtfbanppdiglciaaW.PrintLast Go.Proofs.YtfbanppdiglciaaW.PrintMore
theorem jalive : Ev (fun k => seriflaw20_justifyAlive.f k) true := by
  refine Ev.of seriflaw20_justifyAlive.mono (k := 100) ?_
  decide +kernel
end Go.Proofs.Ytfbanppdiglciaa.Y
