import Derived.Test.YtfbanppdiglciaaWMore
import Derived.Test.YtfbanppdiglciaaXx15
set_option linter.unusedVariables false
set_option linter.unusedSimpArgs false
namespace Go.Proofs.Ytfbanppdiglciaa.X
open Go Go.RowKit Go.Proofs.YtfbanppdiglciaaW.PrintWords Go.Proofs.YtfbanppdiglciaaW.PrintLast Go.Proofs.YtfbanppdiglciaaW.PrintMore
theorem oalive : Ev (fun k => zn.f k) true := by
  refine Ev.of zn.mono (k := 100) ?_
  decide +kernel
end Go.Proofs.Ytfbanppdiglciaa.X
