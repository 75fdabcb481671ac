/- PathNames answers true: the chapter's example is drawn as it should, and the numbers are as they should. No condition. -/
import Derived.Test.YtmlkpadlafjfeaaPx25
set_option linter.unusedVariables false
set_option linter.unusedSimpArgs false
namespace Go.Proofs.Ytmlkpadlafjfeaa.Pure
open Go Go.RowKit Go.Proofs.Ytmlkpadlafjfeaa.P Go.Proofs.YtmlkpadlafjfeaaW.PrintWords Go.Proofs.YtmlkpadlafjfeaaW.PrintLast
theorem PathNames : seriflaw06_PathNames.Pure := ⟨60, by decide +kernel⟩
end Go.Proofs.Ytmlkpadlafjfeaa.Pure
