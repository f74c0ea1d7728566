/- TmplMakes: for every input the law returns true, and each argument reads behind the call as it read before. No condition. -/
import Derived.Test.YthmahgleehgbaaaRow
set_option linter.unusedSimpArgs false
set_option linter.unusedVariables false
set_option linter.unusedSectionVars false

namespace Go.Proofs.Ythmahgleehgbaaa
theorem makes_holds : Rows.TmplMakesSaid := Go.Abs.TmplMakes_holds
end Go.Proofs.Ythmahgleehgbaaa
