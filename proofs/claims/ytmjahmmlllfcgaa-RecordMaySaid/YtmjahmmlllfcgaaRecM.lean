/- RecordMay: for every input the law returns true, and each argument reads behind the call as it read before. No condition. -/
import Derived.Test.YtmjahmmlllfcgaaLaw
set_option linter.unusedSimpArgs false
set_option linter.unusedVariables false
set_option linter.unusedSectionVars false

namespace Go.Proofs.Ytmjahmmlllfcgaa
theorem may_holds : Rows.RecordMaySaid := Go.Abs.RecordMay_holds
end Go.Proofs.Ytmjahmmlllfcgaa
