/- MsgHead: for every input the law returns true, and each argument reads behind the call as it read before. No condition. -/
import Derived.Test.YtmjahmmlllfcgaaRow
set_option linter.unusedSimpArgs false
set_option linter.unusedVariables false
set_option linter.unusedSectionVars false

namespace Go.Proofs.Ytmjahmmlllfcgaa
theorem head_holds : Rows.MsgHeadSaid := Go.Abs.MsgHead_holds
end Go.Proofs.Ytmjahmmlllfcgaa
