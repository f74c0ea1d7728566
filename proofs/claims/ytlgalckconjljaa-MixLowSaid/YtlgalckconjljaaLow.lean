/- MixLow: for every input the law returns true, and each argument reads behind the call as it read before. No condition. -/
import Derived.Test.YtlgalckconjljaaMore
set_option linter.unusedSimpArgs false
set_option linter.unusedVariables false
set_option linter.unusedSectionVars false

namespace Go.Proofs.Ytlgalckconjljaa
theorem low_holds : Rows.MixLowSaid := Go.Abs.MixLow_holds
end Go.Proofs.Ytlgalckconjljaa
