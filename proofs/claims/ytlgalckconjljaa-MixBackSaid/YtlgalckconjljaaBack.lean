/- MixBack: for every input the law returns true, and each argument reads behind the call as it read before. No condition. -/
import Derived.Test.YtlgalckconjljaaMore
set_option linter.unusedSimpArgs false
set_option linter.unusedVariables false
set_option linter.unusedSectionVars false

namespace Go.Proofs.Ytlgalckconjljaa
theorem back_holds : Rows.MixBackSaid := Go.Abs.MixBack_holds
end Go.Proofs.Ytlgalckconjljaa
