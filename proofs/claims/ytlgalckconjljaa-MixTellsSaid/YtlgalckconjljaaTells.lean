/- MixTells: for every input the law returns true, and each argument reads behind the call as it read before. No condition. -/
import Derived.Test.YtlgalckconjljaaMix
set_option linter.unusedSimpArgs false
set_option linter.unusedVariables false
set_option linter.unusedSectionVars false

namespace Go.Proofs.Ytlgalckconjljaa
theorem tells_holds : Rows.MixTellsSaid := Go.Abs.tells_holds
end Go.Proofs.Ytlgalckconjljaa
