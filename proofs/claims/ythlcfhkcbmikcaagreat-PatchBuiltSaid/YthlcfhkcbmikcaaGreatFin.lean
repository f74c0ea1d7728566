/- PatchBuilt: for every input the law returns true, and each argument reads behind the call as it read before. No condition. -/
import Derived.Test.YthlcfhkcbmikcaaGreatRow
set_option linter.unusedSimpArgs false
set_option linter.unusedVariables false
set_option linter.unusedSectionVars false

namespace Go.Proofs.YthlcfhkcbmikcaaGreat
theorem built_holds : Rows.PatchBuiltSaid := Go.Abs.PatchBuilt_holds
end Go.Proofs.YthlcfhkcbmikcaaGreat
