/- QueryExact: for every input the law returns true, and each argument reads behind the call as it read before. No condition. -/
import Derived.Test.YthmahgleehgbaaaGreatRow
set_option linter.unusedSimpArgs false
set_option linter.unusedVariables false
set_option linter.unusedSectionVars false

namespace Go.Proofs.YthmahgleehgbaaaGreat
theorem exact_holds : Rows.QueryExactSaid := Go.Abs.QueryExact_holds
end Go.Proofs.YthmahgleehgbaaaGreat
