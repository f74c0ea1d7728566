/- QueryParts: for every input the law returns true, and each argument reads behind the call as it read before. No condition. -/
import Derived.Test.YthmahgleehgbaaaGreatRow
set_option linter.unusedSimpArgs false
set_option linter.unusedVariables false
set_option linter.unusedSectionVars false

namespace Go.Proofs.YthmahgleehgbaaaGreat
theorem parts_holds : Rows.QueryPartsSaid := Go.Abs.QueryParts_holds
end Go.Proofs.YthmahgleehgbaaaGreat
