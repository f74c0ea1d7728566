/- Part of a proof: a machine of plain data, and what the functions come to on it. -/
import Derived.Test.YthmahgleehgbaaaGreatLawA
import Derived.Test.YthmahgleehgbaaaGreatSxB
set_option linter.unusedSimpArgs false
set_option linter.unusedVariables false
set_option linter.unusedSectionVars false
namespace Go.Abs
open Go
end Go.Abs

namespace Go.Abs
open Go
abbrev Qt := List UInt8 × Int × Int
abbrev Mt := Int × Int × List Qt × List RRt × List RRt × List RRt
def m0 : Mt := (0, 0, [], [], [], [])
end Go.Abs

namespace Go.Abs
open Go
instance : DecidableEq Qt := inferInstanceAs (DecidableEq (List UInt8 × Int × Int))
instance : DecidableEq RRt := inferInstanceAs (DecidableEq (List UInt8 × Int × Int × Int × List UInt8))
abbrev Mt2 := List RRt × List RRt
instance : DecidableEq Mt2 := inferInstanceAs (DecidableEq (List RRt × List RRt))
abbrev Mt3 := List Qt × List RRt × Mt2
instance : DecidableEq Mt3 := inferInstanceAs (DecidableEq (List Qt × List RRt × Mt2))
instance : DecidableEq Mt := inferInstanceAs (DecidableEq (Int × Int × Mt3))
end Go.Abs

namespace Go.Abs
open Go
end Go.Abs

namespace Go.Abs
open Go
end Go.Abs

namespace Go.Abs
open Go
end Go.Abs

namespace Go.Abs
open Go
end Go.Abs

namespace Go.Abs
open Go
end Go.Abs

namespace Go.Abs
open Go
end Go.Abs
