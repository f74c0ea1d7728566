/- Part of a proof: a machine of plain data, and what the functions come to on it. -/
import Derived.Test.YthmahgleehgbaaaGreatSxB
import Derived.Test.YthmahgleehgbaaaGreatSnC
set_option linter.unusedSimpArgs false
set_option linter.unusedVariables false
set_option linter.unusedSectionVars false
namespace Go.Abs
open Go
@[reducible] def two (o : Option (List UInt8)) : List UInt8 × Bool := match o with
  | some x => (x, true)
  | none => ([], false)
theorem grdp {β : Type} {c : Prop} {i : Decidable c} {b : Option β} (h : c) : @grd β c i b = b := by unfold grd; rw [if_pos h]
end Go.Abs

namespace Go.Abs
open Go
def maxI : Int := 9223372036854775807
end Go.Abs

namespace Go.Abs
open Go
end Go.Abs

namespace Go.Abs
open Go
end Go.Abs

namespace Go.Abs
open Go
/-- from a place to a place -/
def cut (msg : List UInt8) (i j : Int) : List UInt8 := List.drop i.toNat (List.take j.toNat msg)
end Go.Abs

namespace Go.Abs
open Go
end Go.Abs

namespace Go.Abs
open Go
end Go.Abs

namespace Go.Abs
open Go
abbrev RRt := List UInt8 × Int × Int × Int × List UInt8
end Go.Abs

namespace Go.Abs
open Go
/-- a label with its length ahead -/
def lab (x : List UInt8) : List UInt8 := UInt8.ofNat x.length :: x
/-- labels, one behind the other -/
def flat (L : List (List UInt8)) : List UInt8 := (L.map lab).flatten
end Go.Abs

namespace Go.Abs
open Go
end Go.Abs

namespace Go.Abs
open Go
end Go.Abs

namespace Go.Abs
open Go
end Go.Abs

namespace Go.Abs
open Go
end Go.Abs

namespace Go.Abs
open Go
end Go.Abs
