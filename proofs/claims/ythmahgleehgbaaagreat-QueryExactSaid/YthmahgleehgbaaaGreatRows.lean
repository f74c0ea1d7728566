/-
  No cell of these rows narrows 'for every input' (looked for: loops, veiled, ifaces, maps, wideKeys, modest, calm, conditions, laid).
  DERIVED. THE GIVEN ROWS OF THIS SEAT. 6 by the template 'for every input the law returns true; each argument reads behind the call as it read before'; 0 by the template 'total and deterministic' (their statements: YthmahgleehgbaaaGreatTotals.lean).
  GIVEN WITH THE SEED: the statements are not yours to turn. If you find one false, say at which input.
  Laid BY PROGRAM, IN A SANDBOX (cutbox-rows.mjs): the forced cells as the released guide's own fill.sh prints them over the translation 5ae9939122675d39… (all of the seat's roots in one cut). By AI agents, Wed Nov 11 2026. No macro, syntax, notation, axiom, sorry.
-/
import Derived.Test.YthmahgleehgbaaaGreatChecked
import GoSem.Claim
import GoSem.ClaimJoined
import GoSem.ClaimMapViews
import Derived.JoinedTies
import Derived.KernelRfl
namespace Go.Proofs.YthmahgleehgbaaaGreat
/- THE CELL 'sum', in the pinned program and in every row, IS THE sha256 OF THE DUMP (.gsa) THAT YthmahgleehgbaaaGreatProg.lean LOADS. Nothing in Lean hashes anything: it is a label: what it is worth is what the hold of that sum in a sandbox is worth. -/
noncomputable def Tryz.pinned : Pinned := { name := "ythmahgleehgbaaagreat", sum := "5ae9939122675d39691586b832296d4ad2369d2231c30c4f27d4da79b59054cc", checked := Tryz.checked }
namespace Rows
def none {H : Type} : Left H := { results := [], args := [] }

/-- 'wellspringlaw20.QueryMatches': WHATEVER THE INPUT: true; the input reads as it did. -/
def queryMatchesSpec : ChangeSpec := { name := "queryMatches", fn := fun _ => fun
  | [d1, d2, d3] => { results := [.lit (.bool true)], args := [d1, d2, d3] }
  | _ => none }
def queryMatchesRow : OpenClaim := { program := "ythmahgleehgbaaagreat", sum := "5ae9939122675d39691586b832296d4ad2369d2231c30c4f27d4da79b59054cc", func := "wellspring/wellspringlaw20.QueryMatches", spec := "queryMatches", inPlace := ["internal/abi.NoEscape", "internal/bytealg.MakeNoZero"], unfollowed := true, recurses := true, apart := false }
def QueryMatchesSaid : Prop := queryMatchesRow.holds Tryz.pinned (OpenSpec.ofChange queryMatchesSpec)

/-- ITS FALSE NEIGHBOUR: 'it returns false'. Refute it at one input. -/
def queryMatchesWrong : ChangeSpec := { name := "queryMatches", fn := fun _ => fun
  | [d1, d2, d3] => { results := [.lit (.bool false)], args := [d1, d2, d3] }
  | _ => none }
def QueryMatchesWrongFalsely : Prop := queryMatchesRow.holds Tryz.pinned (OpenSpec.ofChange queryMatchesWrong)

/-- 'wellspringlaw20.QueryTells': WHATEVER THE INPUT: true; the input reads as it did. -/
def queryTellsSpec : ChangeSpec := { name := "queryTells", fn := fun _ => fun
  | [d1, d2, d3] => { results := [.lit (.bool true)], args := [d1, d2, d3] }
  | _ => none }
def queryTellsRow : OpenClaim := { program := "ythmahgleehgbaaagreat", sum := "5ae9939122675d39691586b832296d4ad2369d2231c30c4f27d4da79b59054cc", func := "wellspring/wellspringlaw20.QueryTells", spec := "queryTells", inPlace := ["internal/abi.NoEscape", "internal/bytealg.MakeNoZero"], unfollowed := true, recurses := true, apart := false }
def QueryTellsSaid : Prop := queryTellsRow.holds Tryz.pinned (OpenSpec.ofChange queryTellsSpec)

/-- ITS FALSE NEIGHBOUR: 'it returns false'. Refute it at one input. -/
def queryTellsWrong : ChangeSpec := { name := "queryTells", fn := fun _ => fun
  | [d1, d2, d3] => { results := [.lit (.bool false)], args := [d1, d2, d3] }
  | _ => none }
def QueryTellsWrongFalsely : Prop := queryTellsRow.holds Tryz.pinned (OpenSpec.ofChange queryTellsWrong)

/-- 'wellspringlaw20.QueryExact': WHATEVER THE INPUT: true; the input reads as it did. -/
def queryExactSpec : ChangeSpec := { name := "queryExact", fn := fun _ => fun
  | [d1, d2, d3] => { results := [.lit (.bool true)], args := [d1, d2, d3] }
  | _ => none }
def queryExactRow : OpenClaim := { program := "ythmahgleehgbaaagreat", sum := "5ae9939122675d39691586b832296d4ad2369d2231c30c4f27d4da79b59054cc", func := "wellspring/wellspringlaw20.QueryExact", spec := "queryExact", inPlace := ["internal/abi.NoEscape", "internal/bytealg.MakeNoZero"], unfollowed := true, recurses := true, apart := false }
def QueryExactSaid : Prop := queryExactRow.holds Tryz.pinned (OpenSpec.ofChange queryExactSpec)

/-- ITS FALSE NEIGHBOUR: 'it returns false'. Refute it at one input. -/
def queryExactWrong : ChangeSpec := { name := "queryExact", fn := fun _ => fun
  | [d1, d2, d3] => { results := [.lit (.bool false)], args := [d1, d2, d3] }
  | _ => none }
def QueryExactWrongFalsely : Prop := queryExactRow.holds Tryz.pinned (OpenSpec.ofChange queryExactWrong)

/-- 'wellspringlaw20.QueryFirst': WHATEVER THE INPUT: true; the input reads as it did. -/
def queryFirstSpec : ChangeSpec := { name := "queryFirst", fn := fun _ => fun
  | [d1, d2, d3] => { results := [.lit (.bool true)], args := [d1, d2, d3] }
  | _ => none }
def queryFirstRow : OpenClaim := { program := "ythmahgleehgbaaagreat", sum := "5ae9939122675d39691586b832296d4ad2369d2231c30c4f27d4da79b59054cc", func := "wellspring/wellspringlaw20.QueryFirst", spec := "queryFirst", inPlace := ["internal/abi.NoEscape", "internal/bytealg.MakeNoZero"], unfollowed := true, recurses := true, apart := false }
def QueryFirstSaid : Prop := queryFirstRow.holds Tryz.pinned (OpenSpec.ofChange queryFirstSpec)

/-- ITS FALSE NEIGHBOUR: 'it returns false'. Refute it at one input. -/
def queryFirstWrong : ChangeSpec := { name := "queryFirst", fn := fun _ => fun
  | [d1, d2, d3] => { results := [.lit (.bool false)], args := [d1, d2, d3] }
  | _ => none }
def QueryFirstWrongFalsely : Prop := queryFirstRow.holds Tryz.pinned (OpenSpec.ofChange queryFirstWrong)

/-- 'wellspringlaw20.QueryParts': WHATEVER THE INPUT: true; the input reads as it did. -/
def queryPartsSpec : ChangeSpec := { name := "queryParts", fn := fun _ => fun
  | [d1, d2, d3] => { results := [.lit (.bool true)], args := [d1, d2, d3] }
  | _ => none }
def queryPartsRow : OpenClaim := { program := "ythmahgleehgbaaagreat", sum := "5ae9939122675d39691586b832296d4ad2369d2231c30c4f27d4da79b59054cc", func := "wellspring/wellspringlaw20.QueryParts", spec := "queryParts", inPlace := ["internal/abi.NoEscape", "internal/bytealg.MakeNoZero"], unfollowed := true, recurses := true, apart := false }
def QueryPartsSaid : Prop := queryPartsRow.holds Tryz.pinned (OpenSpec.ofChange queryPartsSpec)

/-- ITS FALSE NEIGHBOUR: 'it returns false'. Refute it at one input. -/
def queryPartsWrong : ChangeSpec := { name := "queryParts", fn := fun _ => fun
  | [d1, d2, d3] => { results := [.lit (.bool false)], args := [d1, d2, d3] }
  | _ => none }
def QueryPartsWrongFalsely : Prop := queryPartsRow.holds Tryz.pinned (OpenSpec.ofChange queryPartsWrong)

/-- 'wellspringlaw20.QueryMatched': WHATEVER THE INPUT: true; the input reads as it did. -/
def queryMatchedSpec : ChangeSpec := { name := "queryMatched", fn := fun _ => fun
  | [d1, d2, d3] => { results := [.lit (.bool true)], args := [d1, d2, d3] }
  | _ => none }
def queryMatchedRow : OpenClaim := { program := "ythmahgleehgbaaagreat", sum := "5ae9939122675d39691586b832296d4ad2369d2231c30c4f27d4da79b59054cc", func := "wellspring/wellspringlaw20.QueryMatched", spec := "queryMatched", inPlace := ["internal/abi.NoEscape", "internal/bytealg.MakeNoZero"], unfollowed := true, recurses := true, apart := false }
def QueryMatchedSaid : Prop := queryMatchedRow.holds Tryz.pinned (OpenSpec.ofChange queryMatchedSpec)

/-- ITS FALSE NEIGHBOUR: 'it returns false'. Refute it at one input. -/
def queryMatchedWrong : ChangeSpec := { name := "queryMatched", fn := fun _ => fun
  | [d1, d2, d3] => { results := [.lit (.bool false)], args := [d1, d2, d3] }
  | _ => none }
def QueryMatchedWrongFalsely : Prop := queryMatchedRow.holds Tryz.pinned (OpenSpec.ofChange queryMatchedWrong)

/- THE SECOND FORM. 'bulk': how many values and letters a reading holds, each counted each time it is reached (what is shared counts as often as it is met; a slice's spare places count too). A statement '..UptoSaid' is the law's where the arguments, and the package variables that the reading takes, are together of bulk at most 1048576: NARROWER than '..Said'. Prove '..Said' where nothing that the law and all that it calls make is longer than what came in: it says more and counts as full. Else prove '..UptoSaid'. A law counts once. -/
mutual
def uptoBulk {H : Type} : DataW H → Nat
  | .lit (.string bytes) => bytes.length + 1
  | .lit _ => 1
  | .nil => 1
  | .ptr d => uptoBulk d + 1
  | .slice elems spare => uptoBulkAll elems + uptoBulkAll spare + 1
  | .agg parts => uptoBulkAll parts + 1
  | .iface _ d => uptoBulk d + 1
  | .map entries => uptoBulkEntries entries + 1
  | .held _ => 1
def uptoBulkAll {H : Type} : List (DataW H) → Nat
  | [] => 0
  | d :: r => uptoBulk d + uptoBulkAll r
def uptoBulkEntries {H : Type} : List (Lit × DataW H) → Nat
  | [] => 0
  | x :: r => uptoBulkEntry x + uptoBulkEntries r
def uptoBulkEntry {H : Type} : Lit × DataW H → Nat
  | (.string bytes, d) => bytes.length + uptoBulk d + 1
  | (_, d) => uptoBulk d + 1
 end
def uptoSmall : (H : Type) → List (DataW H) → Bool := fun _ ds => decide (uptoBulkAll ds ≤ 1048576)
def OpenSpec.upto (s : _root_.Go.ChangeSpec) : _root_.Go.OpenSpec := { _root_.Go.OpenSpec.ofChange s with cond := some uptoSmall }

/-- 'wellspringlaw20.QueryMatches', WHERE WHAT IT READS IS OF BULK AT MOST 1048576: true; the input reads as it did. -/
def queryMatchesUptoRow : OpenClaim := { program := "ythmahgleehgbaaagreat", sum := "5ae9939122675d39691586b832296d4ad2369d2231c30c4f27d4da79b59054cc", func := "wellspring/wellspringlaw20.QueryMatches", spec := "queryMatches", inPlace := ["internal/abi.NoEscape", "internal/bytealg.MakeNoZero"], unfollowed := true, recurses := true, apart := false, narrowed := true }
def QueryMatchesUptoSaid : Prop := queryMatchesUptoRow.holds Tryz.pinned (OpenSpec.upto queryMatchesSpec)

/-- 'wellspringlaw20.QueryTells', WHERE WHAT IT READS IS OF BULK AT MOST 1048576: true; the input reads as it did. -/
def queryTellsUptoRow : OpenClaim := { program := "ythmahgleehgbaaagreat", sum := "5ae9939122675d39691586b832296d4ad2369d2231c30c4f27d4da79b59054cc", func := "wellspring/wellspringlaw20.QueryTells", spec := "queryTells", inPlace := ["internal/abi.NoEscape", "internal/bytealg.MakeNoZero"], unfollowed := true, recurses := true, apart := false, narrowed := true }
def QueryTellsUptoSaid : Prop := queryTellsUptoRow.holds Tryz.pinned (OpenSpec.upto queryTellsSpec)

/-- 'wellspringlaw20.QueryExact', WHERE WHAT IT READS IS OF BULK AT MOST 1048576: true; the input reads as it did. -/
def queryExactUptoRow : OpenClaim := { program := "ythmahgleehgbaaagreat", sum := "5ae9939122675d39691586b832296d4ad2369d2231c30c4f27d4da79b59054cc", func := "wellspring/wellspringlaw20.QueryExact", spec := "queryExact", inPlace := ["internal/abi.NoEscape", "internal/bytealg.MakeNoZero"], unfollowed := true, recurses := true, apart := false, narrowed := true }
def QueryExactUptoSaid : Prop := queryExactUptoRow.holds Tryz.pinned (OpenSpec.upto queryExactSpec)

/-- 'wellspringlaw20.QueryFirst', WHERE WHAT IT READS IS OF BULK AT MOST 1048576: true; the input reads as it did. -/
def queryFirstUptoRow : OpenClaim := { program := "ythmahgleehgbaaagreat", sum := "5ae9939122675d39691586b832296d4ad2369d2231c30c4f27d4da79b59054cc", func := "wellspring/wellspringlaw20.QueryFirst", spec := "queryFirst", inPlace := ["internal/abi.NoEscape", "internal/bytealg.MakeNoZero"], unfollowed := true, recurses := true, apart := false, narrowed := true }
def QueryFirstUptoSaid : Prop := queryFirstUptoRow.holds Tryz.pinned (OpenSpec.upto queryFirstSpec)

/-- 'wellspringlaw20.QueryParts', WHERE WHAT IT READS IS OF BULK AT MOST 1048576: true; the input reads as it did. -/
def queryPartsUptoRow : OpenClaim := { program := "ythmahgleehgbaaagreat", sum := "5ae9939122675d39691586b832296d4ad2369d2231c30c4f27d4da79b59054cc", func := "wellspring/wellspringlaw20.QueryParts", spec := "queryParts", inPlace := ["internal/abi.NoEscape", "internal/bytealg.MakeNoZero"], unfollowed := true, recurses := true, apart := false, narrowed := true }
def QueryPartsUptoSaid : Prop := queryPartsUptoRow.holds Tryz.pinned (OpenSpec.upto queryPartsSpec)

/-- 'wellspringlaw20.QueryMatched', WHERE WHAT IT READS IS OF BULK AT MOST 1048576: true; the input reads as it did. -/
def queryMatchedUptoRow : OpenClaim := { program := "ythmahgleehgbaaagreat", sum := "5ae9939122675d39691586b832296d4ad2369d2231c30c4f27d4da79b59054cc", func := "wellspring/wellspringlaw20.QueryMatched", spec := "queryMatched", inPlace := ["internal/abi.NoEscape", "internal/bytealg.MakeNoZero"], unfollowed := true, recurses := true, apart := false, narrowed := true }
def QueryMatchedUptoSaid : Prop := queryMatchedUptoRow.holds Tryz.pinned (OpenSpec.upto queryMatchedSpec)

end Rows
end Go.Proofs.YthmahgleehgbaaaGreat
