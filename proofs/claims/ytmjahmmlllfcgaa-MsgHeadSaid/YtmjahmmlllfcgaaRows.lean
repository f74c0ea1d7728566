/-
  No cell of these rows narrows 'for every input' (looked for: loops, veiled, ifaces, maps, wideKeys, modest, calm, conditions, laid).
  DERIVED. THE GIVEN ROWS OF THIS SEAT. 11 by the template 'for every input the law returns true; each argument reads behind the call as it read before'; 0 by the template 'total and deterministic' (their statements: YtmjahmmlllfcgaaTotals.lean).
  GIVEN WITH THE SEED: the statements are not yours to turn. If you find one false, say at which input.
  Laid BY PROGRAM, IN A SANDBOX (cutbox-rows.mjs): the forced cells as the released guide's own fill.sh prints them over the translation 8d7ba09ecd289d1f… (all of the seat's roots in one cut). By AI agents, Wed Nov 11 2026. No macro, syntax, notation, axiom, sorry.
-/
import Derived.Test.YtmjahmmlllfcgaaChecked
import GoSem.Claim
import GoSem.ClaimJoined
import GoSem.ClaimMapViews
import Derived.JoinedTies
import Derived.KernelRfl
namespace Go.Proofs.Ytmjahmmlllfcgaa
/- THE CELL 'sum', in the pinned program and in every row, IS THE sha256 OF THE DUMP (.gsa) THAT YtmjahmmlllfcgaaProg.lean LOADS. Nothing in Lean hashes anything: it is a label: what it is worth is what the hold of that sum in a sandbox is worth. -/
noncomputable def Try.pinned : Pinned := { name := "ytmjahmmlllfcgaa", sum := "8d7ba09ecd289d1f6947bc3516c0dd7093ea1cad05975287dcdf215adf8c3596", checked := Try.checked }
namespace Rows
def none {H : Type} : Left H := { results := [], args := [] }

/-- 'wellspringlaw06.RecordDecodes': WHATEVER THE INPUT: true; the input reads as it did. -/
def recordDecodesSpec : ChangeSpec := { name := "recordDecodes", fn := fun _ => fun
  | [d1, d2] => { results := [.lit (.bool true)], args := [d1, d2] }
  | _ => none }
def recordDecodesRow : OpenClaim := { program := "ytmjahmmlllfcgaa", sum := "8d7ba09ecd289d1f6947bc3516c0dd7093ea1cad05975287dcdf215adf8c3596", func := "wellspring/wellspringlaw06.RecordDecodes", spec := "recordDecodes", inPlace := ["internal/abi.NoEscape", "internal/bytealg.MakeNoZero"], unfollowed := true, recurses := true, apart := false }
def RecordDecodesSaid : Prop := recordDecodesRow.holds Try.pinned (OpenSpec.ofChange recordDecodesSpec)

/-- ITS FALSE NEIGHBOUR: 'it returns false'. Refute it at one input. -/
def recordDecodesWrong : ChangeSpec := { name := "recordDecodes", fn := fun _ => fun
  | [d1, d2] => { results := [.lit (.bool false)], args := [d1, d2] }
  | _ => none }
def RecordDecodesWrongFalsely : Prop := recordDecodesRow.holds Try.pinned (OpenSpec.ofChange recordDecodesWrong)

/-- 'wellspringlaw06.RecordEncodes': WHATEVER THE INPUT: true; the input reads as it did. -/
def recordEncodesSpec : ChangeSpec := { name := "recordEncodes", fn := fun _ => fun
  | [d1, d2, d3] => { results := [.lit (.bool true)], args := [d1, d2, d3] }
  | _ => none }
def recordEncodesRow : OpenClaim := { program := "ytmjahmmlllfcgaa", sum := "8d7ba09ecd289d1f6947bc3516c0dd7093ea1cad05975287dcdf215adf8c3596", func := "wellspring/wellspringlaw06.RecordEncodes", spec := "recordEncodes", inPlace := ["internal/abi.NoEscape", "internal/bytealg.MakeNoZero"], unfollowed := true, recurses := true, apart := false }
def RecordEncodesSaid : Prop := recordEncodesRow.holds Try.pinned (OpenSpec.ofChange recordEncodesSpec)

/-- ITS FALSE NEIGHBOUR: 'it returns false'. Refute it at one input. -/
def recordEncodesWrong : ChangeSpec := { name := "recordEncodes", fn := fun _ => fun
  | [d1, d2, d3] => { results := [.lit (.bool false)], args := [d1, d2, d3] }
  | _ => none }
def RecordEncodesWrongFalsely : Prop := recordEncodesRow.holds Try.pinned (OpenSpec.ofChange recordEncodesWrong)

/-- 'wellspringlaw06.RecordBack': WHATEVER THE INPUT: true; the input reads as it did. -/
def recordBackSpec : ChangeSpec := { name := "recordBack", fn := fun _ => fun
  | [d1, d2, d3] => { results := [.lit (.bool true)], args := [d1, d2, d3] }
  | _ => none }
def recordBackRow : OpenClaim := { program := "ytmjahmmlllfcgaa", sum := "8d7ba09ecd289d1f6947bc3516c0dd7093ea1cad05975287dcdf215adf8c3596", func := "wellspring/wellspringlaw06.RecordBack", spec := "recordBack", inPlace := ["internal/abi.NoEscape", "internal/bytealg.MakeNoZero"], unfollowed := true, recurses := true, apart := false }
def RecordBackSaid : Prop := recordBackRow.holds Try.pinned (OpenSpec.ofChange recordBackSpec)

/-- ITS FALSE NEIGHBOUR: 'it returns false'. Refute it at one input. -/
def recordBackWrong : ChangeSpec := { name := "recordBack", fn := fun _ => fun
  | [d1, d2, d3] => { results := [.lit (.bool false)], args := [d1, d2, d3] }
  | _ => none }
def RecordBackWrongFalsely : Prop := recordBackRow.holds Try.pinned (OpenSpec.ofChange recordBackWrong)

/-- 'wellspringlaw06.RecordRow': WHATEVER THE INPUT: true; the input reads as it did. -/
def recordRowSpec : ChangeSpec := { name := "recordRow", fn := fun _ => fun
  | [d1, d2] => { results := [.lit (.bool true)], args := [d1, d2] }
  | _ => none }
def recordRowRow : OpenClaim := { program := "ytmjahmmlllfcgaa", sum := "8d7ba09ecd289d1f6947bc3516c0dd7093ea1cad05975287dcdf215adf8c3596", func := "wellspring/wellspringlaw06.RecordRow", spec := "recordRow", inPlace := ["internal/abi.NoEscape", "internal/bytealg.MakeNoZero"], unfollowed := true, recurses := true, apart := false }
def RecordRowSaid : Prop := recordRowRow.holds Try.pinned (OpenSpec.ofChange recordRowSpec)

/-- ITS FALSE NEIGHBOUR: 'it returns false'. Refute it at one input. -/
def recordRowWrong : ChangeSpec := { name := "recordRow", fn := fun _ => fun
  | [d1, d2] => { results := [.lit (.bool false)], args := [d1, d2] }
  | _ => none }
def RecordRowWrongFalsely : Prop := recordRowRow.holds Try.pinned (OpenSpec.ofChange recordRowWrong)

/-- 'wellspringlaw06.RecordMay': WHATEVER THE INPUT: true; the input reads as it did. -/
def recordMaySpec : ChangeSpec := { name := "recordMay", fn := fun _ => fun
  | [d1, d2] => { results := [.lit (.bool true)], args := [d1, d2] }
  | _ => none }
def recordMayRow : OpenClaim := { program := "ytmjahmmlllfcgaa", sum := "8d7ba09ecd289d1f6947bc3516c0dd7093ea1cad05975287dcdf215adf8c3596", func := "wellspring/wellspringlaw06.RecordMay", spec := "recordMay", inPlace := ["internal/abi.NoEscape", "internal/bytealg.MakeNoZero"], unfollowed := true, recurses := true, apart := false }
def RecordMaySaid : Prop := recordMayRow.holds Try.pinned (OpenSpec.ofChange recordMaySpec)

/-- ITS FALSE NEIGHBOUR: 'it returns false'. Refute it at one input. -/
def recordMayWrong : ChangeSpec := { name := "recordMay", fn := fun _ => fun
  | [d1, d2] => { results := [.lit (.bool false)], args := [d1, d2] }
  | _ => none }
def RecordMayWrongFalsely : Prop := recordMayRow.holds Try.pinned (OpenSpec.ofChange recordMayWrong)

/-- 'wellspringlaw08.MsgDecodes': WHATEVER THE INPUT: true; the input reads as it did. -/
def msgDecodesSpec : ChangeSpec := { name := "msgDecodes", fn := fun _ => fun
  | [d] => { results := [.lit (.bool true)], args := [d] }
  | _ => none }
def msgDecodesRow : OpenClaim := { program := "ytmjahmmlllfcgaa", sum := "8d7ba09ecd289d1f6947bc3516c0dd7093ea1cad05975287dcdf215adf8c3596", func := "wellspring/wellspringlaw08.MsgDecodes", spec := "msgDecodes", inPlace := ["internal/abi.NoEscape", "internal/bytealg.MakeNoZero"], unfollowed := true, recurses := true, apart := false }
def MsgDecodesSaid : Prop := msgDecodesRow.holds Try.pinned (OpenSpec.ofChange msgDecodesSpec)

/-- ITS FALSE NEIGHBOUR: 'it returns false'. Refute it at one input. -/
def msgDecodesWrong : ChangeSpec := { name := "msgDecodes", fn := fun _ => fun
  | [d] => { results := [.lit (.bool false)], args := [d] }
  | _ => none }
def MsgDecodesWrongFalsely : Prop := msgDecodesRow.holds Try.pinned (OpenSpec.ofChange msgDecodesWrong)

/-- 'wellspringlaw08.MsgEncodes': WHATEVER THE INPUT: true; the input reads as it did. -/
def msgEncodesSpec : ChangeSpec := { name := "msgEncodes", fn := fun _ => fun
  | [d1, d2] => { results := [.lit (.bool true)], args := [d1, d2] }
  | _ => none }
def msgEncodesRow : OpenClaim := { program := "ytmjahmmlllfcgaa", sum := "8d7ba09ecd289d1f6947bc3516c0dd7093ea1cad05975287dcdf215adf8c3596", func := "wellspring/wellspringlaw08.MsgEncodes", spec := "msgEncodes", inPlace := ["internal/abi.NoEscape", "internal/bytealg.MakeNoZero"], unfollowed := true, recurses := true, apart := false }
def MsgEncodesSaid : Prop := msgEncodesRow.holds Try.pinned (OpenSpec.ofChange msgEncodesSpec)

/-- ITS FALSE NEIGHBOUR: 'it returns false'. Refute it at one input. -/
def msgEncodesWrong : ChangeSpec := { name := "msgEncodes", fn := fun _ => fun
  | [d1, d2] => { results := [.lit (.bool false)], args := [d1, d2] }
  | _ => none }
def MsgEncodesWrongFalsely : Prop := msgEncodesRow.holds Try.pinned (OpenSpec.ofChange msgEncodesWrong)

/-- 'wellspringlaw08.MsgBack': WHATEVER THE INPUT: true; the input reads as it did. -/
def msgBackSpec : ChangeSpec := { name := "msgBack", fn := fun _ => fun
  | [d] => { results := [.lit (.bool true)], args := [d] }
  | _ => none }
def msgBackRow : OpenClaim := { program := "ytmjahmmlllfcgaa", sum := "8d7ba09ecd289d1f6947bc3516c0dd7093ea1cad05975287dcdf215adf8c3596", func := "wellspring/wellspringlaw08.MsgBack", spec := "msgBack", inPlace := ["internal/abi.NoEscape", "internal/bytealg.MakeNoZero"], unfollowed := true, recurses := true, apart := false }
def MsgBackSaid : Prop := msgBackRow.holds Try.pinned (OpenSpec.ofChange msgBackSpec)

/-- ITS FALSE NEIGHBOUR: 'it returns false'. Refute it at one input. -/
def msgBackWrong : ChangeSpec := { name := "msgBack", fn := fun _ => fun
  | [d] => { results := [.lit (.bool false)], args := [d] }
  | _ => none }
def MsgBackWrongFalsely : Prop := msgBackRow.holds Try.pinned (OpenSpec.ofChange msgBackWrong)

/-- 'wellspringlaw08.MsgAgain': WHATEVER THE INPUT: true; the input reads as it did. -/
def msgAgainSpec : ChangeSpec := { name := "msgAgain", fn := fun _ => fun
  | [d] => { results := [.lit (.bool true)], args := [d] }
  | _ => none }
def msgAgainRow : OpenClaim := { program := "ytmjahmmlllfcgaa", sum := "8d7ba09ecd289d1f6947bc3516c0dd7093ea1cad05975287dcdf215adf8c3596", func := "wellspring/wellspringlaw08.MsgAgain", spec := "msgAgain", inPlace := ["internal/abi.NoEscape", "internal/bytealg.MakeNoZero"], unfollowed := true, recurses := true, apart := false }
def MsgAgainSaid : Prop := msgAgainRow.holds Try.pinned (OpenSpec.ofChange msgAgainSpec)

/-- ITS FALSE NEIGHBOUR: 'it returns false'. Refute it at one input. -/
def msgAgainWrong : ChangeSpec := { name := "msgAgain", fn := fun _ => fun
  | [d] => { results := [.lit (.bool false)], args := [d] }
  | _ => none }
def MsgAgainWrongFalsely : Prop := msgAgainRow.holds Try.pinned (OpenSpec.ofChange msgAgainWrong)

/-- 'wellspringlaw08.MsgCut': WHATEVER THE INPUT: true; the input reads as it did. -/
def msgCutSpec : ChangeSpec := { name := "msgCut", fn := fun _ => fun
  | [d1, d2] => { results := [.lit (.bool true)], args := [d1, d2] }
  | _ => none }
def msgCutRow : OpenClaim := { program := "ytmjahmmlllfcgaa", sum := "8d7ba09ecd289d1f6947bc3516c0dd7093ea1cad05975287dcdf215adf8c3596", func := "wellspring/wellspringlaw08.MsgCut", spec := "msgCut", inPlace := ["internal/abi.NoEscape", "internal/bytealg.MakeNoZero"], unfollowed := true, recurses := true, apart := false }
def MsgCutSaid : Prop := msgCutRow.holds Try.pinned (OpenSpec.ofChange msgCutSpec)

/-- ITS FALSE NEIGHBOUR: 'it returns false'. Refute it at one input. -/
def msgCutWrong : ChangeSpec := { name := "msgCut", fn := fun _ => fun
  | [d1, d2] => { results := [.lit (.bool false)], args := [d1, d2] }
  | _ => none }
def MsgCutWrongFalsely : Prop := msgCutRow.holds Try.pinned (OpenSpec.ofChange msgCutWrong)

/-- 'wellspringlaw08.MsgHead': WHATEVER THE INPUT: true; the input reads as it did. -/
def msgHeadSpec : ChangeSpec := { name := "msgHead", fn := fun _ => fun
  | [d1, d2] => { results := [.lit (.bool true)], args := [d1, d2] }
  | _ => none }
def msgHeadRow : OpenClaim := { program := "ytmjahmmlllfcgaa", sum := "8d7ba09ecd289d1f6947bc3516c0dd7093ea1cad05975287dcdf215adf8c3596", func := "wellspring/wellspringlaw08.MsgHead", spec := "msgHead", inPlace := ["internal/abi.NoEscape", "internal/bytealg.MakeNoZero"], unfollowed := true, recurses := true, apart := false }
def MsgHeadSaid : Prop := msgHeadRow.holds Try.pinned (OpenSpec.ofChange msgHeadSpec)

/-- ITS FALSE NEIGHBOUR: 'it returns false'. Refute it at one input. -/
def msgHeadWrong : ChangeSpec := { name := "msgHead", fn := fun _ => fun
  | [d1, d2] => { results := [.lit (.bool false)], args := [d1, d2] }
  | _ => none }
def MsgHeadWrongFalsely : Prop := msgHeadRow.holds Try.pinned (OpenSpec.ofChange msgHeadWrong)

/- THE SECOND FORM. 'bulk': how many values and letters a reading holds, each counted each time it is reached (what is shared counts as often as it is met; a slice's spare places count too). A statement '..UptoSaid' is the law's where the arguments, and the package variables that the reading takes, are together of bulk at most 1048576: NARROWER than '..Said'. Prove '..Said' where nothing that the law and all that it calls make is longer than what came in: it says more and counts as full. Else prove '..UptoSaid'. A law counts once. -/
mutual
def uptoBulk {H : Type} : DataW H → Nat
  | .lit (.string bytes) => bytes.length + 1
  | .lit _ => 1
  | .nil => 1
  | .ptr d => uptoBulk d + 1
  | .slice elems spare => uptoBulkAll elems + uptoBulkAll spare + 1
  | .agg parts => uptoBulkAll parts + 1
  | .iface _ d => uptoBulk d + 1
  | .map entries => uptoBulkEntries entries + 1
  | .held _ => 1
def uptoBulkAll {H : Type} : List (DataW H) → Nat
  | [] => 0
  | d :: r => uptoBulk d + uptoBulkAll r
def uptoBulkEntries {H : Type} : List (Lit × DataW H) → Nat
  | [] => 0
  | x :: r => uptoBulkEntry x + uptoBulkEntries r
def uptoBulkEntry {H : Type} : Lit × DataW H → Nat
  | (.string bytes, d) => bytes.length + uptoBulk d + 1
  | (_, d) => uptoBulk d + 1
 end
def uptoSmall : (H : Type) → List (DataW H) → Bool := fun _ ds => decide (uptoBulkAll ds ≤ 1048576)
def OpenSpec.upto (s : _root_.Go.ChangeSpec) : _root_.Go.OpenSpec := { _root_.Go.OpenSpec.ofChange s with cond := some uptoSmall }

/-- 'wellspringlaw06.RecordDecodes', WHERE WHAT IT READS IS OF BULK AT MOST 1048576: true; the input reads as it did. -/
def recordDecodesUptoRow : OpenClaim := { program := "ytmjahmmlllfcgaa", sum := "8d7ba09ecd289d1f6947bc3516c0dd7093ea1cad05975287dcdf215adf8c3596", func := "wellspring/wellspringlaw06.RecordDecodes", spec := "recordDecodes", inPlace := ["internal/abi.NoEscape", "internal/bytealg.MakeNoZero"], unfollowed := true, recurses := true, apart := false, narrowed := true }
def RecordDecodesUptoSaid : Prop := recordDecodesUptoRow.holds Try.pinned (OpenSpec.upto recordDecodesSpec)

/-- 'wellspringlaw06.RecordEncodes', WHERE WHAT IT READS IS OF BULK AT MOST 1048576: true; the input reads as it did. -/
def recordEncodesUptoRow : OpenClaim := { program := "ytmjahmmlllfcgaa", sum := "8d7ba09ecd289d1f6947bc3516c0dd7093ea1cad05975287dcdf215adf8c3596", func := "wellspring/wellspringlaw06.RecordEncodes", spec := "recordEncodes", inPlace := ["internal/abi.NoEscape", "internal/bytealg.MakeNoZero"], unfollowed := true, recurses := true, apart := false, narrowed := true }
def RecordEncodesUptoSaid : Prop := recordEncodesUptoRow.holds Try.pinned (OpenSpec.upto recordEncodesSpec)

/-- 'wellspringlaw06.RecordBack', WHERE WHAT IT READS IS OF BULK AT MOST 1048576: true; the input reads as it did. -/
def recordBackUptoRow : OpenClaim := { program := "ytmjahmmlllfcgaa", sum := "8d7ba09ecd289d1f6947bc3516c0dd7093ea1cad05975287dcdf215adf8c3596", func := "wellspring/wellspringlaw06.RecordBack", spec := "recordBack", inPlace := ["internal/abi.NoEscape", "internal/bytealg.MakeNoZero"], unfollowed := true, recurses := true, apart := false, narrowed := true }
def RecordBackUptoSaid : Prop := recordBackUptoRow.holds Try.pinned (OpenSpec.upto recordBackSpec)

/-- 'wellspringlaw06.RecordRow', WHERE WHAT IT READS IS OF BULK AT MOST 1048576: true; the input reads as it did. -/
def recordRowUptoRow : OpenClaim := { program := "ytmjahmmlllfcgaa", sum := "8d7ba09ecd289d1f6947bc3516c0dd7093ea1cad05975287dcdf215adf8c3596", func := "wellspring/wellspringlaw06.RecordRow", spec := "recordRow", inPlace := ["internal/abi.NoEscape", "internal/bytealg.MakeNoZero"], unfollowed := true, recurses := true, apart := false, narrowed := true }
def RecordRowUptoSaid : Prop := recordRowUptoRow.holds Try.pinned (OpenSpec.upto recordRowSpec)

/-- 'wellspringlaw06.RecordMay', WHERE WHAT IT READS IS OF BULK AT MOST 1048576: true; the input reads as it did. -/
def recordMayUptoRow : OpenClaim := { program := "ytmjahmmlllfcgaa", sum := "8d7ba09ecd289d1f6947bc3516c0dd7093ea1cad05975287dcdf215adf8c3596", func := "wellspring/wellspringlaw06.RecordMay", spec := "recordMay", inPlace := ["internal/abi.NoEscape", "internal/bytealg.MakeNoZero"], unfollowed := true, recurses := true, apart := false, narrowed := true }
def RecordMayUptoSaid : Prop := recordMayUptoRow.holds Try.pinned (OpenSpec.upto recordMaySpec)

/-- 'wellspringlaw08.MsgDecodes', WHERE WHAT IT READS IS OF BULK AT MOST 1048576: true; the input reads as it did. -/
def msgDecodesUptoRow : OpenClaim := { program := "ytmjahmmlllfcgaa", sum := "8d7ba09ecd289d1f6947bc3516c0dd7093ea1cad05975287dcdf215adf8c3596", func := "wellspring/wellspringlaw08.MsgDecodes", spec := "msgDecodes", inPlace := ["internal/abi.NoEscape", "internal/bytealg.MakeNoZero"], unfollowed := true, recurses := true, apart := false, narrowed := true }
def MsgDecodesUptoSaid : Prop := msgDecodesUptoRow.holds Try.pinned (OpenSpec.upto msgDecodesSpec)

/-- 'wellspringlaw08.MsgEncodes', WHERE WHAT IT READS IS OF BULK AT MOST 1048576: true; the input reads as it did. -/
def msgEncodesUptoRow : OpenClaim := { program := "ytmjahmmlllfcgaa", sum := "8d7ba09ecd289d1f6947bc3516c0dd7093ea1cad05975287dcdf215adf8c3596", func := "wellspring/wellspringlaw08.MsgEncodes", spec := "msgEncodes", inPlace := ["internal/abi.NoEscape", "internal/bytealg.MakeNoZero"], unfollowed := true, recurses := true, apart := false, narrowed := true }
def MsgEncodesUptoSaid : Prop := msgEncodesUptoRow.holds Try.pinned (OpenSpec.upto msgEncodesSpec)

/-- 'wellspringlaw08.MsgBack', WHERE WHAT IT READS IS OF BULK AT MOST 1048576: true; the input reads as it did. -/
def msgBackUptoRow : OpenClaim := { program := "ytmjahmmlllfcgaa", sum := "8d7ba09ecd289d1f6947bc3516c0dd7093ea1cad05975287dcdf215adf8c3596", func := "wellspring/wellspringlaw08.MsgBack", spec := "msgBack", inPlace := ["internal/abi.NoEscape", "internal/bytealg.MakeNoZero"], unfollowed := true, recurses := true, apart := false, narrowed := true }
def MsgBackUptoSaid : Prop := msgBackUptoRow.holds Try.pinned (OpenSpec.upto msgBackSpec)

/-- 'wellspringlaw08.MsgAgain', WHERE WHAT IT READS IS OF BULK AT MOST 1048576: true; the input reads as it did. -/
def msgAgainUptoRow : OpenClaim := { program := "ytmjahmmlllfcgaa", sum := "8d7ba09ecd289d1f6947bc3516c0dd7093ea1cad05975287dcdf215adf8c3596", func := "wellspring/wellspringlaw08.MsgAgain", spec := "msgAgain", inPlace := ["internal/abi.NoEscape", "internal/bytealg.MakeNoZero"], unfollowed := true, recurses := true, apart := false, narrowed := true }
def MsgAgainUptoSaid : Prop := msgAgainUptoRow.holds Try.pinned (OpenSpec.upto msgAgainSpec)

/-- 'wellspringlaw08.MsgCut', WHERE WHAT IT READS IS OF BULK AT MOST 1048576: true; the input reads as it did. -/
def msgCutUptoRow : OpenClaim := { program := "ytmjahmmlllfcgaa", sum := "8d7ba09ecd289d1f6947bc3516c0dd7093ea1cad05975287dcdf215adf8c3596", func := "wellspring/wellspringlaw08.MsgCut", spec := "msgCut", inPlace := ["internal/abi.NoEscape", "internal/bytealg.MakeNoZero"], unfollowed := true, recurses := true, apart := false, narrowed := true }
def MsgCutUptoSaid : Prop := msgCutUptoRow.holds Try.pinned (OpenSpec.upto msgCutSpec)

/-- 'wellspringlaw08.MsgHead', WHERE WHAT IT READS IS OF BULK AT MOST 1048576: true; the input reads as it did. -/
def msgHeadUptoRow : OpenClaim := { program := "ytmjahmmlllfcgaa", sum := "8d7ba09ecd289d1f6947bc3516c0dd7093ea1cad05975287dcdf215adf8c3596", func := "wellspring/wellspringlaw08.MsgHead", spec := "msgHead", inPlace := ["internal/abi.NoEscape", "internal/bytealg.MakeNoZero"], unfollowed := true, recurses := true, apart := false, narrowed := true }
def MsgHeadUptoSaid : Prop := msgHeadUptoRow.holds Try.pinned (OpenSpec.upto msgHeadSpec)

end Rows
end Go.Proofs.Ytmjahmmlllfcgaa
