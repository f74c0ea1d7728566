/-
  No cell of these rows narrows 'for every input' (looked for: loops, veiled, ifaces, maps, wideKeys, modest, calm, conditions, laid).
  DERIVED. THE GIVEN ROWS OF THIS SEAT. 12 by the template 'for every input the law returns true; each argument reads behind the call as it read before'; 0 by the template 'total and deterministic' (their statements: YthlcfhkcbmikcaaGreatTotals.lean).
  GIVEN WITH THE SEED: the statements are not yours to turn. If you find one false, say at which input.
  Laid BY PROGRAM, IN A SANDBOX (cutbox-rows.mjs): the forced cells as the released guide's own fill.sh prints them over the translation 1fc54ee0fe3b4eb3… (all of the seat's roots in one cut). By AI agents, Wed Nov 11 2026. No macro, syntax, notation, axiom, sorry.
-/
import Derived.Test.YthlcfhkcbmikcaaGreatChecked
import GoSem.Claim
import GoSem.ClaimJoined
import GoSem.ClaimMapViews
import Derived.JoinedTies
import Derived.KernelRfl
namespace Go.Proofs.YthlcfhkcbmikcaaGreat
/- THE CELL 'sum', in the pinned program and in every row, IS THE sha256 OF THE DUMP (.gsa) THAT YthlcfhkcbmikcaaGreatProg.lean LOADS. Nothing in Lean hashes anything: it is a label: what it is worth is what the hold of that sum in a sandbox is worth. -/
noncomputable def Tryz.pinned : Pinned := { name := "ythlcfhkcbmikcaagreat", sum := "1fc54ee0fe3b4eb3d153c78b598b86e762d5cb333217fc8709784482bb0b6767", checked := Tryz.checked }
namespace Rows
def none {H : Type} : Left H := { results := [], args := [] }

/-- 'wellspringlaw19.PatchFits': WHATEVER THE INPUT: true; the input reads as it did. -/
def patchFitsSpec : ChangeSpec := { name := "patchFits", fn := fun _ => fun
  | [d1, d2, d3] => { results := [.lit (.bool true)], args := [d1, d2, d3] }
  | _ => none }
def patchFitsRow : OpenClaim := { program := "ythlcfhkcbmikcaagreat", sum := "1fc54ee0fe3b4eb3d153c78b598b86e762d5cb333217fc8709784482bb0b6767", func := "wellspring/wellspringlaw19.PatchFits", spec := "patchFits", inPlace := ["internal/abi.NoEscape", "internal/bytealg.MakeNoZero"], unfollowed := true, recurses := true, apart := false }
def PatchFitsSaid : Prop := patchFitsRow.holds Tryz.pinned (OpenSpec.ofChange patchFitsSpec)

/-- ITS FALSE NEIGHBOUR: 'it returns false'. Refute it at one input. -/
def patchFitsWrong : ChangeSpec := { name := "patchFits", fn := fun _ => fun
  | [d1, d2, d3] => { results := [.lit (.bool false)], args := [d1, d2, d3] }
  | _ => none }
def PatchFitsWrongFalsely : Prop := patchFitsRow.holds Tryz.pinned (OpenSpec.ofChange patchFitsWrong)

/-- 'wellspringlaw19.PatchSpeaks': WHATEVER THE INPUT: true; the input reads as it did. -/
def patchSpeaksSpec : ChangeSpec := { name := "patchSpeaks", fn := fun _ => fun
  | [d1, d2, d3] => { results := [.lit (.bool true)], args := [d1, d2, d3] }
  | _ => none }
def patchSpeaksRow : OpenClaim := { program := "ythlcfhkcbmikcaagreat", sum := "1fc54ee0fe3b4eb3d153c78b598b86e762d5cb333217fc8709784482bb0b6767", func := "wellspring/wellspringlaw19.PatchSpeaks", spec := "patchSpeaks", inPlace := ["internal/abi.NoEscape", "internal/bytealg.MakeNoZero"], unfollowed := true, recurses := true, apart := false }
def PatchSpeaksSaid : Prop := patchSpeaksRow.holds Tryz.pinned (OpenSpec.ofChange patchSpeaksSpec)

/-- ITS FALSE NEIGHBOUR: 'it returns false'. Refute it at one input. -/
def patchSpeaksWrong : ChangeSpec := { name := "patchSpeaks", fn := fun _ => fun
  | [d1, d2, d3] => { results := [.lit (.bool false)], args := [d1, d2, d3] }
  | _ => none }
def PatchSpeaksWrongFalsely : Prop := patchSpeaksRow.holds Tryz.pinned (OpenSpec.ofChange patchSpeaksWrong)

/-- 'wellspringlaw19.PatchMore': WHATEVER THE INPUT: true; the input reads as it did. -/
def patchMoreSpec : ChangeSpec := { name := "patchMore", fn := fun _ => fun
  | [d1, d2, d3] => { results := [.lit (.bool true)], args := [d1, d2, d3] }
  | _ => none }
def patchMoreRow : OpenClaim := { program := "ythlcfhkcbmikcaagreat", sum := "1fc54ee0fe3b4eb3d153c78b598b86e762d5cb333217fc8709784482bb0b6767", func := "wellspring/wellspringlaw19.PatchMore", spec := "patchMore", inPlace := ["internal/abi.NoEscape", "internal/bytealg.MakeNoZero"], unfollowed := true, recurses := true, apart := false }
def PatchMoreSaid : Prop := patchMoreRow.holds Tryz.pinned (OpenSpec.ofChange patchMoreSpec)

/-- ITS FALSE NEIGHBOUR: 'it returns false'. Refute it at one input. -/
def patchMoreWrong : ChangeSpec := { name := "patchMore", fn := fun _ => fun
  | [d1, d2, d3] => { results := [.lit (.bool false)], args := [d1, d2, d3] }
  | _ => none }
def PatchMoreWrongFalsely : Prop := patchMoreRow.holds Tryz.pinned (OpenSpec.ofChange patchMoreWrong)

/-- 'wellspringlaw19.PatchOther': WHATEVER THE INPUT: true; the input reads as it did. -/
def patchOtherSpec : ChangeSpec := { name := "patchOther", fn := fun _ => fun
  | [d1, d2, d3] => { results := [.lit (.bool true)], args := [d1, d2, d3] }
  | _ => none }
def patchOtherRow : OpenClaim := { program := "ythlcfhkcbmikcaagreat", sum := "1fc54ee0fe3b4eb3d153c78b598b86e762d5cb333217fc8709784482bb0b6767", func := "wellspring/wellspringlaw19.PatchOther", spec := "patchOther", inPlace := ["internal/abi.NoEscape", "internal/bytealg.MakeNoZero"], unfollowed := true, recurses := true, apart := false }
def PatchOtherSaid : Prop := patchOtherRow.holds Tryz.pinned (OpenSpec.ofChange patchOtherSpec)

/-- ITS FALSE NEIGHBOUR: 'it returns false'. Refute it at one input. -/
def patchOtherWrong : ChangeSpec := { name := "patchOther", fn := fun _ => fun
  | [d1, d2, d3] => { results := [.lit (.bool false)], args := [d1, d2, d3] }
  | _ => none }
def PatchOtherWrongFalsely : Prop := patchOtherRow.holds Tryz.pinned (OpenSpec.ofChange patchOtherWrong)

/-- 'wellspringlaw17.ReplyReads': WHATEVER THE INPUT: true; the input reads as it did. -/
def replyReadsSpec : ChangeSpec := { name := "replyReads", fn := fun _ => fun
  | [d] => { results := [.lit (.bool true)], args := [d] }
  | _ => none }
def replyReadsRow : OpenClaim := { program := "ythlcfhkcbmikcaagreat", sum := "1fc54ee0fe3b4eb3d153c78b598b86e762d5cb333217fc8709784482bb0b6767", func := "wellspring/wellspringlaw17.ReplyReads", spec := "replyReads", inPlace := ["internal/abi.NoEscape", "internal/bytealg.MakeNoZero"], unfollowed := true, recurses := true, apart := false }
def ReplyReadsSaid : Prop := replyReadsRow.holds Tryz.pinned (OpenSpec.ofChange replyReadsSpec)

/-- ITS FALSE NEIGHBOUR: 'it returns false'. Refute it at one input. -/
def replyReadsWrong : ChangeSpec := { name := "replyReads", fn := fun _ => fun
  | [d] => { results := [.lit (.bool false)], args := [d] }
  | _ => none }
def ReplyReadsWrongFalsely : Prop := replyReadsRow.holds Tryz.pinned (OpenSpec.ofChange replyReadsWrong)

/-- 'wellspringlaw17.ReplyFits': WHATEVER THE INPUT: true; the input reads as it did. -/
def replyFitsSpec : ChangeSpec := { name := "replyFits", fn := fun _ => fun
  | [d1, d2, d3] => { results := [.lit (.bool true)], args := [d1, d2, d3] }
  | _ => none }
def replyFitsRow : OpenClaim := { program := "ythlcfhkcbmikcaagreat", sum := "1fc54ee0fe3b4eb3d153c78b598b86e762d5cb333217fc8709784482bb0b6767", func := "wellspring/wellspringlaw17.ReplyFits", spec := "replyFits", inPlace := ["internal/abi.NoEscape", "internal/bytealg.MakeNoZero"], unfollowed := true, recurses := true, apart := false }
def ReplyFitsSaid : Prop := replyFitsRow.holds Tryz.pinned (OpenSpec.ofChange replyFitsSpec)

/-- ITS FALSE NEIGHBOUR: 'it returns false'. Refute it at one input. -/
def replyFitsWrong : ChangeSpec := { name := "replyFits", fn := fun _ => fun
  | [d1, d2, d3] => { results := [.lit (.bool false)], args := [d1, d2, d3] }
  | _ => none }
def ReplyFitsWrongFalsely : Prop := replyFitsRow.holds Tryz.pinned (OpenSpec.ofChange replyFitsWrong)

/-- 'wellspringlaw17.ReplyRefuses': WHATEVER THE INPUT: true; the input reads as it did. -/
def replyRefusesSpec : ChangeSpec := { name := "replyRefuses", fn := fun _ => fun
  | [d1, d2] => { results := [.lit (.bool true)], args := [d1, d2] }
  | _ => none }
def replyRefusesRow : OpenClaim := { program := "ythlcfhkcbmikcaagreat", sum := "1fc54ee0fe3b4eb3d153c78b598b86e762d5cb333217fc8709784482bb0b6767", func := "wellspring/wellspringlaw17.ReplyRefuses", spec := "replyRefuses", inPlace := ["internal/abi.NoEscape", "internal/bytealg.MakeNoZero"], unfollowed := true, recurses := true, apart := false }
def ReplyRefusesSaid : Prop := replyRefusesRow.holds Tryz.pinned (OpenSpec.ofChange replyRefusesSpec)

/-- ITS FALSE NEIGHBOUR: 'it returns false'. Refute it at one input. -/
def replyRefusesWrong : ChangeSpec := { name := "replyRefuses", fn := fun _ => fun
  | [d1, d2] => { results := [.lit (.bool false)], args := [d1, d2] }
  | _ => none }
def ReplyRefusesWrongFalsely : Prop := replyRefusesRow.holds Tryz.pinned (OpenSpec.ofChange replyRefusesWrong)

/-- 'wellspringlaw17.ReplyEchoes': WHATEVER THE INPUT: true; the input reads as it did. -/
def replyEchoesSpec : ChangeSpec := { name := "replyEchoes", fn := fun _ => fun
  | [d1, d2] => { results := [.lit (.bool true)], args := [d1, d2] }
  | _ => none }
def replyEchoesRow : OpenClaim := { program := "ythlcfhkcbmikcaagreat", sum := "1fc54ee0fe3b4eb3d153c78b598b86e762d5cb333217fc8709784482bb0b6767", func := "wellspring/wellspringlaw17.ReplyEchoes", spec := "replyEchoes", inPlace := ["internal/abi.NoEscape", "internal/bytealg.MakeNoZero"], unfollowed := true, recurses := true, apart := false }
def ReplyEchoesSaid : Prop := replyEchoesRow.holds Tryz.pinned (OpenSpec.ofChange replyEchoesSpec)

/-- ITS FALSE NEIGHBOUR: 'it returns false'. Refute it at one input. -/
def replyEchoesWrong : ChangeSpec := { name := "replyEchoes", fn := fun _ => fun
  | [d1, d2] => { results := [.lit (.bool false)], args := [d1, d2] }
  | _ => none }
def ReplyEchoesWrongFalsely : Prop := replyEchoesRow.holds Tryz.pinned (OpenSpec.ofChange replyEchoesWrong)

/-- 'wellspringlaw17.ReplyKinds': WHATEVER THE INPUT: true; the input reads as it did. -/
def replyKindsSpec : ChangeSpec := { name := "replyKinds", fn := fun _ => fun
  | [d] => { results := [.lit (.bool true)], args := [d] }
  | _ => none }
def replyKindsRow : OpenClaim := { program := "ythlcfhkcbmikcaagreat", sum := "1fc54ee0fe3b4eb3d153c78b598b86e762d5cb333217fc8709784482bb0b6767", func := "wellspring/wellspringlaw17.ReplyKinds", spec := "replyKinds", inPlace := ["internal/abi.NoEscape", "internal/bytealg.MakeNoZero"], unfollowed := true, recurses := true, apart := false }
def ReplyKindsSaid : Prop := replyKindsRow.holds Tryz.pinned (OpenSpec.ofChange replyKindsSpec)

/-- ITS FALSE NEIGHBOUR: 'it returns false'. Refute it at one input. -/
def replyKindsWrong : ChangeSpec := { name := "replyKinds", fn := fun _ => fun
  | [d] => { results := [.lit (.bool false)], args := [d] }
  | _ => none }
def ReplyKindsWrongFalsely : Prop := replyKindsRow.holds Tryz.pinned (OpenSpec.ofChange replyKindsWrong)

/-- 'wellspringlaw17.ReplyMore': WHATEVER THE INPUT: true; the input reads as it did. -/
def replyMoreSpec : ChangeSpec := { name := "replyMore", fn := fun _ => fun
  | [d1, d2, d3] => { results := [.lit (.bool true)], args := [d1, d2, d3] }
  | _ => none }
def replyMoreRow : OpenClaim := { program := "ythlcfhkcbmikcaagreat", sum := "1fc54ee0fe3b4eb3d153c78b598b86e762d5cb333217fc8709784482bb0b6767", func := "wellspring/wellspringlaw17.ReplyMore", spec := "replyMore", inPlace := ["internal/abi.NoEscape", "internal/bytealg.MakeNoZero"], unfollowed := true, recurses := true, apart := false }
def ReplyMoreSaid : Prop := replyMoreRow.holds Tryz.pinned (OpenSpec.ofChange replyMoreSpec)

/-- ITS FALSE NEIGHBOUR: 'it returns false'. Refute it at one input. -/
def replyMoreWrong : ChangeSpec := { name := "replyMore", fn := fun _ => fun
  | [d1, d2, d3] => { results := [.lit (.bool false)], args := [d1, d2, d3] }
  | _ => none }
def ReplyMoreWrongFalsely : Prop := replyMoreRow.holds Tryz.pinned (OpenSpec.ofChange replyMoreWrong)

/-- 'wellspringlaw17.ReplyServ': WHATEVER THE INPUT: true; the input reads as it did. -/
def replyServSpec : ChangeSpec := { name := "replyServ", fn := fun _ => fun
  | [d1, d2, d3] => { results := [.lit (.bool true)], args := [d1, d2, d3] }
  | _ => none }
def replyServRow : OpenClaim := { program := "ythlcfhkcbmikcaagreat", sum := "1fc54ee0fe3b4eb3d153c78b598b86e762d5cb333217fc8709784482bb0b6767", func := "wellspring/wellspringlaw17.ReplyServ", spec := "replyServ", inPlace := ["internal/abi.NoEscape", "internal/bytealg.MakeNoZero"], unfollowed := true, recurses := true, apart := false }
def ReplyServSaid : Prop := replyServRow.holds Tryz.pinned (OpenSpec.ofChange replyServSpec)

/-- ITS FALSE NEIGHBOUR: 'it returns false'. Refute it at one input. -/
def replyServWrong : ChangeSpec := { name := "replyServ", fn := fun _ => fun
  | [d1, d2, d3] => { results := [.lit (.bool false)], args := [d1, d2, d3] }
  | _ => none }
def ReplyServWrongFalsely : Prop := replyServRow.holds Tryz.pinned (OpenSpec.ofChange replyServWrong)

/-- 'wellspringlaw19.PatchBuilt': WHATEVER THE INPUT: true; the input reads as it did. -/
def patchBuiltSpec : ChangeSpec := { name := "patchBuilt", fn := fun _ => fun
  | [d1, d2, d3] => { results := [.lit (.bool true)], args := [d1, d2, d3] }
  | _ => none }
def patchBuiltRow : OpenClaim := { program := "ythlcfhkcbmikcaagreat", sum := "1fc54ee0fe3b4eb3d153c78b598b86e762d5cb333217fc8709784482bb0b6767", func := "wellspring/wellspringlaw19.PatchBuilt", spec := "patchBuilt", inPlace := ["internal/abi.NoEscape", "internal/bytealg.MakeNoZero"], unfollowed := true, recurses := true, apart := false }
def PatchBuiltSaid : Prop := patchBuiltRow.holds Tryz.pinned (OpenSpec.ofChange patchBuiltSpec)

/-- ITS FALSE NEIGHBOUR: 'it returns false'. Refute it at one input. -/
def patchBuiltWrong : ChangeSpec := { name := "patchBuilt", fn := fun _ => fun
  | [d1, d2, d3] => { results := [.lit (.bool false)], args := [d1, d2, d3] }
  | _ => none }
def PatchBuiltWrongFalsely : Prop := patchBuiltRow.holds Tryz.pinned (OpenSpec.ofChange patchBuiltWrong)

/- THE SECOND FORM. 'bulk': how many values and letters a reading holds, each counted each time it is reached (what is shared counts as often as it is met; a slice's spare places count too). A statement '..UptoSaid' is the law's where the arguments, and the package variables that the reading takes, are together of bulk at most 1048576: NARROWER than '..Said'. Prove '..Said' where nothing that the law and all that it calls make is longer than what came in: it says more and counts as full. Else prove '..UptoSaid'. A law counts once. -/
mutual
def uptoBulk {H : Type} : DataW H → Nat
  | .lit (.string bytes) => bytes.length + 1
  | .lit _ => 1
  | .nil => 1
  | .ptr d => uptoBulk d + 1
  | .slice elems spare => uptoBulkAll elems + uptoBulkAll spare + 1
  | .agg parts => uptoBulkAll parts + 1
  | .iface _ d => uptoBulk d + 1
  | .map entries => uptoBulkEntries entries + 1
  | .held _ => 1
def uptoBulkAll {H : Type} : List (DataW H) → Nat
  | [] => 0
  | d :: r => uptoBulk d + uptoBulkAll r
def uptoBulkEntries {H : Type} : List (Lit × DataW H) → Nat
  | [] => 0
  | x :: r => uptoBulkEntry x + uptoBulkEntries r
def uptoBulkEntry {H : Type} : Lit × DataW H → Nat
  | (.string bytes, d) => bytes.length + uptoBulk d + 1
  | (_, d) => uptoBulk d + 1
 end
def uptoSmall : (H : Type) → List (DataW H) → Bool := fun _ ds => decide (uptoBulkAll ds ≤ 1048576)
def OpenSpec.upto (s : _root_.Go.ChangeSpec) : _root_.Go.OpenSpec := { _root_.Go.OpenSpec.ofChange s with cond := some uptoSmall }

/-- 'wellspringlaw19.PatchFits', WHERE WHAT IT READS IS OF BULK AT MOST 1048576: true; the input reads as it did. -/
def patchFitsUptoRow : OpenClaim := { program := "ythlcfhkcbmikcaagreat", sum := "1fc54ee0fe3b4eb3d153c78b598b86e762d5cb333217fc8709784482bb0b6767", func := "wellspring/wellspringlaw19.PatchFits", spec := "patchFits", inPlace := ["internal/abi.NoEscape", "internal/bytealg.MakeNoZero"], unfollowed := true, recurses := true, apart := false, narrowed := true }
def PatchFitsUptoSaid : Prop := patchFitsUptoRow.holds Tryz.pinned (OpenSpec.upto patchFitsSpec)

/-- 'wellspringlaw19.PatchSpeaks', WHERE WHAT IT READS IS OF BULK AT MOST 1048576: true; the input reads as it did. -/
def patchSpeaksUptoRow : OpenClaim := { program := "ythlcfhkcbmikcaagreat", sum := "1fc54ee0fe3b4eb3d153c78b598b86e762d5cb333217fc8709784482bb0b6767", func := "wellspring/wellspringlaw19.PatchSpeaks", spec := "patchSpeaks", inPlace := ["internal/abi.NoEscape", "internal/bytealg.MakeNoZero"], unfollowed := true, recurses := true, apart := false, narrowed := true }
def PatchSpeaksUptoSaid : Prop := patchSpeaksUptoRow.holds Tryz.pinned (OpenSpec.upto patchSpeaksSpec)

/-- 'wellspringlaw19.PatchMore', WHERE WHAT IT READS IS OF BULK AT MOST 1048576: true; the input reads as it did. -/
def patchMoreUptoRow : OpenClaim := { program := "ythlcfhkcbmikcaagreat", sum := "1fc54ee0fe3b4eb3d153c78b598b86e762d5cb333217fc8709784482bb0b6767", func := "wellspring/wellspringlaw19.PatchMore", spec := "patchMore", inPlace := ["internal/abi.NoEscape", "internal/bytealg.MakeNoZero"], unfollowed := true, recurses := true, apart := false, narrowed := true }
def PatchMoreUptoSaid : Prop := patchMoreUptoRow.holds Tryz.pinned (OpenSpec.upto patchMoreSpec)

/-- 'wellspringlaw19.PatchOther', WHERE WHAT IT READS IS OF BULK AT MOST 1048576: true; the input reads as it did. -/
def patchOtherUptoRow : OpenClaim := { program := "ythlcfhkcbmikcaagreat", sum := "1fc54ee0fe3b4eb3d153c78b598b86e762d5cb333217fc8709784482bb0b6767", func := "wellspring/wellspringlaw19.PatchOther", spec := "patchOther", inPlace := ["internal/abi.NoEscape", "internal/bytealg.MakeNoZero"], unfollowed := true, recurses := true, apart := false, narrowed := true }
def PatchOtherUptoSaid : Prop := patchOtherUptoRow.holds Tryz.pinned (OpenSpec.upto patchOtherSpec)

/-- 'wellspringlaw17.ReplyReads', WHERE WHAT IT READS IS OF BULK AT MOST 1048576: true; the input reads as it did. -/
def replyReadsUptoRow : OpenClaim := { program := "ythlcfhkcbmikcaagreat", sum := "1fc54ee0fe3b4eb3d153c78b598b86e762d5cb333217fc8709784482bb0b6767", func := "wellspring/wellspringlaw17.ReplyReads", spec := "replyReads", inPlace := ["internal/abi.NoEscape", "internal/bytealg.MakeNoZero"], unfollowed := true, recurses := true, apart := false, narrowed := true }
def ReplyReadsUptoSaid : Prop := replyReadsUptoRow.holds Tryz.pinned (OpenSpec.upto replyReadsSpec)

/-- 'wellspringlaw17.ReplyFits', WHERE WHAT IT READS IS OF BULK AT MOST 1048576: true; the input reads as it did. -/
def replyFitsUptoRow : OpenClaim := { program := "ythlcfhkcbmikcaagreat", sum := "1fc54ee0fe3b4eb3d153c78b598b86e762d5cb333217fc8709784482bb0b6767", func := "wellspring/wellspringlaw17.ReplyFits", spec := "replyFits", inPlace := ["internal/abi.NoEscape", "internal/bytealg.MakeNoZero"], unfollowed := true, recurses := true, apart := false, narrowed := true }
def ReplyFitsUptoSaid : Prop := replyFitsUptoRow.holds Tryz.pinned (OpenSpec.upto replyFitsSpec)

/-- 'wellspringlaw17.ReplyRefuses', WHERE WHAT IT READS IS OF BULK AT MOST 1048576: true; the input reads as it did. -/
def replyRefusesUptoRow : OpenClaim := { program := "ythlcfhkcbmikcaagreat", sum := "1fc54ee0fe3b4eb3d153c78b598b86e762d5cb333217fc8709784482bb0b6767", func := "wellspring/wellspringlaw17.ReplyRefuses", spec := "replyRefuses", inPlace := ["internal/abi.NoEscape", "internal/bytealg.MakeNoZero"], unfollowed := true, recurses := true, apart := false, narrowed := true }
def ReplyRefusesUptoSaid : Prop := replyRefusesUptoRow.holds Tryz.pinned (OpenSpec.upto replyRefusesSpec)

/-- 'wellspringlaw17.ReplyEchoes', WHERE WHAT IT READS IS OF BULK AT MOST 1048576: true; the input reads as it did. -/
def replyEchoesUptoRow : OpenClaim := { program := "ythlcfhkcbmikcaagreat", sum := "1fc54ee0fe3b4eb3d153c78b598b86e762d5cb333217fc8709784482bb0b6767", func := "wellspring/wellspringlaw17.ReplyEchoes", spec := "replyEchoes", inPlace := ["internal/abi.NoEscape", "internal/bytealg.MakeNoZero"], unfollowed := true, recurses := true, apart := false, narrowed := true }
def ReplyEchoesUptoSaid : Prop := replyEchoesUptoRow.holds Tryz.pinned (OpenSpec.upto replyEchoesSpec)

/-- 'wellspringlaw17.ReplyKinds', WHERE WHAT IT READS IS OF BULK AT MOST 1048576: true; the input reads as it did. -/
def replyKindsUptoRow : OpenClaim := { program := "ythlcfhkcbmikcaagreat", sum := "1fc54ee0fe3b4eb3d153c78b598b86e762d5cb333217fc8709784482bb0b6767", func := "wellspring/wellspringlaw17.ReplyKinds", spec := "replyKinds", inPlace := ["internal/abi.NoEscape", "internal/bytealg.MakeNoZero"], unfollowed := true, recurses := true, apart := false, narrowed := true }
def ReplyKindsUptoSaid : Prop := replyKindsUptoRow.holds Tryz.pinned (OpenSpec.upto replyKindsSpec)

/-- 'wellspringlaw17.ReplyMore', WHERE WHAT IT READS IS OF BULK AT MOST 1048576: true; the input reads as it did. -/
def replyMoreUptoRow : OpenClaim := { program := "ythlcfhkcbmikcaagreat", sum := "1fc54ee0fe3b4eb3d153c78b598b86e762d5cb333217fc8709784482bb0b6767", func := "wellspring/wellspringlaw17.ReplyMore", spec := "replyMore", inPlace := ["internal/abi.NoEscape", "internal/bytealg.MakeNoZero"], unfollowed := true, recurses := true, apart := false, narrowed := true }
def ReplyMoreUptoSaid : Prop := replyMoreUptoRow.holds Tryz.pinned (OpenSpec.upto replyMoreSpec)

/-- 'wellspringlaw17.ReplyServ', WHERE WHAT IT READS IS OF BULK AT MOST 1048576: true; the input reads as it did. -/
def replyServUptoRow : OpenClaim := { program := "ythlcfhkcbmikcaagreat", sum := "1fc54ee0fe3b4eb3d153c78b598b86e762d5cb333217fc8709784482bb0b6767", func := "wellspring/wellspringlaw17.ReplyServ", spec := "replyServ", inPlace := ["internal/abi.NoEscape", "internal/bytealg.MakeNoZero"], unfollowed := true, recurses := true, apart := false, narrowed := true }
def ReplyServUptoSaid : Prop := replyServUptoRow.holds Tryz.pinned (OpenSpec.upto replyServSpec)

/-- 'wellspringlaw19.PatchBuilt', WHERE WHAT IT READS IS OF BULK AT MOST 1048576: true; the input reads as it did. -/
def patchBuiltUptoRow : OpenClaim := { program := "ythlcfhkcbmikcaagreat", sum := "1fc54ee0fe3b4eb3d153c78b598b86e762d5cb333217fc8709784482bb0b6767", func := "wellspring/wellspringlaw19.PatchBuilt", spec := "patchBuilt", inPlace := ["internal/abi.NoEscape", "internal/bytealg.MakeNoZero"], unfollowed := true, recurses := true, apart := false, narrowed := true }
def PatchBuiltUptoSaid : Prop := patchBuiltUptoRow.holds Tryz.pinned (OpenSpec.upto patchBuiltSpec)

end Rows
end Go.Proofs.YthlcfhkcbmikcaaGreat
