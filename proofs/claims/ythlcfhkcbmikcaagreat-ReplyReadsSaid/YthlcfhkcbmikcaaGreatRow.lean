/- Part of a proof. -/
import Derived.Test.YthlcfhkcbmikcaaGreatLawC
import Derived.Test.YthlcfhkcbmikcaaGreatSxB
import Derived.ChangeMaps5
import Derived.Test.YthlcfhkcbmikcaaGreatRows
set_option linter.unusedSimpArgs false
set_option linter.unusedVariables false
set_option linter.unusedSectionVars false
namespace Go.Abs
open Go Go.Proofs Go.Proofs.YthlcfhkcbmikcaaGreat Go.ChangeShapes Go.ChangeMaps Go.WideShapes Go.ChangeAt Go.RowKit
theorem own : ownKnob Tryz.prog.godebug = none := by kernel_rfl
theorem ReplyReads_sound : Sound Tryz.prog 7 (ans (lawAns [.str])) := sound_told XCC (Array.getElem?_eq_some_iff.1 Tryz.func7).1 told_law17_ReplyReads (fun x w => law_ReplyReads x)
set_option maxRecDepth 100000 in
theorem ReplyReads_lifted (os : Os) (started : os.Started) (H : Type) (enc : TypeId × Value → H) :
    ReturnsInHanded {} Tryz.checked os 7 .any (YthlcfhkcbmikcaaGreat.Rows.replyReadsSpec.pre6 enc Tryz.prog Tryz.f7 YthlcfhkcbmikcaaGreat.Rows.replyReadsRow.domain false) (YthlcfhkcbmikcaaGreat.Rows.replyReadsSpec.post enc Tryz.prog Tryz.f7 false true false false) := by
  refine returnsInHanded_of_change (C := Tryz.checked) own started (by kernel_rfl) Tryz.func7
    (ChangeSpec.witness6 (enc := enc) (C := Tryz.checked) false ⟨#[], #[.string ByteArray.empty], []⟩ 8 (by kernel_rfl) (by kernel_rfl) (by kernel_rfl) (by kernel_rfl)) ?_
  intro W base args ds gs before hval hW _ _
  exact row_of_law (d := 12) (tb := 4) ReplyReads_sound (by kernel_rfl) (by kernel_rfl) (by kernel_rfl) (by kernel_rfl) (by kernel_rfl) Tryz.underlying4 rfl
    (fun ds h => by match ds, h with | [d0], _ => exact ⟨rfl, rfl, rfl⟩) hval hW
theorem ReplyReads_holds : YthlcfhkcbmikcaaGreat.Rows.ReplyReadsSaid :=
  OpenClaim.holds_of_wide 7 Tryz.f7 rfl rfl rfl rfl rfl rfl rfl ⟨rfl, rfl, rfl, rfl, rfl⟩ rfl rfl rfl rfl rfl (by kernel_rfl) Tryz.func7 (by kernel_rfl)
    (of_decide_eq_true (by kernel_rfl)) (by unfold Func.isWrapper; first | (rw [if_pos (by decide +kernel)]; kernel_rfl) | (rw [if_neg (by decide +kernel)]; exact ⟨rfl, rfl⟩))
    (fun os started H enc _ => ReplyReads_lifted os started H enc)
end Go.Abs
