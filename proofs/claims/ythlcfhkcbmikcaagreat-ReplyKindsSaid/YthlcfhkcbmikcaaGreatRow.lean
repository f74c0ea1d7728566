/- Part of a proof. -/
import Derived.Test.YthlcfhkcbmikcaaGreatLawC
import Derived.Test.YthlcfhkcbmikcaaGreatSxB
import Derived.ChangeMaps5
import Derived.Test.YthlcfhkcbmikcaaGreatRows
set_option linter.unusedSimpArgs false
set_option linter.unusedVariables false
set_option linter.unusedSectionVars false
namespace Go.Abs
open Go Go.Proofs Go.Proofs.YthlcfhkcbmikcaaGreat Go.ChangeShapes Go.ChangeMaps Go.WideShapes Go.ChangeAt Go.RowKit
theorem own : ownKnob Tryz.prog.godebug = none := by kernel_rfl
theorem ReplyKinds_sound : Sound Tryz.prog 11 (ans (lawAns [.str])) := sound_told XCC (Array.getElem?_eq_some_iff.1 Tryz.func11).1 told_law17_ReplyKinds (fun x w => law_ReplyKinds x)
set_option maxRecDepth 100000 in
theorem ReplyKinds_lifted (os : Os) (started : os.Started) (H : Type) (enc : TypeId × Value → H) :
    ReturnsInHanded {} Tryz.checked os 11 .any (YthlcfhkcbmikcaaGreat.Rows.replyKindsSpec.pre6 enc Tryz.prog Tryz.f11 YthlcfhkcbmikcaaGreat.Rows.replyKindsRow.domain false) (YthlcfhkcbmikcaaGreat.Rows.replyKindsSpec.post enc Tryz.prog Tryz.f11 false true false false) := by
  refine returnsInHanded_of_change (C := Tryz.checked) own started (by kernel_rfl) Tryz.func11
    (ChangeSpec.witness6 (enc := enc) (C := Tryz.checked) false ⟨#[], #[.string ByteArray.empty], []⟩ 8 (by kernel_rfl) (by kernel_rfl) (by kernel_rfl) (by kernel_rfl)) ?_
  intro W base args ds gs before hval hW _ _
  exact row_of_law (d := 12) (tb := 4) ReplyKinds_sound (by kernel_rfl) (by kernel_rfl) (by kernel_rfl) (by kernel_rfl) (by kernel_rfl) Tryz.underlying4 rfl
    (fun ds h => by match ds, h with | [d0], _ => exact ⟨rfl, rfl, rfl⟩) hval hW
theorem ReplyKinds_holds : YthlcfhkcbmikcaaGreat.Rows.ReplyKindsSaid :=
  OpenClaim.holds_of_wide 11 Tryz.f11 rfl rfl rfl rfl rfl rfl rfl ⟨rfl, rfl, rfl, rfl, rfl⟩ rfl rfl rfl rfl rfl (by kernel_rfl) Tryz.func11 (by kernel_rfl)
    (of_decide_eq_true (by kernel_rfl)) (by unfold Func.isWrapper; first | (rw [if_pos (by decide +kernel)]; kernel_rfl) | (rw [if_neg (by decide +kernel)]; exact ⟨rfl, rfl⟩))
    (fun os started H enc _ => ReplyKinds_lifted os started H enc)
end Go.Abs
