/- Part of a proof: a machine of plain data, and what the functions come to on it. -/
import Derived.Test.YtmjahmmlllfcgaaLawB
import Derived.Test.YtmjahmmlllfcgaaSxB
import Derived.ChangeMaps5
import Derived.Test.YtmjahmmlllfcgaaRows
set_option linter.unusedSimpArgs false
set_option linter.unusedVariables false
set_option linter.unusedSectionVars false
/- the row of MsgAgain -/
namespace Go.Abs
open Go Go.Proofs Go.Proofs.Ytmjahmmlllfcgaa Go.ChangeShapes Go.ChangeMaps Go.WideShapes Go.ChangeAt Go.RowKit

theorem own : ownKnob Try.prog.godebug = none := by kernel_rfl

theorem MsgAgain_sound : Sound Try.prog 11 (ans (lawAns [.str])) := sound_told XCC told_law08_MsgAgain (fun x w => law_MsgAgain x)

set_option maxRecDepth 100000 in
theorem MsgAgain_lifted (os : Os) (started : os.Started) (H : Type) (enc : TypeId × Value → H) :
    ReturnsInHanded {} Try.checked os 11 .any (Ytmjahmmlllfcgaa.Rows.msgAgainSpec.pre6 enc Try.prog Try.f11 Ytmjahmmlllfcgaa.Rows.msgAgainRow.domain false) (Ytmjahmmlllfcgaa.Rows.msgAgainSpec.post enc Try.prog Try.f11 false true false false) := by
  refine returnsInHanded_of_change (C := Try.checked) own started (by kernel_rfl) Try.func11
    (ChangeSpec.witness6 (enc := enc) (C := Try.checked) false ⟨#[], #[.string ByteArray.empty], []⟩ 8 (by kernel_rfl) (by kernel_rfl) (by kernel_rfl) (by kernel_rfl)) ?_
  intro W base args ds gs before hval hW _ _
  exact row_of_law (d := 12) (tb := 4) MsgAgain_sound (by kernel_rfl) (by kernel_rfl) (by kernel_rfl) (by kernel_rfl) (by kernel_rfl) Try.underlying4 rfl
    (fun ds h => by match ds, h with | [d0], _ => exact ⟨rfl, rfl, rfl⟩) hval hW

theorem MsgAgain_holds : Ytmjahmmlllfcgaa.Rows.MsgAgainSaid :=
  OpenClaim.holds_of_wide 11 Try.f11 rfl rfl rfl rfl rfl rfl rfl ⟨rfl, rfl, rfl, rfl, rfl⟩ rfl rfl rfl rfl rfl (by kernel_rfl) Try.func11 (by kernel_rfl)
    (of_decide_eq_true (by kernel_rfl)) (by unfold Func.isWrapper; first | (rw [if_pos (by decide +kernel)]; kernel_rfl) | (rw [if_neg (by decide +kernel)]; exact ⟨rfl, rfl⟩))
    (fun os started H enc _ => MsgAgain_lifted os started H enc)

end Go.Abs
