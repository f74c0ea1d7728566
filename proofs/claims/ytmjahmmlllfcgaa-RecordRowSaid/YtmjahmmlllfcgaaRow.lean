/- Part of a proof: a machine of plain data, and what the functions come to on it. -/
import Derived.Test.YtmjahmmlllfcgaaLaw
import Derived.Test.YtmjahmmlllfcgaaSxB
import Derived.ChangeMaps5
import Derived.Test.YtmjahmmlllfcgaaRows
set_option linter.unusedSimpArgs false
set_option linter.unusedVariables false
set_option linter.unusedSectionVars false
/- the row of RecordRow -/
namespace Go.Abs
open Go Go.Proofs Go.Proofs.Ytmjahmmlllfcgaa Go.ChangeShapes Go.ChangeMaps Go.WideShapes Go.ChangeAt Go.RowKit

theorem own : ownKnob Try.prog.godebug = none := by kernel_rfl

theorem RecordRow_sound : Sound Try.prog 6 (ans (lawAns [.str, .list (.agg (.cons .str (.cons (.int .i64) (.cons (.int .i64) (.cons (.int .i64) .str)))))])) := sound_told XCC told_law06_RecordRow (fun x w => law_RecordRow x.1 x.2)

set_option maxRecDepth 100000 in
theorem RecordRow_lifted (os : Os) (started : os.Started) (H : Type) (enc : TypeId × Value → H) :
    ReturnsInHanded {} Try.checked os 6 .any (Ytmjahmmlllfcgaa.Rows.recordRowSpec.pre6 enc Try.prog Try.f6 Ytmjahmmlllfcgaa.Rows.recordRowRow.domain false) (Ytmjahmmlllfcgaa.Rows.recordRowSpec.post enc Try.prog Try.f6 false true false false) := by
  refine returnsInHanded_of_change (C := Try.checked) own started (by kernel_rfl) Try.func6
    (ChangeSpec.witness6 (enc := enc) (C := Try.checked) false ⟨#[], #[.string ByteArray.empty, .slice none 0 0], []⟩ 8 (by kernel_rfl) (by kernel_rfl) (by kernel_rfl) (by kernel_rfl)) ?_
  intro W base args ds gs before hval hW _ _
  exact row_of_law (d := 12) (tb := 4) RecordRow_sound (by kernel_rfl) (by kernel_rfl) (by kernel_rfl) (by kernel_rfl) (by kernel_rfl) Try.underlying4 rfl
    (fun ds h => by match ds, h with | [d0, d1], _ => exact ⟨rfl, rfl, rfl⟩) hval hW

theorem RecordRow_holds : Ytmjahmmlllfcgaa.Rows.RecordRowSaid :=
  OpenClaim.holds_of_wide 6 Try.f6 rfl rfl rfl rfl rfl rfl rfl ⟨rfl, rfl, rfl, rfl, rfl⟩ rfl rfl rfl rfl rfl (by kernel_rfl) Try.func6 (by kernel_rfl)
    (of_decide_eq_true (by kernel_rfl)) (by unfold Func.isWrapper; first | (rw [if_pos (by decide +kernel)]; kernel_rfl) | (rw [if_neg (by decide +kernel)]; exact ⟨rfl, rfl⟩))
    (fun os started H enc _ => RecordRow_lifted os started H enc)

end Go.Abs
