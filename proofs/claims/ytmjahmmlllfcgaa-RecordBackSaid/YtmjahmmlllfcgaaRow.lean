/- Part of a proof: a machine of plain data, and what the functions come to on it. -/
import Derived.Test.YtmjahmmlllfcgaaLaw
import Derived.Test.YtmjahmmlllfcgaaSxB
import Derived.ChangeMaps5
import Derived.Test.YtmjahmmlllfcgaaRows
set_option linter.unusedSimpArgs false
set_option linter.unusedVariables false
set_option linter.unusedSectionVars false
/- the row of RecordBack -/
namespace Go.Abs
open Go Go.Proofs Go.Proofs.Ytmjahmmlllfcgaa Go.ChangeShapes Go.ChangeMaps Go.WideShapes Go.ChangeAt Go.RowKit

theorem own : ownKnob Try.prog.godebug = none := by kernel_rfl

theorem RecordBack_sound : Sound Try.prog 5 (ans (lawAns [.str, (.agg (.cons .str (.cons (.int .i64) (.cons (.int .i64) (.cons (.int .i64) .str))))), .int .i64])) := sound_told XCC told_law06_RecordBack (fun x w => law_RecordBack x.1 x.2.1 x.2.2)

set_option maxRecDepth 100000 in
theorem RecordBack_lifted (os : Os) (started : os.Started) (H : Type) (enc : TypeId × Value → H) :
    ReturnsInHanded {} Try.checked os 5 .any (Ytmjahmmlllfcgaa.Rows.recordBackSpec.pre6 enc Try.prog Try.f5 Ytmjahmmlllfcgaa.Rows.recordBackRow.domain false) (Ytmjahmmlllfcgaa.Rows.recordBackSpec.post enc Try.prog Try.f5 false true false false) := by
  refine returnsInHanded_of_change (C := Try.checked) own started (by kernel_rfl) Try.func5
    (ChangeSpec.witness6 (enc := enc) (C := Try.checked) false ⟨#[], #[.string ByteArray.empty, .agg #[.string ByteArray.empty, .int .i64 0, .int .i64 0, .int .i64 0, .string ByteArray.empty], .int .i64 0], []⟩ 8 (by kernel_rfl) (by kernel_rfl) (by kernel_rfl) (by kernel_rfl)) ?_
  intro W base args ds gs before hval hW _ _
  exact row_of_law (d := 12) (tb := 4) RecordBack_sound (by kernel_rfl) (by kernel_rfl) (by kernel_rfl) (by kernel_rfl) (by kernel_rfl) Try.underlying4 rfl
    (fun ds h => by match ds, h with | [d0, d1, d2], _ => exact ⟨rfl, rfl, rfl⟩) hval hW

theorem RecordBack_holds : Ytmjahmmlllfcgaa.Rows.RecordBackSaid :=
  OpenClaim.holds_of_wide 5 Try.f5 rfl rfl rfl rfl rfl rfl rfl ⟨rfl, rfl, rfl, rfl, rfl⟩ rfl rfl rfl rfl rfl (by kernel_rfl) Try.func5 (by kernel_rfl)
    (of_decide_eq_true (by kernel_rfl)) (by unfold Func.isWrapper; first | (rw [if_pos (by decide +kernel)]; kernel_rfl) | (rw [if_neg (by decide +kernel)]; exact ⟨rfl, rfl⟩))
    (fun os started H enc _ => RecordBack_lifted os started H enc)

end Go.Abs
