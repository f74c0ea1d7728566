/- Part of a proof: a machine of plain data, and what the functions come to on it. -/
import Derived.Test.YtmjahmmlllfcgaaLawB
import Derived.Test.YtmjahmmlllfcgaaSxB
import Derived.ChangeMaps5
import Derived.Test.YtmjahmmlllfcgaaRows
set_option linter.unusedSimpArgs false
set_option linter.unusedVariables false
set_option linter.unusedSectionVars false
namespace Go.Abs
open Go Go.Proofs Go.Proofs.Ytmjahmmlllfcgaa Go.ChangeShapes Go.ChangeMaps Go.WideShapes Go.ChangeAt Go.RowKit
theorem own : ownKnob Try.prog.godebug = none := by kernel_rfl
theorem MsgHead_sound : Sound Try.prog 13 (ans (lawAns [tM, .int .i64])) := sound_told XCC told_law08_MsgHead (fun x w => law_MsgHead x.1 x.2 (few_of w.1))
set_option maxRecDepth 100000 in
theorem MsgHead_lifted (os : Os) (started : os.Started) (H : Type) (enc : TypeId × Value → H) :
    ReturnsInHanded {} Try.checked os 13 .any (Ytmjahmmlllfcgaa.Rows.msgHeadSpec.pre6 enc Try.prog Try.f13 Ytmjahmmlllfcgaa.Rows.msgHeadRow.domain false) (Ytmjahmmlllfcgaa.Rows.msgHeadSpec.post enc Try.prog Try.f13 false true false false) := by
  refine returnsInHanded_of_change (C := Try.checked) own started (by kernel_rfl) Try.func13
    (ChangeSpec.witness6 (enc := enc) (C := Try.checked) false ⟨#[], #[.agg #[.int .i64 0, .int .i64 0, .slice none 0 0, .slice none 0 0, .slice none 0 0, .slice none 0 0], .int .i64 0], []⟩ 8 (by kernel_rfl) (by kernel_rfl) (by kernel_rfl) (by kernel_rfl)) ?_
  intro W base args ds gs before hval hW _ _
  exact row_of_law (d := 12) (tb := 4) MsgHead_sound (by kernel_rfl) (by kernel_rfl) (by kernel_rfl) (by kernel_rfl) (by kernel_rfl) Try.underlying4 rfl
    (fun ds h => by match ds, h with | [d0, d1], _ => exact ⟨rfl, rfl, rfl⟩) hval hW
theorem MsgHead_holds : Ytmjahmmlllfcgaa.Rows.MsgHeadSaid :=
  OpenClaim.holds_of_wide 13 Try.f13 rfl rfl rfl rfl rfl rfl rfl ⟨rfl, rfl, rfl, rfl, rfl⟩ rfl rfl rfl rfl rfl (by kernel_rfl) Try.func13 (by kernel_rfl)
    (of_decide_eq_true (by kernel_rfl)) (by unfold Func.isWrapper; first | (rw [if_pos (by decide +kernel)]; kernel_rfl) | (rw [if_neg (by decide +kernel)]; exact ⟨rfl, rfl⟩))
    (fun os started H enc _ => MsgHead_lifted os started H enc)
end Go.Abs
