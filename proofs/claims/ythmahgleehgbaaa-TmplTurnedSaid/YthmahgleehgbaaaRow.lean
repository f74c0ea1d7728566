/- Part of a proof: a machine of plain data, and what the functions come to on it. -/
import Derived.Test.YthmahgleehgbaaaLawC
import Derived.Test.YthmahgleehgbaaaSxB
import Derived.ChangeMaps5
import Derived.Test.YthmahgleehgbaaaRows
set_option linter.unusedSimpArgs false
set_option linter.unusedVariables false
set_option linter.unusedSectionVars false
namespace Go.Abs
open Go Go.Proofs Go.Proofs.Ythmahgleehgbaaa Go.ChangeShapes Go.ChangeMaps Go.WideShapes Go.ChangeAt Go.RowKit
theorem own : ownKnob Try.prog.godebug = none := by kernel_rfl
theorem TmplTurned_sound : Sound Try.prog 7 (ans (lawAns [tTt, .int .i64, (.agg (.cons (.int .i64) (.int .i64)))])) := sound_told XCC (Array.getElem?_eq_some_iff.1 Try.func7).1 told_law18_TmplTurned (fun x w => law_TmplTurned x.1 x.2.1 x.2.2 (okTT_of w.1))
set_option maxRecDepth 100000 in
theorem TmplTurned_lifted (os : Os) (started : os.Started) (H : Type) (enc : TypeId × Value → H) :
    ReturnsInHanded {} Try.checked os 7 .any (Ythmahgleehgbaaa.Rows.tmplTurnedSpec.pre6 enc Try.prog Try.f7 Ythmahgleehgbaaa.Rows.tmplTurnedRow.domain false) (Ythmahgleehgbaaa.Rows.tmplTurnedSpec.post enc Try.prog Try.f7 false true false false) := by
  refine returnsInHanded_of_change (C := Try.checked) own started (by kernel_rfl) Try.func7
    (ChangeSpec.witness6 (enc := enc) (C := Try.checked) false ⟨#[], #[.agg #[.string ByteArray.empty, .int .i64 0, .int .i64 0, .int .i64 0, .string ByteArray.empty, .slice none 0 0], .int .i64 0, .agg #[.int .i64 0, .int .i64 0]], []⟩ 8 (by kernel_rfl) (by kernel_rfl) (by kernel_rfl) (by kernel_rfl)) ?_
  intro W base args ds gs before hval hW _ _
  exact row_of_law (d := 12) (tb := 4) TmplTurned_sound (by kernel_rfl) (by kernel_rfl) (by kernel_rfl) (by kernel_rfl) (by kernel_rfl) Try.underlying4 rfl
    (fun ds h => by match ds, h with | [d0, d1, d2], _ => exact ⟨rfl, rfl, rfl⟩) hval hW
theorem TmplTurned_holds : Ythmahgleehgbaaa.Rows.TmplTurnedSaid :=
  OpenClaim.holds_of_wide 7 Try.f7 rfl rfl rfl rfl rfl rfl rfl ⟨rfl, rfl, rfl, rfl, rfl⟩ rfl rfl rfl rfl rfl (by kernel_rfl) Try.func7 (by kernel_rfl)
    (of_decide_eq_true (by kernel_rfl)) (by unfold Func.isWrapper; first | (rw [if_pos (by decide +kernel)]; kernel_rfl) | (rw [if_neg (by decide +kernel)]; exact ⟨rfl, rfl⟩))
    (fun os started H enc _ => TmplTurned_lifted os started H enc)
end Go.Abs
