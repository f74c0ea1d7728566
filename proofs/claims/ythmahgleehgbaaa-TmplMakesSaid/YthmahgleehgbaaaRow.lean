/- Part of a proof. -/
import Derived.Test.YthmahgleehgbaaaLawC
import Derived.Test.YthmahgleehgbaaaSxB
import Derived.ChangeMaps5
import Derived.Test.YthmahgleehgbaaaRows
set_option linter.unusedSimpArgs false
set_option linter.unusedVariables false
set_option linter.unusedSectionVars false
namespace Go.Abs
open Go Go.Proofs Go.Proofs.Ythmahgleehgbaaa Go.ChangeShapes Go.ChangeMaps Go.WideShapes Go.ChangeAt Go.RowKit
theorem own : ownKnob Try.prog.godebug = none := by kernel_rfl
theorem TmplMakes_sound : Sound Try.prog 3 (ans (lawAns [.int .i64, tQ, tCh])) := sound_told XCC (Array.getElem?_eq_some_iff.1 Try.func3).1 told_law18_TmplMakes (fun x w => law_TmplMakes x.1 x.2.1 x.2.2 (okC_of w.2.2))
set_option maxRecDepth 100000 in
theorem TmplMakes_lifted (os : Os) (started : os.Started) (H : Type) (enc : TypeId × Value → H) :
    ReturnsInHanded {} Try.checked os 3 .any (Ythmahgleehgbaaa.Rows.tmplMakesSpec.pre6 enc Try.prog Try.f3 Ythmahgleehgbaaa.Rows.tmplMakesRow.domain false) (Ythmahgleehgbaaa.Rows.tmplMakesSpec.post enc Try.prog Try.f3 false true false false) := by
  refine returnsInHanded_of_change (C := Try.checked) own started (by kernel_rfl) Try.func3
    (ChangeSpec.witness6 (enc := enc) (C := Try.checked) false ⟨#[], #[.int .i64 0, .agg #[.string ByteArray.empty, .int .i64 0, .int .i64 0], .agg #[.slice none 0 0, .int .i64 0, .string ByteArray.empty, .string ByteArray.empty, .int .i64 0, .int .i64 0, .slice none 0 0, .int .i64 0, .int .i64 0]], []⟩ 8 (by kernel_rfl) (by kernel_rfl) (by kernel_rfl) (by kernel_rfl)) ?_
  intro W base args ds gs before hval hW _ _
  exact row_of_law (d := 12) (tb := 4) TmplMakes_sound (by kernel_rfl) (by kernel_rfl) (by kernel_rfl) (by kernel_rfl) (by kernel_rfl) Try.underlying4 rfl
    (fun ds h => by match ds, h with | [d0, d1, d2], _ => exact ⟨rfl, rfl, rfl⟩) hval hW
theorem TmplMakes_holds : Ythmahgleehgbaaa.Rows.TmplMakesSaid :=
  OpenClaim.holds_of_wide 3 Try.f3 rfl rfl rfl rfl rfl rfl rfl ⟨rfl, rfl, rfl, rfl, rfl⟩ rfl rfl rfl rfl rfl (by kernel_rfl) Try.func3 (by kernel_rfl)
    (of_decide_eq_true (by kernel_rfl)) (by unfold Func.isWrapper; first | (rw [if_pos (by decide +kernel)]; kernel_rfl) | (rw [if_neg (by decide +kernel)]; exact ⟨rfl, rfl⟩))
    (fun os started H enc _ => TmplMakes_lifted os started H enc)
end Go.Abs
