/- Part of a proof: a machine of plain data, and what the functions come to on it. -/
import Derived.Test.YthmahgleehgbaaaGreatLawC
import Derived.Test.YthmahgleehgbaaaGreatSxB
import Derived.ChangeMaps5
import Derived.Test.YthmahgleehgbaaaGreatRows
set_option linter.unusedSimpArgs false
set_option linter.unusedVariables false
set_option linter.unusedSectionVars false
namespace Go.Abs
open Go Go.Proofs Go.Proofs.YthmahgleehgbaaaGreat Go.ChangeShapes Go.ChangeMaps Go.WideShapes Go.ChangeAt Go.RowKit
theorem own : ownKnob Tryz.prog.godebug = none := by kernel_rfl
theorem QueryMatched_sound : Sound Tryz.prog 8 (ans (lawAns [.list tO, tO, .str])) := sound_told XCC told_law20_QueryMatched (fun x w => law_QueryMatched x.1 x.2.1 x.2.2 (len_of w.1))
set_option maxRecDepth 100000 in
theorem QueryMatched_lifted (os : Os) (started : os.Started) (H : Type) (enc : TypeId × Value → H) :
    ReturnsInHanded {} Tryz.checked os 8 .any (YthmahgleehgbaaaGreat.Rows.queryMatchedSpec.pre6 enc Tryz.prog Tryz.f8 YthmahgleehgbaaaGreat.Rows.queryMatchedRow.domain false) (YthmahgleehgbaaaGreat.Rows.queryMatchedSpec.post enc Tryz.prog Tryz.f8 false true false false) := by
  refine returnsInHanded_of_change (C := Tryz.checked) own started (by kernel_rfl) Tryz.func8
    (ChangeSpec.witness6 (enc := enc) (C := Tryz.checked) false ⟨#[], #[.slice none 0 0, .agg #[.int .i64 0, .int .i64 0, .string ByteArray.empty, .string ByteArray.empty, .int .i64 0, .int .i64 0, .int .i64 0, .int .i64 0], .string ByteArray.empty], []⟩ 8 (by kernel_rfl) (by kernel_rfl) (by kernel_rfl) (by kernel_rfl)) ?_
  intro W base args ds gs before hval hW _ _
  exact row_of_law (d := 12) (tb := 4) QueryMatched_sound (by kernel_rfl) (by kernel_rfl) (by kernel_rfl) (by kernel_rfl) (by kernel_rfl) Tryz.underlying4 rfl
    (fun ds h => by match ds, h with | [d0, d1, d2], _ => exact ⟨rfl, rfl, rfl⟩) hval hW
theorem QueryMatched_holds : YthmahgleehgbaaaGreat.Rows.QueryMatchedSaid :=
  OpenClaim.holds_of_wide 8 Tryz.f8 rfl rfl rfl rfl rfl rfl rfl ⟨rfl, rfl, rfl, rfl, rfl⟩ rfl rfl rfl rfl rfl (by kernel_rfl) Tryz.func8 (by kernel_rfl)
    (of_decide_eq_true (by kernel_rfl)) (by unfold Func.isWrapper; first | (rw [if_pos (by decide +kernel)]; kernel_rfl) | (rw [if_neg (by decide +kernel)]; exact ⟨rfl, rfl⟩))
    (fun os started H enc _ => QueryMatched_lifted os started H enc)
end Go.Abs
