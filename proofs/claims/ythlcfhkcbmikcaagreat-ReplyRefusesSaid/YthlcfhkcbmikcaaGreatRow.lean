/- Part of a proof. -/
import Derived.Test.YthlcfhkcbmikcaaGreatLawC
import Derived.Test.YthlcfhkcbmikcaaGreatSxB
import Derived.ChangeMaps5
import Derived.Test.YthlcfhkcbmikcaaGreatRows
set_option linter.unusedSimpArgs false
set_option linter.unusedVariables false
set_option linter.unusedSectionVars false
namespace Go.Abs
open Go Go.Proofs Go.Proofs.YthlcfhkcbmikcaaGreat Go.ChangeShapes Go.ChangeMaps Go.WideShapes Go.ChangeAt Go.RowKit
theorem own : ownKnob Tryz.prog.godebug = none := by kernel_rfl
theorem ReplyRefuses_sound : Sound Tryz.prog 9 (ans (lawAns [.str, .int .i64])) := sound_told XCC (Array.getElem?_eq_some_iff.1 Tryz.func9).1 told_law17_ReplyRefuses (fun x w => law_ReplyRefuses x.1 x.2)
set_option maxRecDepth 100000 in
theorem ReplyRefuses_lifted (os : Os) (started : os.Started) (H : Type) (enc : TypeId × Value → H) :
 ReturnsInHanded {} Tryz.checked os 9 .any (YthlcfhkcbmikcaaGreat.Rows.replyRefusesSpec.pre6 enc Tryz.prog Tryz.f9 YthlcfhkcbmikcaaGreat.Rows.replyRefusesRow.domain false) (YthlcfhkcbmikcaaGreat.Rows.replyRefusesSpec.post enc Tryz.prog Tryz.f9 false true false false) := by
 refine returnsInHanded_of_change (C := Tryz.checked) own started (by kernel_rfl) Tryz.func9
  (ChangeSpec.witness6 (enc := enc) (C := Tryz.checked) false ⟨#[], #[.string ByteArray.empty, .int .i64 0], []⟩ 8 (by kernel_rfl) (by kernel_rfl) (by kernel_rfl) (by kernel_rfl)) ?_
 intro W base args ds gs before hval hW _ _
 exact row_of_law (d := 12) (tb := 4) ReplyRefuses_sound (by kernel_rfl) (by kernel_rfl) (by kernel_rfl) (by kernel_rfl) (by kernel_rfl) Tryz.underlying4 rfl
  (fun ds h => by match ds, h with | [d0, d1], _ => exact ⟨rfl, rfl, rfl⟩) hval hW
theorem ReplyRefuses_holds : YthlcfhkcbmikcaaGreat.Rows.ReplyRefusesSaid :=
 OpenClaim.holds_of_wide 9 Tryz.f9 rfl rfl rfl rfl rfl rfl rfl ⟨rfl, rfl, rfl, rfl, rfl⟩ rfl rfl rfl rfl rfl (by kernel_rfl) Tryz.func9 (by kernel_rfl)
  (of_decide_eq_true (by kernel_rfl)) (by unfold Func.isWrapper; first | (rw [if_pos (by decide +kernel)]; kernel_rfl) | (rw [if_neg (by decide +kernel)]; exact ⟨rfl, rfl⟩))
  (fun os started H enc _ => ReplyRefuses_lifted os started H enc)
end Go.Abs
