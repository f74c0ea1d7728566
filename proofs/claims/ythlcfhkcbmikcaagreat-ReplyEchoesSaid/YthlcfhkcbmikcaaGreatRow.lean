/- Part of a proof. -/
import Derived.Test.YthlcfhkcbmikcaaGreatLawC
import Derived.Test.YthlcfhkcbmikcaaGreatSxB
import Derived.ChangeMaps5
import Derived.Test.YthlcfhkcbmikcaaGreatRows
set_option linter.unusedSimpArgs false
set_option linter.unusedVariables false
set_option linter.unusedSectionVars false
namespace Go.Abs
open Go Go.Proofs Go.Proofs.YthlcfhkcbmikcaaGreat Go.ChangeShapes Go.ChangeMaps Go.WideShapes Go.ChangeAt Go.RowKit
theorem own:ownKnob Tryz.prog.godebug=none:=by kernel_rfl
theorem ReplyEchoes_sound:Sound Tryz.prog 10 (ans (lawAns [tM,.int .i64])):=sound_told XCC (Array.getElem?_eq_some_iff.1 Tryz.func10).1 told_law17_ReplyEchoes (fun x w=>law_ReplyEchoes x.1 x.2 (few_of w.1))
set_option maxRecDepth 100000 in
theorem ReplyEchoes_lifted (os:Os) (started:os.Started) (H:Type) (enc:TypeId×Value→H) :
 ReturnsInHanded {} Tryz.checked os 10 .any (YthlcfhkcbmikcaaGreat.Rows.replyEchoesSpec.pre6 enc Tryz.prog Tryz.f10 YthlcfhkcbmikcaaGreat.Rows.replyEchoesRow.domain false) (YthlcfhkcbmikcaaGreat.Rows.replyEchoesSpec.post enc Tryz.prog Tryz.f10 false true false false):=by
 refine returnsInHanded_of_change (C:=Tryz.checked) own started (by kernel_rfl) Tryz.func10
  (ChangeSpec.witness6 (enc:=enc) (C:=Tryz.checked) false ⟨#[],#[.agg #[.int .i64 0,.int .i64 0,.slice none 0 0,.slice none 0 0,.slice none 0 0,.slice none 0 0],.int .i64 0],[]⟩ 8 (by kernel_rfl) (by kernel_rfl) (by kernel_rfl) (by kernel_rfl)) ?_
 intro W base args ds gs before hval hW _ _
 exact row_of_law (d:=12) (tb:=4) ReplyEchoes_sound (by kernel_rfl) (by kernel_rfl) (by kernel_rfl) (by kernel_rfl) (by kernel_rfl) Tryz.underlying4 rfl
  (fun ds h=>by match ds,h with | [d0,d1],_=>exact⟨rfl,rfl,rfl⟩) hval hW
theorem ReplyEchoes_holds:YthlcfhkcbmikcaaGreat.Rows.ReplyEchoesSaid :=
 OpenClaim.holds_of_wide 10 Tryz.f10 rfl rfl rfl rfl rfl rfl rfl ⟨rfl,rfl,rfl,rfl,rfl⟩ rfl rfl rfl rfl rfl (by kernel_rfl) Tryz.func10 (by kernel_rfl)
  (of_decide_eq_true (by kernel_rfl)) (by unfold Func.isWrapper;first | (rw[if_pos (by decide +kernel)];kernel_rfl) | (rw[if_neg (by decide +kernel)];exact⟨rfl,rfl⟩))
  (fun os started H enc _=>ReplyEchoes_lifted os started H enc)
end Go.Abs
