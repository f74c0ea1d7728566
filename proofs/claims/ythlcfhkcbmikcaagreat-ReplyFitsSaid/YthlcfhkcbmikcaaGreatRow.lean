/- Part of a proof. -/
import Derived.Test.YthlcfhkcbmikcaaGreatLawC
import Derived.Test.YthlcfhkcbmikcaaGreatSxB
import Derived.ChangeMaps5
import Derived.Test.YthlcfhkcbmikcaaGreatRows
set_option linter.unusedSimpArgs false
set_option linter.unusedVariables false
set_option linter.unusedSectionVars false
namespace Go.Abs
open Go Go.Proofs Go.Proofs.YthlcfhkcbmikcaaGreat Go.ChangeShapes Go.ChangeMaps Go.WideShapes Go.ChangeAt Go.RowKit
theorem own:ownKnob Tryz.prog.godebug=none:=by kernel_rfl
theorem ReplyFits_sound:Sound Tryz.prog 8 (ans (lawAns [.str,tCh,.int .i64])):=sound_told XCC (Array.getElem?_eq_some_iff.1 Tryz.func8).1 told_law17_ReplyFits (fun x w=>law_ReplyFits x.1 x.2.1 x.2.2 (okC_of w.2.1))
set_option maxRecDepth 100000 in
theorem ReplyFits_lifted (os:Os) (started:os.Started) (H:Type) (enc:TypeId×Value→H) :
 ReturnsInHanded {} Tryz.checked os 8 .any (YthlcfhkcbmikcaaGreat.Rows.replyFitsSpec.pre6 enc Tryz.prog Tryz.f8 YthlcfhkcbmikcaaGreat.Rows.replyFitsRow.domain false) (YthlcfhkcbmikcaaGreat.Rows.replyFitsSpec.post enc Tryz.prog Tryz.f8 false true false false):=by
 refine returnsInHanded_of_change (C:=Tryz.checked) own started (by kernel_rfl) Tryz.func8
  (ChangeSpec.witness6 (enc:=enc) (C:=Tryz.checked) false ⟨#[],#[.string ByteArray.empty,.agg #[.slice none 0 0,.int .i64 0,.string ByteArray.empty,.string ByteArray.empty,.int .i64 0,.int .i64 0,.slice none 0 0,.int .i64 0,.int .i64 0],.int .i64 0],[]⟩ 8 (by kernel_rfl) (by kernel_rfl) (by kernel_rfl) (by kernel_rfl)) ?_
 intro W base args ds gs before hval hW _ _
 exact row_of_law (d:=12) (tb:=4) ReplyFits_sound (by kernel_rfl) (by kernel_rfl) (by kernel_rfl) (by kernel_rfl) (by kernel_rfl) Tryz.underlying4 rfl
  (fun ds h=>by match ds,h with | [d0,d1,d2],_=>exact⟨rfl,rfl,rfl⟩) hval hW
theorem ReplyFits_holds:YthlcfhkcbmikcaaGreat.Rows.ReplyFitsSaid :=
 OpenClaim.holds_of_wide 8 Tryz.f8 rfl rfl rfl rfl rfl rfl rfl ⟨rfl,rfl,rfl,rfl,rfl⟩ rfl rfl rfl rfl rfl (by kernel_rfl) Tryz.func8 (by kernel_rfl)
  (of_decide_eq_true (by kernel_rfl)) (by unfold Func.isWrapper;first | (rw[if_pos (by decide +kernel)];kernel_rfl) | (rw[if_neg (by decide +kernel)];exact⟨rfl,rfl⟩))
  (fun os started H enc _=>ReplyFits_lifted os started H enc)
end Go.Abs
