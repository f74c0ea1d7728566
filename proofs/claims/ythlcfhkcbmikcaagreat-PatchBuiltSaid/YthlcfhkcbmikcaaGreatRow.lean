/- Part of a proof. -/
import Derived.Test.YthlcfhkcbmikcaaGreatLawC
import Derived.Test.YthlcfhkcbmikcaaGreatSxB
import Derived.ChangeMaps5
import Derived.Test.YthlcfhkcbmikcaaGreatRows
set_option linter.unusedSimpArgs false
set_option linter.unusedVariables false
set_option linter.unusedSectionVars false
namespace Go.Abs
open Go Go.Proofs Go.Proofs.YthlcfhkcbmikcaaGreat Go.ChangeShapes Go.ChangeMaps Go.WideShapes Go.ChangeAt Go.RowKit
theorem own:ownKnob Tryz.prog.godebug=none:=by kernel_rfl
theorem PatchBuilt_sound:Sound Tryz.prog 14 (ans (lawAns [(.agg (.cons (.int .i64) (.cons (.int .i64) (.int .i64)))),tAk,tCh])):=sound_told XCC (Array.getElem?_eq_some_iff.1 Tryz.func14).1 told_law19_PatchBuilt (fun x w=>law_PatchBuilt x.1 x.2.1 x.2.2 (okC_of w.2.2))
set_option maxRecDepth 100000 in
theorem PatchBuilt_lifted (os:Os) (started:os.Started) (H:Type) (enc:TypeId×Value→H) :
 ReturnsInHanded {} Tryz.checked os 14 .any (YthlcfhkcbmikcaaGreat.Rows.patchBuiltSpec.pre6 enc Tryz.prog Tryz.f14 YthlcfhkcbmikcaaGreat.Rows.patchBuiltRow.domain false) (YthlcfhkcbmikcaaGreat.Rows.patchBuiltSpec.post enc Tryz.prog Tryz.f14 false true false false):=by
 refine returnsInHanded_of_change (C:=Tryz.checked) own started (by kernel_rfl) Tryz.func14
  (ChangeSpec.witness6 (enc:=enc) (C:=Tryz.checked) false ⟨#[],#[.agg #[.int .i64 0,.int .i64 0,.int .i64 0],.agg #[.int .i64 0,.int .i64 0,.string ByteArray.empty,.int .i64 0,.int .i64 0,.bool false,.int .i64 0,.int .i64 0,.int .i64 0,.bool false],.agg #[.slice none 0 0,.int .i64 0,.string ByteArray.empty,.string ByteArray.empty,.int .i64 0,.int .i64 0,.slice none 0 0,.int .i64 0,.int .i64 0]],[]⟩ 8 (by kernel_rfl) (by kernel_rfl) (by kernel_rfl) (by kernel_rfl)) ?_
 intro W base args ds gs before hval hW _ _
 exact row_of_law (d:=12) (tb:=4) PatchBuilt_sound (by kernel_rfl) (by kernel_rfl) (by kernel_rfl) (by kernel_rfl) (by kernel_rfl) Tryz.underlying4 rfl
  (fun ds h=>by match ds,h with | [d0,d1,d2],_=>exact⟨rfl,rfl,rfl⟩) hval hW
theorem PatchBuilt_holds:YthlcfhkcbmikcaaGreat.Rows.PatchBuiltSaid :=
 OpenClaim.holds_of_wide 14 Tryz.f14 rfl rfl rfl rfl rfl rfl rfl ⟨rfl,rfl,rfl,rfl,rfl⟩ rfl rfl rfl rfl rfl (by kernel_rfl) Tryz.func14 (by kernel_rfl)
  (of_decide_eq_true (by kernel_rfl)) (by unfold Func.isWrapper;first | (rw[if_pos (by decide +kernel)];kernel_rfl) | (rw[if_neg (by decide +kernel)];exact⟨rfl,rfl⟩))
  (fun os started H enc _=>PatchBuilt_lifted os started H enc)
end Go.Abs
