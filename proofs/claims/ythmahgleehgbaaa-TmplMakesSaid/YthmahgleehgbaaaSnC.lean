/- Part of a proof. -/
import Derived.Test.YthmahgleehgbaaaSnB
set_option linter.unusedSimpArgs false
set_option linter.unusedVariables false
set_option linter.unusedSectionVars false
set_option maxRecDepth 100000
namespace Go.Abs
open Go Go.Proofs
noncomputable section
def F_law18_TmplMakes (now_1 : Int) (q_2 : (List UInt8 × (Int × Int))) (c_3 : (List ((List UInt8 × (Int × (Int × (List (List UInt8) × (Int × Int)))))) × (Int × (List UInt8 × (List UInt8 × (Int × (Int × (List (List UInt8) × (Int × Int))))))))) : Option (Bool) :=
 bnd (α := (Bool ⊕ Unit)) (bnd (α := Bool) (bnd (F_ref17_Small (c_3.1, c_3.2.1, c_3.2.2.1, c_3.2.2.2.1, c_3.2.2.2.2.1, c_3.2.2.2.2.2.1, c_3.2.2.2.2.2.2.1, c_3.2.2.2.2.2.2.2.1, c_3.2.2.2.2.2.2.2.2)) fun v4 =>
   if (!v4) = false then
    gq now_1 <| g3 q_2 <| g9 c_3 <|
    some (decide (300 < (↑(List.length q_2.1) : Int)))
   else
    gq now_1 <| g3 q_2 <| g9 c_3 <|
    some true) fun s19_5 =>
  if s19_5 = true then
   bnd F_law18_live fun v6 =>
   g3 q_2 <| g9 c_3 <|
   some (.inl v6)
  else
   gq now_1 <| g3 q_2 <| g9 c_3 <|
   some (.inr (()))) fun o7 =>
 match o7 with
 | .inl s6_8 =>
  some s6_8
 | .inr _ =>
  bnd (F_law17_Chain (c_3.1, c_3.2.1, c_3.2.2.1, c_3.2.2.2.1, c_3.2.2.2.2.1, c_3.2.2.2.2.2.1, c_3.2.2.2.2.2.2.1, c_3.2.2.2.2.2.2.2.1, c_3.2.2.2.2.2.2.2.2)) fun v9 =>
  bnd (F_tmpl_Make now_1 (q_2.1, q_2.2.1, q_2.2.2) (v9.1, v9.2.1, v9.2.2.1, v9.2.2.2.1, v9.2.2.2.2.1, v9.2.2.2.2.2.1, v9.2.2.2.2.2.2.1, v9.2.2.2.2.2.2.2.1, v9.2.2.2.2.2.2.2.2)) fun (v10, v11) =>
  bnd (F_ref18_Make now_1 (q_2.1, q_2.2.1, q_2.2.2) (c_3.1, c_3.2.1, c_3.2.2.1, c_3.2.2.2.1, c_3.2.2.2.2.1, c_3.2.2.2.2.2.1, c_3.2.2.2.2.2.2.1, c_3.2.2.2.2.2.2.2.1, c_3.2.2.2.2.2.2.2.2)) fun (v12, v13) =>
  bnd (F_law18_Told (v10.1, v10.2.1, v10.2.2.1, v10.2.2.2.1, v10.2.2.2.2.1, v10.2.2.2.2.2)) fun v14 =>
  bnd (F_ref18_Same (v14.1, v14.2.1, v14.2.2.1, v14.2.2.2.1, v14.2.2.2.2.1, v14.2.2.2.2.2) (v12.1, v12.2.1, v12.2.2.1, v12.2.2.2.1, v12.2.2.2.2.1, v12.2.2.2.2.2)) fun v15 =>
  if v15 = true then
   if (v11 == v13) = true then
    bnd F_law18_live fun v16 =>
    some v16
   else
    some false
  else
   some false
def ann_law18_TmplMakes : List (List Nat × Ann) := [([2], ⟨none, [(.ret, ⟨(anyN 6 (.cons (.ty .bool) (anyN 41 .nil))), [.cells 23 true (.cons kS (.cons kI (.cons kI .nil))), .cells 31 true (.cons (.keep (.list (.agg (.cons .str (.cons tI (.cons tI (.cons (.list .str) (.cons tI tI)))))))) (.cons kI (.cons kS (.cons kS (.cons kI (.cons kI (.cons (.keep (.list .str)) (.cons kI (.cons kI .nil)))))))))], [], []⟩), (.normal, ⟨(.cons kI (anyN 3 (.cons (.ptr 0 0) (.cons (.ptr 1 0) (anyN 42 .nil))))), [.cells 23 true (.cons kS (.cons kI (.cons kI .nil))), .cells 31 true (.cons (.keep (.list (.agg (.cons .str (.cons tI (.cons tI (.cons (.list .str) (.cons tI tI)))))))) (.cons kI (.cons kS (.cons kS (.cons kI (.cons kI (.cons (.keep (.list .str)) (.cons kI (.cons kI .nil)))))))))], [], []⟩)]⟩), ([3], ⟨none, [(.normal, ⟨(.cons kI (anyN 3 (.cons (.ptr 0 0) (.cons (.ptr 1 0) (anyN 13 (.cons (.ty .bool) (anyN 28 .nil))))))), [.cells 23 true (.cons kS (.cons kI (.cons kI .nil))), .cells 31 true (.cons (.keep (.list (.agg (.cons .str (.cons tI (.cons tI (.cons (.list .str) (.cons tI tI)))))))) (.cons kI (.cons kS (.cons kS (.cons kI (.cons kI (.cons (.keep (.list .str)) (.cons kI (.cons kI .nil)))))))))], [], []⟩)]⟩)]
@[reducible] def fs_law18_TmplMakes : List (Nat × SFn) := [(9, .pure [(.agg (.cons (.list (.agg (.cons .str (.cons tI (.cons tI (.cons (.list .str) (.cons tI tI))))))) (.cons tI (.cons .str (.cons .str (.cons tI (.cons tI (.cons (.list .str) (.cons tI tI)))))))))] [.bool] (fun x => F_ref17_Small x)), (10, .pure [] [.bool] (fun x => F_law18_live)), (12, .pure [(.agg (.cons (.list (.agg (.cons .str (.cons tI (.cons tI (.cons (.list .str) (.cons tI tI))))))) (.cons tI (.cons .str (.cons .str (.cons tI (.cons tI (.cons (.list .str) (.cons tI tI)))))))))] [(.agg (.cons (.list (.agg (.cons .str (.cons tI (.cons tI (.cons (.list .str) (.cons tI tI))))))) (.cons tI (.cons .str (.cons .str (.cons tI (.cons tI (.cons (.list .str) (.cons tI tI)))))))))] (fun x => F_law17_Chain x)), (11, .pure [tI, tQ, (.agg (.cons (.list (.agg (.cons .str (.cons tI (.cons tI (.cons (.list .str) (.cons tI tI))))))) (.cons tI (.cons .str (.cons .str (.cons tI (.cons tI (.cons (.list .str) (.cons tI tI)))))))))] [(.agg (.cons .str (.cons tI (.cons tI (.cons tI (.cons .str (.list (.agg (.cons (.list (.agg (.cons tI (.cons tI tI)))) (.cons tI .bool)))))))))), .bool] (fun x => F_tmpl_Make x.1 x.2.1 x.2.2)), (13, .pure [tI, tQ, (.agg (.cons (.list (.agg (.cons .str (.cons tI (.cons tI (.cons (.list .str) (.cons tI tI))))))) (.cons tI (.cons .str (.cons .str (.cons tI (.cons tI (.cons (.list .str) (.cons tI tI)))))))))] [(.agg (.cons .str (.cons tI (.cons tI (.cons tI (.cons .str (.list (.agg (.cons (.list (.agg (.cons tI (.cons tI tI)))) (.cons tI .bool)))))))))), .bool] (fun x => F_ref18_Make x.1 x.2.1 x.2.2)), (15, .pure [(.agg (.cons .str (.cons tI (.cons tI (.cons tI (.cons .str (.list (.agg (.cons (.list (.agg (.cons tI (.cons tI tI)))) (.cons tI .bool))))))))))] [(.agg (.cons .str (.cons tI (.cons tI (.cons tI (.cons .str (.list (.agg (.cons (.list (.agg (.cons tI (.cons tI tI)))) (.cons tI .bool))))))))))] (fun x => F_law18_Told x)), (14, .pure [(.agg (.cons .str (.cons tI (.cons tI (.cons tI (.cons .str (.list (.agg (.cons (.list (.agg (.cons tI (.cons tI tI)))) (.cons tI .bool)))))))))), (.agg (.cons .str (.cons tI (.cons tI (.cons tI (.cons .str (.list (.agg (.cons (.list (.agg (.cons tI (.cons tI tI)))) (.cons tI .bool))))))))))] [.bool] (fun x => F_ref18_Same x.1 x.2))]
def cfg_law18_TmplMakes : SCfg := SCfg.of (fs_law18_TmplMakes ++ inlL) ann_law18_TmplMakes keepL
theorem eq_law18_TmplMakes (x : HL [tI, tQ, (.agg (.cons (.list (.agg (.cons .str (.cons tI (.cons tI (.cons (.list .str) (.cons tI tI))))))) (.cons tI (.cons .str (.cons .str (.cons tI (.cons tI (.cons (.list .str) (.cons tI tI)))))))))]) : fnK cfg_law18_TmplMakes Try.prog 100000 3 [tI, tQ, (.agg (.cons (.list (.agg (.cons .str (.cons tI (.cons tI (.cons (.list .str) (.cons tI tI))))))) (.cons tI (.cons .str (.cons .str (.cons tI (.cons tI (.cons (.list .str) (.cons tI tI)))))))))] [.bool] x = (fun x => F_law18_TmplMakes x.1 x.2.1 x.2.2) x := by kernel_rfl
theorem told_law18_TmplMakes : Told CC Try.prog 3 [tI, tQ, (.agg (.cons (.list (.agg (.cons .str (.cons tI (.cons tI (.cons (.list .str) (.cons tI tI))))))) (.cons tI (.cons .str (.cons .str (.cons tI (.cons tI (.cons (.list .str) (.cons tI tI)))))))))] [.bool] (fun x => F_law18_TmplMakes x.1 x.2.1 x.2.2) := told_of (gok (an := ann_law18_TmplMakes) (fs := fs_law18_TmplMakes) ⟨told_ref17_Small, told_law18_live, told_law17_Chain, told_tmpl_Make, told_ref18_Make, told_law18_Told, told_ref18_Same, trivial⟩) rfl rfl eq_law18_TmplMakes
end
end Go.Abs

set_option maxRecDepth 100000
namespace Go.Abs
open Go Go.Proofs
noncomputable section
end
end Go.Abs

set_option maxRecDepth 100000
namespace Go.Abs
open Go Go.Proofs
noncomputable section
end
end Go.Abs

set_option maxRecDepth 100000
namespace Go.Abs
open Go Go.Proofs
noncomputable section
end
end Go.Abs

