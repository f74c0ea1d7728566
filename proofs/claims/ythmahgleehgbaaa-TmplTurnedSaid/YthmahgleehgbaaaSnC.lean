/- Part of a proof: a machine of plain data, and what the functions come to on it. -/
import Derived.Test.YthmahgleehgbaaaSnB
set_option linter.unusedSimpArgs false
set_option linter.unusedVariables false
set_option linter.unusedSectionVars false
set_option maxRecDepth 100000
namespace Go.Abs
open Go Go.Proofs
noncomputable section
end
end Go.Abs

set_option maxRecDepth 100000
namespace Go.Abs
open Go Go.Proofs
noncomputable section
def F_law18_TmplTurned (t_1 : (List UInt8 × (Int × (Int × (Int × (List UInt8 × List ((List ((Int × (Int × Int))) × (Int × Bool))))))))) (i_2 : Int) (at_3 : (Int × Int)) : Option (Bool) :=
  bnd (α := (Bool ⊕ Unit)) (bnd (α := Bool) (bnd (F_ref18_Small (t_1.1, t_1.2.1, t_1.2.2.1, t_1.2.2.2.1, t_1.2.2.2.2.1, t_1.2.2.2.2.2)) fun v4 =>
      if (!v4) = false then
        if decide (i_2 < 0) = false then
          if decide ((↑(List.length t_1.2.2.2.2.2) : Int) ≤ i_2) = false then
            if decide (at_3.2 < 0) = false then
              grdEq i_2 i_2 <|
              grdEq t_1.1 t_1.1 <|
              grdEq t_1.2.1 t_1.2.1 <|
              grdEq t_1.2.2.1 t_1.2.2.1 <|
              grdEq t_1.2.2.2.1 t_1.2.2.2.1 <|
              grdEq t_1.2.2.2.2.1 t_1.2.2.2.2.1 <|
              grdEq t_1.2.2.2.2.2 t_1.2.2.2.2.2 <|
              grdEq at_3.1 at_3.1 <|
              grdEq at_3.2 at_3.2 <|
              some (decide (1099511627776 < at_3.2))
            else
              grdEq i_2 i_2 <|
              grdEq t_1.1 t_1.1 <|
              grdEq t_1.2.1 t_1.2.1 <|
              grdEq t_1.2.2.1 t_1.2.2.1 <|
              grdEq t_1.2.2.2.1 t_1.2.2.2.1 <|
              grdEq t_1.2.2.2.2.1 t_1.2.2.2.2.1 <|
              grdEq t_1.2.2.2.2.2 t_1.2.2.2.2.2 <|
              grdEq at_3.1 at_3.1 <|
              grdEq at_3.2 at_3.2 <|
              some true
          else
            grdEq i_2 i_2 <|
            grdEq t_1.1 t_1.1 <|
            grdEq t_1.2.1 t_1.2.1 <|
            grdEq t_1.2.2.1 t_1.2.2.1 <|
            grdEq t_1.2.2.2.1 t_1.2.2.2.1 <|
            grdEq t_1.2.2.2.2.1 t_1.2.2.2.2.1 <|
            grdEq t_1.2.2.2.2.2 t_1.2.2.2.2.2 <|
            grdEq at_3.1 at_3.1 <|
            grdEq at_3.2 at_3.2 <|
            some true
        else
          grdEq i_2 i_2 <|
          grdEq t_1.1 t_1.1 <|
          grdEq t_1.2.1 t_1.2.1 <|
          grdEq t_1.2.2.1 t_1.2.2.1 <|
          grdEq t_1.2.2.2.1 t_1.2.2.2.1 <|
          grdEq t_1.2.2.2.2.1 t_1.2.2.2.2.1 <|
          grdEq t_1.2.2.2.2.2 t_1.2.2.2.2.2 <|
          grdEq at_3.1 at_3.1 <|
          grdEq at_3.2 at_3.2 <|
          some true
      else
        grdEq i_2 i_2 <|
        grdEq t_1.1 t_1.1 <|
        grdEq t_1.2.1 t_1.2.1 <|
        grdEq t_1.2.2.1 t_1.2.2.1 <|
        grdEq t_1.2.2.2.1 t_1.2.2.2.1 <|
        grdEq t_1.2.2.2.2.1 t_1.2.2.2.2.1 <|
        grdEq t_1.2.2.2.2.2 t_1.2.2.2.2.2 <|
        grdEq at_3.1 at_3.1 <|
        grdEq at_3.2 at_3.2 <|
        some true) fun s34_5 =>
    if s34_5 = true then
      bnd F_law18_live fun v6 =>
      grdEq t_1.1 t_1.1 <|
      grdEq t_1.2.1 t_1.2.1 <|
      grdEq t_1.2.2.1 t_1.2.2.1 <|
      grdEq t_1.2.2.2.1 t_1.2.2.2.1 <|
      grdEq t_1.2.2.2.2.1 t_1.2.2.2.2.1 <|
      grdEq t_1.2.2.2.2.2 t_1.2.2.2.2.2 <|
      grdEq at_3.1 at_3.1 <|
      grdEq at_3.2 at_3.2 <|
      some (.inl v6)
    else
      grdEq i_2 i_2 <|
      grdEq t_1.1 t_1.1 <|
      grdEq t_1.2.1 t_1.2.1 <|
      grdEq t_1.2.2.1 t_1.2.2.1 <|
      grdEq t_1.2.2.2.1 t_1.2.2.2.1 <|
      grdEq t_1.2.2.2.2.1 t_1.2.2.2.2.1 <|
      grdEq t_1.2.2.2.2.2 t_1.2.2.2.2.2 <|
      grdEq at_3.1 at_3.1 <|
      grdEq at_3.2 at_3.2 <|
      some (.inr (()))) fun o7 =>
  match o7 with
  | .inl s6_8 =>
    some s6_8
  | .inr _ =>
    bnd (F_law18_Own (t_1.1, t_1.2.1, t_1.2.2.1, t_1.2.2.2.1, t_1.2.2.2.2.1, t_1.2.2.2.2.2)) fun v9 =>
    bnd (F_tmpl_Template_Part (v9.1, v9.2.1, v9.2.2.1, v9.2.2.2.1, v9.2.2.2.2.1, v9.2.2.2.2.2) i_2 at_3.1 at_3.2) fun v10 =>
    natOf i_2 fun n11 =>
    bnd (t_1.2.2.2.2.2[n11]?) fun x12 =>
    bnd (F_tmpl_Template_Part (v9.1, v9.2.1, v9.2.2.1, v9.2.2.2.1, v9.2.2.2.2.1, v9.2.2.2.2.2) i_2 at_3.1 (Go.IntKind.i64.wrap (at_3.2 + (↑(List.length x12.1) : Int)))) fun v13 =>
    bnd (F_tmpl_Template_Part (v9.1, v9.2.1, v9.2.2.1, v9.2.2.2.1, v9.2.2.2.2.1, v9.2.2.2.2.2) i_2 at_3.1 0) fun v14 =>
    if (v10 == v13) = true then
      if ((↑v10.length : Int) == (↑v14.length : Int)) = true then
        bnd F_law18_live fun v15 =>
        some v15
      else
        some false
    else
      some false
def ann_law18_TmplTurned : List (List Nat × Ann) := [([2], ⟨none, [(.ret, ⟨(anyN 6 (.cons (.ty .bool) (anyN 71 .nil))), [.cells 46 true (.cons (.keep .str) (.cons (.keep (.int .i64)) (.cons (.keep (.int .i64)) (.cons (.keep (.int .i64)) (.cons (.keep .str) (.cons (.keep (.list (.agg (.cons (.list (.agg (.cons (.int .i64) (.cons (.int .i64) (.int .i64))))) (.cons (.int .i64) .bool))))) .nil)))))), .cells 52 true (.cons (.keep (.int .i64)) (.cons (.keep (.int .i64)) .nil))], [], []⟩), (.normal, ⟨(anyN 1 (.cons (.keep (.int .i64)) (anyN 1 (.cons (.ptr 0 0) (anyN 1 (.cons (.ptr 1 0) (anyN 72 .nil))))))), [.cells 46 true (.cons (.keep .str) (.cons (.keep (.int .i64)) (.cons (.keep (.int .i64)) (.cons (.keep (.int .i64)) (.cons (.keep .str) (.cons (.keep (.list (.agg (.cons (.list (.agg (.cons (.int .i64) (.cons (.int .i64) (.int .i64))))) (.cons (.int .i64) .bool))))) .nil)))))), .cells 52 true (.cons (.keep (.int .i64)) (.cons (.keep (.int .i64)) .nil))], [], []⟩)]⟩), ([3], ⟨none, [(.normal, ⟨(anyN 1 (.cons (.keep (.int .i64)) (anyN 1 (.cons (.ptr 0 0) (anyN 1 (.cons (.ptr 1 0) (anyN 28 (.cons (.ty .bool) (anyN 43 .nil))))))))), [.cells 46 true (.cons (.keep .str) (.cons (.keep (.int .i64)) (.cons (.keep (.int .i64)) (.cons (.keep (.int .i64)) (.cons (.keep .str) (.cons (.keep (.list (.agg (.cons (.list (.agg (.cons (.int .i64) (.cons (.int .i64) (.int .i64))))) (.cons (.int .i64) .bool))))) .nil)))))), .cells 52 true (.cons (.keep (.int .i64)) (.cons (.keep (.int .i64)) .nil))], [], []⟩)]⟩)]
@[reducible] def fs_law18_TmplTurned : List (Nat × SFn) := [(16, .pure [(.agg (.cons .str (.cons (.int .i64) (.cons (.int .i64) (.cons (.int .i64) (.cons .str (.list (.agg (.cons (.list (.agg (.cons (.int .i64) (.cons (.int .i64) (.int .i64))))) (.cons (.int .i64) .bool))))))))))] [.bool] (fun x => F_ref18_Small x)), (10, .pure [] [.bool] (fun x => F_law18_live)), (17, .pure [(.agg (.cons .str (.cons (.int .i64) (.cons (.int .i64) (.cons (.int .i64) (.cons .str (.list (.agg (.cons (.list (.agg (.cons (.int .i64) (.cons (.int .i64) (.int .i64))))) (.cons (.int .i64) .bool))))))))))] [(.agg (.cons .str (.cons (.int .i64) (.cons (.int .i64) (.cons (.int .i64) (.cons .str (.list (.agg (.cons (.list (.agg (.cons (.int .i64) (.cons (.int .i64) (.int .i64))))) (.cons (.int .i64) .bool))))))))))] (fun x => F_law18_Own x)), (22, .pure [(.agg (.cons .str (.cons (.int .i64) (.cons (.int .i64) (.cons (.int .i64) (.cons .str (.list (.agg (.cons (.list (.agg (.cons (.int .i64) (.cons (.int .i64) (.int .i64))))) (.cons (.int .i64) .bool)))))))))), (.int .i64), (.int .i64), (.int .i64)] [.str] (fun x => F_tmpl_Template_Part x.1 x.2.1 x.2.2.1 x.2.2.2))]
def cfg_law18_TmplTurned : SCfg := SCfg.of (fs_law18_TmplTurned ++ inlL) ann_law18_TmplTurned keepL
theorem eq_law18_TmplTurned (x : HL [(.agg (.cons .str (.cons (.int .i64) (.cons (.int .i64) (.cons (.int .i64) (.cons .str (.list (.agg (.cons (.list (.agg (.cons (.int .i64) (.cons (.int .i64) (.int .i64))))) (.cons (.int .i64) .bool)))))))))), (.int .i64), (.agg (.cons (.int .i64) (.int .i64)))]) : fnK cfg_law18_TmplTurned Try.prog 100000 7 [(.agg (.cons .str (.cons (.int .i64) (.cons (.int .i64) (.cons (.int .i64) (.cons .str (.list (.agg (.cons (.list (.agg (.cons (.int .i64) (.cons (.int .i64) (.int .i64))))) (.cons (.int .i64) .bool)))))))))), (.int .i64), (.agg (.cons (.int .i64) (.int .i64)))] [.bool] x = (fun x => F_law18_TmplTurned x.1 x.2.1 x.2.2) x := by kernel_rfl
theorem told_law18_TmplTurned : Told CC Try.prog 7 [(.agg (.cons .str (.cons (.int .i64) (.cons (.int .i64) (.cons (.int .i64) (.cons .str (.list (.agg (.cons (.list (.agg (.cons (.int .i64) (.cons (.int .i64) (.int .i64))))) (.cons (.int .i64) .bool)))))))))), (.int .i64), (.agg (.cons (.int .i64) (.int .i64)))] [.bool] (fun x => F_law18_TmplTurned x.1 x.2.1 x.2.2) := told_of (gok (an := ann_law18_TmplTurned) (fs := fs_law18_TmplTurned) ⟨told_ref18_Small, told_law18_live, told_law18_Own, told_tmpl_Template_Part, trivial⟩) rfl rfl eq_law18_TmplTurned
end
end Go.Abs

set_option maxRecDepth 100000
namespace Go.Abs
open Go Go.Proofs
noncomputable section
end
end Go.Abs

