/- Part of a proof: a machine of plain data, and what the functions come to on it. -/
import Derived.Test.YthmahgleehgbaaaGreatSnB
set_option linter.unusedSimpArgs false
set_option linter.unusedVariables false
set_option linter.unusedSectionVars false
set_option maxRecDepth 100000
namespace Go.Abs
open Go Go.Proofs
noncomputable section
def step_law20_QueryTells_0 (l_1 : List (Int × Int × List UInt8 × List UInt8 × Int × Int × Int × Int)) (now_2 : Int) (task_3 : Int) (v6 : List (Int × Int × List UInt8 × List UInt8 × Int × Int × Int × Int)) : Int → Option (Int ⊕ (Bool ⊕ Unit)) := fun i_7 =>
  if decide (i_7 < (↑l_1.length : Int)) = true then
    natOf i_7 fun n8 =>
    bnd (v6[n8]?) fun x9 =>
    bnd (F_query_Out_Check (x9.fst, x9.snd.fst, x9.snd.snd.fst, x9.snd.snd.snd.fst, x9.snd.snd.snd.snd.fst, x9.snd.snd.snd.snd.snd.fst, x9.snd.snd.snd.snd.snd.snd.fst, x9.snd.snd.snd.snd.snd.snd.snd)) fun v10 =>
    natOf i_7 fun n11 =>
    bnd (l_1[n11]?) fun x12 =>
    bnd (F_ref20_Check (x12.fst, x12.snd.fst, x12.snd.snd.fst, x12.snd.snd.snd.fst, x12.snd.snd.snd.snd.fst, x12.snd.snd.snd.snd.snd.fst, x12.snd.snd.snd.snd.snd.snd.fst, x12.snd.snd.snd.snd.snd.snd.snd)) fun v13 =>
    if (!v10 == v13) = false then
      natOf i_7 fun n14 =>
      bnd (v6[n14]?) fun x15 =>
      bnd (F_query_Out_Bytes (x15.fst, x15.snd.fst, x15.snd.snd.fst, x15.snd.snd.snd.fst, x15.snd.snd.snd.snd.fst, x15.snd.snd.snd.snd.snd.fst, x15.snd.snd.snd.snd.snd.snd.fst, x15.snd.snd.snd.snd.snd.snd.snd)) fun v16 =>
      natOf i_7 fun n17 =>
      bnd (l_1[n17]?) fun x18 =>
      bnd (F_ref20_Bytes (x18.fst, x18.snd.fst, x18.snd.snd.fst, x18.snd.snd.snd.fst, x18.snd.snd.snd.snd.fst, x18.snd.snd.snd.snd.snd.fst, x18.snd.snd.snd.snd.snd.snd.fst, x18.snd.snd.snd.snd.snd.snd.snd)) fun v19 =>
      if (!v16 == v19) = true then
        some (.inr (.inl false))
      else
        grdEq l_1 l_1 <|
        grdEq now_2 now_2 <|
        grdEq task_3 task_3 <|
        grdEq v6 v6 <|
        some (.inl (Go.IntKind.i64.wrap (i_7 + 1)))
    else
      some (.inr (.inl false))
  else
    grdEq l_1 l_1 <|
    grdEq now_2 now_2 <|
    grdEq task_3 task_3 <|
    grdEq v6 v6 <|
    some (.inr (.inr (())))
def F_law20_QueryTells (l_1 : List ((Int × (Int × (List UInt8 × (List UInt8 × (Int × (Int × (Int × Int))))))))) (now_2 : Int) (task_3 : Int) : Option (Bool) :=
  bnd (F_ref20_Few l_1) fun v4 =>
  if (!v4) = true then
    bnd F_law20_live fun v5 =>
    some v5
  else
    bnd (F_law20_Own l_1) fun v6 =>
    bnd (loopS (step_law20_QueryTells_0 l_1 now_2 task_3 v6) 0) fun o20 =>
    match o20 with
    | .inl s6_21 =>
      some s6_21
    | .inr _ =>
      bnd (F_query_Late v6 now_2) fun v22 =>
      bnd (F_ref20_Late l_1 now_2) fun v23 =>
      bnd (F_ref13_Same v22 v23) fun v24 =>
      if v24 = true then
        bnd (F_query_Without v6 task_3) fun v25 =>
        bnd (F_law20_Told v25) fun v26 =>
        bnd (F_ref20_Without l_1 task_3) fun v27 =>
        bnd (F_ref20_Same v26 v27) fun v28 =>
        if v28 = true then
          bnd F_law20_live fun v29 =>
          some v29
        else
          some false
      else
        some false
def ann_law20_QueryTells : List (List Nat × Ann) := [([16], ⟨some ⟨(.cons (.keep (.list tO)) (.cons (.keep (.int .i64)) (.cons (.keep (.int .i64)) (anyN 4 (.cons (.keep (.list tO)) (.cons (.ty (.int .i64)) (anyN 56 .nil))))))), [], [], []⟩, [(.ret, ⟨(anyN 6 (.cons (.ty .bool) (anyN 58 .nil))), [], [], []⟩), (.exit 0, ⟨(.cons (.keep (.list tO)) (.cons (.keep (.int .i64)) (.cons (.keep (.int .i64)) (anyN 4 (.cons (.keep (.list tO)) (anyN 57 .nil)))))), [], [], []⟩)]⟩)]
@[reducible] def fs_law20_QueryTells : List (Nat × SFn) := [(15, .pure [tO] [.bool] (fun x => F_query_Out_Check x)), (16, .pure [tO] [.bool] (fun x => F_ref20_Check x)), (17, .pure [tO] [.str] (fun x => F_query_Out_Bytes x)), (18, .pure [tO] [.str] (fun x => F_ref20_Bytes x)), (9, .pure [(.list tO)] [.bool] (fun x => F_ref20_Few x)), (10, .pure [] [.bool] (fun x => F_law20_live)), (12, .pure [(.list tO)] [(.list tO)] (fun x => F_law20_Own x)), (20, .pure [(.list tO), (.int .i64)] [(.list (.int .i64))] (fun x => F_query_Late x.1 x.2)), (21, .pure [(.list tO), (.int .i64)] [(.list (.int .i64))] (fun x => F_ref20_Late x.1 x.2)), (19, .pure [(.list (.int .i64)), (.list (.int .i64))] [.bool] (fun x => F_ref13_Same x.1 x.2)), (24, .pure [(.list tO), (.int .i64)] [(.list tO)] (fun x => F_query_Without x.1 x.2)), (23, .pure [(.list tO)] [(.list tO)] (fun x => F_law20_Told x)), (25, .pure [(.list tO), (.int .i64)] [(.list tO)] (fun x => F_ref20_Without x.1 x.2)), (22, .pure [(.list tO), (.list tO)] [.bool] (fun x => F_ref20_Same x.1 x.2))]
def cfg_law20_QueryTells : SCfg := SCfg.of (fs_law20_QueryTells ++ inlL) ann_law20_QueryTells keepL
theorem eq_law20_QueryTells (x : HL [(.list tO), (.int .i64), (.int .i64)]) : fnK cfg_law20_QueryTells Tryz.prog 100000 4 [(.list tO), (.int .i64), (.int .i64)] [.bool] x = (fun x => F_law20_QueryTells x.1 x.2.1 x.2.2) x := by kernel_rfl
theorem told_law20_QueryTells : Told CC Tryz.prog 4 [(.list tO), (.int .i64), (.int .i64)] [.bool] (fun x => F_law20_QueryTells x.1 x.2.1 x.2.2) := told_of (gok (an := ann_law20_QueryTells) (fs := fs_law20_QueryTells) ⟨told_query_Out_Check, told_ref20_Check, told_query_Out_Bytes, told_ref20_Bytes, told_ref20_Few, told_law20_live, told_law20_Own, told_query_Late, told_ref20_Late, told_ref13_Same, told_query_Without, told_law20_Told, told_ref20_Without, told_ref20_Same, trivial⟩) rfl rfl eq_law20_QueryTells
end
end Go.Abs

set_option maxRecDepth 100000
namespace Go.Abs
open Go Go.Proofs
noncomputable section
end
end Go.Abs

set_option maxRecDepth 100000
namespace Go.Abs
open Go Go.Proofs
noncomputable section
end
end Go.Abs

