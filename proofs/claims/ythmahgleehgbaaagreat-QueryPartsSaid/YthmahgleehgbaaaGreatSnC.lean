/- Part of a proof: a machine of plain data, and what the functions come to on it. -/
import Derived.Test.YthmahgleehgbaaaGreatSnB
set_option linter.unusedSimpArgs false
set_option linter.unusedVariables false
set_option linter.unusedSectionVars false
set_option maxRecDepth 100000
namespace Go.Abs
open Go Go.Proofs
noncomputable section
end
end Go.Abs

set_option maxRecDepth 100000
namespace Go.Abs
open Go Go.Proofs
noncomputable section
end
end Go.Abs

set_option maxRecDepth 100000
namespace Go.Abs
open Go Go.Proofs
noncomputable section
def step_law20_QueryParts_0 (l_1 : List (Int × Int × List UInt8 × List UInt8 × Int × Int × Int × Int)) (now_2 : Int) (task_3 : Int) (v6 : List (Int × Int × List UInt8 × List UInt8 × Int × Int × Int × Int)) (v7 : List Int) : (Int × Int) → Option ((Int × Int) ⊕ (Bool ⊕ Int)) := fun (at_8, i_9) =>
  if decide (i_9 < (↑l_1.length : Int)) = true then
    natOf i_9 fun n10 =>
    bnd (l_1[n10]?) fun x11 =>
    if decide (now_2 < x11.snd.snd.snd.snd.snd.snd.fst) = true then
      grdEq l_1 l_1 <|
      grdEq now_2 now_2 <|
      grdEq task_3 task_3 <|
      grdEq v6 v6 <|
      grdEq v7 v7 <|
      some (.inl ((at_8, Go.IntKind.i64.wrap (i_9 + 1))))
    else
      if decide ((↑v7.length : Int) ≤ at_8) = false then
        natOf at_8 fun n12 =>
        bnd (v7[n12]?) fun x13 =>
        if (x13 != i_9) = true then
          some (.inr (.inl false))
        else
          grdEq l_1 l_1 <|
          grdEq now_2 now_2 <|
          grdEq task_3 task_3 <|
          grdEq v6 v6 <|
          grdEq v7 v7 <|
          some (.inl ((Go.IntKind.i64.wrap (at_8 + 1), Go.IntKind.i64.wrap (i_9 + 1))))
      else
        some (.inr (.inl false))
  else
    grdEq l_1 l_1 <|
    grdEq task_3 task_3 <|
    grdEq v6 v6 <|
    grdEq v7 v7 <|
    some (.inr (.inr at_8))
def step_law20_QueryParts_1 (l_1 : List (Int × Int × List UInt8 × List UInt8 × Int × Int × Int × Int)) (task_3 : Int) (v7 : List Int) (at_16 : Int) (v17 : List (Int × Int × List UInt8 × List UInt8 × Int × Int × Int × Int)) : (Int × Int) → Option ((Int × Int) ⊕ (Bool ⊕ Int)) := fun (k_18, i_19) =>
  if decide (i_19 < (↑l_1.length : Int)) = true then
    natOf i_19 fun n20 =>
    bnd (l_1[n20]?) fun x21 =>
    if (x21.snd.snd.snd.snd.snd.snd.snd == task_3) = true then
      grdEq l_1 l_1 <|
      grdEq task_3 task_3 <|
      grdEq v7 v7 <|
      grdEq at_16 at_16 <|
      grdEq v17 v17 <|
      some (.inl ((k_18, Go.IntKind.i64.wrap (i_19 + 1))))
    else
      if decide ((↑v17.length : Int) ≤ k_18) = false then
        natOf k_18 fun n22 =>
        bnd (v17[n22]?) fun x23 =>
        natOf i_19 fun n24 =>
        bnd (l_1[n24]?) fun x25 =>
        if (!(x23.fst == x25.fst && (x23.snd.fst == x25.snd.fst && (x23.snd.snd.fst == x25.snd.snd.fst && (x23.snd.snd.snd.fst == x25.snd.snd.snd.fst && (x23.snd.snd.snd.snd.fst == x25.snd.snd.snd.snd.fst && (x23.snd.snd.snd.snd.snd.fst == x25.snd.snd.snd.snd.snd.fst && true)) && (x23.snd.snd.snd.snd.snd.snd.fst == x25.snd.snd.snd.snd.snd.snd.fst && (x23.snd.snd.snd.snd.snd.snd.snd == x25.snd.snd.snd.snd.snd.snd.snd && true))))))) = true then
          some (.inr (.inl false))
        else
          grdEq l_1 l_1 <|
          grdEq task_3 task_3 <|
          grdEq v7 v7 <|
          grdEq at_16 at_16 <|
          grdEq v17 v17 <|
          some (.inl ((Go.IntKind.i64.wrap (k_18 + 1), Go.IntKind.i64.wrap (i_19 + 1))))
      else
        some (.inr (.inl false))
  else
    grdEq v7 v7 <|
    grdEq at_16 at_16 <|
    grdEq v17 v17 <|
    some (.inr (.inr k_18))
def F_law20_QueryParts (l_1 : List ((Int × (Int × (List UInt8 × (List UInt8 × (Int × (Int × (Int × Int))))))))) (now_2 : Int) (task_3 : Int) : Option (Bool) :=
  bnd (F_ref20_Few l_1) fun v4 =>
  if (!v4) = true then
    bnd F_law20_live fun v5 =>
    some v5
  else
    bnd (F_law20_Own l_1) fun v6 =>
    bnd (F_query_Late v6 now_2) fun v7 =>
    bnd (loopS (step_law20_QueryParts_0 l_1 now_2 task_3 v6 v7) ((0, 0))) fun o14 =>
    match o14 with
    | .inl s6_15 =>
      some s6_15
    | .inr at_16 =>
      bnd (F_query_Without v6 task_3) fun v17 =>
      bnd (loopS (step_law20_QueryParts_1 l_1 task_3 v7 at_16 v17) ((0, 0))) fun o26 =>
      match o26 with
      | .inl s6_27 =>
        some s6_27
      | .inr k_28 =>
        if (at_16 == (↑v7.length : Int)) = true then
          if (k_28 == (↑v17.length : Int)) = true then
            bnd F_law20_live fun v29 =>
            some v29
          else
            some false
        else
          some false
def ann_law20_QueryParts : List (List Nat × Ann) := [([20], ⟨some ⟨(.cons (.keep (.list tO)) (.cons (.keep (.int .i64)) (.cons (.keep (.int .i64)) (anyN 4 (.cons (.keep (.list tO)) (.cons (.keep (.list (.int .i64))) (.cons (.ty (.int .i64)) (.cons (.ty (.int .i64)) (anyN 85 .nil))))))))), [], [], []⟩, [(.ret, ⟨(anyN 6 (.cons (.ty .bool) (anyN 89 .nil))), [], [], []⟩), (.exit 0, ⟨(.cons (.keep (.list tO)) (anyN 1 (.cons (.keep (.int .i64)) (anyN 4 (.cons (.keep (.list tO)) (.cons (.keep (.list (.int .i64))) (.cons (.ty (.int .i64)) (anyN 86 .nil)))))))), [], [], []⟩)]⟩), ([53], ⟨some ⟨(.cons (.keep (.list tO)) (anyN 1 (.cons (.keep (.int .i64)) (anyN 5 (.cons (.keep (.list (.int .i64))) (.cons (.keep (.int .i64)) (anyN 1 (.cons (.keep (.list tO)) (.cons (.ty (.int .i64)) (.cons (.ty (.int .i64)) (anyN 82 .nil))))))))))), [], [], []⟩, [(.ret, ⟨(anyN 6 (.cons (.ty .bool) (anyN 89 .nil))), [], [], []⟩), (.exit 2, ⟨(anyN 8 (.cons (.keep (.list (.int .i64))) (.cons (.keep (.int .i64)) (anyN 1 (.cons (.keep (.list tO)) (.cons (.ty (.int .i64)) (anyN 83 .nil))))))), [], [], []⟩)]⟩)]
@[reducible] def fs_law20_QueryParts : List (Nat × SFn) := [(9, .pure [(.list tO)] [.bool] (fun x => F_ref20_Few x)), (10, .pure [] [.bool] (fun x => F_law20_live)), (12, .pure [(.list tO)] [(.list tO)] (fun x => F_law20_Own x)), (20, .pure [(.list tO), (.int .i64)] [(.list (.int .i64))] (fun x => F_query_Late x.1 x.2)), (24, .pure [(.list tO), (.int .i64)] [(.list tO)] (fun x => F_query_Without x.1 x.2))]
def cfg_law20_QueryParts : SCfg := SCfg.of (fs_law20_QueryParts ++ inlL) ann_law20_QueryParts keepL
theorem eq_law20_QueryParts (x : HL [(.list tO), (.int .i64), (.int .i64)]) : fnK cfg_law20_QueryParts Tryz.prog 100000 7 [(.list tO), (.int .i64), (.int .i64)] [.bool] x = (fun x => F_law20_QueryParts x.1 x.2.1 x.2.2) x := by kernel_rfl
theorem told_law20_QueryParts : Told CC Tryz.prog 7 [(.list tO), (.int .i64), (.int .i64)] [.bool] (fun x => F_law20_QueryParts x.1 x.2.1 x.2.2) := told_of (gok (an := ann_law20_QueryParts) (fs := fs_law20_QueryParts) ⟨told_ref20_Few, told_law20_live, told_law20_Own, told_query_Late, told_query_Without, trivial⟩) rfl rfl eq_law20_QueryParts
end
end Go.Abs

