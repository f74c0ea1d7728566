/- Part of a proof: a machine of plain data, and what the functions come to on it. -/
import Derived.Test.YthmahgleehgbaaaGreatSnB
set_option linter.unusedSimpArgs false
set_option linter.unusedVariables false
set_option linter.unusedSectionVars false
set_option maxRecDepth 100000
namespace Go.Abs
open Go Go.Proofs
noncomputable section
end
end Go.Abs

set_option maxRecDepth 100000
namespace Go.Abs
open Go Go.Proofs
noncomputable section
end
end Go.Abs

set_option maxRecDepth 100000
namespace Go.Abs
open Go Go.Proofs
noncomputable section
def F_law20_QueryFirst (l_1 : List ((Int × (Int × (List UInt8 × (List UInt8 × (Int × (Int × (Int × Int))))))))) (from_2 : (Int × (Int × (List UInt8 × (List UInt8 × (Int × (Int × (Int × Int)))))))) (s_3 : List UInt8) : Option (Bool) :=
  bnd (α := (Bool ⊕ Unit)) (bnd (α := Bool) (bnd (F_ref20_Few l_1) fun v4 =>
      if (!v4) = false then
        if decide (2000 < (↑s_3.length : Int)) = false then
          grdEq l_1 l_1 <|
          grdEq s_3 s_3 <|
          grdEq from_2.fst from_2.fst <|
          grdEq from_2.snd.fst from_2.snd.fst <|
          grdEq from_2.snd.snd.fst from_2.snd.snd.fst <|
          grdEq from_2.snd.snd.snd.fst from_2.snd.snd.snd.fst <|
          grdEq from_2.snd.snd.snd.snd.fst from_2.snd.snd.snd.snd.fst <|
          grdEq from_2.snd.snd.snd.snd.snd.fst from_2.snd.snd.snd.snd.snd.fst <|
          grdEq from_2.snd.snd.snd.snd.snd.snd.fst from_2.snd.snd.snd.snd.snd.snd.fst <|
          grdEq from_2.snd.snd.snd.snd.snd.snd.snd from_2.snd.snd.snd.snd.snd.snd.snd <|
          some (decide (100 < (↑(List.length from_2.snd.snd.fst) : Int)))
        else
          grdEq l_1 l_1 <|
          grdEq s_3 s_3 <|
          grdEq from_2.fst from_2.fst <|
          grdEq from_2.snd.fst from_2.snd.fst <|
          grdEq from_2.snd.snd.fst from_2.snd.snd.fst <|
          grdEq from_2.snd.snd.snd.fst from_2.snd.snd.snd.fst <|
          grdEq from_2.snd.snd.snd.snd.fst from_2.snd.snd.snd.snd.fst <|
          grdEq from_2.snd.snd.snd.snd.snd.fst from_2.snd.snd.snd.snd.snd.fst <|
          grdEq from_2.snd.snd.snd.snd.snd.snd.fst from_2.snd.snd.snd.snd.snd.snd.fst <|
          grdEq from_2.snd.snd.snd.snd.snd.snd.snd from_2.snd.snd.snd.snd.snd.snd.snd <|
          some true
      else
        grdEq l_1 l_1 <|
        grdEq s_3 s_3 <|
        grdEq from_2.fst from_2.fst <|
        grdEq from_2.snd.fst from_2.snd.fst <|
        grdEq from_2.snd.snd.fst from_2.snd.snd.fst <|
        grdEq from_2.snd.snd.snd.fst from_2.snd.snd.snd.fst <|
        grdEq from_2.snd.snd.snd.snd.fst from_2.snd.snd.snd.snd.fst <|
        grdEq from_2.snd.snd.snd.snd.snd.fst from_2.snd.snd.snd.snd.snd.fst <|
        grdEq from_2.snd.snd.snd.snd.snd.snd.fst from_2.snd.snd.snd.snd.snd.snd.fst <|
        grdEq from_2.snd.snd.snd.snd.snd.snd.snd from_2.snd.snd.snd.snd.snd.snd.snd <|
        some true) fun s30_5 =>
    if s30_5 = true then
      bnd F_law20_live fun v6 =>
      grdEq from_2.fst from_2.fst <|
      grdEq from_2.snd.fst from_2.snd.fst <|
      grdEq from_2.snd.snd.fst from_2.snd.snd.fst <|
      grdEq from_2.snd.snd.snd.fst from_2.snd.snd.snd.fst <|
      grdEq from_2.snd.snd.snd.snd.fst from_2.snd.snd.snd.snd.fst <|
      grdEq from_2.snd.snd.snd.snd.snd.fst from_2.snd.snd.snd.snd.snd.fst <|
      grdEq from_2.snd.snd.snd.snd.snd.snd.fst from_2.snd.snd.snd.snd.snd.snd.fst <|
      grdEq from_2.snd.snd.snd.snd.snd.snd.snd from_2.snd.snd.snd.snd.snd.snd.snd <|
      some (.inl v6)
    else
      grdEq l_1 l_1 <|
      grdEq s_3 s_3 <|
      grdEq from_2.fst from_2.fst <|
      grdEq from_2.snd.fst from_2.snd.fst <|
      grdEq from_2.snd.snd.fst from_2.snd.snd.fst <|
      grdEq from_2.snd.snd.snd.fst from_2.snd.snd.snd.fst <|
      grdEq from_2.snd.snd.snd.snd.fst from_2.snd.snd.snd.snd.fst <|
      grdEq from_2.snd.snd.snd.snd.snd.fst from_2.snd.snd.snd.snd.snd.fst <|
      grdEq from_2.snd.snd.snd.snd.snd.snd.fst from_2.snd.snd.snd.snd.snd.snd.fst <|
      grdEq from_2.snd.snd.snd.snd.snd.snd.snd from_2.snd.snd.snd.snd.snd.snd.snd <|
      some (.inr (()))) fun o7 =>
  match o7 with
  | .inl s6_8 =>
    some s6_8
  | .inr _ =>
    bnd (F_law20_Own l_1) fun v9 =>
    bnd (F_query_Match v9 from_2.snd.snd.fst from_2.snd.fst s_3) fun (v10, v11, v12) =>
    if (v12 != 0) = true then
      if (v10 == -1) = true then
        bnd F_law20_live fun v13 =>
        some v13
      else
        some false
    else
      bnd (α := (Bool ⊕ Unit)) (if decide (v10 < 0) = false then
          if decide ((↑v9.length : Int) ≤ v10) = true then
            grdEq from_2.fst from_2.fst <|
            grdEq from_2.snd.fst from_2.snd.fst <|
            grdEq from_2.snd.snd.fst from_2.snd.snd.fst <|
            grdEq from_2.snd.snd.snd.fst from_2.snd.snd.snd.fst <|
            grdEq from_2.snd.snd.snd.snd.fst from_2.snd.snd.snd.snd.fst <|
            grdEq from_2.snd.snd.snd.snd.snd.fst from_2.snd.snd.snd.snd.snd.fst <|
            grdEq from_2.snd.snd.snd.snd.snd.snd.fst from_2.snd.snd.snd.snd.snd.snd.fst <|
            grdEq from_2.snd.snd.snd.snd.snd.snd.snd from_2.snd.snd.snd.snd.snd.snd.snd <|
            grdEq v11.fst v11.fst <|
            grdEq v11.snd.fst v11.snd.fst <|
            grdEq v11.snd.snd.fst v11.snd.snd.fst <|
            grdEq v11.snd.snd.snd.fst v11.snd.snd.snd.fst <|
            grdEq v11.snd.snd.snd.snd.fst v11.snd.snd.snd.snd.fst <|
            grdEq v11.snd.snd.snd.snd.snd v11.snd.snd.snd.snd.snd <|
            some (.inl false)
          else
            grdEq s_3 s_3 <|
            grdEq v9 v9 <|
            grdEq v10 v10 <|
            grdEq from_2.fst from_2.fst <|
            grdEq from_2.snd.fst from_2.snd.fst <|
            grdEq from_2.snd.snd.fst from_2.snd.snd.fst <|
            grdEq from_2.snd.snd.snd.fst from_2.snd.snd.snd.fst <|
            grdEq from_2.snd.snd.snd.snd.fst from_2.snd.snd.snd.snd.fst <|
            grdEq from_2.snd.snd.snd.snd.snd.fst from_2.snd.snd.snd.snd.snd.fst <|
            grdEq from_2.snd.snd.snd.snd.snd.snd.fst from_2.snd.snd.snd.snd.snd.snd.fst <|
            grdEq from_2.snd.snd.snd.snd.snd.snd.snd from_2.snd.snd.snd.snd.snd.snd.snd <|
            grdEq v11.fst v11.fst <|
            grdEq v11.snd.fst v11.snd.fst <|
            grdEq v11.snd.snd.fst v11.snd.snd.fst <|
            grdEq v11.snd.snd.snd.fst v11.snd.snd.snd.fst <|
            grdEq v11.snd.snd.snd.snd.fst v11.snd.snd.snd.snd.fst <|
            grdEq v11.snd.snd.snd.snd.snd v11.snd.snd.snd.snd.snd <|
            some (.inr (()))
        else
          grdEq from_2.fst from_2.fst <|
          grdEq from_2.snd.fst from_2.snd.fst <|
          grdEq from_2.snd.snd.fst from_2.snd.snd.fst <|
          grdEq from_2.snd.snd.snd.fst from_2.snd.snd.snd.fst <|
          grdEq from_2.snd.snd.snd.snd.fst from_2.snd.snd.snd.snd.fst <|
          grdEq from_2.snd.snd.snd.snd.snd.fst from_2.snd.snd.snd.snd.snd.fst <|
          grdEq from_2.snd.snd.snd.snd.snd.snd.fst from_2.snd.snd.snd.snd.snd.snd.fst <|
          grdEq from_2.snd.snd.snd.snd.snd.snd.snd from_2.snd.snd.snd.snd.snd.snd.snd <|
          grdEq v11.fst v11.fst <|
          grdEq v11.snd.fst v11.snd.fst <|
          grdEq v11.snd.snd.fst v11.snd.snd.fst <|
          grdEq v11.snd.snd.snd.fst v11.snd.snd.snd.fst <|
          grdEq v11.snd.snd.snd.snd.fst v11.snd.snd.snd.snd.fst <|
          grdEq v11.snd.snd.snd.snd.snd v11.snd.snd.snd.snd.snd <|
          some (.inl false)) fun o14 =>
      match o14 with
      | .inl s6_15 =>
        some s6_15
      | .inr _ =>
        natOf v10 fun n16 =>
        grd (n16 ≤ v9.length) <|
        bnd (F_query_Match (List.take n16 v9) from_2.snd.snd.fst from_2.snd.fst s_3) fun (v17, v18, v19) =>
        natOf (Go.IntKind.i64.wrap (v10 + 1)) fun n20 =>
        grd (n20 ≤ v9.length) <|
        natOf v10 fun n21 =>
        grd (n21 ≤ n20) <|
        bnd (F_query_Match (List.drop n21 (List.take n20 v9)) from_2.snd.snd.fst from_2.snd.fst s_3) fun (v22, v23, v24) =>
        if (v19 == 13) = true then
          if (v24 == 0) = true then
            if (v22 == 0) = true then
              bnd F_law20_live fun v25 =>
              some v25
            else
              some false
          else
            some false
        else
          some false
def ann_law20_QueryFirst : List (List Nat × Ann) := [([2], ⟨none, [(.ret, ⟨(anyN 6 (.cons (.ty .bool) (anyN 94 .nil))), [.cells 26 true (.cons (.keep (.int .i64)) (.cons (.keep (.int .i64)) (.cons (.keep .str) (.cons (.keep .str) (.cons (.keep (.int .i64)) (.cons (.keep (.int .i64)) (.cons (.keep (.int .i64)) (.cons (.keep (.int .i64)) .nil))))))))], [], []⟩), (.normal, ⟨(.cons (.keep (.list tO)) (anyN 1 (.cons (.keep .str) (anyN 1 (.cons (.ptr 0 0) (anyN 96 .nil)))))), [.cells 26 true (.cons (.keep (.int .i64)) (.cons (.keep (.int .i64)) (.cons (.keep .str) (.cons (.keep .str) (.cons (.keep (.int .i64)) (.cons (.keep (.int .i64)) (.cons (.keep (.int .i64)) (.cons (.keep (.int .i64)) .nil))))))))], [], []⟩)]⟩), ([3], ⟨none, [(.normal, ⟨(.cons (.keep (.list tO)) (anyN 1 (.cons (.keep .str) (anyN 1 (.cons (.ptr 0 0) (anyN 25 (.cons (.ty .bool) (anyN 70 .nil)))))))), [.cells 26 true (.cons (.keep (.int .i64)) (.cons (.keep (.int .i64)) (.cons (.keep .str) (.cons (.keep .str) (.cons (.keep (.int .i64)) (.cons (.keep (.int .i64)) (.cons (.keep (.int .i64)) (.cons (.keep (.int .i64)) .nil))))))))], [], []⟩)]⟩), ([22], ⟨none, [(.ret, ⟨(anyN 6 (.cons (.ty .bool) (anyN 94 .nil))), [.cells 26 true (.cons (.keep (.int .i64)) (.cons (.keep (.int .i64)) (.cons (.keep .str) (.cons (.keep .str) (.cons (.keep (.int .i64)) (.cons (.keep (.int .i64)) (.cons (.keep (.int .i64)) (.cons (.keep (.int .i64)) .nil)))))))), .cells 32 true (.cons (.keep (.int .i64)) (.cons (.keep (.int .i64)) (.cons (.keep (.list tQ)) (.cons (.keep (.list tRR)) (.cons (.keep (.list tRR)) (.cons (.keep (.list tRR)) .nil))))))], [], []⟩), (.normal, ⟨(anyN 2 (.cons (.keep .str) (anyN 1 (.cons (.ptr 0 0) (anyN 2 (.cons (.keep (.list tO)) (.cons (.keep (.int .i64)) (anyN 92 .nil)))))))), [.cells 26 true (.cons (.keep (.int .i64)) (.cons (.keep (.int .i64)) (.cons (.keep .str) (.cons (.keep .str) (.cons (.keep (.int .i64)) (.cons (.keep (.int .i64)) (.cons (.keep (.int .i64)) (.cons (.keep (.int .i64)) .nil)))))))), .cells 32 true (.cons (.keep (.int .i64)) (.cons (.keep (.int .i64)) (.cons (.keep (.list tQ)) (.cons (.keep (.list tRR)) (.cons (.keep (.list tRR)) (.cons (.keep (.list tRR)) .nil))))))], [], []⟩)]⟩)]
@[reducible] def fs_law20_QueryFirst : List (Nat × SFn) := [(9, .pure [(.list tO)] [.bool] (fun x => F_ref20_Few x)), (10, .pure [] [.bool] (fun x => F_law20_live)), (12, .pure [(.list tO)] [(.list tO)] (fun x => F_law20_Own x)), (11, .pure [(.list tO), .str, (.int .i64), .str] [(.int .i64), tM, (.int .i64)] (fun x => F_query_Match x.1 x.2.1 x.2.2.1 x.2.2.2))]
def cfg_law20_QueryFirst : SCfg := SCfg.of (fs_law20_QueryFirst ++ inlL) ann_law20_QueryFirst keepL
theorem eq_law20_QueryFirst (x : HL [(.list tO), tO, .str]) : fnK cfg_law20_QueryFirst Tryz.prog 100000 6 [(.list tO), tO, .str] [.bool] x = (fun x => F_law20_QueryFirst x.1 x.2.1 x.2.2) x := by kernel_rfl
theorem told_law20_QueryFirst : Told CC Tryz.prog 6 [(.list tO), tO, .str] [.bool] (fun x => F_law20_QueryFirst x.1 x.2.1 x.2.2) := told_of (gok (an := ann_law20_QueryFirst) (fs := fs_law20_QueryFirst) ⟨told_ref20_Few, told_law20_live, told_law20_Own, told_query_Match, trivial⟩) rfl rfl eq_law20_QueryFirst
end
end Go.Abs

