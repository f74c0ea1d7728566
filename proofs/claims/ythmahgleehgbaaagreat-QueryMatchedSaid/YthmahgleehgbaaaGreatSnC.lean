/- Part of a proof: a machine of plain data, and what the functions come to on it. -/
import Derived.Test.YthmahgleehgbaaaGreatSnB
set_option linter.unusedSimpArgs false
set_option linter.unusedVariables false
set_option linter.unusedSectionVars false
set_option maxRecDepth 100000
namespace Go.Abs
open Go Go.Proofs
noncomputable section
end
end Go.Abs

set_option maxRecDepth 100000
namespace Go.Abs
open Go Go.Proofs
noncomputable section
end
end Go.Abs

set_option maxRecDepth 100000
namespace Go.Abs
open Go Go.Proofs
noncomputable section
def F_law20_QueryMatched (l_1 : List ((Int × (Int × (List UInt8 × (List UInt8 × (Int × (Int × (Int × Int))))))))) (from_2 : (Int × (Int × (List UInt8 × (List UInt8 × (Int × (Int × (Int × Int)))))))) (s_3 : List UInt8) : Option (Bool) :=
  bnd (α := (Bool ⊕ Unit)) (bnd (α := Bool) (bnd (F_ref20_Few l_1) fun v4 =>
      if (!v4) = false then
        if decide (2000 < (↑s_3.length : Int)) = false then
          grdEq l_1 l_1 <|
          grdEq s_3 s_3 <|
          grdEq from_2.fst from_2.fst <|
          grdEq from_2.snd.fst from_2.snd.fst <|
          grdEq from_2.snd.snd.fst from_2.snd.snd.fst <|
          grdEq from_2.snd.snd.snd.fst from_2.snd.snd.snd.fst <|
          grdEq from_2.snd.snd.snd.snd.fst from_2.snd.snd.snd.snd.fst <|
          grdEq from_2.snd.snd.snd.snd.snd.fst from_2.snd.snd.snd.snd.snd.fst <|
          grdEq from_2.snd.snd.snd.snd.snd.snd.fst from_2.snd.snd.snd.snd.snd.snd.fst <|
          grdEq from_2.snd.snd.snd.snd.snd.snd.snd from_2.snd.snd.snd.snd.snd.snd.snd <|
          some (decide (100 < (↑(List.length from_2.snd.snd.fst) : Int)))
        else
          grdEq l_1 l_1 <|
          grdEq s_3 s_3 <|
          grdEq from_2.fst from_2.fst <|
          grdEq from_2.snd.fst from_2.snd.fst <|
          grdEq from_2.snd.snd.fst from_2.snd.snd.fst <|
          grdEq from_2.snd.snd.snd.fst from_2.snd.snd.snd.fst <|
          grdEq from_2.snd.snd.snd.snd.fst from_2.snd.snd.snd.snd.fst <|
          grdEq from_2.snd.snd.snd.snd.snd.fst from_2.snd.snd.snd.snd.snd.fst <|
          grdEq from_2.snd.snd.snd.snd.snd.snd.fst from_2.snd.snd.snd.snd.snd.snd.fst <|
          grdEq from_2.snd.snd.snd.snd.snd.snd.snd from_2.snd.snd.snd.snd.snd.snd.snd <|
          some true
      else
        grdEq l_1 l_1 <|
        grdEq s_3 s_3 <|
        grdEq from_2.fst from_2.fst <|
        grdEq from_2.snd.fst from_2.snd.fst <|
        grdEq from_2.snd.snd.fst from_2.snd.snd.fst <|
        grdEq from_2.snd.snd.snd.fst from_2.snd.snd.snd.fst <|
        grdEq from_2.snd.snd.snd.snd.fst from_2.snd.snd.snd.snd.fst <|
        grdEq from_2.snd.snd.snd.snd.snd.fst from_2.snd.snd.snd.snd.snd.fst <|
        grdEq from_2.snd.snd.snd.snd.snd.snd.fst from_2.snd.snd.snd.snd.snd.snd.fst <|
        grdEq from_2.snd.snd.snd.snd.snd.snd.snd from_2.snd.snd.snd.snd.snd.snd.snd <|
        some true) fun s24_5 =>
    if s24_5 = true then
      bnd F_law20_live fun v6 =>
      grdEq from_2.fst from_2.fst <|
      grdEq from_2.snd.fst from_2.snd.fst <|
      grdEq from_2.snd.snd.fst from_2.snd.snd.fst <|
      grdEq from_2.snd.snd.snd.fst from_2.snd.snd.snd.fst <|
      grdEq from_2.snd.snd.snd.snd.fst from_2.snd.snd.snd.snd.fst <|
      grdEq from_2.snd.snd.snd.snd.snd.fst from_2.snd.snd.snd.snd.snd.fst <|
      grdEq from_2.snd.snd.snd.snd.snd.snd.fst from_2.snd.snd.snd.snd.snd.snd.fst <|
      grdEq from_2.snd.snd.snd.snd.snd.snd.snd from_2.snd.snd.snd.snd.snd.snd.snd <|
      some (.inl v6)
    else
      grdEq l_1 l_1 <|
      grdEq s_3 s_3 <|
      grdEq from_2.fst from_2.fst <|
      grdEq from_2.snd.fst from_2.snd.fst <|
      grdEq from_2.snd.snd.fst from_2.snd.snd.fst <|
      grdEq from_2.snd.snd.snd.fst from_2.snd.snd.snd.fst <|
      grdEq from_2.snd.snd.snd.snd.fst from_2.snd.snd.snd.snd.fst <|
      grdEq from_2.snd.snd.snd.snd.snd.fst from_2.snd.snd.snd.snd.snd.fst <|
      grdEq from_2.snd.snd.snd.snd.snd.snd.fst from_2.snd.snd.snd.snd.snd.snd.fst <|
      grdEq from_2.snd.snd.snd.snd.snd.snd.snd from_2.snd.snd.snd.snd.snd.snd.snd <|
      some (.inr (()))) fun o7 =>
  match o7 with
  | .inl s6_8 =>
    some s6_8
  | .inr _ =>
    bnd (F_law20_Own l_1) fun v9 =>
    bnd (F_query_Match v9 from_2.snd.snd.fst from_2.snd.fst s_3) fun (v10, v11, v12) =>
    if (v12 != 0) = true then
      bnd (F_ref08_Same (v11.fst, v11.snd.fst, v11.snd.snd.fst, v11.snd.snd.snd.fst, v11.snd.snd.snd.snd.fst, v11.snd.snd.snd.snd.snd) (0, 0, [], [], [], [])) fun v13 =>
      if v13 = true then
        bnd F_law20_live fun v14 =>
        some v14
      else
        some false
    else
      bnd (α := (Bool ⊕ Unit)) (if decide (v10 < 0) = false then
          if decide ((↑l_1.length : Int) ≤ v10) = false then
            if ((↑(List.length v11.snd.snd.fst) : Int) != 1) = true then
              grdEq from_2.fst from_2.fst <|
              grdEq from_2.snd.fst from_2.snd.fst <|
              grdEq from_2.snd.snd.fst from_2.snd.snd.fst <|
              grdEq from_2.snd.snd.snd.fst from_2.snd.snd.snd.fst <|
              grdEq from_2.snd.snd.snd.snd.fst from_2.snd.snd.snd.snd.fst <|
              grdEq from_2.snd.snd.snd.snd.snd.fst from_2.snd.snd.snd.snd.snd.fst <|
              grdEq from_2.snd.snd.snd.snd.snd.snd.fst from_2.snd.snd.snd.snd.snd.snd.fst <|
              grdEq from_2.snd.snd.snd.snd.snd.snd.snd from_2.snd.snd.snd.snd.snd.snd.snd <|
              grdEq v11.fst v11.fst <|
              grdEq v11.snd.fst v11.snd.fst <|
              grdEq v11.snd.snd.fst v11.snd.snd.fst <|
              grdEq v11.snd.snd.snd.fst v11.snd.snd.snd.fst <|
              grdEq v11.snd.snd.snd.snd.fst v11.snd.snd.snd.snd.fst <|
              grdEq v11.snd.snd.snd.snd.snd v11.snd.snd.snd.snd.snd <|
              some (.inl false)
            else
              grdEq l_1 l_1 <|
              grdEq v10 v10 <|
              grdEq from_2.fst from_2.fst <|
              grdEq from_2.snd.fst from_2.snd.fst <|
              grdEq from_2.snd.snd.fst from_2.snd.snd.fst <|
              grdEq from_2.snd.snd.snd.fst from_2.snd.snd.snd.fst <|
              grdEq from_2.snd.snd.snd.snd.fst from_2.snd.snd.snd.snd.fst <|
              grdEq from_2.snd.snd.snd.snd.snd.fst from_2.snd.snd.snd.snd.snd.fst <|
              grdEq from_2.snd.snd.snd.snd.snd.snd.fst from_2.snd.snd.snd.snd.snd.snd.fst <|
              grdEq from_2.snd.snd.snd.snd.snd.snd.snd from_2.snd.snd.snd.snd.snd.snd.snd <|
              grdEq v11.fst v11.fst <|
              grdEq v11.snd.fst v11.snd.fst <|
              grdEq v11.snd.snd.fst v11.snd.snd.fst <|
              grdEq v11.snd.snd.snd.fst v11.snd.snd.snd.fst <|
              grdEq v11.snd.snd.snd.snd.fst v11.snd.snd.snd.snd.fst <|
              grdEq v11.snd.snd.snd.snd.snd v11.snd.snd.snd.snd.snd <|
              some (.inr (()))
          else
            grdEq from_2.fst from_2.fst <|
            grdEq from_2.snd.fst from_2.snd.fst <|
            grdEq from_2.snd.snd.fst from_2.snd.snd.fst <|
            grdEq from_2.snd.snd.snd.fst from_2.snd.snd.snd.fst <|
            grdEq from_2.snd.snd.snd.snd.fst from_2.snd.snd.snd.snd.fst <|
            grdEq from_2.snd.snd.snd.snd.snd.fst from_2.snd.snd.snd.snd.snd.fst <|
            grdEq from_2.snd.snd.snd.snd.snd.snd.fst from_2.snd.snd.snd.snd.snd.snd.fst <|
            grdEq from_2.snd.snd.snd.snd.snd.snd.snd from_2.snd.snd.snd.snd.snd.snd.snd <|
            grdEq v11.fst v11.fst <|
            grdEq v11.snd.fst v11.snd.fst <|
            grdEq v11.snd.snd.fst v11.snd.snd.fst <|
            grdEq v11.snd.snd.snd.fst v11.snd.snd.snd.fst <|
            grdEq v11.snd.snd.snd.snd.fst v11.snd.snd.snd.snd.fst <|
            grdEq v11.snd.snd.snd.snd.snd v11.snd.snd.snd.snd.snd <|
            some (.inl false)
        else
          grdEq from_2.fst from_2.fst <|
          grdEq from_2.snd.fst from_2.snd.fst <|
          grdEq from_2.snd.snd.fst from_2.snd.snd.fst <|
          grdEq from_2.snd.snd.snd.fst from_2.snd.snd.snd.fst <|
          grdEq from_2.snd.snd.snd.snd.fst from_2.snd.snd.snd.snd.fst <|
          grdEq from_2.snd.snd.snd.snd.snd.fst from_2.snd.snd.snd.snd.snd.fst <|
          grdEq from_2.snd.snd.snd.snd.snd.snd.fst from_2.snd.snd.snd.snd.snd.snd.fst <|
          grdEq from_2.snd.snd.snd.snd.snd.snd.snd from_2.snd.snd.snd.snd.snd.snd.snd <|
          grdEq v11.fst v11.fst <|
          grdEq v11.snd.fst v11.snd.fst <|
          grdEq v11.snd.snd.fst v11.snd.snd.fst <|
          grdEq v11.snd.snd.snd.fst v11.snd.snd.snd.fst <|
          grdEq v11.snd.snd.snd.snd.fst v11.snd.snd.snd.snd.fst <|
          grdEq v11.snd.snd.snd.snd.snd v11.snd.snd.snd.snd.snd <|
          some (.inl false)) fun o15 =>
      match o15 with
      | .inl s6_16 =>
        some s6_16
      | .inr _ =>
        natOf v10 fun n17 =>
        bnd (l_1[n17]?) fun x18 =>
        bnd (v11.snd.snd.fst[0]?) fun x19 =>
        if (x19.fst == x18.snd.snd.snd.fst && (x19.snd.fst == x18.snd.snd.snd.snd.fst && (x19.snd.snd == x18.snd.snd.snd.snd.snd.fst && true))) = true then
          if (v11.fst == x18.fst) = true then
            if (x18.snd.snd.fst == from_2.snd.snd.fst) = true then
              if (x18.snd.fst == from_2.snd.fst) = true then
                if decide (32768 ≤ v11.snd.fst) = true then
                  if ((Go.IntKind.i64.wrap (Int.tdiv v11.snd.fst 2048)).tmod 16 == 0) = true then
                    bnd F_law20_live fun v20 =>
                    some v20
                  else
                    some false
                else
                  some false
              else
                some false
            else
              some false
          else
            some false
        else
          some false
def ann_law20_QueryMatched : List (List Nat × Ann) := [([2], ⟨none, [(.ret, ⟨(anyN 6 (.cons (.ty .bool) (anyN 100 .nil))), [.cells 26 true (.cons (.keep (.int .i64)) (.cons (.keep (.int .i64)) (.cons (.keep .str) (.cons (.keep .str) (.cons (.keep (.int .i64)) (.cons (.keep (.int .i64)) (.cons (.keep (.int .i64)) (.cons (.keep (.int .i64)) .nil))))))))], [], []⟩), (.normal, ⟨(.cons (.keep (.list tO)) (anyN 1 (.cons (.keep .str) (anyN 1 (.cons (.ptr 0 0) (anyN 102 .nil)))))), [.cells 26 true (.cons (.keep (.int .i64)) (.cons (.keep (.int .i64)) (.cons (.keep .str) (.cons (.keep .str) (.cons (.keep (.int .i64)) (.cons (.keep (.int .i64)) (.cons (.keep (.int .i64)) (.cons (.keep (.int .i64)) .nil))))))))], [], []⟩)]⟩), ([3], ⟨none, [(.normal, ⟨(.cons (.keep (.list tO)) (anyN 1 (.cons (.keep .str) (anyN 1 (.cons (.ptr 0 0) (anyN 19 (.cons (.ty .bool) (anyN 82 .nil)))))))), [.cells 26 true (.cons (.keep (.int .i64)) (.cons (.keep (.int .i64)) (.cons (.keep .str) (.cons (.keep .str) (.cons (.keep (.int .i64)) (.cons (.keep (.int .i64)) (.cons (.keep (.int .i64)) (.cons (.keep (.int .i64)) .nil))))))))], [], []⟩)]⟩), ([20], ⟨none, [(.ret, ⟨(anyN 6 (.cons (.ty .bool) (anyN 100 .nil))), [.cells 26 true (.cons (.keep (.int .i64)) (.cons (.keep (.int .i64)) (.cons (.keep .str) (.cons (.keep .str) (.cons (.keep (.int .i64)) (.cons (.keep (.int .i64)) (.cons (.keep (.int .i64)) (.cons (.keep (.int .i64)) .nil)))))))), .cells 32 true (.cons (.keep (.int .i64)) (.cons (.keep (.int .i64)) (.cons (.keep (.list tQ)) (.cons (.keep (.list tRR)) (.cons (.keep (.list tRR)) (.cons (.keep (.list tRR)) .nil))))))], [], []⟩), (.normal, ⟨(.cons (.keep (.list tO)) (anyN 3 (.cons (.ptr 0 0) (anyN 2 (.cons (.keep (.int .i64)) (.cons (.ptr 1 0) (anyN 98 .nil))))))), [.cells 26 true (.cons (.keep (.int .i64)) (.cons (.keep (.int .i64)) (.cons (.keep .str) (.cons (.keep .str) (.cons (.keep (.int .i64)) (.cons (.keep (.int .i64)) (.cons (.keep (.int .i64)) (.cons (.keep (.int .i64)) .nil)))))))), .cells 32 true (.cons (.keep (.int .i64)) (.cons (.keep (.int .i64)) (.cons (.keep (.list tQ)) (.cons (.keep (.list tRR)) (.cons (.keep (.list tRR)) (.cons (.keep (.list tRR)) .nil))))))], [], []⟩)]⟩)]
@[reducible] def fs_law20_QueryMatched : List (Nat × SFn) := [(9, .pure [(.list tO)] [.bool] (fun x => F_ref20_Few x)), (10, .pure [] [.bool] (fun x => F_law20_live)), (12, .pure [(.list tO)] [(.list tO)] (fun x => F_law20_Own x)), (11, .pure [(.list tO), .str, (.int .i64), .str] [(.int .i64), tM, (.int .i64)] (fun x => F_query_Match x.1 x.2.1 x.2.2.1 x.2.2.2)), (14, .pure [tM, tM] [.bool] (fun x => F_ref08_Same x.1 x.2))]
def cfg_law20_QueryMatched : SCfg := SCfg.of (fs_law20_QueryMatched ++ inlL) ann_law20_QueryMatched keepL
theorem eq_law20_QueryMatched (x : HL [(.list tO), tO, .str]) : fnK cfg_law20_QueryMatched Tryz.prog 100000 8 [(.list tO), tO, .str] [.bool] x = (fun x => F_law20_QueryMatched x.1 x.2.1 x.2.2) x := by kernel_rfl
theorem told_law20_QueryMatched : Told CC Tryz.prog 8 [(.list tO), tO, .str] [.bool] (fun x => F_law20_QueryMatched x.1 x.2.1 x.2.2) := told_of (gok (an := ann_law20_QueryMatched) (fs := fs_law20_QueryMatched) ⟨told_ref20_Few, told_law20_live, told_law20_Own, told_query_Match, told_ref08_Same, trivial⟩) rfl rfl eq_law20_QueryMatched
end
end Go.Abs

