/- Part of a proof: a machine of plain data, and what the functions come to on it. -/
import Derived.Test.YthmahgleehgbaaaSnB
set_option linter.unusedSimpArgs false
set_option linter.unusedVariables false
set_option linter.unusedSectionVars false
set_option maxRecDepth 100000
namespace Go.Abs
open Go Go.Proofs
noncomputable section
end
end Go.Abs

set_option maxRecDepth 100000
namespace Go.Abs
open Go Go.Proofs
noncomputable section
def step_law18_TmplCovers_1 (q_2 : List UInt8 × Int × Int) (c_3 : List (List UInt8 × Int × Int × List (List UInt8) × Int × Int) × Int × List UInt8 × List UInt8 × Int × Int × List (List UInt8) × Int × Int) (v10 : List UInt8 × Int × Int × Int × List UInt8 × List (List (Int × Int × Int) × Int × Bool)) (i_14 : Int) : (Int × Int) → Option ((Int × Int) ⊕ (Bool ⊕ Int)) := fun (at_15, k_16) =>
  natOf i_14 fun n17 =>
  bnd (v10.2.2.2.2.2[n17]?) fun x18 =>
  if decide (k_16 < (↑(List.length x18.1) : Int)) = true then
    natOf i_14 fun n19 =>
    bnd (v10.2.2.2.2.2[n19]?) fun x20 =>
    natOf k_16 fun n21 =>
    bnd (x20.1[n21]?) fun x22 =>
    if (x22.1 != at_15) = false then
      if decide (x22.2.1 < x22.1) = false then
        if decide (x22.2.2 < Go.IntKind.i64.wrap (x22.1 + 5)) = true then
          grdEq q_2.1 q_2.1 <|
          grdEq q_2.2.1 q_2.2.1 <|
          grdEq q_2.2.2 q_2.2.2 <|
          grdEq c_3.1 c_3.1 <|
          grdEq c_3.2.1 c_3.2.1 <|
          grdEq c_3.2.2.1 c_3.2.2.1 <|
          grdEq c_3.2.2.2.1 c_3.2.2.2.1 <|
          grdEq c_3.2.2.2.2.1 c_3.2.2.2.2.1 <|
          grdEq c_3.2.2.2.2.2.1 c_3.2.2.2.2.2.1 <|
          grdEq c_3.2.2.2.2.2.2.1 c_3.2.2.2.2.2.2.1 <|
          grdEq c_3.2.2.2.2.2.2.2.1 c_3.2.2.2.2.2.2.2.1 <|
          grdEq c_3.2.2.2.2.2.2.2.2 c_3.2.2.2.2.2.2.2.2 <|
          grdEq v10.1 v10.1 <|
          grdEq v10.2.1 v10.2.1 <|
          grdEq v10.2.2.1 v10.2.2.1 <|
          grdEq v10.2.2.2.1 v10.2.2.2.1 <|
          grdEq v10.2.2.2.2.1 v10.2.2.2.2.1 <|
          grdEq v10.2.2.2.2.2 v10.2.2.2.2.2 <|
          some (.inr (.inl false))
        else
          grdEq i_14 i_14 <|
          grdEq q_2.1 q_2.1 <|
          grdEq q_2.2.1 q_2.2.1 <|
          grdEq q_2.2.2 q_2.2.2 <|
          grdEq c_3.1 c_3.1 <|
          grdEq c_3.2.1 c_3.2.1 <|
          grdEq c_3.2.2.1 c_3.2.2.1 <|
          grdEq c_3.2.2.2.1 c_3.2.2.2.1 <|
          grdEq c_3.2.2.2.2.1 c_3.2.2.2.2.1 <|
          grdEq c_3.2.2.2.2.2.1 c_3.2.2.2.2.2.1 <|
          grdEq c_3.2.2.2.2.2.2.1 c_3.2.2.2.2.2.2.1 <|
          grdEq c_3.2.2.2.2.2.2.2.1 c_3.2.2.2.2.2.2.2.1 <|
          grdEq c_3.2.2.2.2.2.2.2.2 c_3.2.2.2.2.2.2.2.2 <|
          grdEq v10.1 v10.1 <|
          grdEq v10.2.1 v10.2.1 <|
          grdEq v10.2.2.1 v10.2.2.1 <|
          grdEq v10.2.2.2.1 v10.2.2.2.1 <|
          grdEq v10.2.2.2.2.1 v10.2.2.2.2.1 <|
          grdEq v10.2.2.2.2.2 v10.2.2.2.2.2 <|
          some (.inl ((x22.2.1, Go.IntKind.i64.wrap (k_16 + 1))))
      else
        grdEq q_2.1 q_2.1 <|
        grdEq q_2.2.1 q_2.2.1 <|
        grdEq q_2.2.2 q_2.2.2 <|
        grdEq c_3.1 c_3.1 <|
        grdEq c_3.2.1 c_3.2.1 <|
        grdEq c_3.2.2.1 c_3.2.2.1 <|
        grdEq c_3.2.2.2.1 c_3.2.2.2.1 <|
        grdEq c_3.2.2.2.2.1 c_3.2.2.2.2.1 <|
        grdEq c_3.2.2.2.2.2.1 c_3.2.2.2.2.2.1 <|
        grdEq c_3.2.2.2.2.2.2.1 c_3.2.2.2.2.2.2.1 <|
        grdEq c_3.2.2.2.2.2.2.2.1 c_3.2.2.2.2.2.2.2.1 <|
        grdEq c_3.2.2.2.2.2.2.2.2 c_3.2.2.2.2.2.2.2.2 <|
        grdEq v10.1 v10.1 <|
        grdEq v10.2.1 v10.2.1 <|
        grdEq v10.2.2.1 v10.2.2.1 <|
        grdEq v10.2.2.2.1 v10.2.2.2.1 <|
        grdEq v10.2.2.2.2.1 v10.2.2.2.2.1 <|
        grdEq v10.2.2.2.2.2 v10.2.2.2.2.2 <|
        some (.inr (.inl false))
    else
      grdEq q_2.1 q_2.1 <|
      grdEq q_2.2.1 q_2.2.1 <|
      grdEq q_2.2.2 q_2.2.2 <|
      grdEq c_3.1 c_3.1 <|
      grdEq c_3.2.1 c_3.2.1 <|
      grdEq c_3.2.2.1 c_3.2.2.1 <|
      grdEq c_3.2.2.2.1 c_3.2.2.2.1 <|
      grdEq c_3.2.2.2.2.1 c_3.2.2.2.2.1 <|
      grdEq c_3.2.2.2.2.2.1 c_3.2.2.2.2.2.1 <|
      grdEq c_3.2.2.2.2.2.2.1 c_3.2.2.2.2.2.2.1 <|
      grdEq c_3.2.2.2.2.2.2.2.1 c_3.2.2.2.2.2.2.2.1 <|
      grdEq c_3.2.2.2.2.2.2.2.2 c_3.2.2.2.2.2.2.2.2 <|
      grdEq v10.1 v10.1 <|
      grdEq v10.2.1 v10.2.1 <|
      grdEq v10.2.2.1 v10.2.2.1 <|
      grdEq v10.2.2.2.1 v10.2.2.2.1 <|
      grdEq v10.2.2.2.2.1 v10.2.2.2.2.1 <|
      grdEq v10.2.2.2.2.2 v10.2.2.2.2.2 <|
      some (.inr (.inl false))
  else
    grdEq i_14 i_14 <|
    grdEq q_2.1 q_2.1 <|
    grdEq q_2.2.1 q_2.2.1 <|
    grdEq q_2.2.2 q_2.2.2 <|
    grdEq c_3.1 c_3.1 <|
    grdEq c_3.2.1 c_3.2.1 <|
    grdEq c_3.2.2.1 c_3.2.2.1 <|
    grdEq c_3.2.2.2.1 c_3.2.2.2.1 <|
    grdEq c_3.2.2.2.2.1 c_3.2.2.2.2.1 <|
    grdEq c_3.2.2.2.2.2.1 c_3.2.2.2.2.2.1 <|
    grdEq c_3.2.2.2.2.2.2.1 c_3.2.2.2.2.2.2.1 <|
    grdEq c_3.2.2.2.2.2.2.2.1 c_3.2.2.2.2.2.2.2.1 <|
    grdEq c_3.2.2.2.2.2.2.2.2 c_3.2.2.2.2.2.2.2.2 <|
    grdEq v10.1 v10.1 <|
    grdEq v10.2.1 v10.2.1 <|
    grdEq v10.2.2.1 v10.2.2.1 <|
    grdEq v10.2.2.2.1 v10.2.2.2.1 <|
    grdEq v10.2.2.2.2.1 v10.2.2.2.2.1 <|
    grdEq v10.2.2.2.2.2 v10.2.2.2.2.2 <|
    some (.inr (.inr at_15))
def step_law18_TmplCovers_0 (q_2 : List UInt8 × Int × Int) (c_3 : List (List UInt8 × Int × Int × List (List UInt8) × Int × Int) × Int × List UInt8 × List UInt8 × Int × Int × List (List UInt8) × Int × Int) (v10 : List UInt8 × Int × Int × Int × List UInt8 × List (List (Int × Int × Int) × Int × Bool)) : (Int × Int) → Option ((Int × Int) ⊕ (Int ⊕ Bool)) := fun (at_13, i_14) =>
  if decide (i_14 < (↑(List.length v10.2.2.2.2.2) : Int)) = true then
    bnd (loopS (step_law18_TmplCovers_1 q_2 c_3 v10 i_14) ((at_13, 0))) fun o23 =>
    match o23 with
    | .inl s6_24 =>
      grdEq q_2.1 q_2.1 <|
      grdEq q_2.2.1 q_2.2.1 <|
      grdEq q_2.2.2 q_2.2.2 <|
      grdEq c_3.1 c_3.1 <|
      grdEq c_3.2.1 c_3.2.1 <|
      grdEq c_3.2.2.1 c_3.2.2.1 <|
      grdEq c_3.2.2.2.1 c_3.2.2.2.1 <|
      grdEq c_3.2.2.2.2.1 c_3.2.2.2.2.1 <|
      grdEq c_3.2.2.2.2.2.1 c_3.2.2.2.2.2.1 <|
      grdEq c_3.2.2.2.2.2.2.1 c_3.2.2.2.2.2.2.1 <|
      grdEq c_3.2.2.2.2.2.2.2.1 c_3.2.2.2.2.2.2.2.1 <|
      grdEq c_3.2.2.2.2.2.2.2.2 c_3.2.2.2.2.2.2.2.2 <|
      grdEq v10.1 v10.1 <|
      grdEq v10.2.1 v10.2.1 <|
      grdEq v10.2.2.1 v10.2.2.1 <|
      grdEq v10.2.2.2.1 v10.2.2.2.1 <|
      grdEq v10.2.2.2.2.1 v10.2.2.2.2.1 <|
      grdEq v10.2.2.2.2.2 v10.2.2.2.2.2 <|
      some (.inr (.inr s6_24))
    | .inr at_25 =>
      natOf i_14 fun n26 =>
      bnd (v10.2.2.2.2.2[n26]?) fun x27 =>
      if x27.2.2 = true then
        if (i_14 != Go.IntKind.i64.wrap ((↑(List.length v10.2.2.2.2.2) : Int) - 1)) = true then
          grdEq q_2.1 q_2.1 <|
          grdEq q_2.2.1 q_2.2.1 <|
          grdEq q_2.2.2 q_2.2.2 <|
          grdEq c_3.1 c_3.1 <|
          grdEq c_3.2.1 c_3.2.1 <|
          grdEq c_3.2.2.1 c_3.2.2.1 <|
          grdEq c_3.2.2.2.1 c_3.2.2.2.1 <|
          grdEq c_3.2.2.2.2.1 c_3.2.2.2.2.1 <|
          grdEq c_3.2.2.2.2.2.1 c_3.2.2.2.2.2.1 <|
          grdEq c_3.2.2.2.2.2.2.1 c_3.2.2.2.2.2.2.1 <|
          grdEq c_3.2.2.2.2.2.2.2.1 c_3.2.2.2.2.2.2.2.1 <|
          grdEq c_3.2.2.2.2.2.2.2.2 c_3.2.2.2.2.2.2.2.2 <|
          grdEq v10.1 v10.1 <|
          grdEq v10.2.1 v10.2.1 <|
          grdEq v10.2.2.1 v10.2.2.1 <|
          grdEq v10.2.2.2.1 v10.2.2.2.1 <|
          grdEq v10.2.2.2.2.1 v10.2.2.2.2.1 <|
          grdEq v10.2.2.2.2.2 v10.2.2.2.2.2 <|
          some (.inr (.inr false))
        else
          grdEq q_2.1 q_2.1 <|
          grdEq q_2.2.1 q_2.2.1 <|
          grdEq q_2.2.2 q_2.2.2 <|
          grdEq c_3.1 c_3.1 <|
          grdEq c_3.2.1 c_3.2.1 <|
          grdEq c_3.2.2.1 c_3.2.2.1 <|
          grdEq c_3.2.2.2.1 c_3.2.2.2.1 <|
          grdEq c_3.2.2.2.2.1 c_3.2.2.2.2.1 <|
          grdEq c_3.2.2.2.2.2.1 c_3.2.2.2.2.2.1 <|
          grdEq c_3.2.2.2.2.2.2.1 c_3.2.2.2.2.2.2.1 <|
          grdEq c_3.2.2.2.2.2.2.2.1 c_3.2.2.2.2.2.2.2.1 <|
          grdEq c_3.2.2.2.2.2.2.2.2 c_3.2.2.2.2.2.2.2.2 <|
          grdEq v10.1 v10.1 <|
          grdEq v10.2.1 v10.2.1 <|
          grdEq v10.2.2.1 v10.2.2.1 <|
          grdEq v10.2.2.2.1 v10.2.2.2.1 <|
          grdEq v10.2.2.2.2.1 v10.2.2.2.2.1 <|
          grdEq v10.2.2.2.2.2 v10.2.2.2.2.2 <|
          some (.inl ((at_25, Go.IntKind.i64.wrap (i_14 + 1))))
      else
        grdEq q_2.1 q_2.1 <|
        grdEq q_2.2.1 q_2.2.1 <|
        grdEq q_2.2.2 q_2.2.2 <|
        grdEq c_3.1 c_3.1 <|
        grdEq c_3.2.1 c_3.2.1 <|
        grdEq c_3.2.2.1 c_3.2.2.1 <|
        grdEq c_3.2.2.2.1 c_3.2.2.2.1 <|
        grdEq c_3.2.2.2.2.1 c_3.2.2.2.2.1 <|
        grdEq c_3.2.2.2.2.2.1 c_3.2.2.2.2.2.1 <|
        grdEq c_3.2.2.2.2.2.2.1 c_3.2.2.2.2.2.2.1 <|
        grdEq c_3.2.2.2.2.2.2.2.1 c_3.2.2.2.2.2.2.2.1 <|
        grdEq c_3.2.2.2.2.2.2.2.2 c_3.2.2.2.2.2.2.2.2 <|
        grdEq v10.1 v10.1 <|
        grdEq v10.2.1 v10.2.1 <|
        grdEq v10.2.2.1 v10.2.2.1 <|
        grdEq v10.2.2.2.1 v10.2.2.2.1 <|
        grdEq v10.2.2.2.2.1 v10.2.2.2.2.1 <|
        grdEq v10.2.2.2.2.2 v10.2.2.2.2.2 <|
        some (.inl ((at_25, Go.IntKind.i64.wrap (i_14 + 1))))
  else
    grdEq q_2.1 q_2.1 <|
    grdEq q_2.2.1 q_2.2.1 <|
    grdEq q_2.2.2 q_2.2.2 <|
    grdEq c_3.1 c_3.1 <|
    grdEq c_3.2.1 c_3.2.1 <|
    grdEq c_3.2.2.1 c_3.2.2.1 <|
    grdEq c_3.2.2.2.1 c_3.2.2.2.1 <|
    grdEq c_3.2.2.2.2.1 c_3.2.2.2.2.1 <|
    grdEq c_3.2.2.2.2.2.1 c_3.2.2.2.2.2.1 <|
    grdEq c_3.2.2.2.2.2.2.1 c_3.2.2.2.2.2.2.1 <|
    grdEq c_3.2.2.2.2.2.2.2.1 c_3.2.2.2.2.2.2.2.1 <|
    grdEq c_3.2.2.2.2.2.2.2.2 c_3.2.2.2.2.2.2.2.2 <|
    grdEq v10.1 v10.1 <|
    grdEq v10.2.1 v10.2.1 <|
    grdEq v10.2.2.1 v10.2.2.1 <|
    grdEq v10.2.2.2.1 v10.2.2.2.1 <|
    grdEq v10.2.2.2.2.1 v10.2.2.2.2.1 <|
    grdEq v10.2.2.2.2.2 v10.2.2.2.2.2 <|
    some (.inr (.inl at_13))
def F_law18_TmplCovers (now_1 : Int) (q_2 : (List UInt8 × (Int × Int))) (c_3 : (List ((List UInt8 × (Int × (Int × (List (List UInt8) × (Int × Int)))))) × (Int × (List UInt8 × (List UInt8 × (Int × (Int × (List (List UInt8) × (Int × Int))))))))) : Option (Bool) :=
  bnd (α := (Bool ⊕ Unit)) (bnd (α := Bool) (bnd (F_ref17_Small (c_3.1, c_3.2.1, c_3.2.2.1, c_3.2.2.2.1, c_3.2.2.2.2.1, c_3.2.2.2.2.2.1, c_3.2.2.2.2.2.2.1, c_3.2.2.2.2.2.2.2.1, c_3.2.2.2.2.2.2.2.2)) fun v4 =>
      if (!v4) = false then
        grdEq now_1 now_1 <|
        grdEq q_2.1 q_2.1 <|
        grdEq q_2.2.1 q_2.2.1 <|
        grdEq q_2.2.2 q_2.2.2 <|
        grdEq c_3.1 c_3.1 <|
        grdEq c_3.2.1 c_3.2.1 <|
        grdEq c_3.2.2.1 c_3.2.2.1 <|
        grdEq c_3.2.2.2.1 c_3.2.2.2.1 <|
        grdEq c_3.2.2.2.2.1 c_3.2.2.2.2.1 <|
        grdEq c_3.2.2.2.2.2.1 c_3.2.2.2.2.2.1 <|
        grdEq c_3.2.2.2.2.2.2.1 c_3.2.2.2.2.2.2.1 <|
        grdEq c_3.2.2.2.2.2.2.2.1 c_3.2.2.2.2.2.2.2.1 <|
        grdEq c_3.2.2.2.2.2.2.2.2 c_3.2.2.2.2.2.2.2.2 <|
        some (decide (300 < (↑(List.length q_2.1) : Int)))
      else
        grdEq now_1 now_1 <|
        grdEq q_2.1 q_2.1 <|
        grdEq q_2.2.1 q_2.2.1 <|
        grdEq q_2.2.2 q_2.2.2 <|
        grdEq c_3.1 c_3.1 <|
        grdEq c_3.2.1 c_3.2.1 <|
        grdEq c_3.2.2.1 c_3.2.2.1 <|
        grdEq c_3.2.2.2.1 c_3.2.2.2.1 <|
        grdEq c_3.2.2.2.2.1 c_3.2.2.2.2.1 <|
        grdEq c_3.2.2.2.2.2.1 c_3.2.2.2.2.2.1 <|
        grdEq c_3.2.2.2.2.2.2.1 c_3.2.2.2.2.2.2.1 <|
        grdEq c_3.2.2.2.2.2.2.2.1 c_3.2.2.2.2.2.2.2.1 <|
        grdEq c_3.2.2.2.2.2.2.2.2 c_3.2.2.2.2.2.2.2.2 <|
        some true) fun s21_5 =>
    if s21_5 = true then
      bnd F_law18_live fun v6 =>
      grdEq q_2.1 q_2.1 <|
      grdEq q_2.2.1 q_2.2.1 <|
      grdEq q_2.2.2 q_2.2.2 <|
      grdEq c_3.1 c_3.1 <|
      grdEq c_3.2.1 c_3.2.1 <|
      grdEq c_3.2.2.1 c_3.2.2.1 <|
      grdEq c_3.2.2.2.1 c_3.2.2.2.1 <|
      grdEq c_3.2.2.2.2.1 c_3.2.2.2.2.1 <|
      grdEq c_3.2.2.2.2.2.1 c_3.2.2.2.2.2.1 <|
      grdEq c_3.2.2.2.2.2.2.1 c_3.2.2.2.2.2.2.1 <|
      grdEq c_3.2.2.2.2.2.2.2.1 c_3.2.2.2.2.2.2.2.1 <|
      grdEq c_3.2.2.2.2.2.2.2.2 c_3.2.2.2.2.2.2.2.2 <|
      some (.inl v6)
    else
      grdEq now_1 now_1 <|
      grdEq q_2.1 q_2.1 <|
      grdEq q_2.2.1 q_2.2.1 <|
      grdEq q_2.2.2 q_2.2.2 <|
      grdEq c_3.1 c_3.1 <|
      grdEq c_3.2.1 c_3.2.1 <|
      grdEq c_3.2.2.1 c_3.2.2.1 <|
      grdEq c_3.2.2.2.1 c_3.2.2.2.1 <|
      grdEq c_3.2.2.2.2.1 c_3.2.2.2.2.1 <|
      grdEq c_3.2.2.2.2.2.1 c_3.2.2.2.2.2.1 <|
      grdEq c_3.2.2.2.2.2.2.1 c_3.2.2.2.2.2.2.1 <|
      grdEq c_3.2.2.2.2.2.2.2.1 c_3.2.2.2.2.2.2.2.1 <|
      grdEq c_3.2.2.2.2.2.2.2.2 c_3.2.2.2.2.2.2.2.2 <|
      some (.inr (()))) fun o7 =>
  match o7 with
  | .inl s6_8 =>
    some s6_8
  | .inr _ =>
    bnd (F_law17_Chain (c_3.1, c_3.2.1, c_3.2.2.1, c_3.2.2.2.1, c_3.2.2.2.2.1, c_3.2.2.2.2.2.1, c_3.2.2.2.2.2.2.1, c_3.2.2.2.2.2.2.2.1, c_3.2.2.2.2.2.2.2.2)) fun v9 =>
    bnd (F_tmpl_Make now_1 (q_2.1, q_2.2.1, q_2.2.2) (v9.1, v9.2.1, v9.2.2.1, v9.2.2.2.1, v9.2.2.2.2.1, v9.2.2.2.2.2.1, v9.2.2.2.2.2.2.1, v9.2.2.2.2.2.2.2.1, v9.2.2.2.2.2.2.2.2)) fun (v10, v11) =>
    if (!v11) = true then
      if (v10.2.2.2.2.1 == []) = true then
        if ((↑(List.length v10.2.2.2.2.2) : Int) == 0) = true then
          bnd F_law18_live fun v12 =>
          some v12
        else
          some false
      else
        some false
    else
      bnd (loopS (step_law18_TmplCovers_0 q_2 c_3 v10) ((0, 0))) fun o28 =>
      match o28 with
      | .inl at_29 =>
        if (at_29 == (↑(List.length v10.2.2.2.2.1) : Int)) = true then
          bnd F_law18_live fun v30 =>
          some v30
        else
          some false
      | .inr s6_31 =>
        some s6_31
def ann_law18_TmplCovers : List (List Nat × Ann) := [([2], ⟨none, [(.ret, ⟨(anyN 6 (.cons (.ty .bool) (anyN 108 .nil))), [.cells 23 true (.cons (.keep .str) (.cons (.keep (.int .i64)) (.cons (.keep (.int .i64)) .nil))), .cells 31 true (.cons (.keep (.list (.agg (.cons .str (.cons (.int .i64) (.cons (.int .i64) (.cons (.list .str) (.cons (.int .i64) (.int .i64))))))))) (.cons (.keep (.int .i64)) (.cons (.keep .str) (.cons (.keep .str) (.cons (.keep (.int .i64)) (.cons (.keep (.int .i64)) (.cons (.keep (.list .str)) (.cons (.keep (.int .i64)) (.cons (.keep (.int .i64)) .nil)))))))))], [], []⟩), (.normal, ⟨(.cons (.keep (.int .i64)) (anyN 3 (.cons (.ptr 0 0) (.cons (.ptr 1 0) (anyN 109 .nil))))), [.cells 23 true (.cons (.keep .str) (.cons (.keep (.int .i64)) (.cons (.keep (.int .i64)) .nil))), .cells 31 true (.cons (.keep (.list (.agg (.cons .str (.cons (.int .i64) (.cons (.int .i64) (.cons (.list .str) (.cons (.int .i64) (.int .i64))))))))) (.cons (.keep (.int .i64)) (.cons (.keep .str) (.cons (.keep .str) (.cons (.keep (.int .i64)) (.cons (.keep (.int .i64)) (.cons (.keep (.list .str)) (.cons (.keep (.int .i64)) (.cons (.keep (.int .i64)) .nil)))))))))], [], []⟩)]⟩), ([3], ⟨none, [(.normal, ⟨(.cons (.keep (.int .i64)) (anyN 3 (.cons (.ptr 0 0) (.cons (.ptr 1 0) (anyN 15 (.cons (.ty .bool) (anyN 93 .nil))))))), [.cells 23 true (.cons (.keep .str) (.cons (.keep (.int .i64)) (.cons (.keep (.int .i64)) .nil))), .cells 31 true (.cons (.keep (.list (.agg (.cons .str (.cons (.int .i64) (.cons (.int .i64) (.cons (.list .str) (.cons (.int .i64) (.int .i64))))))))) (.cons (.keep (.int .i64)) (.cons (.keep .str) (.cons (.keep .str) (.cons (.keep (.int .i64)) (.cons (.keep (.int .i64)) (.cons (.keep (.list .str)) (.cons (.keep (.int .i64)) (.cons (.keep (.int .i64)) .nil)))))))))], [], []⟩)]⟩), ([26], ⟨some ⟨(anyN 7 (.cons (.ptr 2 0) (anyN 1 (.cons (.ty (.int .i64)) (.cons (.ty (.int .i64)) (anyN 104 .nil)))))), [.cells 23 true (.cons (.keep .str) (.cons (.keep (.int .i64)) (.cons (.keep (.int .i64)) .nil))), .cells 31 true (.cons (.keep (.list (.agg (.cons .str (.cons (.int .i64) (.cons (.int .i64) (.cons (.list .str) (.cons (.int .i64) (.int .i64))))))))) (.cons (.keep (.int .i64)) (.cons (.keep .str) (.cons (.keep .str) (.cons (.keep (.int .i64)) (.cons (.keep (.int .i64)) (.cons (.keep (.list .str)) (.cons (.keep (.int .i64)) (.cons (.keep (.int .i64)) .nil))))))))), .cells 36 true (.cons (.keep .str) (.cons (.keep (.int .i64)) (.cons (.keep (.int .i64)) (.cons (.keep (.int .i64)) (.cons (.keep .str) (.cons (.keep (.list (.agg (.cons (.list (.agg (.cons (.int .i64) (.cons (.int .i64) (.int .i64))))) (.cons (.int .i64) .bool))))) .nil))))))], [], []⟩, [(.exit 0, ⟨(anyN 7 (.cons (.ptr 2 0) (anyN 1 (.cons (.ty (.int .i64)) (anyN 105 .nil))))), [.cells 23 true (.cons (.keep .str) (.cons (.keep (.int .i64)) (.cons (.keep (.int .i64)) .nil))), .cells 31 true (.cons (.keep (.list (.agg (.cons .str (.cons (.int .i64) (.cons (.int .i64) (.cons (.list .str) (.cons (.int .i64) (.int .i64))))))))) (.cons (.keep (.int .i64)) (.cons (.keep .str) (.cons (.keep .str) (.cons (.keep (.int .i64)) (.cons (.keep (.int .i64)) (.cons (.keep (.list .str)) (.cons (.keep (.int .i64)) (.cons (.keep (.int .i64)) .nil))))))))), .cells 36 true (.cons (.keep .str) (.cons (.keep (.int .i64)) (.cons (.keep (.int .i64)) (.cons (.keep (.int .i64)) (.cons (.keep .str) (.cons (.keep (.list (.agg (.cons (.list (.agg (.cons (.int .i64) (.cons (.int .i64) (.int .i64))))) (.cons (.int .i64) .bool))))) .nil))))))], [], []⟩), (.ret, ⟨(anyN 6 (.cons (.ty .bool) (anyN 108 .nil))), [.cells 23 true (.cons (.keep .str) (.cons (.keep (.int .i64)) (.cons (.keep (.int .i64)) .nil))), .cells 31 true (.cons (.keep (.list (.agg (.cons .str (.cons (.int .i64) (.cons (.int .i64) (.cons (.list .str) (.cons (.int .i64) (.int .i64))))))))) (.cons (.keep (.int .i64)) (.cons (.keep .str) (.cons (.keep .str) (.cons (.keep (.int .i64)) (.cons (.keep (.int .i64)) (.cons (.keep (.list .str)) (.cons (.keep (.int .i64)) (.cons (.keep (.int .i64)) .nil))))))))), .cells 36 true (.cons (.keep .str) (.cons (.keep (.int .i64)) (.cons (.keep (.int .i64)) (.cons (.keep (.int .i64)) (.cons (.keep .str) (.cons (.keep (.list (.agg (.cons (.list (.agg (.cons (.int .i64) (.cons (.int .i64) (.int .i64))))) (.cons (.int .i64) .bool))))) .nil))))))], [], []⟩)]⟩), ([39], ⟨some ⟨(anyN 7 (.cons (.ptr 2 0) (anyN 1 (.cons (.ty (.int .i64)) (.cons (.keep (.int .i64)) (.cons (.ty (.int .i64)) (anyN 103 .nil))))))), [.cells 23 true (.cons (.keep .str) (.cons (.keep (.int .i64)) (.cons (.keep (.int .i64)) .nil))), .cells 31 true (.cons (.keep (.list (.agg (.cons .str (.cons (.int .i64) (.cons (.int .i64) (.cons (.list .str) (.cons (.int .i64) (.int .i64))))))))) (.cons (.keep (.int .i64)) (.cons (.keep .str) (.cons (.keep .str) (.cons (.keep (.int .i64)) (.cons (.keep (.int .i64)) (.cons (.keep (.list .str)) (.cons (.keep (.int .i64)) (.cons (.keep (.int .i64)) .nil))))))))), .cells 36 true (.cons (.keep .str) (.cons (.keep (.int .i64)) (.cons (.keep (.int .i64)) (.cons (.keep (.int .i64)) (.cons (.keep .str) (.cons (.keep (.list (.agg (.cons (.list (.agg (.cons (.int .i64) (.cons (.int .i64) (.int .i64))))) (.cons (.int .i64) .bool))))) .nil))))))], [], []⟩, [(.ret, ⟨(anyN 6 (.cons (.ty .bool) (anyN 108 .nil))), [.cells 23 true (.cons (.keep .str) (.cons (.keep (.int .i64)) (.cons (.keep (.int .i64)) .nil))), .cells 31 true (.cons (.keep (.list (.agg (.cons .str (.cons (.int .i64) (.cons (.int .i64) (.cons (.list .str) (.cons (.int .i64) (.int .i64))))))))) (.cons (.keep (.int .i64)) (.cons (.keep .str) (.cons (.keep .str) (.cons (.keep (.int .i64)) (.cons (.keep (.int .i64)) (.cons (.keep (.list .str)) (.cons (.keep (.int .i64)) (.cons (.keep (.int .i64)) .nil))))))))), .cells 36 true (.cons (.keep .str) (.cons (.keep (.int .i64)) (.cons (.keep (.int .i64)) (.cons (.keep (.int .i64)) (.cons (.keep .str) (.cons (.keep (.list (.agg (.cons (.list (.agg (.cons (.int .i64) (.cons (.int .i64) (.int .i64))))) (.cons (.int .i64) .bool))))) .nil))))))], [], []⟩), (.exit 2, ⟨(anyN 7 (.cons (.ptr 2 0) (anyN 1 (.cons (.ty (.int .i64)) (.cons (.keep (.int .i64)) (anyN 104 .nil)))))), [.cells 23 true (.cons (.keep .str) (.cons (.keep (.int .i64)) (.cons (.keep (.int .i64)) .nil))), .cells 31 true (.cons (.keep (.list (.agg (.cons .str (.cons (.int .i64) (.cons (.int .i64) (.cons (.list .str) (.cons (.int .i64) (.int .i64))))))))) (.cons (.keep (.int .i64)) (.cons (.keep .str) (.cons (.keep .str) (.cons (.keep (.int .i64)) (.cons (.keep (.int .i64)) (.cons (.keep (.list .str)) (.cons (.keep (.int .i64)) (.cons (.keep (.int .i64)) .nil))))))))), .cells 36 true (.cons (.keep .str) (.cons (.keep (.int .i64)) (.cons (.keep (.int .i64)) (.cons (.keep (.int .i64)) (.cons (.keep .str) (.cons (.keep (.list (.agg (.cons (.list (.agg (.cons (.int .i64) (.cons (.int .i64) (.int .i64))))) (.cons (.int .i64) .bool))))) .nil))))))], [], []⟩)]⟩)]
@[reducible] def fs_law18_TmplCovers : List (Nat × SFn) := [(9, .pure [(.agg (.cons (.list (.agg (.cons .str (.cons (.int .i64) (.cons (.int .i64) (.cons (.list .str) (.cons (.int .i64) (.int .i64)))))))) (.cons (.int .i64) (.cons .str (.cons .str (.cons (.int .i64) (.cons (.int .i64) (.cons (.list .str) (.cons (.int .i64) (.int .i64))))))))))] [.bool] (fun x => F_ref17_Small x)), (10, .pure [] [.bool] (fun x => F_law18_live)), (12, .pure [(.agg (.cons (.list (.agg (.cons .str (.cons (.int .i64) (.cons (.int .i64) (.cons (.list .str) (.cons (.int .i64) (.int .i64)))))))) (.cons (.int .i64) (.cons .str (.cons .str (.cons (.int .i64) (.cons (.int .i64) (.cons (.list .str) (.cons (.int .i64) (.int .i64))))))))))] [(.agg (.cons (.list (.agg (.cons .str (.cons (.int .i64) (.cons (.int .i64) (.cons (.list .str) (.cons (.int .i64) (.int .i64)))))))) (.cons (.int .i64) (.cons .str (.cons .str (.cons (.int .i64) (.cons (.int .i64) (.cons (.list .str) (.cons (.int .i64) (.int .i64))))))))))] (fun x => F_law17_Chain x)), (11, .pure [(.int .i64), tQ, (.agg (.cons (.list (.agg (.cons .str (.cons (.int .i64) (.cons (.int .i64) (.cons (.list .str) (.cons (.int .i64) (.int .i64)))))))) (.cons (.int .i64) (.cons .str (.cons .str (.cons (.int .i64) (.cons (.int .i64) (.cons (.list .str) (.cons (.int .i64) (.int .i64))))))))))] [(.agg (.cons .str (.cons (.int .i64) (.cons (.int .i64) (.cons (.int .i64) (.cons .str (.list (.agg (.cons (.list (.agg (.cons (.int .i64) (.cons (.int .i64) (.int .i64))))) (.cons (.int .i64) .bool)))))))))), .bool] (fun x => F_tmpl_Make x.1 x.2.1 x.2.2))]
def cfg_law18_TmplCovers : SCfg := SCfg.of (fs_law18_TmplCovers ++ inlL) ann_law18_TmplCovers keepL
theorem eq_law18_TmplCovers (x : HL [(.int .i64), tQ, (.agg (.cons (.list (.agg (.cons .str (.cons (.int .i64) (.cons (.int .i64) (.cons (.list .str) (.cons (.int .i64) (.int .i64)))))))) (.cons (.int .i64) (.cons .str (.cons .str (.cons (.int .i64) (.cons (.int .i64) (.cons (.list .str) (.cons (.int .i64) (.int .i64))))))))))]) : fnK cfg_law18_TmplCovers Try.prog 100000 6 [(.int .i64), tQ, (.agg (.cons (.list (.agg (.cons .str (.cons (.int .i64) (.cons (.int .i64) (.cons (.list .str) (.cons (.int .i64) (.int .i64)))))))) (.cons (.int .i64) (.cons .str (.cons .str (.cons (.int .i64) (.cons (.int .i64) (.cons (.list .str) (.cons (.int .i64) (.int .i64))))))))))] [.bool] x = (fun x => F_law18_TmplCovers x.1 x.2.1 x.2.2) x := by kernel_rfl
theorem told_law18_TmplCovers : Told CC Try.prog 6 [(.int .i64), tQ, (.agg (.cons (.list (.agg (.cons .str (.cons (.int .i64) (.cons (.int .i64) (.cons (.list .str) (.cons (.int .i64) (.int .i64)))))))) (.cons (.int .i64) (.cons .str (.cons .str (.cons (.int .i64) (.cons (.int .i64) (.cons (.list .str) (.cons (.int .i64) (.int .i64))))))))))] [.bool] (fun x => F_law18_TmplCovers x.1 x.2.1 x.2.2) := told_of (gok (an := ann_law18_TmplCovers) (fs := fs_law18_TmplCovers) ⟨told_ref17_Small, told_law18_live, told_law17_Chain, told_tmpl_Make, trivial⟩) rfl rfl eq_law18_TmplCovers
end
end Go.Abs

set_option maxRecDepth 100000
namespace Go.Abs
open Go Go.Proofs
noncomputable section
end
end Go.Abs

