/- Part of a proof: a machine of plain data, and what the functions come to on it. -/
import Derived.Test.YthmahgleehgbaaaSnB
set_option linter.unusedSimpArgs false
set_option linter.unusedVariables false
set_option linter.unusedSectionVars false
set_option maxRecDepth 100000
namespace Go.Abs
open Go Go.Proofs
noncomputable section
end
end Go.Abs

set_option maxRecDepth 100000
namespace Go.Abs
open Go Go.Proofs
noncomputable section
end
end Go.Abs

set_option maxRecDepth 100000
namespace Go.Abs
open Go Go.Proofs
noncomputable section
def step_law18_TmplLater_0 (now_1 : Int) (q_2 : List UInt8 × Int × Int) (c_3 : List (List UInt8 × Int × Int × List (List UInt8) × Int × Int) × Int × List UInt8 × List UInt8 × Int × Int × List (List UInt8) × Int × Int) (v10 : List UInt8 × Int × Int × Int × List UInt8 × List (List (Int × Int × Int) × Int × Bool)) : Int → Option (Int ⊕ (Bool ⊕ Unit)) := fun i_13 =>
  bnd (α := (Unit ⊕ Unit)) (if decide (i_13 < (↑(List.length c_3.1) : Int)) = true then
      if decide (i_13 < (↑(List.length v10.2.2.2.2.2) : Int)) = true then
        grdEq now_1 now_1 <|
        grdEq i_13 i_13 <|
        grdEq q_2.1 q_2.1 <|
        grdEq q_2.2.1 q_2.2.1 <|
        grdEq q_2.2.2 q_2.2.2 <|
        grdEq c_3.1 c_3.1 <|
        grdEq c_3.2.1 c_3.2.1 <|
        grdEq c_3.2.2.1 c_3.2.2.1 <|
        grdEq c_3.2.2.2.1 c_3.2.2.2.1 <|
        grdEq c_3.2.2.2.2.1 c_3.2.2.2.2.1 <|
        grdEq c_3.2.2.2.2.2.1 c_3.2.2.2.2.2.1 <|
        grdEq c_3.2.2.2.2.2.2.1 c_3.2.2.2.2.2.2.1 <|
        grdEq c_3.2.2.2.2.2.2.2.1 c_3.2.2.2.2.2.2.2.1 <|
        grdEq c_3.2.2.2.2.2.2.2.2 c_3.2.2.2.2.2.2.2.2 <|
        grdEq v10.1 v10.1 <|
        grdEq v10.2.1 v10.2.1 <|
        grdEq v10.2.2.1 v10.2.2.1 <|
        grdEq v10.2.2.2.1 v10.2.2.2.1 <|
        grdEq v10.2.2.2.2.1 v10.2.2.2.2.1 <|
        grdEq v10.2.2.2.2.2 v10.2.2.2.2.2 <|
        some (.inl (()))
      else
        grdEq q_2.1 q_2.1 <|
        grdEq q_2.2.1 q_2.2.1 <|
        grdEq q_2.2.2 q_2.2.2 <|
        grdEq c_3.1 c_3.1 <|
        grdEq c_3.2.1 c_3.2.1 <|
        grdEq c_3.2.2.1 c_3.2.2.1 <|
        grdEq c_3.2.2.2.1 c_3.2.2.2.1 <|
        grdEq c_3.2.2.2.2.1 c_3.2.2.2.2.1 <|
        grdEq c_3.2.2.2.2.2.1 c_3.2.2.2.2.2.1 <|
        grdEq c_3.2.2.2.2.2.2.1 c_3.2.2.2.2.2.2.1 <|
        grdEq c_3.2.2.2.2.2.2.2.1 c_3.2.2.2.2.2.2.2.1 <|
        grdEq c_3.2.2.2.2.2.2.2.2 c_3.2.2.2.2.2.2.2.2 <|
        grdEq v10.1 v10.1 <|
        grdEq v10.2.1 v10.2.1 <|
        grdEq v10.2.2.1 v10.2.2.1 <|
        grdEq v10.2.2.2.1 v10.2.2.2.1 <|
        grdEq v10.2.2.2.2.1 v10.2.2.2.2.1 <|
        grdEq v10.2.2.2.2.2 v10.2.2.2.2.2 <|
        some (.inr (()))
    else
      grdEq q_2.1 q_2.1 <|
      grdEq q_2.2.1 q_2.2.1 <|
      grdEq q_2.2.2 q_2.2.2 <|
      grdEq c_3.1 c_3.1 <|
      grdEq c_3.2.1 c_3.2.1 <|
      grdEq c_3.2.2.1 c_3.2.2.1 <|
      grdEq c_3.2.2.2.1 c_3.2.2.2.1 <|
      grdEq c_3.2.2.2.2.1 c_3.2.2.2.2.1 <|
      grdEq c_3.2.2.2.2.2.1 c_3.2.2.2.2.2.1 <|
      grdEq c_3.2.2.2.2.2.2.1 c_3.2.2.2.2.2.2.1 <|
      grdEq c_3.2.2.2.2.2.2.2.1 c_3.2.2.2.2.2.2.2.1 <|
      grdEq c_3.2.2.2.2.2.2.2.2 c_3.2.2.2.2.2.2.2.2 <|
      grdEq v10.1 v10.1 <|
      grdEq v10.2.1 v10.2.1 <|
      grdEq v10.2.2.1 v10.2.2.1 <|
      grdEq v10.2.2.2.1 v10.2.2.2.1 <|
      grdEq v10.2.2.2.2.1 v10.2.2.2.2.1 <|
      grdEq v10.2.2.2.2.2 v10.2.2.2.2.2 <|
      some (.inr (()))) fun o14 =>
  match o14 with
  | .inl _ =>
    bnd (F_tmpl_Template_Part (v10.1, v10.2.1, v10.2.2.1, v10.2.2.2.1, v10.2.2.2.2.1, v10.2.2.2.2.2) i_13 now_1 0) fun v15 =>
    bnd (F_tmpl_Template_Part (v10.1, v10.2.1, v10.2.2.1, v10.2.2.2.1, v10.2.2.2.2.1, v10.2.2.2.2.2) i_13 (Go.IntKind.i64.wrap (now_1 + 1)) 0) fun v16 =>
    natOf i_13 fun n17 =>
    bnd (c_3.1[n17]?) fun x18 =>
    if (!(v16 == []) == (x18.2.2.2.2.2 == 1)) = false then
      if (v15 == []) = false then
        if (!v16 == []) = true then
          if ((↑v15.length : Int) != (↑v16.length : Int)) = true then
            grdEq q_2.1 q_2.1 <|
            grdEq q_2.2.1 q_2.2.1 <|
            grdEq q_2.2.2 q_2.2.2 <|
            grdEq c_3.1 c_3.1 <|
            grdEq c_3.2.1 c_3.2.1 <|
            grdEq c_3.2.2.1 c_3.2.2.1 <|
            grdEq c_3.2.2.2.1 c_3.2.2.2.1 <|
            grdEq c_3.2.2.2.2.1 c_3.2.2.2.2.1 <|
            grdEq c_3.2.2.2.2.2.1 c_3.2.2.2.2.2.1 <|
            grdEq c_3.2.2.2.2.2.2.1 c_3.2.2.2.2.2.2.1 <|
            grdEq c_3.2.2.2.2.2.2.2.1 c_3.2.2.2.2.2.2.2.1 <|
            grdEq c_3.2.2.2.2.2.2.2.2 c_3.2.2.2.2.2.2.2.2 <|
            grdEq v10.1 v10.1 <|
            grdEq v10.2.1 v10.2.1 <|
            grdEq v10.2.2.1 v10.2.2.1 <|
            grdEq v10.2.2.2.1 v10.2.2.2.1 <|
            grdEq v10.2.2.2.2.1 v10.2.2.2.2.1 <|
            grdEq v10.2.2.2.2.2 v10.2.2.2.2.2 <|
            some (.inr (.inl false))
          else
            grdEq now_1 now_1 <|
            grdEq q_2.1 q_2.1 <|
            grdEq q_2.2.1 q_2.2.1 <|
            grdEq q_2.2.2 q_2.2.2 <|
            grdEq c_3.1 c_3.1 <|
            grdEq c_3.2.1 c_3.2.1 <|
            grdEq c_3.2.2.1 c_3.2.2.1 <|
            grdEq c_3.2.2.2.1 c_3.2.2.2.1 <|
            grdEq c_3.2.2.2.2.1 c_3.2.2.2.2.1 <|
            grdEq c_3.2.2.2.2.2.1 c_3.2.2.2.2.2.1 <|
            grdEq c_3.2.2.2.2.2.2.1 c_3.2.2.2.2.2.2.1 <|
            grdEq c_3.2.2.2.2.2.2.2.1 c_3.2.2.2.2.2.2.2.1 <|
            grdEq c_3.2.2.2.2.2.2.2.2 c_3.2.2.2.2.2.2.2.2 <|
            grdEq v10.1 v10.1 <|
            grdEq v10.2.1 v10.2.1 <|
            grdEq v10.2.2.1 v10.2.2.1 <|
            grdEq v10.2.2.2.1 v10.2.2.2.1 <|
            grdEq v10.2.2.2.2.1 v10.2.2.2.2.1 <|
            grdEq v10.2.2.2.2.2 v10.2.2.2.2.2 <|
            some (.inl (Go.IntKind.i64.wrap (i_13 + 1)))
        else
          grdEq now_1 now_1 <|
          grdEq q_2.1 q_2.1 <|
          grdEq q_2.2.1 q_2.2.1 <|
          grdEq q_2.2.2 q_2.2.2 <|
          grdEq c_3.1 c_3.1 <|
          grdEq c_3.2.1 c_3.2.1 <|
          grdEq c_3.2.2.1 c_3.2.2.1 <|
          grdEq c_3.2.2.2.1 c_3.2.2.2.1 <|
          grdEq c_3.2.2.2.2.1 c_3.2.2.2.2.1 <|
          grdEq c_3.2.2.2.2.2.1 c_3.2.2.2.2.2.1 <|
          grdEq c_3.2.2.2.2.2.2.1 c_3.2.2.2.2.2.2.1 <|
          grdEq c_3.2.2.2.2.2.2.2.1 c_3.2.2.2.2.2.2.2.1 <|
          grdEq c_3.2.2.2.2.2.2.2.2 c_3.2.2.2.2.2.2.2.2 <|
          grdEq v10.1 v10.1 <|
          grdEq v10.2.1 v10.2.1 <|
          grdEq v10.2.2.1 v10.2.2.1 <|
          grdEq v10.2.2.2.1 v10.2.2.2.1 <|
          grdEq v10.2.2.2.2.1 v10.2.2.2.2.1 <|
          grdEq v10.2.2.2.2.2 v10.2.2.2.2.2 <|
          some (.inl (Go.IntKind.i64.wrap (i_13 + 1)))
      else
        grdEq q_2.1 q_2.1 <|
        grdEq q_2.2.1 q_2.2.1 <|
        grdEq q_2.2.2 q_2.2.2 <|
        grdEq c_3.1 c_3.1 <|
        grdEq c_3.2.1 c_3.2.1 <|
        grdEq c_3.2.2.1 c_3.2.2.1 <|
        grdEq c_3.2.2.2.1 c_3.2.2.2.1 <|
        grdEq c_3.2.2.2.2.1 c_3.2.2.2.2.1 <|
        grdEq c_3.2.2.2.2.2.1 c_3.2.2.2.2.2.1 <|
        grdEq c_3.2.2.2.2.2.2.1 c_3.2.2.2.2.2.2.1 <|
        grdEq c_3.2.2.2.2.2.2.2.1 c_3.2.2.2.2.2.2.2.1 <|
        grdEq c_3.2.2.2.2.2.2.2.2 c_3.2.2.2.2.2.2.2.2 <|
        grdEq v10.1 v10.1 <|
        grdEq v10.2.1 v10.2.1 <|
        grdEq v10.2.2.1 v10.2.2.1 <|
        grdEq v10.2.2.2.1 v10.2.2.2.1 <|
        grdEq v10.2.2.2.2.1 v10.2.2.2.2.1 <|
        grdEq v10.2.2.2.2.2 v10.2.2.2.2.2 <|
        some (.inr (.inl false))
    else
      grdEq q_2.1 q_2.1 <|
      grdEq q_2.2.1 q_2.2.1 <|
      grdEq q_2.2.2 q_2.2.2 <|
      grdEq c_3.1 c_3.1 <|
      grdEq c_3.2.1 c_3.2.1 <|
      grdEq c_3.2.2.1 c_3.2.2.1 <|
      grdEq c_3.2.2.2.1 c_3.2.2.2.1 <|
      grdEq c_3.2.2.2.2.1 c_3.2.2.2.2.1 <|
      grdEq c_3.2.2.2.2.2.1 c_3.2.2.2.2.2.1 <|
      grdEq c_3.2.2.2.2.2.2.1 c_3.2.2.2.2.2.2.1 <|
      grdEq c_3.2.2.2.2.2.2.2.1 c_3.2.2.2.2.2.2.2.1 <|
      grdEq c_3.2.2.2.2.2.2.2.2 c_3.2.2.2.2.2.2.2.2 <|
      grdEq v10.1 v10.1 <|
      grdEq v10.2.1 v10.2.1 <|
      grdEq v10.2.2.1 v10.2.2.1 <|
      grdEq v10.2.2.2.1 v10.2.2.2.1 <|
      grdEq v10.2.2.2.2.1 v10.2.2.2.2.1 <|
      grdEq v10.2.2.2.2.2 v10.2.2.2.2.2 <|
      some (.inr (.inl false))
  | .inr _ =>
    grdEq q_2.1 q_2.1 <|
    grdEq q_2.2.1 q_2.2.1 <|
    grdEq q_2.2.2 q_2.2.2 <|
    grdEq c_3.1 c_3.1 <|
    grdEq c_3.2.1 c_3.2.1 <|
    grdEq c_3.2.2.1 c_3.2.2.1 <|
    grdEq c_3.2.2.2.1 c_3.2.2.2.1 <|
    grdEq c_3.2.2.2.2.1 c_3.2.2.2.2.1 <|
    grdEq c_3.2.2.2.2.2.1 c_3.2.2.2.2.2.1 <|
    grdEq c_3.2.2.2.2.2.2.1 c_3.2.2.2.2.2.2.1 <|
    grdEq c_3.2.2.2.2.2.2.2.1 c_3.2.2.2.2.2.2.2.1 <|
    grdEq c_3.2.2.2.2.2.2.2.2 c_3.2.2.2.2.2.2.2.2 <|
    grdEq v10.1 v10.1 <|
    grdEq v10.2.1 v10.2.1 <|
    grdEq v10.2.2.1 v10.2.2.1 <|
    grdEq v10.2.2.2.1 v10.2.2.2.1 <|
    grdEq v10.2.2.2.2.1 v10.2.2.2.2.1 <|
    grdEq v10.2.2.2.2.2 v10.2.2.2.2.2 <|
    some (.inr (.inr (())))
def F_law18_TmplLater (now_1 : Int) (q_2 : (List UInt8 × (Int × Int))) (c_3 : (List ((List UInt8 × (Int × (Int × (List (List UInt8) × (Int × Int)))))) × (Int × (List UInt8 × (List UInt8 × (Int × (Int × (List (List UInt8) × (Int × Int))))))))) : Option (Bool) :=
  bnd (α := (Bool ⊕ Unit)) (bnd (α := Bool) (bnd (F_ref17_Small (c_3.1, c_3.2.1, c_3.2.2.1, c_3.2.2.2.1, c_3.2.2.2.2.1, c_3.2.2.2.2.2.1, c_3.2.2.2.2.2.2.1, c_3.2.2.2.2.2.2.2.1, c_3.2.2.2.2.2.2.2.2)) fun v4 =>
      if (!v4) = false then
        if decide (300 < (↑(List.length q_2.1) : Int)) = false then
          grdEq now_1 now_1 <|
          grdEq q_2.1 q_2.1 <|
          grdEq q_2.2.1 q_2.2.1 <|
          grdEq q_2.2.2 q_2.2.2 <|
          grdEq c_3.1 c_3.1 <|
          grdEq c_3.2.1 c_3.2.1 <|
          grdEq c_3.2.2.1 c_3.2.2.1 <|
          grdEq c_3.2.2.2.1 c_3.2.2.2.1 <|
          grdEq c_3.2.2.2.2.1 c_3.2.2.2.2.1 <|
          grdEq c_3.2.2.2.2.2.1 c_3.2.2.2.2.2.1 <|
          grdEq c_3.2.2.2.2.2.2.1 c_3.2.2.2.2.2.2.1 <|
          grdEq c_3.2.2.2.2.2.2.2.1 c_3.2.2.2.2.2.2.2.1 <|
          grdEq c_3.2.2.2.2.2.2.2.2 c_3.2.2.2.2.2.2.2.2 <|
          some (decide (549755813888 < now_1))
        else
          grdEq now_1 now_1 <|
          grdEq q_2.1 q_2.1 <|
          grdEq q_2.2.1 q_2.2.1 <|
          grdEq q_2.2.2 q_2.2.2 <|
          grdEq c_3.1 c_3.1 <|
          grdEq c_3.2.1 c_3.2.1 <|
          grdEq c_3.2.2.1 c_3.2.2.1 <|
          grdEq c_3.2.2.2.1 c_3.2.2.2.1 <|
          grdEq c_3.2.2.2.2.1 c_3.2.2.2.2.1 <|
          grdEq c_3.2.2.2.2.2.1 c_3.2.2.2.2.2.1 <|
          grdEq c_3.2.2.2.2.2.2.1 c_3.2.2.2.2.2.2.1 <|
          grdEq c_3.2.2.2.2.2.2.2.1 c_3.2.2.2.2.2.2.2.1 <|
          grdEq c_3.2.2.2.2.2.2.2.2 c_3.2.2.2.2.2.2.2.2 <|
          some true
      else
        grdEq now_1 now_1 <|
        grdEq q_2.1 q_2.1 <|
        grdEq q_2.2.1 q_2.2.1 <|
        grdEq q_2.2.2 q_2.2.2 <|
        grdEq c_3.1 c_3.1 <|
        grdEq c_3.2.1 c_3.2.1 <|
        grdEq c_3.2.2.1 c_3.2.2.1 <|
        grdEq c_3.2.2.2.1 c_3.2.2.2.1 <|
        grdEq c_3.2.2.2.2.1 c_3.2.2.2.2.1 <|
        grdEq c_3.2.2.2.2.2.1 c_3.2.2.2.2.2.1 <|
        grdEq c_3.2.2.2.2.2.2.1 c_3.2.2.2.2.2.2.1 <|
        grdEq c_3.2.2.2.2.2.2.2.1 c_3.2.2.2.2.2.2.2.1 <|
        grdEq c_3.2.2.2.2.2.2.2.2 c_3.2.2.2.2.2.2.2.2 <|
        some true) fun s24_5 =>
    if s24_5 = true then
      bnd F_law18_live fun v6 =>
      grdEq q_2.1 q_2.1 <|
      grdEq q_2.2.1 q_2.2.1 <|
      grdEq q_2.2.2 q_2.2.2 <|
      grdEq c_3.1 c_3.1 <|
      grdEq c_3.2.1 c_3.2.1 <|
      grdEq c_3.2.2.1 c_3.2.2.1 <|
      grdEq c_3.2.2.2.1 c_3.2.2.2.1 <|
      grdEq c_3.2.2.2.2.1 c_3.2.2.2.2.1 <|
      grdEq c_3.2.2.2.2.2.1 c_3.2.2.2.2.2.1 <|
      grdEq c_3.2.2.2.2.2.2.1 c_3.2.2.2.2.2.2.1 <|
      grdEq c_3.2.2.2.2.2.2.2.1 c_3.2.2.2.2.2.2.2.1 <|
      grdEq c_3.2.2.2.2.2.2.2.2 c_3.2.2.2.2.2.2.2.2 <|
      some (.inl v6)
    else
      grdEq now_1 now_1 <|
      grdEq q_2.1 q_2.1 <|
      grdEq q_2.2.1 q_2.2.1 <|
      grdEq q_2.2.2 q_2.2.2 <|
      grdEq c_3.1 c_3.1 <|
      grdEq c_3.2.1 c_3.2.1 <|
      grdEq c_3.2.2.1 c_3.2.2.1 <|
      grdEq c_3.2.2.2.1 c_3.2.2.2.1 <|
      grdEq c_3.2.2.2.2.1 c_3.2.2.2.2.1 <|
      grdEq c_3.2.2.2.2.2.1 c_3.2.2.2.2.2.1 <|
      grdEq c_3.2.2.2.2.2.2.1 c_3.2.2.2.2.2.2.1 <|
      grdEq c_3.2.2.2.2.2.2.2.1 c_3.2.2.2.2.2.2.2.1 <|
      grdEq c_3.2.2.2.2.2.2.2.2 c_3.2.2.2.2.2.2.2.2 <|
      some (.inr (()))) fun o7 =>
  match o7 with
  | .inl s6_8 =>
    some s6_8
  | .inr _ =>
    bnd (F_law17_Chain (c_3.1, c_3.2.1, c_3.2.2.1, c_3.2.2.2.1, c_3.2.2.2.2.1, c_3.2.2.2.2.2.1, c_3.2.2.2.2.2.2.1, c_3.2.2.2.2.2.2.2.1, c_3.2.2.2.2.2.2.2.2)) fun v9 =>
    bnd (F_tmpl_Make now_1 (q_2.1, q_2.2.1, q_2.2.2) (v9.1, v9.2.1, v9.2.2.1, v9.2.2.2.1, v9.2.2.2.2.1, v9.2.2.2.2.2.1, v9.2.2.2.2.2.2.1, v9.2.2.2.2.2.2.2.1, v9.2.2.2.2.2.2.2.2)) fun (v10, v11) =>
    if (!v11) = true then
      bnd F_law18_live fun v12 =>
      some v12
    else
      bnd (loopS (step_law18_TmplLater_0 now_1 q_2 c_3 v10) 0) fun o19 =>
      match o19 with
      | .inl s6_20 =>
        some s6_20
      | .inr _ =>
        bnd F_law18_live fun v21 =>
        some v21
def ann_law18_TmplLater : List (List Nat × Ann) := [([2], ⟨none, [(.ret, ⟨(anyN 6 (.cons (.ty .bool) (anyN 79 .nil))), [.cells 23 true (.cons (.keep .str) (.cons (.keep (.int .i64)) (.cons (.keep (.int .i64)) .nil))), .cells 31 true (.cons (.keep (.list (.agg (.cons .str (.cons (.int .i64) (.cons (.int .i64) (.cons (.list .str) (.cons (.int .i64) (.int .i64))))))))) (.cons (.keep (.int .i64)) (.cons (.keep .str) (.cons (.keep .str) (.cons (.keep (.int .i64)) (.cons (.keep (.int .i64)) (.cons (.keep (.list .str)) (.cons (.keep (.int .i64)) (.cons (.keep (.int .i64)) .nil)))))))))], [], []⟩), (.normal, ⟨(.cons (.keep (.int .i64)) (anyN 3 (.cons (.ptr 0 0) (.cons (.ptr 1 0) (anyN 80 .nil))))), [.cells 23 true (.cons (.keep .str) (.cons (.keep (.int .i64)) (.cons (.keep (.int .i64)) .nil))), .cells 31 true (.cons (.keep (.list (.agg (.cons .str (.cons (.int .i64) (.cons (.int .i64) (.cons (.list .str) (.cons (.int .i64) (.int .i64))))))))) (.cons (.keep (.int .i64)) (.cons (.keep .str) (.cons (.keep .str) (.cons (.keep (.int .i64)) (.cons (.keep (.int .i64)) (.cons (.keep (.list .str)) (.cons (.keep (.int .i64)) (.cons (.keep (.int .i64)) .nil)))))))))], [], []⟩)]⟩), ([3], ⟨none, [(.normal, ⟨(.cons (.keep (.int .i64)) (anyN 3 (.cons (.ptr 0 0) (.cons (.ptr 1 0) (anyN 18 (.cons (.ty .bool) (anyN 61 .nil))))))), [.cells 23 true (.cons (.keep .str) (.cons (.keep (.int .i64)) (.cons (.keep (.int .i64)) .nil))), .cells 31 true (.cons (.keep (.list (.agg (.cons .str (.cons (.int .i64) (.cons (.int .i64) (.cons (.list .str) (.cons (.int .i64) (.int .i64))))))))) (.cons (.keep (.int .i64)) (.cons (.keep .str) (.cons (.keep .str) (.cons (.keep (.int .i64)) (.cons (.keep (.int .i64)) (.cons (.keep (.list .str)) (.cons (.keep (.int .i64)) (.cons (.keep (.int .i64)) .nil)))))))))], [], []⟩)]⟩), ([25], ⟨none, [(.normal, ⟨(.cons (.keep (.int .i64)) (anyN 4 (.cons (.ptr 1 0) (anyN 1 (.cons (.ptr 2 0) (anyN 1 (.cons (.keep (.int .i64)) (anyN 76 .nil)))))))), [.cells 23 true (.cons (.keep .str) (.cons (.keep (.int .i64)) (.cons (.keep (.int .i64)) .nil))), .cells 31 true (.cons (.keep (.list (.agg (.cons .str (.cons (.int .i64) (.cons (.int .i64) (.cons (.list .str) (.cons (.int .i64) (.int .i64))))))))) (.cons (.keep (.int .i64)) (.cons (.keep .str) (.cons (.keep .str) (.cons (.keep (.int .i64)) (.cons (.keep (.int .i64)) (.cons (.keep (.list .str)) (.cons (.keep (.int .i64)) (.cons (.keep (.int .i64)) .nil))))))))), .cells 36 true (.cons (.keep .str) (.cons (.keep (.int .i64)) (.cons (.keep (.int .i64)) (.cons (.keep (.int .i64)) (.cons (.keep .str) (.cons (.keep (.list (.agg (.cons (.list (.agg (.cons (.int .i64) (.cons (.int .i64) (.int .i64))))) (.cons (.int .i64) .bool))))) .nil))))))], [], []⟩), (.exit 0, ⟨(anyN 86 .nil), [.cells 23 true (.cons (.keep .str) (.cons (.keep (.int .i64)) (.cons (.keep (.int .i64)) .nil))), .cells 31 true (.cons (.keep (.list (.agg (.cons .str (.cons (.int .i64) (.cons (.int .i64) (.cons (.list .str) (.cons (.int .i64) (.int .i64))))))))) (.cons (.keep (.int .i64)) (.cons (.keep .str) (.cons (.keep .str) (.cons (.keep (.int .i64)) (.cons (.keep (.int .i64)) (.cons (.keep (.list .str)) (.cons (.keep (.int .i64)) (.cons (.keep (.int .i64)) .nil))))))))), .cells 36 true (.cons (.keep .str) (.cons (.keep (.int .i64)) (.cons (.keep (.int .i64)) (.cons (.keep (.int .i64)) (.cons (.keep .str) (.cons (.keep (.list (.agg (.cons (.list (.agg (.cons (.int .i64) (.cons (.int .i64) (.int .i64))))) (.cons (.int .i64) .bool))))) .nil))))))], [], []⟩)]⟩), ([24], ⟨some ⟨(.cons (.keep (.int .i64)) (anyN 4 (.cons (.ptr 1 0) (anyN 1 (.cons (.ptr 2 0) (anyN 1 (.cons (.ty (.int .i64)) (anyN 76 .nil)))))))), [.cells 23 true (.cons (.keep .str) (.cons (.keep (.int .i64)) (.cons (.keep (.int .i64)) .nil))), .cells 31 true (.cons (.keep (.list (.agg (.cons .str (.cons (.int .i64) (.cons (.int .i64) (.cons (.list .str) (.cons (.int .i64) (.int .i64))))))))) (.cons (.keep (.int .i64)) (.cons (.keep .str) (.cons (.keep .str) (.cons (.keep (.int .i64)) (.cons (.keep (.int .i64)) (.cons (.keep (.list .str)) (.cons (.keep (.int .i64)) (.cons (.keep (.int .i64)) .nil))))))))), .cells 36 true (.cons (.keep .str) (.cons (.keep (.int .i64)) (.cons (.keep (.int .i64)) (.cons (.keep (.int .i64)) (.cons (.keep .str) (.cons (.keep (.list (.agg (.cons (.list (.agg (.cons (.int .i64) (.cons (.int .i64) (.int .i64))))) (.cons (.int .i64) .bool))))) .nil))))))], [], []⟩, [(.ret, ⟨(anyN 6 (.cons (.ty .bool) (anyN 79 .nil))), [.cells 23 true (.cons (.keep .str) (.cons (.keep (.int .i64)) (.cons (.keep (.int .i64)) .nil))), .cells 31 true (.cons (.keep (.list (.agg (.cons .str (.cons (.int .i64) (.cons (.int .i64) (.cons (.list .str) (.cons (.int .i64) (.int .i64))))))))) (.cons (.keep (.int .i64)) (.cons (.keep .str) (.cons (.keep .str) (.cons (.keep (.int .i64)) (.cons (.keep (.int .i64)) (.cons (.keep (.list .str)) (.cons (.keep (.int .i64)) (.cons (.keep (.int .i64)) .nil))))))))), .cells 36 true (.cons (.keep .str) (.cons (.keep (.int .i64)) (.cons (.keep (.int .i64)) (.cons (.keep (.int .i64)) (.cons (.keep .str) (.cons (.keep (.list (.agg (.cons (.list (.agg (.cons (.int .i64) (.cons (.int .i64) (.int .i64))))) (.cons (.int .i64) .bool))))) .nil))))))], [], []⟩), (.exit 0, ⟨(anyN 86 .nil), [.cells 23 true (.cons (.keep .str) (.cons (.keep (.int .i64)) (.cons (.keep (.int .i64)) .nil))), .cells 31 true (.cons (.keep (.list (.agg (.cons .str (.cons (.int .i64) (.cons (.int .i64) (.cons (.list .str) (.cons (.int .i64) (.int .i64))))))))) (.cons (.keep (.int .i64)) (.cons (.keep .str) (.cons (.keep .str) (.cons (.keep (.int .i64)) (.cons (.keep (.int .i64)) (.cons (.keep (.list .str)) (.cons (.keep (.int .i64)) (.cons (.keep (.int .i64)) .nil))))))))), .cells 36 true (.cons (.keep .str) (.cons (.keep (.int .i64)) (.cons (.keep (.int .i64)) (.cons (.keep (.int .i64)) (.cons (.keep .str) (.cons (.keep (.list (.agg (.cons (.list (.agg (.cons (.int .i64) (.cons (.int .i64) (.int .i64))))) (.cons (.int .i64) .bool))))) .nil))))))], [], []⟩)]⟩)]
@[reducible] def fs_law18_TmplLater : List (Nat × SFn) := [(22, .pure [(.agg (.cons .str (.cons (.int .i64) (.cons (.int .i64) (.cons (.int .i64) (.cons .str (.list (.agg (.cons (.list (.agg (.cons (.int .i64) (.cons (.int .i64) (.int .i64))))) (.cons (.int .i64) .bool)))))))))), (.int .i64), (.int .i64), (.int .i64)] [.str] (fun x => F_tmpl_Template_Part x.1 x.2.1 x.2.2.1 x.2.2.2)), (9, .pure [(.agg (.cons (.list (.agg (.cons .str (.cons (.int .i64) (.cons (.int .i64) (.cons (.list .str) (.cons (.int .i64) (.int .i64)))))))) (.cons (.int .i64) (.cons .str (.cons .str (.cons (.int .i64) (.cons (.int .i64) (.cons (.list .str) (.cons (.int .i64) (.int .i64))))))))))] [.bool] (fun x => F_ref17_Small x)), (10, .pure [] [.bool] (fun x => F_law18_live)), (12, .pure [(.agg (.cons (.list (.agg (.cons .str (.cons (.int .i64) (.cons (.int .i64) (.cons (.list .str) (.cons (.int .i64) (.int .i64)))))))) (.cons (.int .i64) (.cons .str (.cons .str (.cons (.int .i64) (.cons (.int .i64) (.cons (.list .str) (.cons (.int .i64) (.int .i64))))))))))] [(.agg (.cons (.list (.agg (.cons .str (.cons (.int .i64) (.cons (.int .i64) (.cons (.list .str) (.cons (.int .i64) (.int .i64)))))))) (.cons (.int .i64) (.cons .str (.cons .str (.cons (.int .i64) (.cons (.int .i64) (.cons (.list .str) (.cons (.int .i64) (.int .i64))))))))))] (fun x => F_law17_Chain x)), (11, .pure [(.int .i64), tQ, (.agg (.cons (.list (.agg (.cons .str (.cons (.int .i64) (.cons (.int .i64) (.cons (.list .str) (.cons (.int .i64) (.int .i64)))))))) (.cons (.int .i64) (.cons .str (.cons .str (.cons (.int .i64) (.cons (.int .i64) (.cons (.list .str) (.cons (.int .i64) (.int .i64))))))))))] [(.agg (.cons .str (.cons (.int .i64) (.cons (.int .i64) (.cons (.int .i64) (.cons .str (.list (.agg (.cons (.list (.agg (.cons (.int .i64) (.cons (.int .i64) (.int .i64))))) (.cons (.int .i64) .bool)))))))))), .bool] (fun x => F_tmpl_Make x.1 x.2.1 x.2.2))]
def cfg_law18_TmplLater : SCfg := SCfg.of (fs_law18_TmplLater ++ inlL) ann_law18_TmplLater keepL
theorem eq_law18_TmplLater (x : HL [(.int .i64), tQ, (.agg (.cons (.list (.agg (.cons .str (.cons (.int .i64) (.cons (.int .i64) (.cons (.list .str) (.cons (.int .i64) (.int .i64)))))))) (.cons (.int .i64) (.cons .str (.cons .str (.cons (.int .i64) (.cons (.int .i64) (.cons (.list .str) (.cons (.int .i64) (.int .i64))))))))))]) : fnK cfg_law18_TmplLater Try.prog 100000 8 [(.int .i64), tQ, (.agg (.cons (.list (.agg (.cons .str (.cons (.int .i64) (.cons (.int .i64) (.cons (.list .str) (.cons (.int .i64) (.int .i64)))))))) (.cons (.int .i64) (.cons .str (.cons .str (.cons (.int .i64) (.cons (.int .i64) (.cons (.list .str) (.cons (.int .i64) (.int .i64))))))))))] [.bool] x = (fun x => F_law18_TmplLater x.1 x.2.1 x.2.2) x := by kernel_rfl
theorem told_law18_TmplLater : Told CC Try.prog 8 [(.int .i64), tQ, (.agg (.cons (.list (.agg (.cons .str (.cons (.int .i64) (.cons (.int .i64) (.cons (.list .str) (.cons (.int .i64) (.int .i64)))))))) (.cons (.int .i64) (.cons .str (.cons .str (.cons (.int .i64) (.cons (.int .i64) (.cons (.list .str) (.cons (.int .i64) (.int .i64))))))))))] [.bool] (fun x => F_law18_TmplLater x.1 x.2.1 x.2.2) := told_of (gok (an := ann_law18_TmplLater) (fs := fs_law18_TmplLater) ⟨told_tmpl_Template_Part, told_ref17_Small, told_law18_live, told_law17_Chain, told_tmpl_Make, trivial⟩) rfl rfl eq_law18_TmplLater
end
end Go.Abs

