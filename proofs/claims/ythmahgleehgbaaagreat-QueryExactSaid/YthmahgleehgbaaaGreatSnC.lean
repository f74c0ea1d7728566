/- Part of a proof: a machine of plain data, and what the functions come to on it. -/
import Derived.Test.YthmahgleehgbaaaGreatSnB
set_option linter.unusedSimpArgs false
set_option linter.unusedVariables false
set_option linter.unusedSectionVars false
set_option maxRecDepth 100000
namespace Go.Abs
open Go Go.Proofs
noncomputable section
end
end Go.Abs

set_option maxRecDepth 100000
namespace Go.Abs
open Go Go.Proofs
noncomputable section
def F_law20_QueryExact (o_1 : (Int × (Int × (List UInt8 × (List UInt8 × (Int × (Int × (Int × Int)))))))) (bits_2 : Int) (other_3 : (Int × (Int × (List UInt8 × (List UInt8 × (Int × (Int × (Int × Int)))))))) : Option (Bool) :=
  bnd (α := (Bool ⊕ Unit)) (bnd (α := Bool) (if decide (300 < (↑(List.length o_1.2.2.2.1) : Int)) = false then
        if decide (300 < (↑(List.length other_3.2.2.2.1) : Int)) = false then
          if decide (100 < (↑(List.length o_1.2.2.1) : Int)) = false then
            grdEq bits_2 bits_2 <|
            grdEq o_1.1 o_1.1 <|
            grdEq o_1.2.1 o_1.2.1 <|
            grdEq o_1.2.2.1 o_1.2.2.1 <|
            grdEq o_1.2.2.2.1 o_1.2.2.2.1 <|
            grdEq o_1.2.2.2.2.1 o_1.2.2.2.2.1 <|
            grdEq o_1.2.2.2.2.2.1 o_1.2.2.2.2.2.1 <|
            grdEq o_1.2.2.2.2.2.2.1 o_1.2.2.2.2.2.2.1 <|
            grdEq o_1.2.2.2.2.2.2.2 o_1.2.2.2.2.2.2.2 <|
            grdEq other_3.1 other_3.1 <|
            grdEq other_3.2.1 other_3.2.1 <|
            grdEq other_3.2.2.1 other_3.2.2.1 <|
            grdEq other_3.2.2.2.1 other_3.2.2.2.1 <|
            grdEq other_3.2.2.2.2.1 other_3.2.2.2.2.1 <|
            grdEq other_3.2.2.2.2.2.1 other_3.2.2.2.2.2.1 <|
            grdEq other_3.2.2.2.2.2.2.1 other_3.2.2.2.2.2.2.1 <|
            grdEq other_3.2.2.2.2.2.2.2 other_3.2.2.2.2.2.2.2 <|
            some (decide (100 < (↑(List.length other_3.2.2.1) : Int)))
          else
            grdEq bits_2 bits_2 <|
            grdEq o_1.1 o_1.1 <|
            grdEq o_1.2.1 o_1.2.1 <|
            grdEq o_1.2.2.1 o_1.2.2.1 <|
            grdEq o_1.2.2.2.1 o_1.2.2.2.1 <|
            grdEq o_1.2.2.2.2.1 o_1.2.2.2.2.1 <|
            grdEq o_1.2.2.2.2.2.1 o_1.2.2.2.2.2.1 <|
            grdEq o_1.2.2.2.2.2.2.1 o_1.2.2.2.2.2.2.1 <|
            grdEq o_1.2.2.2.2.2.2.2 o_1.2.2.2.2.2.2.2 <|
            grdEq other_3.1 other_3.1 <|
            grdEq other_3.2.1 other_3.2.1 <|
            grdEq other_3.2.2.1 other_3.2.2.1 <|
            grdEq other_3.2.2.2.1 other_3.2.2.2.1 <|
            grdEq other_3.2.2.2.2.1 other_3.2.2.2.2.1 <|
            grdEq other_3.2.2.2.2.2.1 other_3.2.2.2.2.2.1 <|
            grdEq other_3.2.2.2.2.2.2.1 other_3.2.2.2.2.2.2.1 <|
            grdEq other_3.2.2.2.2.2.2.2 other_3.2.2.2.2.2.2.2 <|
            some true
        else
          grdEq bits_2 bits_2 <|
          grdEq o_1.1 o_1.1 <|
          grdEq o_1.2.1 o_1.2.1 <|
          grdEq o_1.2.2.1 o_1.2.2.1 <|
          grdEq o_1.2.2.2.1 o_1.2.2.2.1 <|
          grdEq o_1.2.2.2.2.1 o_1.2.2.2.2.1 <|
          grdEq o_1.2.2.2.2.2.1 o_1.2.2.2.2.2.1 <|
          grdEq o_1.2.2.2.2.2.2.1 o_1.2.2.2.2.2.2.1 <|
          grdEq o_1.2.2.2.2.2.2.2 o_1.2.2.2.2.2.2.2 <|
          grdEq other_3.1 other_3.1 <|
          grdEq other_3.2.1 other_3.2.1 <|
          grdEq other_3.2.2.1 other_3.2.2.1 <|
          grdEq other_3.2.2.2.1 other_3.2.2.2.1 <|
          grdEq other_3.2.2.2.2.1 other_3.2.2.2.2.1 <|
          grdEq other_3.2.2.2.2.2.1 other_3.2.2.2.2.2.1 <|
          grdEq other_3.2.2.2.2.2.2.1 other_3.2.2.2.2.2.2.1 <|
          grdEq other_3.2.2.2.2.2.2.2 other_3.2.2.2.2.2.2.2 <|
          some true
      else
        grdEq bits_2 bits_2 <|
        grdEq o_1.1 o_1.1 <|
        grdEq o_1.2.1 o_1.2.1 <|
        grdEq o_1.2.2.1 o_1.2.2.1 <|
        grdEq o_1.2.2.2.1 o_1.2.2.2.1 <|
        grdEq o_1.2.2.2.2.1 o_1.2.2.2.2.1 <|
        grdEq o_1.2.2.2.2.2.1 o_1.2.2.2.2.2.1 <|
        grdEq o_1.2.2.2.2.2.2.1 o_1.2.2.2.2.2.2.1 <|
        grdEq o_1.2.2.2.2.2.2.2 o_1.2.2.2.2.2.2.2 <|
        grdEq other_3.1 other_3.1 <|
        grdEq other_3.2.1 other_3.2.1 <|
        grdEq other_3.2.2.1 other_3.2.2.1 <|
        grdEq other_3.2.2.2.1 other_3.2.2.2.1 <|
        grdEq other_3.2.2.2.2.1 other_3.2.2.2.2.1 <|
        grdEq other_3.2.2.2.2.2.1 other_3.2.2.2.2.2.1 <|
        grdEq other_3.2.2.2.2.2.2.1 other_3.2.2.2.2.2.2.1 <|
        grdEq other_3.2.2.2.2.2.2.2 other_3.2.2.2.2.2.2.2 <|
        some true) fun s50_4 =>
    if s50_4 = true then
      bnd F_law20_live fun v5 =>
      grdEq o_1.1 o_1.1 <|
      grdEq o_1.2.1 o_1.2.1 <|
      grdEq o_1.2.2.1 o_1.2.2.1 <|
      grdEq o_1.2.2.2.1 o_1.2.2.2.1 <|
      grdEq o_1.2.2.2.2.1 o_1.2.2.2.2.1 <|
      grdEq o_1.2.2.2.2.2.1 o_1.2.2.2.2.2.1 <|
      grdEq o_1.2.2.2.2.2.2.1 o_1.2.2.2.2.2.2.1 <|
      grdEq o_1.2.2.2.2.2.2.2 o_1.2.2.2.2.2.2.2 <|
      grdEq other_3.1 other_3.1 <|
      grdEq other_3.2.1 other_3.2.1 <|
      grdEq other_3.2.2.1 other_3.2.2.1 <|
      grdEq other_3.2.2.2.1 other_3.2.2.2.1 <|
      grdEq other_3.2.2.2.2.1 other_3.2.2.2.2.1 <|
      grdEq other_3.2.2.2.2.2.1 other_3.2.2.2.2.2.1 <|
      grdEq other_3.2.2.2.2.2.2.1 other_3.2.2.2.2.2.2.1 <|
      grdEq other_3.2.2.2.2.2.2.2 other_3.2.2.2.2.2.2.2 <|
      some (.inl v5)
    else
      grdEq bits_2 bits_2 <|
      grdEq o_1.1 o_1.1 <|
      grdEq o_1.2.1 o_1.2.1 <|
      grdEq o_1.2.2.1 o_1.2.2.1 <|
      grdEq o_1.2.2.2.1 o_1.2.2.2.1 <|
      grdEq o_1.2.2.2.2.1 o_1.2.2.2.2.1 <|
      grdEq o_1.2.2.2.2.2.1 o_1.2.2.2.2.2.1 <|
      grdEq o_1.2.2.2.2.2.2.1 o_1.2.2.2.2.2.2.1 <|
      grdEq o_1.2.2.2.2.2.2.2 o_1.2.2.2.2.2.2.2 <|
      grdEq other_3.1 other_3.1 <|
      grdEq other_3.2.1 other_3.2.1 <|
      grdEq other_3.2.2.1 other_3.2.2.1 <|
      grdEq other_3.2.2.2.1 other_3.2.2.2.1 <|
      grdEq other_3.2.2.2.2.1 other_3.2.2.2.2.1 <|
      grdEq other_3.2.2.2.2.2.1 other_3.2.2.2.2.2.1 <|
      grdEq other_3.2.2.2.2.2.2.1 other_3.2.2.2.2.2.2.1 <|
      grdEq other_3.2.2.2.2.2.2.2 other_3.2.2.2.2.2.2.2 <|
      some (.inr (()))) fun o6 =>
  match o6 with
  | .inl s6_7 =>
    some s6_7
  | .inr _ =>
    bnd (F_query_Out_Check (o_1.1, o_1.2.1, o_1.2.2.1, o_1.2.2.2.1, o_1.2.2.2.2.1, o_1.2.2.2.2.2.1, o_1.2.2.2.2.2.2.1, o_1.2.2.2.2.2.2.2)) fun v8 =>
    if (!v8) = true then
      bnd (F_law20_answer (o_1.1, o_1.2.1, o_1.2.2.1, o_1.2.2.2.1, o_1.2.2.2.2.1, o_1.2.2.2.2.2.1, o_1.2.2.2.2.2.2.1, o_1.2.2.2.2.2.2.2)) fun v9 =>
      bnd (F_query_Match [(o_1.1, o_1.2.1, o_1.2.2.1, o_1.2.2.2.1, o_1.2.2.2.2.1, o_1.2.2.2.2.2.1, o_1.2.2.2.2.2.2.1, o_1.2.2.2.2.2.2.2)] o_1.2.2.1 o_1.2.1 v9) fun (v10, v11, v12) =>
      bnd (F_query_Out_Bytes (o_1.1, o_1.2.1, o_1.2.2.1, o_1.2.2.2.1, o_1.2.2.2.2.1, o_1.2.2.2.2.2.1, o_1.2.2.2.2.2.2.1, o_1.2.2.2.2.2.2.2)) fun v13 =>
      if (v13 == []) = true then
        if (v12 != 0) = true then
          bnd F_law20_live fun v14 =>
          some v14
        else
          some false
      else
        some false
    else
      bnd (F_query_Out_Bytes (o_1.1, o_1.2.1, o_1.2.2.1, o_1.2.2.2.1, o_1.2.2.2.2.1, o_1.2.2.2.2.2.1, o_1.2.2.2.2.2.2.1, o_1.2.2.2.2.2.2.2)) fun v15 =>
      bnd (F_ref08_Decode v15) fun (v16, v17) =>
      bnd (α := (Bool ⊕ Unit)) (if (v17 != 0) = false then
          if (v16.1 != o_1.1) = false then
            if ((↑(List.length v16.2.2.1) : Int) != 1) = true then
              grdEq o_1.1 o_1.1 <|
              grdEq o_1.2.1 o_1.2.1 <|
              grdEq o_1.2.2.1 o_1.2.2.1 <|
              grdEq o_1.2.2.2.1 o_1.2.2.2.1 <|
              grdEq o_1.2.2.2.2.1 o_1.2.2.2.2.1 <|
              grdEq o_1.2.2.2.2.2.1 o_1.2.2.2.2.2.1 <|
              grdEq o_1.2.2.2.2.2.2.1 o_1.2.2.2.2.2.2.1 <|
              grdEq o_1.2.2.2.2.2.2.2 o_1.2.2.2.2.2.2.2 <|
              grdEq other_3.1 other_3.1 <|
              grdEq other_3.2.1 other_3.2.1 <|
              grdEq other_3.2.2.1 other_3.2.2.1 <|
              grdEq other_3.2.2.2.1 other_3.2.2.2.1 <|
              grdEq other_3.2.2.2.2.1 other_3.2.2.2.2.1 <|
              grdEq other_3.2.2.2.2.2.1 other_3.2.2.2.2.2.1 <|
              grdEq other_3.2.2.2.2.2.2.1 other_3.2.2.2.2.2.2.1 <|
              grdEq other_3.2.2.2.2.2.2.2 other_3.2.2.2.2.2.2.2 <|
              grdEq o_1.1 o_1.1 <|
              grdEq o_1.2.1 o_1.2.1 <|
              grdEq o_1.2.2.1 o_1.2.2.1 <|
              grdEq o_1.2.2.2.1 o_1.2.2.2.1 <|
              grdEq o_1.2.2.2.2.1 o_1.2.2.2.2.1 <|
              grdEq o_1.2.2.2.2.2.1 o_1.2.2.2.2.2.1 <|
              grdEq o_1.2.2.2.2.2.2.1 o_1.2.2.2.2.2.2.1 <|
              grdEq o_1.2.2.2.2.2.2.2 o_1.2.2.2.2.2.2.2 <|
              grdEq v16.1 v16.1 <|
              grdEq v16.2.1 v16.2.1 <|
              grdEq v16.2.2.1 v16.2.2.1 <|
              grdEq v16.2.2.2.1 v16.2.2.2.1 <|
              grdEq v16.2.2.2.2.1 v16.2.2.2.2.1 <|
              grdEq v16.2.2.2.2.2 v16.2.2.2.2.2 <|
              some (.inl false)
            else
              grdEq bits_2 bits_2 <|
              grdEq ([(o_1.1, o_1.2.1, o_1.2.2.1, o_1.2.2.2.1, o_1.2.2.2.2.1, o_1.2.2.2.2.2.1, o_1.2.2.2.2.2.2.1, o_1.2.2.2.2.2.2.2)]) ([(o_1.1, o_1.2.1, o_1.2.2.1, o_1.2.2.2.1, o_1.2.2.2.2.1, o_1.2.2.2.2.2.1, o_1.2.2.2.2.2.2.1, o_1.2.2.2.2.2.2.2)]) <|
              grdEq o_1.1 o_1.1 <|
              grdEq o_1.2.1 o_1.2.1 <|
              grdEq o_1.2.2.1 o_1.2.2.1 <|
              grdEq o_1.2.2.2.1 o_1.2.2.2.1 <|
              grdEq o_1.2.2.2.2.1 o_1.2.2.2.2.1 <|
              grdEq o_1.2.2.2.2.2.1 o_1.2.2.2.2.2.1 <|
              grdEq o_1.2.2.2.2.2.2.1 o_1.2.2.2.2.2.2.1 <|
              grdEq o_1.2.2.2.2.2.2.2 o_1.2.2.2.2.2.2.2 <|
              grdEq other_3.1 other_3.1 <|
              grdEq other_3.2.1 other_3.2.1 <|
              grdEq other_3.2.2.1 other_3.2.2.1 <|
              grdEq other_3.2.2.2.1 other_3.2.2.2.1 <|
              grdEq other_3.2.2.2.2.1 other_3.2.2.2.2.1 <|
              grdEq other_3.2.2.2.2.2.1 other_3.2.2.2.2.2.1 <|
              grdEq other_3.2.2.2.2.2.2.1 other_3.2.2.2.2.2.2.1 <|
              grdEq other_3.2.2.2.2.2.2.2 other_3.2.2.2.2.2.2.2 <|
              grdEq o_1.1 o_1.1 <|
              grdEq o_1.2.1 o_1.2.1 <|
              grdEq o_1.2.2.1 o_1.2.2.1 <|
              grdEq o_1.2.2.2.1 o_1.2.2.2.1 <|
              grdEq o_1.2.2.2.2.1 o_1.2.2.2.2.1 <|
              grdEq o_1.2.2.2.2.2.1 o_1.2.2.2.2.2.1 <|
              grdEq o_1.2.2.2.2.2.2.1 o_1.2.2.2.2.2.2.1 <|
              grdEq o_1.2.2.2.2.2.2.2 o_1.2.2.2.2.2.2.2 <|
              grdEq v16.1 v16.1 <|
              grdEq v16.2.1 v16.2.1 <|
              grdEq v16.2.2.1 v16.2.2.1 <|
              grdEq v16.2.2.2.1 v16.2.2.2.1 <|
              grdEq v16.2.2.2.2.1 v16.2.2.2.2.1 <|
              grdEq v16.2.2.2.2.2 v16.2.2.2.2.2 <|
              some (.inr (()))
          else
            grdEq o_1.1 o_1.1 <|
            grdEq o_1.2.1 o_1.2.1 <|
            grdEq o_1.2.2.1 o_1.2.2.1 <|
            grdEq o_1.2.2.2.1 o_1.2.2.2.1 <|
            grdEq o_1.2.2.2.2.1 o_1.2.2.2.2.1 <|
            grdEq o_1.2.2.2.2.2.1 o_1.2.2.2.2.2.1 <|
            grdEq o_1.2.2.2.2.2.2.1 o_1.2.2.2.2.2.2.1 <|
            grdEq o_1.2.2.2.2.2.2.2 o_1.2.2.2.2.2.2.2 <|
            grdEq other_3.1 other_3.1 <|
            grdEq other_3.2.1 other_3.2.1 <|
            grdEq other_3.2.2.1 other_3.2.2.1 <|
            grdEq other_3.2.2.2.1 other_3.2.2.2.1 <|
            grdEq other_3.2.2.2.2.1 other_3.2.2.2.2.1 <|
            grdEq other_3.2.2.2.2.2.1 other_3.2.2.2.2.2.1 <|
            grdEq other_3.2.2.2.2.2.2.1 other_3.2.2.2.2.2.2.1 <|
            grdEq other_3.2.2.2.2.2.2.2 other_3.2.2.2.2.2.2.2 <|
            grdEq o_1.1 o_1.1 <|
            grdEq o_1.2.1 o_1.2.1 <|
            grdEq o_1.2.2.1 o_1.2.2.1 <|
            grdEq o_1.2.2.2.1 o_1.2.2.2.1 <|
            grdEq o_1.2.2.2.2.1 o_1.2.2.2.2.1 <|
            grdEq o_1.2.2.2.2.2.1 o_1.2.2.2.2.2.1 <|
            grdEq o_1.2.2.2.2.2.2.1 o_1.2.2.2.2.2.2.1 <|
            grdEq o_1.2.2.2.2.2.2.2 o_1.2.2.2.2.2.2.2 <|
            grdEq v16.1 v16.1 <|
            grdEq v16.2.1 v16.2.1 <|
            grdEq v16.2.2.1 v16.2.2.1 <|
            grdEq v16.2.2.2.1 v16.2.2.2.1 <|
            grdEq v16.2.2.2.2.1 v16.2.2.2.2.1 <|
            grdEq v16.2.2.2.2.2 v16.2.2.2.2.2 <|
            some (.inl false)
        else
          grdEq o_1.1 o_1.1 <|
          grdEq o_1.2.1 o_1.2.1 <|
          grdEq o_1.2.2.1 o_1.2.2.1 <|
          grdEq o_1.2.2.2.1 o_1.2.2.2.1 <|
          grdEq o_1.2.2.2.2.1 o_1.2.2.2.2.1 <|
          grdEq o_1.2.2.2.2.2.1 o_1.2.2.2.2.2.1 <|
          grdEq o_1.2.2.2.2.2.2.1 o_1.2.2.2.2.2.2.1 <|
          grdEq o_1.2.2.2.2.2.2.2 o_1.2.2.2.2.2.2.2 <|
          grdEq other_3.1 other_3.1 <|
          grdEq other_3.2.1 other_3.2.1 <|
          grdEq other_3.2.2.1 other_3.2.2.1 <|
          grdEq other_3.2.2.2.1 other_3.2.2.2.1 <|
          grdEq other_3.2.2.2.2.1 other_3.2.2.2.2.1 <|
          grdEq other_3.2.2.2.2.2.1 other_3.2.2.2.2.2.1 <|
          grdEq other_3.2.2.2.2.2.2.1 other_3.2.2.2.2.2.2.1 <|
          grdEq other_3.2.2.2.2.2.2.2 other_3.2.2.2.2.2.2.2 <|
          grdEq o_1.1 o_1.1 <|
          grdEq o_1.2.1 o_1.2.1 <|
          grdEq o_1.2.2.1 o_1.2.2.1 <|
          grdEq o_1.2.2.2.1 o_1.2.2.2.1 <|
          grdEq o_1.2.2.2.2.1 o_1.2.2.2.2.1 <|
          grdEq o_1.2.2.2.2.2.1 o_1.2.2.2.2.2.1 <|
          grdEq o_1.2.2.2.2.2.2.1 o_1.2.2.2.2.2.2.1 <|
          grdEq o_1.2.2.2.2.2.2.2 o_1.2.2.2.2.2.2.2 <|
          grdEq v16.1 v16.1 <|
          grdEq v16.2.1 v16.2.1 <|
          grdEq v16.2.2.1 v16.2.2.1 <|
          grdEq v16.2.2.2.1 v16.2.2.2.1 <|
          grdEq v16.2.2.2.2.1 v16.2.2.2.2.1 <|
          grdEq v16.2.2.2.2.2 v16.2.2.2.2.2 <|
          some (.inl false)) fun o18 =>
      match o18 with
      | .inl s6_19 =>
        some s6_19
      | .inr _ =>
        bnd (F_law20_answer (o_1.1, o_1.2.1, o_1.2.2.1, o_1.2.2.2.1, o_1.2.2.2.2.1, o_1.2.2.2.2.2.1, o_1.2.2.2.2.2.2.1, o_1.2.2.2.2.2.2.2)) fun v20 =>
        bnd (F_query_Match [(o_1.1, o_1.2.1, o_1.2.2.1, o_1.2.2.2.1, o_1.2.2.2.2.1, o_1.2.2.2.2.2.1, o_1.2.2.2.2.2.2.1, o_1.2.2.2.2.2.2.2)] o_1.2.2.1 o_1.2.1 v20) fun (v21, v22, v23) =>
        bnd (α := (Bool ⊕ Unit)) (bnd (v16.2.2.1[0]?) fun x24 =>
          if (!(x24.1 == o_1.2.2.2.1 && (x24.2.1 == o_1.2.2.2.2.1 && (x24.2.2 == o_1.2.2.2.2.2.1 && true)))) = false then
            if (v21 != 0) = false then
              if (v23 != 0) = false then
                if (v22.1 != o_1.1) = true then
                  grdEq o_1.1 o_1.1 <|
                  grdEq o_1.2.1 o_1.2.1 <|
                  grdEq o_1.2.2.1 o_1.2.2.1 <|
                  grdEq o_1.2.2.2.1 o_1.2.2.2.1 <|
                  grdEq o_1.2.2.2.2.1 o_1.2.2.2.2.1 <|
                  grdEq o_1.2.2.2.2.2.1 o_1.2.2.2.2.2.1 <|
                  grdEq o_1.2.2.2.2.2.2.1 o_1.2.2.2.2.2.2.1 <|
                  grdEq o_1.2.2.2.2.2.2.2 o_1.2.2.2.2.2.2.2 <|
                  grdEq other_3.1 other_3.1 <|
                  grdEq other_3.2.1 other_3.2.1 <|
                  grdEq other_3.2.2.1 other_3.2.2.1 <|
                  grdEq other_3.2.2.2.1 other_3.2.2.2.1 <|
                  grdEq other_3.2.2.2.2.1 other_3.2.2.2.2.1 <|
                  grdEq other_3.2.2.2.2.2.1 other_3.2.2.2.2.2.1 <|
                  grdEq other_3.2.2.2.2.2.2.1 other_3.2.2.2.2.2.2.1 <|
                  grdEq other_3.2.2.2.2.2.2.2 other_3.2.2.2.2.2.2.2 <|
                  grdEq o_1.1 o_1.1 <|
                  grdEq o_1.2.1 o_1.2.1 <|
                  grdEq o_1.2.2.1 o_1.2.2.1 <|
                  grdEq o_1.2.2.2.1 o_1.2.2.2.1 <|
                  grdEq o_1.2.2.2.2.1 o_1.2.2.2.2.1 <|
                  grdEq o_1.2.2.2.2.2.1 o_1.2.2.2.2.2.1 <|
                  grdEq o_1.2.2.2.2.2.2.1 o_1.2.2.2.2.2.2.1 <|
                  grdEq o_1.2.2.2.2.2.2.2 o_1.2.2.2.2.2.2.2 <|
                  grdEq v16.1 v16.1 <|
                  grdEq v16.2.1 v16.2.1 <|
                  grdEq v16.2.2.1 v16.2.2.1 <|
                  grdEq v16.2.2.2.1 v16.2.2.2.1 <|
                  grdEq v16.2.2.2.2.1 v16.2.2.2.2.1 <|
                  grdEq v16.2.2.2.2.2 v16.2.2.2.2.2 <|
                  grdEq v22.1 v22.1 <|
                  grdEq v22.2.1 v22.2.1 <|
                  grdEq v22.2.2.1 v22.2.2.1 <|
                  grdEq v22.2.2.2.1 v22.2.2.2.1 <|
                  grdEq v22.2.2.2.2.1 v22.2.2.2.2.1 <|
                  grdEq v22.2.2.2.2.2 v22.2.2.2.2.2 <|
                  some (.inl false)
                else
                  grdEq bits_2 bits_2 <|
                  grdEq ([(o_1.1, o_1.2.1, o_1.2.2.1, o_1.2.2.2.1, o_1.2.2.2.2.1, o_1.2.2.2.2.2.1, o_1.2.2.2.2.2.2.1, o_1.2.2.2.2.2.2.2)]) ([(o_1.1, o_1.2.1, o_1.2.2.1, o_1.2.2.2.1, o_1.2.2.2.2.1, o_1.2.2.2.2.2.1, o_1.2.2.2.2.2.2.1, o_1.2.2.2.2.2.2.2)]) <|
                  grdEq o_1.1 o_1.1 <|
                  grdEq o_1.2.1 o_1.2.1 <|
                  grdEq o_1.2.2.1 o_1.2.2.1 <|
                  grdEq o_1.2.2.2.1 o_1.2.2.2.1 <|
                  grdEq o_1.2.2.2.2.1 o_1.2.2.2.2.1 <|
                  grdEq o_1.2.2.2.2.2.1 o_1.2.2.2.2.2.1 <|
                  grdEq o_1.2.2.2.2.2.2.1 o_1.2.2.2.2.2.2.1 <|
                  grdEq o_1.2.2.2.2.2.2.2 o_1.2.2.2.2.2.2.2 <|
                  grdEq other_3.1 other_3.1 <|
                  grdEq other_3.2.1 other_3.2.1 <|
                  grdEq other_3.2.2.1 other_3.2.2.1 <|
                  grdEq other_3.2.2.2.1 other_3.2.2.2.1 <|
                  grdEq other_3.2.2.2.2.1 other_3.2.2.2.2.1 <|
                  grdEq other_3.2.2.2.2.2.1 other_3.2.2.2.2.2.1 <|
                  grdEq other_3.2.2.2.2.2.2.1 other_3.2.2.2.2.2.2.1 <|
                  grdEq other_3.2.2.2.2.2.2.2 other_3.2.2.2.2.2.2.2 <|
                  grdEq o_1.1 o_1.1 <|
                  grdEq o_1.2.1 o_1.2.1 <|
                  grdEq o_1.2.2.1 o_1.2.2.1 <|
                  grdEq o_1.2.2.2.1 o_1.2.2.2.1 <|
                  grdEq o_1.2.2.2.2.1 o_1.2.2.2.2.1 <|
                  grdEq o_1.2.2.2.2.2.1 o_1.2.2.2.2.2.1 <|
                  grdEq o_1.2.2.2.2.2.2.1 o_1.2.2.2.2.2.2.1 <|
                  grdEq o_1.2.2.2.2.2.2.2 o_1.2.2.2.2.2.2.2 <|
                  grdEq v16.1 v16.1 <|
                  grdEq v16.2.1 v16.2.1 <|
                  grdEq v16.2.2.1 v16.2.2.1 <|
                  grdEq v16.2.2.2.1 v16.2.2.2.1 <|
                  grdEq v16.2.2.2.2.1 v16.2.2.2.2.1 <|
                  grdEq v16.2.2.2.2.2 v16.2.2.2.2.2 <|
                  grdEq v22.1 v22.1 <|
                  grdEq v22.2.1 v22.2.1 <|
                  grdEq v22.2.2.1 v22.2.2.1 <|
                  grdEq v22.2.2.2.1 v22.2.2.2.1 <|
                  grdEq v22.2.2.2.2.1 v22.2.2.2.2.1 <|
                  grdEq v22.2.2.2.2.2 v22.2.2.2.2.2 <|
                  some (.inr (()))
              else
                grdEq o_1.1 o_1.1 <|
                grdEq o_1.2.1 o_1.2.1 <|
                grdEq o_1.2.2.1 o_1.2.2.1 <|
                grdEq o_1.2.2.2.1 o_1.2.2.2.1 <|
                grdEq o_1.2.2.2.2.1 o_1.2.2.2.2.1 <|
                grdEq o_1.2.2.2.2.2.1 o_1.2.2.2.2.2.1 <|
                grdEq o_1.2.2.2.2.2.2.1 o_1.2.2.2.2.2.2.1 <|
                grdEq o_1.2.2.2.2.2.2.2 o_1.2.2.2.2.2.2.2 <|
                grdEq other_3.1 other_3.1 <|
                grdEq other_3.2.1 other_3.2.1 <|
                grdEq other_3.2.2.1 other_3.2.2.1 <|
                grdEq other_3.2.2.2.1 other_3.2.2.2.1 <|
                grdEq other_3.2.2.2.2.1 other_3.2.2.2.2.1 <|
                grdEq other_3.2.2.2.2.2.1 other_3.2.2.2.2.2.1 <|
                grdEq other_3.2.2.2.2.2.2.1 other_3.2.2.2.2.2.2.1 <|
                grdEq other_3.2.2.2.2.2.2.2 other_3.2.2.2.2.2.2.2 <|
                grdEq o_1.1 o_1.1 <|
                grdEq o_1.2.1 o_1.2.1 <|
                grdEq o_1.2.2.1 o_1.2.2.1 <|
                grdEq o_1.2.2.2.1 o_1.2.2.2.1 <|
                grdEq o_1.2.2.2.2.1 o_1.2.2.2.2.1 <|
                grdEq o_1.2.2.2.2.2.1 o_1.2.2.2.2.2.1 <|
                grdEq o_1.2.2.2.2.2.2.1 o_1.2.2.2.2.2.2.1 <|
                grdEq o_1.2.2.2.2.2.2.2 o_1.2.2.2.2.2.2.2 <|
                grdEq v16.1 v16.1 <|
                grdEq v16.2.1 v16.2.1 <|
                grdEq v16.2.2.1 v16.2.2.1 <|
                grdEq v16.2.2.2.1 v16.2.2.2.1 <|
                grdEq v16.2.2.2.2.1 v16.2.2.2.2.1 <|
                grdEq v16.2.2.2.2.2 v16.2.2.2.2.2 <|
                grdEq v22.1 v22.1 <|
                grdEq v22.2.1 v22.2.1 <|
                grdEq v22.2.2.1 v22.2.2.1 <|
                grdEq v22.2.2.2.1 v22.2.2.2.1 <|
                grdEq v22.2.2.2.2.1 v22.2.2.2.2.1 <|
                grdEq v22.2.2.2.2.2 v22.2.2.2.2.2 <|
                some (.inl false)
            else
              grdEq o_1.1 o_1.1 <|
              grdEq o_1.2.1 o_1.2.1 <|
              grdEq o_1.2.2.1 o_1.2.2.1 <|
              grdEq o_1.2.2.2.1 o_1.2.2.2.1 <|
              grdEq o_1.2.2.2.2.1 o_1.2.2.2.2.1 <|
              grdEq o_1.2.2.2.2.2.1 o_1.2.2.2.2.2.1 <|
              grdEq o_1.2.2.2.2.2.2.1 o_1.2.2.2.2.2.2.1 <|
              grdEq o_1.2.2.2.2.2.2.2 o_1.2.2.2.2.2.2.2 <|
              grdEq other_3.1 other_3.1 <|
              grdEq other_3.2.1 other_3.2.1 <|
              grdEq other_3.2.2.1 other_3.2.2.1 <|
              grdEq other_3.2.2.2.1 other_3.2.2.2.1 <|
              grdEq other_3.2.2.2.2.1 other_3.2.2.2.2.1 <|
              grdEq other_3.2.2.2.2.2.1 other_3.2.2.2.2.2.1 <|
              grdEq other_3.2.2.2.2.2.2.1 other_3.2.2.2.2.2.2.1 <|
              grdEq other_3.2.2.2.2.2.2.2 other_3.2.2.2.2.2.2.2 <|
              grdEq o_1.1 o_1.1 <|
              grdEq o_1.2.1 o_1.2.1 <|
              grdEq o_1.2.2.1 o_1.2.2.1 <|
              grdEq o_1.2.2.2.1 o_1.2.2.2.1 <|
              grdEq o_1.2.2.2.2.1 o_1.2.2.2.2.1 <|
              grdEq o_1.2.2.2.2.2.1 o_1.2.2.2.2.2.1 <|
              grdEq o_1.2.2.2.2.2.2.1 o_1.2.2.2.2.2.2.1 <|
              grdEq o_1.2.2.2.2.2.2.2 o_1.2.2.2.2.2.2.2 <|
              grdEq v16.1 v16.1 <|
              grdEq v16.2.1 v16.2.1 <|
              grdEq v16.2.2.1 v16.2.2.1 <|
              grdEq v16.2.2.2.1 v16.2.2.2.1 <|
              grdEq v16.2.2.2.2.1 v16.2.2.2.2.1 <|
              grdEq v16.2.2.2.2.2 v16.2.2.2.2.2 <|
              grdEq v22.1 v22.1 <|
              grdEq v22.2.1 v22.2.1 <|
              grdEq v22.2.2.1 v22.2.2.1 <|
              grdEq v22.2.2.2.1 v22.2.2.2.1 <|
              grdEq v22.2.2.2.2.1 v22.2.2.2.2.1 <|
              grdEq v22.2.2.2.2.2 v22.2.2.2.2.2 <|
              some (.inl false)
          else
            grdEq o_1.1 o_1.1 <|
            grdEq o_1.2.1 o_1.2.1 <|
            grdEq o_1.2.2.1 o_1.2.2.1 <|
            grdEq o_1.2.2.2.1 o_1.2.2.2.1 <|
            grdEq o_1.2.2.2.2.1 o_1.2.2.2.2.1 <|
            grdEq o_1.2.2.2.2.2.1 o_1.2.2.2.2.2.1 <|
            grdEq o_1.2.2.2.2.2.2.1 o_1.2.2.2.2.2.2.1 <|
            grdEq o_1.2.2.2.2.2.2.2 o_1.2.2.2.2.2.2.2 <|
            grdEq other_3.1 other_3.1 <|
            grdEq other_3.2.1 other_3.2.1 <|
            grdEq other_3.2.2.1 other_3.2.2.1 <|
            grdEq other_3.2.2.2.1 other_3.2.2.2.1 <|
            grdEq other_3.2.2.2.2.1 other_3.2.2.2.2.1 <|
            grdEq other_3.2.2.2.2.2.1 other_3.2.2.2.2.2.1 <|
            grdEq other_3.2.2.2.2.2.2.1 other_3.2.2.2.2.2.2.1 <|
            grdEq other_3.2.2.2.2.2.2.2 other_3.2.2.2.2.2.2.2 <|
            grdEq o_1.1 o_1.1 <|
            grdEq o_1.2.1 o_1.2.1 <|
            grdEq o_1.2.2.1 o_1.2.2.1 <|
            grdEq o_1.2.2.2.1 o_1.2.2.2.1 <|
            grdEq o_1.2.2.2.2.1 o_1.2.2.2.2.1 <|
            grdEq o_1.2.2.2.2.2.1 o_1.2.2.2.2.2.1 <|
            grdEq o_1.2.2.2.2.2.2.1 o_1.2.2.2.2.2.2.1 <|
            grdEq o_1.2.2.2.2.2.2.2 o_1.2.2.2.2.2.2.2 <|
            grdEq v16.1 v16.1 <|
            grdEq v16.2.1 v16.2.1 <|
            grdEq v16.2.2.1 v16.2.2.1 <|
            grdEq v16.2.2.2.1 v16.2.2.2.1 <|
            grdEq v16.2.2.2.2.1 v16.2.2.2.2.1 <|
            grdEq v16.2.2.2.2.2 v16.2.2.2.2.2 <|
            grdEq v22.1 v22.1 <|
            grdEq v22.2.1 v22.2.1 <|
            grdEq v22.2.2.1 v22.2.2.1 <|
            grdEq v22.2.2.2.1 v22.2.2.2.1 <|
            grdEq v22.2.2.2.2.1 v22.2.2.2.2.1 <|
            grdEq v22.2.2.2.2.2 v22.2.2.2.2.2 <|
            some (.inl false)) fun o25 =>
        match o25 with
        | .inl s6_26 =>
          some s6_26
        | .inr _ =>
          bnd (F_law20_answer (o_1.1, o_1.2.1, o_1.2.2.1, o_1.2.2.2.1, o_1.2.2.2.2.1, o_1.2.2.2.2.2.1, o_1.2.2.2.2.2.2.1, o_1.2.2.2.2.2.2.2)) fun v27 =>
          bnd (F_query_Match [(o_1.1, o_1.2.1, o_1.2.2.1, o_1.2.2.2.1, o_1.2.2.2.2.1, o_1.2.2.2.2.2.1, o_1.2.2.2.2.2.2.1, o_1.2.2.2.2.2.2.2)] other_3.2.2.1 other_3.2.1 v27) fun (v28, v29, v30) =>
          bnd (α := (Bool ⊕ Unit)) (if (other_3.2.2.1 == o_1.2.2.1) = true then
              if (!(v30 == 0) == (other_3.2.1 == o_1.2.1)) = true then
                grdEq o_1.1 o_1.1 <|
                grdEq o_1.2.1 o_1.2.1 <|
                grdEq o_1.2.2.1 o_1.2.2.1 <|
                grdEq o_1.2.2.2.1 o_1.2.2.2.1 <|
                grdEq o_1.2.2.2.2.1 o_1.2.2.2.2.1 <|
                grdEq o_1.2.2.2.2.2.1 o_1.2.2.2.2.2.1 <|
                grdEq o_1.2.2.2.2.2.2.1 o_1.2.2.2.2.2.2.1 <|
                grdEq o_1.2.2.2.2.2.2.2 o_1.2.2.2.2.2.2.2 <|
                grdEq other_3.1 other_3.1 <|
                grdEq other_3.2.1 other_3.2.1 <|
                grdEq other_3.2.2.1 other_3.2.2.1 <|
                grdEq other_3.2.2.2.1 other_3.2.2.2.1 <|
                grdEq other_3.2.2.2.2.1 other_3.2.2.2.2.1 <|
                grdEq other_3.2.2.2.2.2.1 other_3.2.2.2.2.2.1 <|
                grdEq other_3.2.2.2.2.2.2.1 other_3.2.2.2.2.2.2.1 <|
                grdEq other_3.2.2.2.2.2.2.2 other_3.2.2.2.2.2.2.2 <|
                grdEq o_1.1 o_1.1 <|
                grdEq o_1.2.1 o_1.2.1 <|
                grdEq o_1.2.2.1 o_1.2.2.1 <|
                grdEq o_1.2.2.2.1 o_1.2.2.2.1 <|
                grdEq o_1.2.2.2.2.1 o_1.2.2.2.2.1 <|
                grdEq o_1.2.2.2.2.2.1 o_1.2.2.2.2.2.1 <|
                grdEq o_1.2.2.2.2.2.2.1 o_1.2.2.2.2.2.2.1 <|
                grdEq o_1.2.2.2.2.2.2.2 o_1.2.2.2.2.2.2.2 <|
                grdEq v16.1 v16.1 <|
                grdEq v16.2.1 v16.2.1 <|
                grdEq v16.2.2.1 v16.2.2.1 <|
                grdEq v16.2.2.2.1 v16.2.2.2.1 <|
                grdEq v16.2.2.2.2.1 v16.2.2.2.2.1 <|
                grdEq v16.2.2.2.2.2 v16.2.2.2.2.2 <|
                grdEq v22.1 v22.1 <|
                grdEq v22.2.1 v22.2.1 <|
                grdEq v22.2.2.1 v22.2.2.1 <|
                grdEq v22.2.2.2.1 v22.2.2.2.1 <|
                grdEq v22.2.2.2.2.1 v22.2.2.2.2.1 <|
                grdEq v22.2.2.2.2.2 v22.2.2.2.2.2 <|
                grdEq v29.1 v29.1 <|
                grdEq v29.2.1 v29.2.1 <|
                grdEq v29.2.2.1 v29.2.2.1 <|
                grdEq v29.2.2.2.1 v29.2.2.2.1 <|
                grdEq v29.2.2.2.2.1 v29.2.2.2.2.1 <|
                grdEq v29.2.2.2.2.2 v29.2.2.2.2.2 <|
                some (.inl false)
              else
                grdEq bits_2 bits_2 <|
                grdEq ([(o_1.1, o_1.2.1, o_1.2.2.1, o_1.2.2.2.1, o_1.2.2.2.2.1, o_1.2.2.2.2.2.1, o_1.2.2.2.2.2.2.1, o_1.2.2.2.2.2.2.2)]) ([(o_1.1, o_1.2.1, o_1.2.2.1, o_1.2.2.2.1, o_1.2.2.2.2.1, o_1.2.2.2.2.2.1, o_1.2.2.2.2.2.2.1, o_1.2.2.2.2.2.2.2)]) <|
                grdEq o_1.1 o_1.1 <|
                grdEq o_1.2.1 o_1.2.1 <|
                grdEq o_1.2.2.1 o_1.2.2.1 <|
                grdEq o_1.2.2.2.1 o_1.2.2.2.1 <|
                grdEq o_1.2.2.2.2.1 o_1.2.2.2.2.1 <|
                grdEq o_1.2.2.2.2.2.1 o_1.2.2.2.2.2.1 <|
                grdEq o_1.2.2.2.2.2.2.1 o_1.2.2.2.2.2.2.1 <|
                grdEq o_1.2.2.2.2.2.2.2 o_1.2.2.2.2.2.2.2 <|
                grdEq other_3.1 other_3.1 <|
                grdEq other_3.2.1 other_3.2.1 <|
                grdEq other_3.2.2.1 other_3.2.2.1 <|
                grdEq other_3.2.2.2.1 other_3.2.2.2.1 <|
                grdEq other_3.2.2.2.2.1 other_3.2.2.2.2.1 <|
                grdEq other_3.2.2.2.2.2.1 other_3.2.2.2.2.2.1 <|
                grdEq other_3.2.2.2.2.2.2.1 other_3.2.2.2.2.2.2.1 <|
                grdEq other_3.2.2.2.2.2.2.2 other_3.2.2.2.2.2.2.2 <|
                grdEq o_1.1 o_1.1 <|
                grdEq o_1.2.1 o_1.2.1 <|
                grdEq o_1.2.2.1 o_1.2.2.1 <|
                grdEq o_1.2.2.2.1 o_1.2.2.2.1 <|
                grdEq o_1.2.2.2.2.1 o_1.2.2.2.2.1 <|
                grdEq o_1.2.2.2.2.2.1 o_1.2.2.2.2.2.1 <|
                grdEq o_1.2.2.2.2.2.2.1 o_1.2.2.2.2.2.2.1 <|
                grdEq o_1.2.2.2.2.2.2.2 o_1.2.2.2.2.2.2.2 <|
                grdEq v16.1 v16.1 <|
                grdEq v16.2.1 v16.2.1 <|
                grdEq v16.2.2.1 v16.2.2.1 <|
                grdEq v16.2.2.2.1 v16.2.2.2.1 <|
                grdEq v16.2.2.2.2.1 v16.2.2.2.2.1 <|
                grdEq v16.2.2.2.2.2 v16.2.2.2.2.2 <|
                grdEq v22.1 v22.1 <|
                grdEq v22.2.1 v22.2.1 <|
                grdEq v22.2.2.1 v22.2.2.1 <|
                grdEq v22.2.2.2.1 v22.2.2.2.1 <|
                grdEq v22.2.2.2.2.1 v22.2.2.2.2.1 <|
                grdEq v22.2.2.2.2.2 v22.2.2.2.2.2 <|
                grdEq v29.1 v29.1 <|
                grdEq v29.2.1 v29.2.1 <|
                grdEq v29.2.2.1 v29.2.2.1 <|
                grdEq v29.2.2.2.1 v29.2.2.2.1 <|
                grdEq v29.2.2.2.2.1 v29.2.2.2.2.1 <|
                grdEq v29.2.2.2.2.2 v29.2.2.2.2.2 <|
                some (.inr (()))
            else
              if (!(v30 == 0) == false) = true then
                grdEq o_1.1 o_1.1 <|
                grdEq o_1.2.1 o_1.2.1 <|
                grdEq o_1.2.2.1 o_1.2.2.1 <|
                grdEq o_1.2.2.2.1 o_1.2.2.2.1 <|
                grdEq o_1.2.2.2.2.1 o_1.2.2.2.2.1 <|
                grdEq o_1.2.2.2.2.2.1 o_1.2.2.2.2.2.1 <|
                grdEq o_1.2.2.2.2.2.2.1 o_1.2.2.2.2.2.2.1 <|
                grdEq o_1.2.2.2.2.2.2.2 o_1.2.2.2.2.2.2.2 <|
                grdEq other_3.1 other_3.1 <|
                grdEq other_3.2.1 other_3.2.1 <|
                grdEq other_3.2.2.1 other_3.2.2.1 <|
                grdEq other_3.2.2.2.1 other_3.2.2.2.1 <|
                grdEq other_3.2.2.2.2.1 other_3.2.2.2.2.1 <|
                grdEq other_3.2.2.2.2.2.1 other_3.2.2.2.2.2.1 <|
                grdEq other_3.2.2.2.2.2.2.1 other_3.2.2.2.2.2.2.1 <|
                grdEq other_3.2.2.2.2.2.2.2 other_3.2.2.2.2.2.2.2 <|
                grdEq o_1.1 o_1.1 <|
                grdEq o_1.2.1 o_1.2.1 <|
                grdEq o_1.2.2.1 o_1.2.2.1 <|
                grdEq o_1.2.2.2.1 o_1.2.2.2.1 <|
                grdEq o_1.2.2.2.2.1 o_1.2.2.2.2.1 <|
                grdEq o_1.2.2.2.2.2.1 o_1.2.2.2.2.2.1 <|
                grdEq o_1.2.2.2.2.2.2.1 o_1.2.2.2.2.2.2.1 <|
                grdEq o_1.2.2.2.2.2.2.2 o_1.2.2.2.2.2.2.2 <|
                grdEq v16.1 v16.1 <|
                grdEq v16.2.1 v16.2.1 <|
                grdEq v16.2.2.1 v16.2.2.1 <|
                grdEq v16.2.2.2.1 v16.2.2.2.1 <|
                grdEq v16.2.2.2.2.1 v16.2.2.2.2.1 <|
                grdEq v16.2.2.2.2.2 v16.2.2.2.2.2 <|
                grdEq v22.1 v22.1 <|
                grdEq v22.2.1 v22.2.1 <|
                grdEq v22.2.2.1 v22.2.2.1 <|
                grdEq v22.2.2.2.1 v22.2.2.2.1 <|
                grdEq v22.2.2.2.2.1 v22.2.2.2.2.1 <|
                grdEq v22.2.2.2.2.2 v22.2.2.2.2.2 <|
                grdEq v29.1 v29.1 <|
                grdEq v29.2.1 v29.2.1 <|
                grdEq v29.2.2.1 v29.2.2.1 <|
                grdEq v29.2.2.2.1 v29.2.2.2.1 <|
                grdEq v29.2.2.2.2.1 v29.2.2.2.2.1 <|
                grdEq v29.2.2.2.2.2 v29.2.2.2.2.2 <|
                some (.inl false)
              else
                grdEq bits_2 bits_2 <|
                grdEq ([(o_1.1, o_1.2.1, o_1.2.2.1, o_1.2.2.2.1, o_1.2.2.2.2.1, o_1.2.2.2.2.2.1, o_1.2.2.2.2.2.2.1, o_1.2.2.2.2.2.2.2)]) ([(o_1.1, o_1.2.1, o_1.2.2.1, o_1.2.2.2.1, o_1.2.2.2.2.1, o_1.2.2.2.2.2.1, o_1.2.2.2.2.2.2.1, o_1.2.2.2.2.2.2.2)]) <|
                grdEq o_1.1 o_1.1 <|
                grdEq o_1.2.1 o_1.2.1 <|
                grdEq o_1.2.2.1 o_1.2.2.1 <|
                grdEq o_1.2.2.2.1 o_1.2.2.2.1 <|
                grdEq o_1.2.2.2.2.1 o_1.2.2.2.2.1 <|
                grdEq o_1.2.2.2.2.2.1 o_1.2.2.2.2.2.1 <|
                grdEq o_1.2.2.2.2.2.2.1 o_1.2.2.2.2.2.2.1 <|
                grdEq o_1.2.2.2.2.2.2.2 o_1.2.2.2.2.2.2.2 <|
                grdEq other_3.1 other_3.1 <|
                grdEq other_3.2.1 other_3.2.1 <|
                grdEq other_3.2.2.1 other_3.2.2.1 <|
                grdEq other_3.2.2.2.1 other_3.2.2.2.1 <|
                grdEq other_3.2.2.2.2.1 other_3.2.2.2.2.1 <|
                grdEq other_3.2.2.2.2.2.1 other_3.2.2.2.2.2.1 <|
                grdEq other_3.2.2.2.2.2.2.1 other_3.2.2.2.2.2.2.1 <|
                grdEq other_3.2.2.2.2.2.2.2 other_3.2.2.2.2.2.2.2 <|
                grdEq o_1.1 o_1.1 <|
                grdEq o_1.2.1 o_1.2.1 <|
                grdEq o_1.2.2.1 o_1.2.2.1 <|
                grdEq o_1.2.2.2.1 o_1.2.2.2.1 <|
                grdEq o_1.2.2.2.2.1 o_1.2.2.2.2.1 <|
                grdEq o_1.2.2.2.2.2.1 o_1.2.2.2.2.2.1 <|
                grdEq o_1.2.2.2.2.2.2.1 o_1.2.2.2.2.2.2.1 <|
                grdEq o_1.2.2.2.2.2.2.2 o_1.2.2.2.2.2.2.2 <|
                grdEq v16.1 v16.1 <|
                grdEq v16.2.1 v16.2.1 <|
                grdEq v16.2.2.1 v16.2.2.1 <|
                grdEq v16.2.2.2.1 v16.2.2.2.1 <|
                grdEq v16.2.2.2.2.1 v16.2.2.2.2.1 <|
                grdEq v16.2.2.2.2.2 v16.2.2.2.2.2 <|
                grdEq v22.1 v22.1 <|
                grdEq v22.2.1 v22.2.1 <|
                grdEq v22.2.2.1 v22.2.2.1 <|
                grdEq v22.2.2.2.1 v22.2.2.2.1 <|
                grdEq v22.2.2.2.2.1 v22.2.2.2.2.1 <|
                grdEq v22.2.2.2.2.2 v22.2.2.2.2.2 <|
                grdEq v29.1 v29.1 <|
                grdEq v29.2.1 v29.2.1 <|
                grdEq v29.2.2.1 v29.2.2.1 <|
                grdEq v29.2.2.2.1 v29.2.2.2.1 <|
                grdEq v29.2.2.2.2.1 v29.2.2.2.2.1 <|
                grdEq v29.2.2.2.2.2 v29.2.2.2.2.2 <|
                some (.inr (()))) fun o31 =>
          match o31 with
          | .inl s6_32 =>
            some s6_32
          | .inr _ =>
            bnd (F_ref03_Mix o_1.2.2.2.1 bits_2) fun v33 =>
            bnd (α := (Bool ⊕ Unit)) (bnd (α := Bool) (if (!v33 == []) = true then
                  bnd (F_ref02_Check v33) fun v34 =>
                  grdEq ([(o_1.1, o_1.2.1, o_1.2.2.1, o_1.2.2.2.1, o_1.2.2.2.2.1, o_1.2.2.2.2.2.1, o_1.2.2.2.2.2.2.1, o_1.2.2.2.2.2.2.2)]) ([(o_1.1, o_1.2.1, o_1.2.2.1, o_1.2.2.2.1, o_1.2.2.2.2.1, o_1.2.2.2.2.2.1, o_1.2.2.2.2.2.2.1, o_1.2.2.2.2.2.2.2)]) <|
                  grdEq o_1.1 o_1.1 <|
                  grdEq o_1.2.1 o_1.2.1 <|
                  grdEq o_1.2.2.1 o_1.2.2.1 <|
                  grdEq o_1.2.2.2.1 o_1.2.2.2.1 <|
                  grdEq o_1.2.2.2.2.1 o_1.2.2.2.2.1 <|
                  grdEq o_1.2.2.2.2.2.1 o_1.2.2.2.2.2.1 <|
                  grdEq o_1.2.2.2.2.2.2.1 o_1.2.2.2.2.2.2.1 <|
                  grdEq o_1.2.2.2.2.2.2.2 o_1.2.2.2.2.2.2.2 <|
                  grdEq other_3.1 other_3.1 <|
                  grdEq other_3.2.1 other_3.2.1 <|
                  grdEq other_3.2.2.1 other_3.2.2.1 <|
                  grdEq other_3.2.2.2.1 other_3.2.2.2.1 <|
                  grdEq other_3.2.2.2.2.1 other_3.2.2.2.2.1 <|
                  grdEq other_3.2.2.2.2.2.1 other_3.2.2.2.2.2.1 <|
                  grdEq other_3.2.2.2.2.2.2.1 other_3.2.2.2.2.2.2.1 <|
                  grdEq other_3.2.2.2.2.2.2.2 other_3.2.2.2.2.2.2.2 <|
                  grdEq o_1.1 o_1.1 <|
                  grdEq o_1.2.1 o_1.2.1 <|
                  grdEq o_1.2.2.1 o_1.2.2.1 <|
                  grdEq o_1.2.2.2.1 o_1.2.2.2.1 <|
                  grdEq o_1.2.2.2.2.1 o_1.2.2.2.2.1 <|
                  grdEq o_1.2.2.2.2.2.1 o_1.2.2.2.2.2.1 <|
                  grdEq o_1.2.2.2.2.2.2.1 o_1.2.2.2.2.2.2.1 <|
                  grdEq o_1.2.2.2.2.2.2.2 o_1.2.2.2.2.2.2.2 <|
                  grdEq v16.1 v16.1 <|
                  grdEq v16.2.1 v16.2.1 <|
                  grdEq v16.2.2.1 v16.2.2.1 <|
                  grdEq v16.2.2.2.1 v16.2.2.2.1 <|
                  grdEq v16.2.2.2.2.1 v16.2.2.2.2.1 <|
                  grdEq v16.2.2.2.2.2 v16.2.2.2.2.2 <|
                  grdEq v22.1 v22.1 <|
                  grdEq v22.2.1 v22.2.1 <|
                  grdEq v22.2.2.1 v22.2.2.1 <|
                  grdEq v22.2.2.2.1 v22.2.2.2.1 <|
                  grdEq v22.2.2.2.2.1 v22.2.2.2.2.1 <|
                  grdEq v22.2.2.2.2.2 v22.2.2.2.2.2 <|
                  grdEq v29.1 v29.1 <|
                  grdEq v29.2.1 v29.2.1 <|
                  grdEq v29.2.2.1 v29.2.2.1 <|
                  grdEq v29.2.2.2.1 v29.2.2.2.1 <|
                  grdEq v29.2.2.2.2.1 v29.2.2.2.2.1 <|
                  grdEq v29.2.2.2.2.2 v29.2.2.2.2.2 <|
                  grdEq o_1.1 o_1.1 <|
                  grdEq o_1.2.1 o_1.2.1 <|
                  grdEq o_1.2.2.1 o_1.2.2.1 <|
                  grdEq v33 v33 <|
                  grdEq o_1.2.2.2.2.1 o_1.2.2.2.2.1 <|
                  grdEq o_1.2.2.2.2.2.1 o_1.2.2.2.2.2.1 <|
                  grdEq o_1.2.2.2.2.2.2.1 o_1.2.2.2.2.2.2.1 <|
                  grdEq o_1.2.2.2.2.2.2.2 o_1.2.2.2.2.2.2.2 <|
                  some v34
                else
                  grdEq ([(o_1.1, o_1.2.1, o_1.2.2.1, o_1.2.2.2.1, o_1.2.2.2.2.1, o_1.2.2.2.2.2.1, o_1.2.2.2.2.2.2.1, o_1.2.2.2.2.2.2.2)]) ([(o_1.1, o_1.2.1, o_1.2.2.1, o_1.2.2.2.1, o_1.2.2.2.2.1, o_1.2.2.2.2.2.1, o_1.2.2.2.2.2.2.1, o_1.2.2.2.2.2.2.2)]) <|
                  grdEq o_1.1 o_1.1 <|
                  grdEq o_1.2.1 o_1.2.1 <|
                  grdEq o_1.2.2.1 o_1.2.2.1 <|
                  grdEq o_1.2.2.2.1 o_1.2.2.2.1 <|
                  grdEq o_1.2.2.2.2.1 o_1.2.2.2.2.1 <|
                  grdEq o_1.2.2.2.2.2.1 o_1.2.2.2.2.2.1 <|
                  grdEq o_1.2.2.2.2.2.2.1 o_1.2.2.2.2.2.2.1 <|
                  grdEq o_1.2.2.2.2.2.2.2 o_1.2.2.2.2.2.2.2 <|
                  grdEq other_3.1 other_3.1 <|
                  grdEq other_3.2.1 other_3.2.1 <|
                  grdEq other_3.2.2.1 other_3.2.2.1 <|
                  grdEq other_3.2.2.2.1 other_3.2.2.2.1 <|
                  grdEq other_3.2.2.2.2.1 other_3.2.2.2.2.1 <|
                  grdEq other_3.2.2.2.2.2.1 other_3.2.2.2.2.2.1 <|
                  grdEq other_3.2.2.2.2.2.2.1 other_3.2.2.2.2.2.2.1 <|
                  grdEq other_3.2.2.2.2.2.2.2 other_3.2.2.2.2.2.2.2 <|
                  grdEq o_1.1 o_1.1 <|
                  grdEq o_1.2.1 o_1.2.1 <|
                  grdEq o_1.2.2.1 o_1.2.2.1 <|
                  grdEq o_1.2.2.2.1 o_1.2.2.2.1 <|
                  grdEq o_1.2.2.2.2.1 o_1.2.2.2.2.1 <|
                  grdEq o_1.2.2.2.2.2.1 o_1.2.2.2.2.2.1 <|
                  grdEq o_1.2.2.2.2.2.2.1 o_1.2.2.2.2.2.2.1 <|
                  grdEq o_1.2.2.2.2.2.2.2 o_1.2.2.2.2.2.2.2 <|
                  grdEq v16.1 v16.1 <|
                  grdEq v16.2.1 v16.2.1 <|
                  grdEq v16.2.2.1 v16.2.2.1 <|
                  grdEq v16.2.2.2.1 v16.2.2.2.1 <|
                  grdEq v16.2.2.2.2.1 v16.2.2.2.2.1 <|
                  grdEq v16.2.2.2.2.2 v16.2.2.2.2.2 <|
                  grdEq v22.1 v22.1 <|
                  grdEq v22.2.1 v22.2.1 <|
                  grdEq v22.2.2.1 v22.2.2.1 <|
                  grdEq v22.2.2.2.1 v22.2.2.2.1 <|
                  grdEq v22.2.2.2.2.1 v22.2.2.2.2.1 <|
                  grdEq v22.2.2.2.2.2 v22.2.2.2.2.2 <|
                  grdEq v29.1 v29.1 <|
                  grdEq v29.2.1 v29.2.1 <|
                  grdEq v29.2.2.1 v29.2.2.1 <|
                  grdEq v29.2.2.2.1 v29.2.2.2.1 <|
                  grdEq v29.2.2.2.2.1 v29.2.2.2.2.1 <|
                  grdEq v29.2.2.2.2.2 v29.2.2.2.2.2 <|
                  grdEq o_1.1 o_1.1 <|
                  grdEq o_1.2.1 o_1.2.1 <|
                  grdEq o_1.2.2.1 o_1.2.2.1 <|
                  grdEq v33 v33 <|
                  grdEq o_1.2.2.2.2.1 o_1.2.2.2.2.1 <|
                  grdEq o_1.2.2.2.2.2.1 o_1.2.2.2.2.2.1 <|
                  grdEq o_1.2.2.2.2.2.2.1 o_1.2.2.2.2.2.2.1 <|
                  grdEq o_1.2.2.2.2.2.2.2 o_1.2.2.2.2.2.2.2 <|
                  some false) fun s179_35 =>
              if s179_35 = true then
                bnd (F_law20_answer (o_1.1, o_1.2.1, o_1.2.2.1, v33, o_1.2.2.2.2.1, o_1.2.2.2.2.2.1, o_1.2.2.2.2.2.2.1, o_1.2.2.2.2.2.2.2)) fun v36 =>
                bnd (F_query_Match [(o_1.1, o_1.2.1, o_1.2.2.1, o_1.2.2.2.1, o_1.2.2.2.2.1, o_1.2.2.2.2.2.1, o_1.2.2.2.2.2.2.1, o_1.2.2.2.2.2.2.2)] o_1.2.2.1 o_1.2.1 v36) fun (v37, v38, v39) =>
                if (!(v39 == 0) == (v33 == o_1.2.2.2.1)) = true then
                  grdEq o_1.1 o_1.1 <|
                  grdEq o_1.2.1 o_1.2.1 <|
                  grdEq o_1.2.2.1 o_1.2.2.1 <|
                  grdEq o_1.2.2.2.1 o_1.2.2.2.1 <|
                  grdEq o_1.2.2.2.2.1 o_1.2.2.2.2.1 <|
                  grdEq o_1.2.2.2.2.2.1 o_1.2.2.2.2.2.1 <|
                  grdEq o_1.2.2.2.2.2.2.1 o_1.2.2.2.2.2.2.1 <|
                  grdEq o_1.2.2.2.2.2.2.2 o_1.2.2.2.2.2.2.2 <|
                  grdEq other_3.1 other_3.1 <|
                  grdEq other_3.2.1 other_3.2.1 <|
                  grdEq other_3.2.2.1 other_3.2.2.1 <|
                  grdEq other_3.2.2.2.1 other_3.2.2.2.1 <|
                  grdEq other_3.2.2.2.2.1 other_3.2.2.2.2.1 <|
                  grdEq other_3.2.2.2.2.2.1 other_3.2.2.2.2.2.1 <|
                  grdEq other_3.2.2.2.2.2.2.1 other_3.2.2.2.2.2.2.1 <|
                  grdEq other_3.2.2.2.2.2.2.2 other_3.2.2.2.2.2.2.2 <|
                  grdEq o_1.1 o_1.1 <|
                  grdEq o_1.2.1 o_1.2.1 <|
                  grdEq o_1.2.2.1 o_1.2.2.1 <|
                  grdEq o_1.2.2.2.1 o_1.2.2.2.1 <|
                  grdEq o_1.2.2.2.2.1 o_1.2.2.2.2.1 <|
                  grdEq o_1.2.2.2.2.2.1 o_1.2.2.2.2.2.1 <|
                  grdEq o_1.2.2.2.2.2.2.1 o_1.2.2.2.2.2.2.1 <|
                  grdEq o_1.2.2.2.2.2.2.2 o_1.2.2.2.2.2.2.2 <|
                  grdEq v16.1 v16.1 <|
                  grdEq v16.2.1 v16.2.1 <|
                  grdEq v16.2.2.1 v16.2.2.1 <|
                  grdEq v16.2.2.2.1 v16.2.2.2.1 <|
                  grdEq v16.2.2.2.2.1 v16.2.2.2.2.1 <|
                  grdEq v16.2.2.2.2.2 v16.2.2.2.2.2 <|
                  grdEq v22.1 v22.1 <|
                  grdEq v22.2.1 v22.2.1 <|
                  grdEq v22.2.2.1 v22.2.2.1 <|
                  grdEq v22.2.2.2.1 v22.2.2.2.1 <|
                  grdEq v22.2.2.2.2.1 v22.2.2.2.2.1 <|
                  grdEq v22.2.2.2.2.2 v22.2.2.2.2.2 <|
                  grdEq v29.1 v29.1 <|
                  grdEq v29.2.1 v29.2.1 <|
                  grdEq v29.2.2.1 v29.2.2.1 <|
                  grdEq v29.2.2.2.1 v29.2.2.2.1 <|
                  grdEq v29.2.2.2.2.1 v29.2.2.2.2.1 <|
                  grdEq v29.2.2.2.2.2 v29.2.2.2.2.2 <|
                  grdEq o_1.1 o_1.1 <|
                  grdEq o_1.2.1 o_1.2.1 <|
                  grdEq o_1.2.2.1 o_1.2.2.1 <|
                  grdEq v33 v33 <|
                  grdEq o_1.2.2.2.2.1 o_1.2.2.2.2.1 <|
                  grdEq o_1.2.2.2.2.2.1 o_1.2.2.2.2.2.1 <|
                  grdEq o_1.2.2.2.2.2.2.1 o_1.2.2.2.2.2.2.1 <|
                  grdEq o_1.2.2.2.2.2.2.2 o_1.2.2.2.2.2.2.2 <|
                  some (.inl false)
                else
                  grdEq ([(o_1.1, o_1.2.1, o_1.2.2.1, o_1.2.2.2.1, o_1.2.2.2.2.1, o_1.2.2.2.2.2.1, o_1.2.2.2.2.2.2.1, o_1.2.2.2.2.2.2.2)]) ([(o_1.1, o_1.2.1, o_1.2.2.1, o_1.2.2.2.1, o_1.2.2.2.2.1, o_1.2.2.2.2.2.1, o_1.2.2.2.2.2.2.1, o_1.2.2.2.2.2.2.2)]) <|
                  grdEq o_1.1 o_1.1 <|
                  grdEq o_1.2.1 o_1.2.1 <|
                  grdEq o_1.2.2.1 o_1.2.2.1 <|
                  grdEq o_1.2.2.2.1 o_1.2.2.2.1 <|
                  grdEq o_1.2.2.2.2.1 o_1.2.2.2.2.1 <|
                  grdEq o_1.2.2.2.2.2.1 o_1.2.2.2.2.2.1 <|
                  grdEq o_1.2.2.2.2.2.2.1 o_1.2.2.2.2.2.2.1 <|
                  grdEq o_1.2.2.2.2.2.2.2 o_1.2.2.2.2.2.2.2 <|
                  grdEq other_3.1 other_3.1 <|
                  grdEq other_3.2.1 other_3.2.1 <|
                  grdEq other_3.2.2.1 other_3.2.2.1 <|
                  grdEq other_3.2.2.2.1 other_3.2.2.2.1 <|
                  grdEq other_3.2.2.2.2.1 other_3.2.2.2.2.1 <|
                  grdEq other_3.2.2.2.2.2.1 other_3.2.2.2.2.2.1 <|
                  grdEq other_3.2.2.2.2.2.2.1 other_3.2.2.2.2.2.2.1 <|
                  grdEq other_3.2.2.2.2.2.2.2 other_3.2.2.2.2.2.2.2 <|
                  grdEq o_1.1 o_1.1 <|
                  grdEq o_1.2.1 o_1.2.1 <|
                  grdEq o_1.2.2.1 o_1.2.2.1 <|
                  grdEq o_1.2.2.2.1 o_1.2.2.2.1 <|
                  grdEq o_1.2.2.2.2.1 o_1.2.2.2.2.1 <|
                  grdEq o_1.2.2.2.2.2.1 o_1.2.2.2.2.2.1 <|
                  grdEq o_1.2.2.2.2.2.2.1 o_1.2.2.2.2.2.2.1 <|
                  grdEq o_1.2.2.2.2.2.2.2 o_1.2.2.2.2.2.2.2 <|
                  grdEq v16.1 v16.1 <|
                  grdEq v16.2.1 v16.2.1 <|
                  grdEq v16.2.2.1 v16.2.2.1 <|
                  grdEq v16.2.2.2.1 v16.2.2.2.1 <|
                  grdEq v16.2.2.2.2.1 v16.2.2.2.2.1 <|
                  grdEq v16.2.2.2.2.2 v16.2.2.2.2.2 <|
                  grdEq v22.1 v22.1 <|
                  grdEq v22.2.1 v22.2.1 <|
                  grdEq v22.2.2.1 v22.2.2.1 <|
                  grdEq v22.2.2.2.1 v22.2.2.2.1 <|
                  grdEq v22.2.2.2.2.1 v22.2.2.2.2.1 <|
                  grdEq v22.2.2.2.2.2 v22.2.2.2.2.2 <|
                  grdEq v29.1 v29.1 <|
                  grdEq v29.2.1 v29.2.1 <|
                  grdEq v29.2.2.1 v29.2.2.1 <|
                  grdEq v29.2.2.2.1 v29.2.2.2.1 <|
                  grdEq v29.2.2.2.2.1 v29.2.2.2.2.1 <|
                  grdEq v29.2.2.2.2.2 v29.2.2.2.2.2 <|
                  grdEq o_1.1 o_1.1 <|
                  grdEq o_1.2.1 o_1.2.1 <|
                  grdEq o_1.2.2.1 o_1.2.2.1 <|
                  grdEq v33 v33 <|
                  grdEq o_1.2.2.2.2.1 o_1.2.2.2.2.1 <|
                  grdEq o_1.2.2.2.2.2.1 o_1.2.2.2.2.2.1 <|
                  grdEq o_1.2.2.2.2.2.2.1 o_1.2.2.2.2.2.2.1 <|
                  grdEq o_1.2.2.2.2.2.2.2 o_1.2.2.2.2.2.2.2 <|
                  some (.inr (()))
              else
                grdEq ([(o_1.1, o_1.2.1, o_1.2.2.1, o_1.2.2.2.1, o_1.2.2.2.2.1, o_1.2.2.2.2.2.1, o_1.2.2.2.2.2.2.1, o_1.2.2.2.2.2.2.2)]) ([(o_1.1, o_1.2.1, o_1.2.2.1, o_1.2.2.2.1, o_1.2.2.2.2.1, o_1.2.2.2.2.2.1, o_1.2.2.2.2.2.2.1, o_1.2.2.2.2.2.2.2)]) <|
                grdEq o_1.1 o_1.1 <|
                grdEq o_1.2.1 o_1.2.1 <|
                grdEq o_1.2.2.1 o_1.2.2.1 <|
                grdEq o_1.2.2.2.1 o_1.2.2.2.1 <|
                grdEq o_1.2.2.2.2.1 o_1.2.2.2.2.1 <|
                grdEq o_1.2.2.2.2.2.1 o_1.2.2.2.2.2.1 <|
                grdEq o_1.2.2.2.2.2.2.1 o_1.2.2.2.2.2.2.1 <|
                grdEq o_1.2.2.2.2.2.2.2 o_1.2.2.2.2.2.2.2 <|
                grdEq other_3.1 other_3.1 <|
                grdEq other_3.2.1 other_3.2.1 <|
                grdEq other_3.2.2.1 other_3.2.2.1 <|
                grdEq other_3.2.2.2.1 other_3.2.2.2.1 <|
                grdEq other_3.2.2.2.2.1 other_3.2.2.2.2.1 <|
                grdEq other_3.2.2.2.2.2.1 other_3.2.2.2.2.2.1 <|
                grdEq other_3.2.2.2.2.2.2.1 other_3.2.2.2.2.2.2.1 <|
                grdEq other_3.2.2.2.2.2.2.2 other_3.2.2.2.2.2.2.2 <|
                grdEq o_1.1 o_1.1 <|
                grdEq o_1.2.1 o_1.2.1 <|
                grdEq o_1.2.2.1 o_1.2.2.1 <|
                grdEq o_1.2.2.2.1 o_1.2.2.2.1 <|
                grdEq o_1.2.2.2.2.1 o_1.2.2.2.2.1 <|
                grdEq o_1.2.2.2.2.2.1 o_1.2.2.2.2.2.1 <|
                grdEq o_1.2.2.2.2.2.2.1 o_1.2.2.2.2.2.2.1 <|
                grdEq o_1.2.2.2.2.2.2.2 o_1.2.2.2.2.2.2.2 <|
                grdEq v16.1 v16.1 <|
                grdEq v16.2.1 v16.2.1 <|
                grdEq v16.2.2.1 v16.2.2.1 <|
                grdEq v16.2.2.2.1 v16.2.2.2.1 <|
                grdEq v16.2.2.2.2.1 v16.2.2.2.2.1 <|
                grdEq v16.2.2.2.2.2 v16.2.2.2.2.2 <|
                grdEq v22.1 v22.1 <|
                grdEq v22.2.1 v22.2.1 <|
                grdEq v22.2.2.1 v22.2.2.1 <|
                grdEq v22.2.2.2.1 v22.2.2.2.1 <|
                grdEq v22.2.2.2.2.1 v22.2.2.2.2.1 <|
                grdEq v22.2.2.2.2.2 v22.2.2.2.2.2 <|
                grdEq v29.1 v29.1 <|
                grdEq v29.2.1 v29.2.1 <|
                grdEq v29.2.2.1 v29.2.2.1 <|
                grdEq v29.2.2.2.1 v29.2.2.2.1 <|
                grdEq v29.2.2.2.2.1 v29.2.2.2.2.1 <|
                grdEq v29.2.2.2.2.2 v29.2.2.2.2.2 <|
                grdEq o_1.1 o_1.1 <|
                grdEq o_1.2.1 o_1.2.1 <|
                grdEq o_1.2.2.1 o_1.2.2.1 <|
                grdEq v33 v33 <|
                grdEq o_1.2.2.2.2.1 o_1.2.2.2.2.1 <|
                grdEq o_1.2.2.2.2.2.1 o_1.2.2.2.2.2.1 <|
                grdEq o_1.2.2.2.2.2.2.1 o_1.2.2.2.2.2.2.1 <|
                grdEq o_1.2.2.2.2.2.2.2 o_1.2.2.2.2.2.2.2 <|
                some (.inr (()))) fun o40 =>
            match o40 with
            | .inl s6_41 =>
              some s6_41
            | .inr _ =>
              bnd (F_law20_answer (other_3.1, o_1.2.1, o_1.2.2.1, o_1.2.2.2.1, o_1.2.2.2.2.1, o_1.2.2.2.2.2.1, o_1.2.2.2.2.2.2.1, o_1.2.2.2.2.2.2.2)) fun v42 =>
              bnd (F_query_Match [(o_1.1, o_1.2.1, o_1.2.2.1, o_1.2.2.2.1, o_1.2.2.2.2.1, o_1.2.2.2.2.2.1, o_1.2.2.2.2.2.2.1, o_1.2.2.2.2.2.2.2)] o_1.2.2.1 o_1.2.1 v42) fun (v43, v44, v45) =>
              if ((v45 == 0) == (other_3.1 == o_1.1)) = true then
                bnd F_law20_live fun v46 =>
                some v46
              else
                some false
def ann_law20_QueryExact : List (List Nat × Ann) := [([2], ⟨none, [(.ret, ⟨(anyN 6 (.cons (.ty .bool) (anyN 222 .nil))), [.cells 26 true (.cons (.keep (.int .i64)) (.cons (.keep (.int .i64)) (.cons (.keep .str) (.cons (.keep .str) (.cons (.keep (.int .i64)) (.cons (.keep (.int .i64)) (.cons (.keep (.int .i64)) (.cons (.keep (.int .i64)) .nil)))))))), .cells 26 true (.cons (.keep (.int .i64)) (.cons (.keep (.int .i64)) (.cons (.keep .str) (.cons (.keep .str) (.cons (.keep (.int .i64)) (.cons (.keep (.int .i64)) (.cons (.keep (.int .i64)) (.cons (.keep (.int .i64)) .nil))))))))], [], []⟩), (.normal, ⟨(anyN 1 (.cons (.keep (.int .i64)) (anyN 1 (.cons (.ptr 0 0) (anyN 1 (.cons (.ptr 1 0) (anyN 223 .nil))))))), [.cells 26 true (.cons (.keep (.int .i64)) (.cons (.keep (.int .i64)) (.cons (.keep .str) (.cons (.keep .str) (.cons (.keep (.int .i64)) (.cons (.keep (.int .i64)) (.cons (.keep (.int .i64)) (.cons (.keep (.int .i64)) .nil)))))))), .cells 26 true (.cons (.keep (.int .i64)) (.cons (.keep (.int .i64)) (.cons (.keep .str) (.cons (.keep .str) (.cons (.keep (.int .i64)) (.cons (.keep (.int .i64)) (.cons (.keep (.int .i64)) (.cons (.keep (.int .i64)) .nil))))))))], [], []⟩)]⟩), ([3], ⟨none, [(.normal, ⟨(anyN 1 (.cons (.keep (.int .i64)) (anyN 1 (.cons (.ptr 0 0) (anyN 1 (.cons (.ptr 1 0) (anyN 44 (.cons (.ty .bool) (anyN 178 .nil))))))))), [.cells 26 true (.cons (.keep (.int .i64)) (.cons (.keep (.int .i64)) (.cons (.keep .str) (.cons (.keep .str) (.cons (.keep (.int .i64)) (.cons (.keep (.int .i64)) (.cons (.keep (.int .i64)) (.cons (.keep (.int .i64)) .nil)))))))), .cells 26 true (.cons (.keep (.int .i64)) (.cons (.keep (.int .i64)) (.cons (.keep .str) (.cons (.keep .str) (.cons (.keep (.int .i64)) (.cons (.keep (.int .i64)) (.cons (.keep (.int .i64)) (.cons (.keep (.int .i64)) .nil))))))))], [], []⟩)]⟩), ([26], ⟨none, [(.ret, ⟨(anyN 6 (.cons (.ty .bool) (anyN 222 .nil))), [.cells 26 true (.cons (.keep (.int .i64)) (.cons (.keep (.int .i64)) (.cons (.keep .str) (.cons (.keep .str) (.cons (.keep (.int .i64)) (.cons (.keep (.int .i64)) (.cons (.keep (.int .i64)) (.cons (.keep (.int .i64)) .nil)))))))), .cells 26 true (.cons (.keep (.int .i64)) (.cons (.keep (.int .i64)) (.cons (.keep .str) (.cons (.keep .str) (.cons (.keep (.int .i64)) (.cons (.keep (.int .i64)) (.cons (.keep (.int .i64)) (.cons (.keep (.int .i64)) .nil)))))))), .cells 41 true (.cons (.keep (.int .i64)) (.cons (.keep (.int .i64)) (.cons (.keep .str) (.cons (.keep .str) (.cons (.keep (.int .i64)) (.cons (.keep (.int .i64)) (.cons (.keep (.int .i64)) (.cons (.keep (.int .i64)) .nil)))))))), .cells 32 true (.cons (.keep (.int .i64)) (.cons (.keep (.int .i64)) (.cons (.keep (.list tQ)) (.cons (.keep (.list tRR)) (.cons (.keep (.list tRR)) (.cons (.keep (.list tRR)) .nil))))))], [], []⟩), (.normal, ⟨(anyN 1 (.cons (.keep (.int .i64)) (anyN 1 (.cons (.ptr 0 0) (anyN 1 (.cons (.ptr 1 0) (anyN 2 (.cons (.keep (.list tO)) (anyN 3 (.cons (.ptr 3 0) (anyN 216 .nil))))))))))), [.cells 26 true (.cons (.keep (.int .i64)) (.cons (.keep (.int .i64)) (.cons (.keep .str) (.cons (.keep .str) (.cons (.keep (.int .i64)) (.cons (.keep (.int .i64)) (.cons (.keep (.int .i64)) (.cons (.keep (.int .i64)) .nil)))))))), .cells 26 true (.cons (.keep (.int .i64)) (.cons (.keep (.int .i64)) (.cons (.keep .str) (.cons (.keep .str) (.cons (.keep (.int .i64)) (.cons (.keep (.int .i64)) (.cons (.keep (.int .i64)) (.cons (.keep (.int .i64)) .nil)))))))), .cells 41 true (.cons (.keep (.int .i64)) (.cons (.keep (.int .i64)) (.cons (.keep .str) (.cons (.keep .str) (.cons (.keep (.int .i64)) (.cons (.keep (.int .i64)) (.cons (.keep (.int .i64)) (.cons (.keep (.int .i64)) .nil)))))))), .cells 32 true (.cons (.keep (.int .i64)) (.cons (.keep (.int .i64)) (.cons (.keep (.list tQ)) (.cons (.keep (.list tRR)) (.cons (.keep (.list tRR)) (.cons (.keep (.list tRR)) .nil))))))], [], []⟩)]⟩), ([36], ⟨none, [(.ret, ⟨(anyN 6 (.cons (.ty .bool) (anyN 222 .nil))), [.cells 26 true (.cons (.keep (.int .i64)) (.cons (.keep (.int .i64)) (.cons (.keep .str) (.cons (.keep .str) (.cons (.keep (.int .i64)) (.cons (.keep (.int .i64)) (.cons (.keep (.int .i64)) (.cons (.keep (.int .i64)) .nil)))))))), .cells 26 true (.cons (.keep (.int .i64)) (.cons (.keep (.int .i64)) (.cons (.keep .str) (.cons (.keep .str) (.cons (.keep (.int .i64)) (.cons (.keep (.int .i64)) (.cons (.keep (.int .i64)) (.cons (.keep (.int .i64)) .nil)))))))), .cells 41 true (.cons (.keep (.int .i64)) (.cons (.keep (.int .i64)) (.cons (.keep .str) (.cons (.keep .str) (.cons (.keep (.int .i64)) (.cons (.keep (.int .i64)) (.cons (.keep (.int .i64)) (.cons (.keep (.int .i64)) .nil)))))))), .cells 32 true (.cons (.keep (.int .i64)) (.cons (.keep (.int .i64)) (.cons (.keep (.list tQ)) (.cons (.keep (.list tRR)) (.cons (.keep (.list tRR)) (.cons (.keep (.list tRR)) .nil)))))), .cells 32 true (.cons (.keep (.int .i64)) (.cons (.keep (.int .i64)) (.cons (.keep (.list tQ)) (.cons (.keep (.list tRR)) (.cons (.keep (.list tRR)) (.cons (.keep (.list tRR)) .nil))))))], [], []⟩), (.normal, ⟨(anyN 1 (.cons (.keep (.int .i64)) (anyN 1 (.cons (.ptr 0 0) (anyN 1 (.cons (.ptr 1 0) (anyN 2 (.cons (.keep (.list tO)) (anyN 220 .nil))))))))), [.cells 26 true (.cons (.keep (.int .i64)) (.cons (.keep (.int .i64)) (.cons (.keep .str) (.cons (.keep .str) (.cons (.keep (.int .i64)) (.cons (.keep (.int .i64)) (.cons (.keep (.int .i64)) (.cons (.keep (.int .i64)) .nil)))))))), .cells 26 true (.cons (.keep (.int .i64)) (.cons (.keep (.int .i64)) (.cons (.keep .str) (.cons (.keep .str) (.cons (.keep (.int .i64)) (.cons (.keep (.int .i64)) (.cons (.keep (.int .i64)) (.cons (.keep (.int .i64)) .nil)))))))), .cells 41 true (.cons (.keep (.int .i64)) (.cons (.keep (.int .i64)) (.cons (.keep .str) (.cons (.keep .str) (.cons (.keep (.int .i64)) (.cons (.keep (.int .i64)) (.cons (.keep (.int .i64)) (.cons (.keep (.int .i64)) .nil)))))))), .cells 32 true (.cons (.keep (.int .i64)) (.cons (.keep (.int .i64)) (.cons (.keep (.list tQ)) (.cons (.keep (.list tRR)) (.cons (.keep (.list tRR)) (.cons (.keep (.list tRR)) .nil)))))), .cells 32 true (.cons (.keep (.int .i64)) (.cons (.keep (.int .i64)) (.cons (.keep (.list tQ)) (.cons (.keep (.list tRR)) (.cons (.keep (.list tRR)) (.cons (.keep (.list tRR)) .nil))))))], [], []⟩)]⟩), ([46], ⟨none, [(.ret, ⟨(anyN 6 (.cons (.ty .bool) (anyN 222 .nil))), [.cells 26 true (.cons (.keep (.int .i64)) (.cons (.keep (.int .i64)) (.cons (.keep .str) (.cons (.keep .str) (.cons (.keep (.int .i64)) (.cons (.keep (.int .i64)) (.cons (.keep (.int .i64)) (.cons (.keep (.int .i64)) .nil)))))))), .cells 26 true (.cons (.keep (.int .i64)) (.cons (.keep (.int .i64)) (.cons (.keep .str) (.cons (.keep .str) (.cons (.keep (.int .i64)) (.cons (.keep (.int .i64)) (.cons (.keep (.int .i64)) (.cons (.keep (.int .i64)) .nil)))))))), .cells 41 true (.cons (.keep (.int .i64)) (.cons (.keep (.int .i64)) (.cons (.keep .str) (.cons (.keep .str) (.cons (.keep (.int .i64)) (.cons (.keep (.int .i64)) (.cons (.keep (.int .i64)) (.cons (.keep (.int .i64)) .nil)))))))), .cells 32 true (.cons (.keep (.int .i64)) (.cons (.keep (.int .i64)) (.cons (.keep (.list tQ)) (.cons (.keep (.list tRR)) (.cons (.keep (.list tRR)) (.cons (.keep (.list tRR)) .nil)))))), .cells 32 true (.cons (.keep (.int .i64)) (.cons (.keep (.int .i64)) (.cons (.keep (.list tQ)) (.cons (.keep (.list tRR)) (.cons (.keep (.list tRR)) (.cons (.keep (.list tRR)) .nil)))))), .cells 32 true (.cons (.keep (.int .i64)) (.cons (.keep (.int .i64)) (.cons (.keep (.list tQ)) (.cons (.keep (.list tRR)) (.cons (.keep (.list tRR)) (.cons (.keep (.list tRR)) .nil))))))], [], []⟩), (.normal, ⟨(anyN 1 (.cons (.keep (.int .i64)) (anyN 1 (.cons (.ptr 0 0) (anyN 1 (.cons (.ptr 1 0) (anyN 2 (.cons (.keep (.list tO)) (anyN 220 .nil))))))))), [.cells 26 true (.cons (.keep (.int .i64)) (.cons (.keep (.int .i64)) (.cons (.keep .str) (.cons (.keep .str) (.cons (.keep (.int .i64)) (.cons (.keep (.int .i64)) (.cons (.keep (.int .i64)) (.cons (.keep (.int .i64)) .nil)))))))), .cells 26 true (.cons (.keep (.int .i64)) (.cons (.keep (.int .i64)) (.cons (.keep .str) (.cons (.keep .str) (.cons (.keep (.int .i64)) (.cons (.keep (.int .i64)) (.cons (.keep (.int .i64)) (.cons (.keep (.int .i64)) .nil)))))))), .cells 41 true (.cons (.keep (.int .i64)) (.cons (.keep (.int .i64)) (.cons (.keep .str) (.cons (.keep .str) (.cons (.keep (.int .i64)) (.cons (.keep (.int .i64)) (.cons (.keep (.int .i64)) (.cons (.keep (.int .i64)) .nil)))))))), .cells 32 true (.cons (.keep (.int .i64)) (.cons (.keep (.int .i64)) (.cons (.keep (.list tQ)) (.cons (.keep (.list tRR)) (.cons (.keep (.list tRR)) (.cons (.keep (.list tRR)) .nil)))))), .cells 32 true (.cons (.keep (.int .i64)) (.cons (.keep (.int .i64)) (.cons (.keep (.list tQ)) (.cons (.keep (.list tRR)) (.cons (.keep (.list tRR)) (.cons (.keep (.list tRR)) .nil)))))), .cells 32 true (.cons (.keep (.int .i64)) (.cons (.keep (.int .i64)) (.cons (.keep (.list tQ)) (.cons (.keep (.list tRR)) (.cons (.keep (.list tRR)) (.cons (.keep (.list tRR)) .nil))))))], [], []⟩)]⟩), ([58], ⟨none, [(.ret, ⟨(anyN 6 (.cons (.ty .bool) (anyN 222 .nil))), [.cells 26 true (.cons (.keep (.int .i64)) (.cons (.keep (.int .i64)) (.cons (.keep .str) (.cons (.keep .str) (.cons (.keep (.int .i64)) (.cons (.keep (.int .i64)) (.cons (.keep (.int .i64)) (.cons (.keep (.int .i64)) .nil)))))))), .cells 26 true (.cons (.keep (.int .i64)) (.cons (.keep (.int .i64)) (.cons (.keep .str) (.cons (.keep .str) (.cons (.keep (.int .i64)) (.cons (.keep (.int .i64)) (.cons (.keep (.int .i64)) (.cons (.keep (.int .i64)) .nil)))))))), .cells 41 true (.cons (.keep (.int .i64)) (.cons (.keep (.int .i64)) (.cons (.keep .str) (.cons (.keep .str) (.cons (.keep (.int .i64)) (.cons (.keep (.int .i64)) (.cons (.keep (.int .i64)) (.cons (.keep (.int .i64)) .nil)))))))), .cells 32 true (.cons (.keep (.int .i64)) (.cons (.keep (.int .i64)) (.cons (.keep (.list tQ)) (.cons (.keep (.list tRR)) (.cons (.keep (.list tRR)) (.cons (.keep (.list tRR)) .nil)))))), .cells 32 true (.cons (.keep (.int .i64)) (.cons (.keep (.int .i64)) (.cons (.keep (.list tQ)) (.cons (.keep (.list tRR)) (.cons (.keep (.list tRR)) (.cons (.keep (.list tRR)) .nil)))))), .cells 32 true (.cons (.keep (.int .i64)) (.cons (.keep (.int .i64)) (.cons (.keep (.list tQ)) (.cons (.keep (.list tRR)) (.cons (.keep (.list tRR)) (.cons (.keep (.list tRR)) .nil)))))), .cells 26 true (.cons (.keep (.int .i64)) (.cons (.keep (.int .i64)) (.cons (.keep .str) (.cons (.keep .str) (.cons (.keep (.int .i64)) (.cons (.keep (.int .i64)) (.cons (.keep (.int .i64)) (.cons (.keep (.int .i64)) .nil))))))))], [], []⟩), (.normal, ⟨(anyN 3 (.cons (.ptr 0 0) (anyN 1 (.cons (.ptr 1 0) (anyN 2 (.cons (.keep (.list tO)) (anyN 11 (.cons (.ptr 6 0) (anyN 208 .nil))))))))), [.cells 26 true (.cons (.keep (.int .i64)) (.cons (.keep (.int .i64)) (.cons (.keep .str) (.cons (.keep .str) (.cons (.keep (.int .i64)) (.cons (.keep (.int .i64)) (.cons (.keep (.int .i64)) (.cons (.keep (.int .i64)) .nil)))))))), .cells 26 true (.cons (.keep (.int .i64)) (.cons (.keep (.int .i64)) (.cons (.keep .str) (.cons (.keep .str) (.cons (.keep (.int .i64)) (.cons (.keep (.int .i64)) (.cons (.keep (.int .i64)) (.cons (.keep (.int .i64)) .nil)))))))), .cells 41 true (.cons (.keep (.int .i64)) (.cons (.keep (.int .i64)) (.cons (.keep .str) (.cons (.keep .str) (.cons (.keep (.int .i64)) (.cons (.keep (.int .i64)) (.cons (.keep (.int .i64)) (.cons (.keep (.int .i64)) .nil)))))))), .cells 32 true (.cons (.keep (.int .i64)) (.cons (.keep (.int .i64)) (.cons (.keep (.list tQ)) (.cons (.keep (.list tRR)) (.cons (.keep (.list tRR)) (.cons (.keep (.list tRR)) .nil)))))), .cells 32 true (.cons (.keep (.int .i64)) (.cons (.keep (.int .i64)) (.cons (.keep (.list tQ)) (.cons (.keep (.list tRR)) (.cons (.keep (.list tRR)) (.cons (.keep (.list tRR)) .nil)))))), .cells 32 true (.cons (.keep (.int .i64)) (.cons (.keep (.int .i64)) (.cons (.keep (.list tQ)) (.cons (.keep (.list tRR)) (.cons (.keep (.list tRR)) (.cons (.keep (.list tRR)) .nil)))))), .cells 26 true (.cons (.keep (.int .i64)) (.cons (.keep (.int .i64)) (.cons (.keep .str) (.cons (.keep .str) (.cons (.keep (.int .i64)) (.cons (.keep (.int .i64)) (.cons (.keep (.int .i64)) (.cons (.keep (.int .i64)) .nil))))))))], [], []⟩)]⟩), ([59], ⟨none, [(.normal, ⟨(anyN 3 (.cons (.ptr 0 0) (anyN 1 (.cons (.ptr 1 0) (anyN 2 (.cons (.keep (.list tO)) (anyN 11 (.cons (.ptr 6 0) (anyN 158 (.cons (.ty .bool) (anyN 49 .nil))))))))))), [.cells 26 true (.cons (.keep (.int .i64)) (.cons (.keep (.int .i64)) (.cons (.keep .str) (.cons (.keep .str) (.cons (.keep (.int .i64)) (.cons (.keep (.int .i64)) (.cons (.keep (.int .i64)) (.cons (.keep (.int .i64)) .nil)))))))), .cells 26 true (.cons (.keep (.int .i64)) (.cons (.keep (.int .i64)) (.cons (.keep .str) (.cons (.keep .str) (.cons (.keep (.int .i64)) (.cons (.keep (.int .i64)) (.cons (.keep (.int .i64)) (.cons (.keep (.int .i64)) .nil)))))))), .cells 41 true (.cons (.keep (.int .i64)) (.cons (.keep (.int .i64)) (.cons (.keep .str) (.cons (.keep .str) (.cons (.keep (.int .i64)) (.cons (.keep (.int .i64)) (.cons (.keep (.int .i64)) (.cons (.keep (.int .i64)) .nil)))))))), .cells 32 true (.cons (.keep (.int .i64)) (.cons (.keep (.int .i64)) (.cons (.keep (.list tQ)) (.cons (.keep (.list tRR)) (.cons (.keep (.list tRR)) (.cons (.keep (.list tRR)) .nil)))))), .cells 32 true (.cons (.keep (.int .i64)) (.cons (.keep (.int .i64)) (.cons (.keep (.list tQ)) (.cons (.keep (.list tRR)) (.cons (.keep (.list tRR)) (.cons (.keep (.list tRR)) .nil)))))), .cells 32 true (.cons (.keep (.int .i64)) (.cons (.keep (.int .i64)) (.cons (.keep (.list tQ)) (.cons (.keep (.list tRR)) (.cons (.keep (.list tRR)) (.cons (.keep (.list tRR)) .nil)))))), .cells 26 true (.cons (.keep (.int .i64)) (.cons (.keep (.int .i64)) (.cons (.keep .str) (.cons (.keep .str) (.cons (.keep (.int .i64)) (.cons (.keep (.int .i64)) (.cons (.keep (.int .i64)) (.cons (.keep (.int .i64)) .nil))))))))], [], []⟩)]⟩)]
@[reducible] def fs_law20_QueryExact : List (Nat × SFn) := [(10, .pure [] [.bool] (fun x => F_law20_live)), (15, .pure [tO] [.bool] (fun x => F_query_Out_Check x)), (26, .pure [tO] [.str] (fun x => F_law20_answer x)), (11, .pure [(.list tO), .str, (.int .i64), .str] [(.int .i64), tM, (.int .i64)] (fun x => F_query_Match x.1 x.2.1 x.2.2.1 x.2.2.2)), (17, .pure [tO] [.str] (fun x => F_query_Out_Bytes x)), (27, .pure [.str] [tM, (.int .i64)] (fun x => F_ref08_Decode x)), (28, .pure [.str, (.int .i64)] [.str] (fun x => F_ref03_Mix x.1 x.2)), (29, .pure [.str] [.bool] (fun x => F_ref02_Check x))]
def cfg_law20_QueryExact : SCfg := SCfg.of (fs_law20_QueryExact ++ inlL) ann_law20_QueryExact keepL
theorem eq_law20_QueryExact (x : HL [tO, (.int .i64), tO]) : fnK cfg_law20_QueryExact Tryz.prog 100000 5 [tO, (.int .i64), tO] [.bool] x = (fun x => F_law20_QueryExact x.1 x.2.1 x.2.2) x := by kernel_rfl
theorem told_law20_QueryExact : Told CC Tryz.prog 5 [tO, (.int .i64), tO] [.bool] (fun x => F_law20_QueryExact x.1 x.2.1 x.2.2) := told_of (gok (an := ann_law20_QueryExact) (fs := fs_law20_QueryExact) ⟨told_law20_live, told_query_Out_Check, told_law20_answer, told_query_Match, told_query_Out_Bytes, told_ref08_Decode, told_ref03_Mix, told_ref02_Check, trivial⟩) rfl rfl eq_law20_QueryExact
end
end Go.Abs

set_option maxRecDepth 100000
namespace Go.Abs
open Go Go.Proofs
noncomputable section
end
end Go.Abs

