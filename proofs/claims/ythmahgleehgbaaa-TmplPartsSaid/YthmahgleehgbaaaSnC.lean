/- Part of a proof. -/
import Derived.Test.YthmahgleehgbaaaSnB
set_option linter.unusedSimpArgs false
set_option linter.unusedVariables false
set_option linter.unusedSectionVars false
set_option maxRecDepth 100000
namespace Go.Abs
open Go Go.Proofs
noncomputable section
def step_law18_TmplParts_1 (at_1 : Int × Int × Int) (q_2 : List UInt8 × Int × Int) (c_3 : List (List UInt8 × Int × Int × List (List UInt8) × Int × Int) × Int × List UInt8 × List UInt8 × Int × Int × List (List UInt8) × Int × Int) (v10 : List UInt8 × Int × Int × Int × List UInt8 × List (List (Int × Int × Int) × Int × Bool)) (i_22 : Int) (v27 : List (List UInt8 × Int × Int × Int × List UInt8)) : (List UInt8 × Int) → Option ((List UInt8 × Int) ⊕ List UInt8) := fun (s_28, k_29) =>
 if decide (k_29 < (↑v27.length : Int)) = true then
  natOf k_29 fun n30 =>
  bnd (v27[n30]?) fun x31 =>
  bnd (F_ref06_Encode q_2.1 12 (x31.1, x31.2.1, x31.2.2.1, x31.2.2.2.1, x31.2.2.2.2)) fun v32 =>
  grd (s_28.length + v32.length ≤ maxStr) <|
  grdEq at_1.1 at_1.1 <|
  grdEq at_1.2.1 at_1.2.1 <|
  grdEq at_1.2.2 at_1.2.2 <|
  grdEq i_22 i_22 <|
  grdEq v27 v27 <|
  grdEq at_1.1 at_1.1 <|
  grdEq at_1.2.1 at_1.2.1 <|
  grdEq at_1.2.2 at_1.2.2 <|
  grdEq q_2.1 q_2.1 <|
  grdEq q_2.2.1 q_2.2.1 <|
  grdEq q_2.2.2 q_2.2.2 <|
  grdEq c_3.1 c_3.1 <|
  grdEq c_3.2.1 c_3.2.1 <|
  grdEq c_3.2.2.1 c_3.2.2.1 <|
  grdEq c_3.2.2.2.1 c_3.2.2.2.1 <|
  grdEq c_3.2.2.2.2.1 c_3.2.2.2.2.1 <|
  grdEq c_3.2.2.2.2.2.1 c_3.2.2.2.2.2.1 <|
  grdEq c_3.2.2.2.2.2.2.1 c_3.2.2.2.2.2.2.1 <|
  grdEq c_3.2.2.2.2.2.2.2.1 c_3.2.2.2.2.2.2.2.1 <|
  grdEq c_3.2.2.2.2.2.2.2.2 c_3.2.2.2.2.2.2.2.2 <|
  grdEq v10.1 v10.1 <|
  grdEq v10.2.1 v10.2.1 <|
  grdEq v10.2.2.1 v10.2.2.1 <|
  grdEq v10.2.2.2.1 v10.2.2.2.1 <|
  grdEq v10.2.2.2.2.1 v10.2.2.2.2.1 <|
  grdEq v10.2.2.2.2.2 v10.2.2.2.2.2 <|
  some (.inl ((s_28 ++ v32, IntKind.i64.wrap (k_29 + 1))))
 else
  grdEq at_1.1 at_1.1 <|
  grdEq at_1.2.1 at_1.2.1 <|
  grdEq at_1.2.2 at_1.2.2 <|
  grdEq i_22 i_22 <|
  grdEq at_1.1 at_1.1 <|
  grdEq at_1.2.1 at_1.2.1 <|
  grdEq at_1.2.2 at_1.2.2 <|
  grdEq q_2.1 q_2.1 <|
  grdEq q_2.2.1 q_2.2.1 <|
  grdEq q_2.2.2 q_2.2.2 <|
  grdEq c_3.1 c_3.1 <|
  grdEq c_3.2.1 c_3.2.1 <|
  grdEq c_3.2.2.1 c_3.2.2.1 <|
  grdEq c_3.2.2.2.1 c_3.2.2.2.1 <|
  grdEq c_3.2.2.2.2.1 c_3.2.2.2.2.1 <|
  grdEq c_3.2.2.2.2.2.1 c_3.2.2.2.2.2.1 <|
  grdEq c_3.2.2.2.2.2.2.1 c_3.2.2.2.2.2.2.1 <|
  grdEq c_3.2.2.2.2.2.2.2.1 c_3.2.2.2.2.2.2.2.1 <|
  grdEq c_3.2.2.2.2.2.2.2.2 c_3.2.2.2.2.2.2.2.2 <|
  grdEq v10.1 v10.1 <|
  grdEq v10.2.1 v10.2.1 <|
  grdEq v10.2.2.1 v10.2.2.1 <|
  grdEq v10.2.2.2.1 v10.2.2.2.1 <|
  grdEq v10.2.2.2.2.1 v10.2.2.2.2.1 <|
  grdEq v10.2.2.2.2.2 v10.2.2.2.2.2 <|
  some (.inr s_28)
def step_law18_TmplParts_0 (at_1 : Int × Int × Int) (q_2 : List UInt8 × Int × Int) (c_3 : List (List UInt8 × Int × Int × List (List UInt8) × Int × Int) × Int × List UInt8 × List UInt8 × Int × Int × List (List UInt8) × Int × Int) (v10 : List UInt8 × Int × Int × Int × List UInt8 × List (List (Int × Int × Int) × Int × Bool)) : Int → Option (Int ⊕ (Unit ⊕ Bool)) := fun i_22 =>
 if decide (i_22 < (↑(List.length c_3.1) : Int)) = true then
  natOf i_22 fun n23 =>
  bnd (c_3.1[n23]?) fun x24 =>
  natOf i_22 fun n25 =>
  bnd (c_3.1[n25]?) fun x26 =>
  bnd (F_ref10_Flat (x26.1, x26.2.1, x26.2.2.1, x26.2.2.2.1, x26.2.2.2.2.1) (IntKind.i64.wrap (x24.2.2.2.2.2 - IntKind.i64.wrap (at_1.2.1 - at_1.1))) at_1.2.2) fun v27 =>
  bnd (loopS (step_law18_TmplParts_1 at_1 q_2 c_3 v10 i_22 v27) (([], 0))) fun s_33 =>
  bnd (F_tmpl_Template_Part (v10.1, v10.2.1, v10.2.2.1, v10.2.2.2.1, v10.2.2.2.2.1, v10.2.2.2.2.2) i_22 at_1.2.1 at_1.2.2) fun v34 =>
  if (!v34 == s_33) = false then
   if (s_33 == []) = true then
    grdEq at_1.1 at_1.1 <|
    grdEq at_1.2.1 at_1.2.1 <|
    grdEq at_1.2.2 at_1.2.2 <|
    grdEq q_2.1 q_2.1 <|
    grdEq q_2.2.1 q_2.2.1 <|
    grdEq q_2.2.2 q_2.2.2 <|
    grdEq c_3.1 c_3.1 <|
    grdEq c_3.2.1 c_3.2.1 <|
    grdEq c_3.2.2.1 c_3.2.2.1 <|
    grdEq c_3.2.2.2.1 c_3.2.2.2.1 <|
    grdEq c_3.2.2.2.2.1 c_3.2.2.2.2.1 <|
    grdEq c_3.2.2.2.2.2.1 c_3.2.2.2.2.2.1 <|
    grdEq c_3.2.2.2.2.2.2.1 c_3.2.2.2.2.2.2.1 <|
    grdEq c_3.2.2.2.2.2.2.2.1 c_3.2.2.2.2.2.2.2.1 <|
    grdEq c_3.2.2.2.2.2.2.2.2 c_3.2.2.2.2.2.2.2.2 <|
    grdEq v10.1 v10.1 <|
    grdEq v10.2.1 v10.2.1 <|
    grdEq v10.2.2.1 v10.2.2.1 <|
    grdEq v10.2.2.2.1 v10.2.2.2.1 <|
    grdEq v10.2.2.2.2.1 v10.2.2.2.2.1 <|
    grdEq v10.2.2.2.2.2 v10.2.2.2.2.2 <|
    some (.inr (.inr false))
   else
    grdEq at_1.1 at_1.1 <|
    grdEq at_1.2.1 at_1.2.1 <|
    grdEq at_1.2.2 at_1.2.2 <|
    grdEq at_1.1 at_1.1 <|
    grdEq at_1.2.1 at_1.2.1 <|
    grdEq at_1.2.2 at_1.2.2 <|
    grdEq q_2.1 q_2.1 <|
    grdEq q_2.2.1 q_2.2.1 <|
    grdEq q_2.2.2 q_2.2.2 <|
    grdEq c_3.1 c_3.1 <|
    grdEq c_3.2.1 c_3.2.1 <|
    grdEq c_3.2.2.1 c_3.2.2.1 <|
    grdEq c_3.2.2.2.1 c_3.2.2.2.1 <|
    grdEq c_3.2.2.2.2.1 c_3.2.2.2.2.1 <|
    grdEq c_3.2.2.2.2.2.1 c_3.2.2.2.2.2.1 <|
    grdEq c_3.2.2.2.2.2.2.1 c_3.2.2.2.2.2.2.1 <|
    grdEq c_3.2.2.2.2.2.2.2.1 c_3.2.2.2.2.2.2.2.1 <|
    grdEq c_3.2.2.2.2.2.2.2.2 c_3.2.2.2.2.2.2.2.2 <|
    grdEq v10.1 v10.1 <|
    grdEq v10.2.1 v10.2.1 <|
    grdEq v10.2.2.1 v10.2.2.1 <|
    grdEq v10.2.2.2.1 v10.2.2.2.1 <|
    grdEq v10.2.2.2.2.1 v10.2.2.2.2.1 <|
    grdEq v10.2.2.2.2.2 v10.2.2.2.2.2 <|
    some (.inl (IntKind.i64.wrap (i_22 + 1)))
  else
   grdEq at_1.1 at_1.1 <|
   grdEq at_1.2.1 at_1.2.1 <|
   grdEq at_1.2.2 at_1.2.2 <|
   grdEq q_2.1 q_2.1 <|
   grdEq q_2.2.1 q_2.2.1 <|
   grdEq q_2.2.2 q_2.2.2 <|
   grdEq c_3.1 c_3.1 <|
   grdEq c_3.2.1 c_3.2.1 <|
   grdEq c_3.2.2.1 c_3.2.2.1 <|
   grdEq c_3.2.2.2.1 c_3.2.2.2.1 <|
   grdEq c_3.2.2.2.2.1 c_3.2.2.2.2.1 <|
   grdEq c_3.2.2.2.2.2.1 c_3.2.2.2.2.2.1 <|
   grdEq c_3.2.2.2.2.2.2.1 c_3.2.2.2.2.2.2.1 <|
   grdEq c_3.2.2.2.2.2.2.2.1 c_3.2.2.2.2.2.2.2.1 <|
   grdEq c_3.2.2.2.2.2.2.2.2 c_3.2.2.2.2.2.2.2.2 <|
   grdEq v10.1 v10.1 <|
   grdEq v10.2.1 v10.2.1 <|
   grdEq v10.2.2.1 v10.2.2.1 <|
   grdEq v10.2.2.2.1 v10.2.2.2.1 <|
   grdEq v10.2.2.2.2.1 v10.2.2.2.2.1 <|
   grdEq v10.2.2.2.2.2 v10.2.2.2.2.2 <|
   some (.inr (.inr false))
 else
  grdEq at_1.1 at_1.1 <|
  grdEq at_1.2.1 at_1.2.1 <|
  grdEq at_1.2.2 at_1.2.2 <|
  grdEq at_1.1 at_1.1 <|
  grdEq at_1.2.1 at_1.2.1 <|
  grdEq at_1.2.2 at_1.2.2 <|
  grdEq q_2.1 q_2.1 <|
  grdEq q_2.2.1 q_2.2.1 <|
  grdEq q_2.2.2 q_2.2.2 <|
  grdEq c_3.1 c_3.1 <|
  grdEq c_3.2.1 c_3.2.1 <|
  grdEq c_3.2.2.1 c_3.2.2.1 <|
  grdEq c_3.2.2.2.1 c_3.2.2.2.1 <|
  grdEq c_3.2.2.2.2.1 c_3.2.2.2.2.1 <|
  grdEq c_3.2.2.2.2.2.1 c_3.2.2.2.2.2.1 <|
  grdEq c_3.2.2.2.2.2.2.1 c_3.2.2.2.2.2.2.1 <|
  grdEq c_3.2.2.2.2.2.2.2.1 c_3.2.2.2.2.2.2.2.1 <|
  grdEq c_3.2.2.2.2.2.2.2.2 c_3.2.2.2.2.2.2.2.2 <|
  grdEq v10.1 v10.1 <|
  grdEq v10.2.1 v10.2.1 <|
  grdEq v10.2.2.1 v10.2.2.1 <|
  grdEq v10.2.2.2.1 v10.2.2.2.1 <|
  grdEq v10.2.2.2.2.1 v10.2.2.2.2.1 <|
  grdEq v10.2.2.2.2.2 v10.2.2.2.2.2 <|
  some (.inr (.inl (())))
def step_law18_TmplParts_2 (at_1 : Int × Int × Int) (q_2 : List UInt8 × Int × Int) (c_3 : List (List UInt8 × Int × Int × List (List UInt8) × Int × Int) × Int × List UInt8 × List UInt8 × Int × Int × List (List UInt8) × Int × Int) (v10 : List UInt8 × Int × Int × Int × List UInt8 × List (List (Int × Int × Int) × Int × Bool)) (v37 : List (List UInt8 × Int × Int × Int × List UInt8)) : (List UInt8 × Int) → Option ((List UInt8 × Int) ⊕ List UInt8) := fun (s_38, k_39) =>
 if decide (k_39 < (↑v37.length : Int)) = true then
  natOf k_39 fun n40 =>
  bnd (v37[n40]?) fun x41 =>
  bnd (F_ref06_Encode q_2.1 12 (x41.1, x41.2.1, x41.2.2.1, x41.2.2.2.1, x41.2.2.2.2)) fun v42 =>
  grd (s_38.length + v42.length ≤ maxStr) <|
  grdEq at_1.2.1 at_1.2.1 <|
  grdEq at_1.2.2 at_1.2.2 <|
  grdEq v37 v37 <|
  grdEq at_1.1 at_1.1 <|
  grdEq at_1.2.1 at_1.2.1 <|
  grdEq at_1.2.2 at_1.2.2 <|
  grdEq q_2.1 q_2.1 <|
  grdEq q_2.2.1 q_2.2.1 <|
  grdEq q_2.2.2 q_2.2.2 <|
  grdEq c_3.1 c_3.1 <|
  grdEq c_3.2.1 c_3.2.1 <|
  grdEq c_3.2.2.1 c_3.2.2.1 <|
  grdEq c_3.2.2.2.1 c_3.2.2.2.1 <|
  grdEq c_3.2.2.2.2.1 c_3.2.2.2.2.1 <|
  grdEq c_3.2.2.2.2.2.1 c_3.2.2.2.2.2.1 <|
  grdEq c_3.2.2.2.2.2.2.1 c_3.2.2.2.2.2.2.1 <|
  grdEq c_3.2.2.2.2.2.2.2.1 c_3.2.2.2.2.2.2.2.1 <|
  grdEq c_3.2.2.2.2.2.2.2.2 c_3.2.2.2.2.2.2.2.2 <|
  grdEq v10.1 v10.1 <|
  grdEq v10.2.1 v10.2.1 <|
  grdEq v10.2.2.1 v10.2.2.1 <|
  grdEq v10.2.2.2.1 v10.2.2.2.1 <|
  grdEq v10.2.2.2.2.1 v10.2.2.2.2.1 <|
  grdEq v10.2.2.2.2.2 v10.2.2.2.2.2 <|
  some (.inl ((s_38 ++ v42, IntKind.i64.wrap (k_39 + 1))))
 else
  grdEq at_1.2.1 at_1.2.1 <|
  grdEq at_1.2.2 at_1.2.2 <|
  grdEq at_1.1 at_1.1 <|
  grdEq at_1.2.1 at_1.2.1 <|
  grdEq at_1.2.2 at_1.2.2 <|
  grdEq q_2.1 q_2.1 <|
  grdEq q_2.2.1 q_2.2.1 <|
  grdEq q_2.2.2 q_2.2.2 <|
  grdEq c_3.1 c_3.1 <|
  grdEq c_3.2.1 c_3.2.1 <|
  grdEq c_3.2.2.1 c_3.2.2.1 <|
  grdEq c_3.2.2.2.1 c_3.2.2.2.1 <|
  grdEq c_3.2.2.2.2.1 c_3.2.2.2.2.1 <|
  grdEq c_3.2.2.2.2.2.1 c_3.2.2.2.2.2.1 <|
  grdEq c_3.2.2.2.2.2.2.1 c_3.2.2.2.2.2.2.1 <|
  grdEq c_3.2.2.2.2.2.2.2.1 c_3.2.2.2.2.2.2.2.1 <|
  grdEq c_3.2.2.2.2.2.2.2.2 c_3.2.2.2.2.2.2.2.2 <|
  grdEq v10.1 v10.1 <|
  grdEq v10.2.1 v10.2.1 <|
  grdEq v10.2.2.1 v10.2.2.1 <|
  grdEq v10.2.2.2.1 v10.2.2.2.1 <|
  grdEq v10.2.2.2.2.1 v10.2.2.2.2.1 <|
  grdEq v10.2.2.2.2.2 v10.2.2.2.2.2 <|
  some (.inr s_38)
def F_law18_TmplParts (at_1 : (Int × (Int × Int))) (q_2 : (List UInt8 × (Int × Int))) (c_3 : (List ((List UInt8 × (Int × (Int × (List (List UInt8) × (Int × Int)))))) × (Int × (List UInt8 × (List UInt8 × (Int × (Int × (List (List UInt8) × (Int × Int))))))))) : Option (Bool) :=
 bnd (α := (Bool ⊕ Unit)) (bnd (α := Bool) (bnd (F_ref17_Small (c_3.1, c_3.2.1, c_3.2.2.1, c_3.2.2.2.1, c_3.2.2.2.2.1, c_3.2.2.2.2.2.1, c_3.2.2.2.2.2.2.1, c_3.2.2.2.2.2.2.2.1, c_3.2.2.2.2.2.2.2.2)) fun v4 =>
   if (!v4) = false then
    grdEq at_1.1 at_1.1 <|
    grdEq at_1.2.1 at_1.2.1 <|
    grdEq at_1.2.2 at_1.2.2 <|
    grdEq at_1.1 at_1.1 <|
    grdEq at_1.2.1 at_1.2.1 <|
    grdEq at_1.2.2 at_1.2.2 <|
    grdEq q_2.1 q_2.1 <|
    grdEq q_2.2.1 q_2.2.1 <|
    grdEq q_2.2.2 q_2.2.2 <|
    grdEq c_3.1 c_3.1 <|
    grdEq c_3.2.1 c_3.2.1 <|
    grdEq c_3.2.2.1 c_3.2.2.1 <|
    grdEq c_3.2.2.2.1 c_3.2.2.2.1 <|
    grdEq c_3.2.2.2.2.1 c_3.2.2.2.2.1 <|
    grdEq c_3.2.2.2.2.2.1 c_3.2.2.2.2.2.1 <|
    grdEq c_3.2.2.2.2.2.2.1 c_3.2.2.2.2.2.2.1 <|
    grdEq c_3.2.2.2.2.2.2.2.1 c_3.2.2.2.2.2.2.2.1 <|
    grdEq c_3.2.2.2.2.2.2.2.2 c_3.2.2.2.2.2.2.2.2 <|
    some (decide (300 < (↑(List.length q_2.1) : Int)))
   else
    grdEq at_1.1 at_1.1 <|
    grdEq at_1.2.1 at_1.2.1 <|
    grdEq at_1.2.2 at_1.2.2 <|
    grdEq at_1.1 at_1.1 <|
    grdEq at_1.2.1 at_1.2.1 <|
    grdEq at_1.2.2 at_1.2.2 <|
    grdEq q_2.1 q_2.1 <|
    grdEq q_2.2.1 q_2.2.1 <|
    grdEq q_2.2.2 q_2.2.2 <|
    grdEq c_3.1 c_3.1 <|
    grdEq c_3.2.1 c_3.2.1 <|
    grdEq c_3.2.2.1 c_3.2.2.1 <|
    grdEq c_3.2.2.2.1 c_3.2.2.2.1 <|
    grdEq c_3.2.2.2.2.1 c_3.2.2.2.2.1 <|
    grdEq c_3.2.2.2.2.2.1 c_3.2.2.2.2.2.1 <|
    grdEq c_3.2.2.2.2.2.2.1 c_3.2.2.2.2.2.2.1 <|
    grdEq c_3.2.2.2.2.2.2.2.1 c_3.2.2.2.2.2.2.2.1 <|
    grdEq c_3.2.2.2.2.2.2.2.2 c_3.2.2.2.2.2.2.2.2 <|
    some true) fun s34_5 =>
  if s34_5 = true then
   bnd F_law18_live fun v6 =>
   grdEq at_1.1 at_1.1 <|
   grdEq at_1.2.1 at_1.2.1 <|
   grdEq at_1.2.2 at_1.2.2 <|
   grdEq q_2.1 q_2.1 <|
   grdEq q_2.2.1 q_2.2.1 <|
   grdEq q_2.2.2 q_2.2.2 <|
   grdEq c_3.1 c_3.1 <|
   grdEq c_3.2.1 c_3.2.1 <|
   grdEq c_3.2.2.1 c_3.2.2.1 <|
   grdEq c_3.2.2.2.1 c_3.2.2.2.1 <|
   grdEq c_3.2.2.2.2.1 c_3.2.2.2.2.1 <|
   grdEq c_3.2.2.2.2.2.1 c_3.2.2.2.2.2.1 <|
   grdEq c_3.2.2.2.2.2.2.1 c_3.2.2.2.2.2.2.1 <|
   grdEq c_3.2.2.2.2.2.2.2.1 c_3.2.2.2.2.2.2.2.1 <|
   grdEq c_3.2.2.2.2.2.2.2.2 c_3.2.2.2.2.2.2.2.2 <|
   some (.inl v6)
  else
   grdEq at_1.1 at_1.1 <|
   grdEq at_1.2.1 at_1.2.1 <|
   grdEq at_1.2.2 at_1.2.2 <|
   grdEq at_1.1 at_1.1 <|
   grdEq at_1.2.1 at_1.2.1 <|
   grdEq at_1.2.2 at_1.2.2 <|
   grdEq q_2.1 q_2.1 <|
   grdEq q_2.2.1 q_2.2.1 <|
   grdEq q_2.2.2 q_2.2.2 <|
   grdEq c_3.1 c_3.1 <|
   grdEq c_3.2.1 c_3.2.1 <|
   grdEq c_3.2.2.1 c_3.2.2.1 <|
   grdEq c_3.2.2.2.1 c_3.2.2.2.1 <|
   grdEq c_3.2.2.2.2.1 c_3.2.2.2.2.1 <|
   grdEq c_3.2.2.2.2.2.1 c_3.2.2.2.2.2.1 <|
   grdEq c_3.2.2.2.2.2.2.1 c_3.2.2.2.2.2.2.1 <|
   grdEq c_3.2.2.2.2.2.2.2.1 c_3.2.2.2.2.2.2.2.1 <|
   grdEq c_3.2.2.2.2.2.2.2.2 c_3.2.2.2.2.2.2.2.2 <|
   some (.inr (()))) fun o7 =>
 match o7 with
 | .inl s6_8 =>
  some s6_8
 | .inr _ =>
  bnd (F_law17_Chain (c_3.1, c_3.2.1, c_3.2.2.1, c_3.2.2.2.1, c_3.2.2.2.2.1, c_3.2.2.2.2.2.1, c_3.2.2.2.2.2.2.1, c_3.2.2.2.2.2.2.2.1, c_3.2.2.2.2.2.2.2.2)) fun v9 =>
  bnd (F_tmpl_Make at_1.1 (q_2.1, q_2.2.1, q_2.2.2) (v9.1, v9.2.1, v9.2.2.1, v9.2.2.2.1, v9.2.2.2.2.1, v9.2.2.2.2.2.1, v9.2.2.2.2.2.2.1, v9.2.2.2.2.2.2.2.1, v9.2.2.2.2.2.2.2.2)) fun (v10, v11) =>
  if (!v11) = true then
   bnd F_law18_live fun v12 =>
   some v12
  else
   bnd (α := (Bool ⊕ Unit)) (bnd (F_tmpl_Template_Check (v10.1, v10.2.1, v10.2.2.1, v10.2.2.2.1, v10.2.2.2.2.1, v10.2.2.2.2.2)) fun v13 =>
    if (!v13) = false then
     bnd (F_tmpl_Template_Live (v10.1, v10.2.1, v10.2.2.1, v10.2.2.2.1, v10.2.2.2.2.1, v10.2.2.2.2.2) at_1.1) fun v14 =>
     if (!v14) = false then
      if (!(v10.1 == q_2.1 && (v10.2.1 == q_2.2.1 && (v10.2.2.1 == q_2.2.2 && true)))) = false then
       if decide ((↑(List.length v10.2.2.2.2.2) : Int) < (↑(List.length c_3.1) : Int)) = true then
        grdEq at_1.1 at_1.1 <|
        grdEq at_1.2.1 at_1.2.1 <|
        grdEq at_1.2.2 at_1.2.2 <|
        grdEq q_2.1 q_2.1 <|
        grdEq q_2.2.1 q_2.2.1 <|
        grdEq q_2.2.2 q_2.2.2 <|
        grdEq c_3.1 c_3.1 <|
        grdEq c_3.2.1 c_3.2.1 <|
        grdEq c_3.2.2.1 c_3.2.2.1 <|
        grdEq c_3.2.2.2.1 c_3.2.2.2.1 <|
        grdEq c_3.2.2.2.2.1 c_3.2.2.2.2.1 <|
        grdEq c_3.2.2.2.2.2.1 c_3.2.2.2.2.2.1 <|
        grdEq c_3.2.2.2.2.2.2.1 c_3.2.2.2.2.2.2.1 <|
        grdEq c_3.2.2.2.2.2.2.2.1 c_3.2.2.2.2.2.2.2.1 <|
        grdEq c_3.2.2.2.2.2.2.2.2 c_3.2.2.2.2.2.2.2.2 <|
        grdEq v10.1 v10.1 <|
        grdEq v10.2.1 v10.2.1 <|
        grdEq v10.2.2.1 v10.2.2.1 <|
        grdEq v10.2.2.2.1 v10.2.2.2.1 <|
        grdEq v10.2.2.2.2.1 v10.2.2.2.2.1 <|
        grdEq v10.2.2.2.2.2 v10.2.2.2.2.2 <|
        some (.inl false)
       else
        grdEq at_1.1 at_1.1 <|
        grdEq at_1.2.1 at_1.2.1 <|
        grdEq at_1.2.2 at_1.2.2 <|
        grdEq at_1.1 at_1.1 <|
        grdEq at_1.2.1 at_1.2.1 <|
        grdEq at_1.2.2 at_1.2.2 <|
        grdEq q_2.1 q_2.1 <|
        grdEq q_2.2.1 q_2.2.1 <|
        grdEq q_2.2.2 q_2.2.2 <|
        grdEq c_3.1 c_3.1 <|
        grdEq c_3.2.1 c_3.2.1 <|
        grdEq c_3.2.2.1 c_3.2.2.1 <|
        grdEq c_3.2.2.2.1 c_3.2.2.2.1 <|
        grdEq c_3.2.2.2.2.1 c_3.2.2.2.2.1 <|
        grdEq c_3.2.2.2.2.2.1 c_3.2.2.2.2.2.1 <|
        grdEq c_3.2.2.2.2.2.2.1 c_3.2.2.2.2.2.2.1 <|
        grdEq c_3.2.2.2.2.2.2.2.1 c_3.2.2.2.2.2.2.2.1 <|
        grdEq c_3.2.2.2.2.2.2.2.2 c_3.2.2.2.2.2.2.2.2 <|
        grdEq v10.1 v10.1 <|
        grdEq v10.2.1 v10.2.1 <|
        grdEq v10.2.2.1 v10.2.2.1 <|
        grdEq v10.2.2.2.1 v10.2.2.2.1 <|
        grdEq v10.2.2.2.2.1 v10.2.2.2.2.1 <|
        grdEq v10.2.2.2.2.2 v10.2.2.2.2.2 <|
        some (.inr (()))
      else
       grdEq at_1.1 at_1.1 <|
       grdEq at_1.2.1 at_1.2.1 <|
       grdEq at_1.2.2 at_1.2.2 <|
       grdEq q_2.1 q_2.1 <|
       grdEq q_2.2.1 q_2.2.1 <|
       grdEq q_2.2.2 q_2.2.2 <|
       grdEq c_3.1 c_3.1 <|
       grdEq c_3.2.1 c_3.2.1 <|
       grdEq c_3.2.2.1 c_3.2.2.1 <|
       grdEq c_3.2.2.2.1 c_3.2.2.2.1 <|
       grdEq c_3.2.2.2.2.1 c_3.2.2.2.2.1 <|
       grdEq c_3.2.2.2.2.2.1 c_3.2.2.2.2.2.1 <|
       grdEq c_3.2.2.2.2.2.2.1 c_3.2.2.2.2.2.2.1 <|
       grdEq c_3.2.2.2.2.2.2.2.1 c_3.2.2.2.2.2.2.2.1 <|
       grdEq c_3.2.2.2.2.2.2.2.2 c_3.2.2.2.2.2.2.2.2 <|
       grdEq v10.1 v10.1 <|
       grdEq v10.2.1 v10.2.1 <|
       grdEq v10.2.2.1 v10.2.2.1 <|
       grdEq v10.2.2.2.1 v10.2.2.2.1 <|
       grdEq v10.2.2.2.2.1 v10.2.2.2.2.1 <|
       grdEq v10.2.2.2.2.2 v10.2.2.2.2.2 <|
       some (.inl false)
     else
      grdEq at_1.1 at_1.1 <|
      grdEq at_1.2.1 at_1.2.1 <|
      grdEq at_1.2.2 at_1.2.2 <|
      grdEq q_2.1 q_2.1 <|
      grdEq q_2.2.1 q_2.2.1 <|
      grdEq q_2.2.2 q_2.2.2 <|
      grdEq c_3.1 c_3.1 <|
      grdEq c_3.2.1 c_3.2.1 <|
      grdEq c_3.2.2.1 c_3.2.2.1 <|
      grdEq c_3.2.2.2.1 c_3.2.2.2.1 <|
      grdEq c_3.2.2.2.2.1 c_3.2.2.2.2.1 <|
      grdEq c_3.2.2.2.2.2.1 c_3.2.2.2.2.2.1 <|
      grdEq c_3.2.2.2.2.2.2.1 c_3.2.2.2.2.2.2.1 <|
      grdEq c_3.2.2.2.2.2.2.2.1 c_3.2.2.2.2.2.2.2.1 <|
      grdEq c_3.2.2.2.2.2.2.2.2 c_3.2.2.2.2.2.2.2.2 <|
      grdEq v10.1 v10.1 <|
      grdEq v10.2.1 v10.2.1 <|
      grdEq v10.2.2.1 v10.2.2.1 <|
      grdEq v10.2.2.2.1 v10.2.2.2.1 <|
      grdEq v10.2.2.2.2.1 v10.2.2.2.2.1 <|
      grdEq v10.2.2.2.2.2 v10.2.2.2.2.2 <|
      some (.inl false)
    else
     grdEq at_1.1 at_1.1 <|
     grdEq at_1.2.1 at_1.2.1 <|
     grdEq at_1.2.2 at_1.2.2 <|
     grdEq q_2.1 q_2.1 <|
     grdEq q_2.2.1 q_2.2.1 <|
     grdEq q_2.2.2 q_2.2.2 <|
     grdEq c_3.1 c_3.1 <|
     grdEq c_3.2.1 c_3.2.1 <|
     grdEq c_3.2.2.1 c_3.2.2.1 <|
     grdEq c_3.2.2.2.1 c_3.2.2.2.1 <|
     grdEq c_3.2.2.2.2.1 c_3.2.2.2.2.1 <|
     grdEq c_3.2.2.2.2.2.1 c_3.2.2.2.2.2.1 <|
     grdEq c_3.2.2.2.2.2.2.1 c_3.2.2.2.2.2.2.1 <|
     grdEq c_3.2.2.2.2.2.2.2.1 c_3.2.2.2.2.2.2.2.1 <|
     grdEq c_3.2.2.2.2.2.2.2.2 c_3.2.2.2.2.2.2.2.2 <|
     grdEq v10.1 v10.1 <|
     grdEq v10.2.1 v10.2.1 <|
     grdEq v10.2.2.1 v10.2.2.1 <|
     grdEq v10.2.2.2.1 v10.2.2.2.1 <|
     grdEq v10.2.2.2.2.1 v10.2.2.2.2.1 <|
     grdEq v10.2.2.2.2.2 v10.2.2.2.2.2 <|
     some (.inl false)) fun o15 =>
   match o15 with
   | .inl s6_16 =>
    some s6_16
   | .inr _ =>
    bnd (α := (Bool ⊕ Unit)) (bnd (α := Bool) (bnd (F_tmpl_Template_Live (v10.1, v10.2.1, v10.2.2.1, v10.2.2.2.1, v10.2.2.2.2.1, v10.2.2.2.2.2) at_1.2.1) fun v17 =>
      if (!v17) = false then
       if decide (at_1.2.1 < at_1.1) = false then
        grdEq at_1.1 at_1.1 <|
        grdEq at_1.2.1 at_1.2.1 <|
        grdEq at_1.2.2 at_1.2.2 <|
        grdEq at_1.1 at_1.1 <|
        grdEq at_1.2.1 at_1.2.1 <|
        grdEq at_1.2.2 at_1.2.2 <|
        grdEq q_2.1 q_2.1 <|
        grdEq q_2.2.1 q_2.2.1 <|
        grdEq q_2.2.2 q_2.2.2 <|
        grdEq c_3.1 c_3.1 <|
        grdEq c_3.2.1 c_3.2.1 <|
        grdEq c_3.2.2.1 c_3.2.2.1 <|
        grdEq c_3.2.2.2.1 c_3.2.2.2.1 <|
        grdEq c_3.2.2.2.2.1 c_3.2.2.2.2.1 <|
        grdEq c_3.2.2.2.2.2.1 c_3.2.2.2.2.2.1 <|
        grdEq c_3.2.2.2.2.2.2.1 c_3.2.2.2.2.2.2.1 <|
        grdEq c_3.2.2.2.2.2.2.2.1 c_3.2.2.2.2.2.2.2.1 <|
        grdEq c_3.2.2.2.2.2.2.2.2 c_3.2.2.2.2.2.2.2.2 <|
        grdEq v10.1 v10.1 <|
        grdEq v10.2.1 v10.2.1 <|
        grdEq v10.2.2.1 v10.2.2.1 <|
        grdEq v10.2.2.2.1 v10.2.2.2.1 <|
        grdEq v10.2.2.2.2.1 v10.2.2.2.2.1 <|
        grdEq v10.2.2.2.2.2 v10.2.2.2.2.2 <|
        some (decide (at_1.2.2 < 0))
       else
        grdEq at_1.1 at_1.1 <|
        grdEq at_1.2.1 at_1.2.1 <|
        grdEq at_1.2.2 at_1.2.2 <|
        grdEq at_1.1 at_1.1 <|
        grdEq at_1.2.1 at_1.2.1 <|
        grdEq at_1.2.2 at_1.2.2 <|
        grdEq q_2.1 q_2.1 <|
        grdEq q_2.2.1 q_2.2.1 <|
        grdEq q_2.2.2 q_2.2.2 <|
        grdEq c_3.1 c_3.1 <|
        grdEq c_3.2.1 c_3.2.1 <|
        grdEq c_3.2.2.1 c_3.2.2.1 <|
        grdEq c_3.2.2.2.1 c_3.2.2.2.1 <|
        grdEq c_3.2.2.2.2.1 c_3.2.2.2.2.1 <|
        grdEq c_3.2.2.2.2.2.1 c_3.2.2.2.2.2.1 <|
        grdEq c_3.2.2.2.2.2.2.1 c_3.2.2.2.2.2.2.1 <|
        grdEq c_3.2.2.2.2.2.2.2.1 c_3.2.2.2.2.2.2.2.1 <|
        grdEq c_3.2.2.2.2.2.2.2.2 c_3.2.2.2.2.2.2.2.2 <|
        grdEq v10.1 v10.1 <|
        grdEq v10.2.1 v10.2.1 <|
        grdEq v10.2.2.1 v10.2.2.1 <|
        grdEq v10.2.2.2.1 v10.2.2.2.1 <|
        grdEq v10.2.2.2.2.1 v10.2.2.2.2.1 <|
        grdEq v10.2.2.2.2.2 v10.2.2.2.2.2 <|
        some true
      else
       grdEq at_1.1 at_1.1 <|
       grdEq at_1.2.1 at_1.2.1 <|
       grdEq at_1.2.2 at_1.2.2 <|
       grdEq at_1.1 at_1.1 <|
       grdEq at_1.2.1 at_1.2.1 <|
       grdEq at_1.2.2 at_1.2.2 <|
       grdEq q_2.1 q_2.1 <|
       grdEq q_2.2.1 q_2.2.1 <|
       grdEq q_2.2.2 q_2.2.2 <|
       grdEq c_3.1 c_3.1 <|
       grdEq c_3.2.1 c_3.2.1 <|
       grdEq c_3.2.2.1 c_3.2.2.1 <|
       grdEq c_3.2.2.2.1 c_3.2.2.2.1 <|
       grdEq c_3.2.2.2.2.1 c_3.2.2.2.2.1 <|
       grdEq c_3.2.2.2.2.2.1 c_3.2.2.2.2.2.1 <|
       grdEq c_3.2.2.2.2.2.2.1 c_3.2.2.2.2.2.2.1 <|
       grdEq c_3.2.2.2.2.2.2.2.1 c_3.2.2.2.2.2.2.2.1 <|
       grdEq c_3.2.2.2.2.2.2.2.2 c_3.2.2.2.2.2.2.2.2 <|
       grdEq v10.1 v10.1 <|
       grdEq v10.2.1 v10.2.1 <|
       grdEq v10.2.2.1 v10.2.2.1 <|
       grdEq v10.2.2.2.1 v10.2.2.2.1 <|
       grdEq v10.2.2.2.2.1 v10.2.2.2.2.1 <|
       grdEq v10.2.2.2.2.2 v10.2.2.2.2.2 <|
       some true) fun s83_18 =>
     if s83_18 = true then
      bnd F_law18_live fun v19 =>
      grdEq at_1.1 at_1.1 <|
      grdEq at_1.2.1 at_1.2.1 <|
      grdEq at_1.2.2 at_1.2.2 <|
      grdEq q_2.1 q_2.1 <|
      grdEq q_2.2.1 q_2.2.1 <|
      grdEq q_2.2.2 q_2.2.2 <|
      grdEq c_3.1 c_3.1 <|
      grdEq c_3.2.1 c_3.2.1 <|
      grdEq c_3.2.2.1 c_3.2.2.1 <|
      grdEq c_3.2.2.2.1 c_3.2.2.2.1 <|
      grdEq c_3.2.2.2.2.1 c_3.2.2.2.2.1 <|
      grdEq c_3.2.2.2.2.2.1 c_3.2.2.2.2.2.1 <|
      grdEq c_3.2.2.2.2.2.2.1 c_3.2.2.2.2.2.2.1 <|
      grdEq c_3.2.2.2.2.2.2.2.1 c_3.2.2.2.2.2.2.2.1 <|
      grdEq c_3.2.2.2.2.2.2.2.2 c_3.2.2.2.2.2.2.2.2 <|
      grdEq v10.1 v10.1 <|
      grdEq v10.2.1 v10.2.1 <|
      grdEq v10.2.2.1 v10.2.2.1 <|
      grdEq v10.2.2.2.1 v10.2.2.2.1 <|
      grdEq v10.2.2.2.2.1 v10.2.2.2.2.1 <|
      grdEq v10.2.2.2.2.2 v10.2.2.2.2.2 <|
      some (.inl v19)
     else
      grdEq at_1.1 at_1.1 <|
      grdEq at_1.2.1 at_1.2.1 <|
      grdEq at_1.2.2 at_1.2.2 <|
      grdEq at_1.1 at_1.1 <|
      grdEq at_1.2.1 at_1.2.1 <|
      grdEq at_1.2.2 at_1.2.2 <|
      grdEq q_2.1 q_2.1 <|
      grdEq q_2.2.1 q_2.2.1 <|
      grdEq q_2.2.2 q_2.2.2 <|
      grdEq c_3.1 c_3.1 <|
      grdEq c_3.2.1 c_3.2.1 <|
      grdEq c_3.2.2.1 c_3.2.2.1 <|
      grdEq c_3.2.2.2.1 c_3.2.2.2.1 <|
      grdEq c_3.2.2.2.2.1 c_3.2.2.2.2.1 <|
      grdEq c_3.2.2.2.2.2.1 c_3.2.2.2.2.2.1 <|
      grdEq c_3.2.2.2.2.2.2.1 c_3.2.2.2.2.2.2.1 <|
      grdEq c_3.2.2.2.2.2.2.2.1 c_3.2.2.2.2.2.2.2.1 <|
      grdEq c_3.2.2.2.2.2.2.2.2 c_3.2.2.2.2.2.2.2.2 <|
      grdEq v10.1 v10.1 <|
      grdEq v10.2.1 v10.2.1 <|
      grdEq v10.2.2.1 v10.2.2.1 <|
      grdEq v10.2.2.2.1 v10.2.2.2.1 <|
      grdEq v10.2.2.2.2.1 v10.2.2.2.2.1 <|
      grdEq v10.2.2.2.2.2 v10.2.2.2.2.2 <|
      some (.inr (()))) fun o20 =>
    match o20 with
    | .inl s6_21 =>
     some s6_21
    | .inr _ =>
     bnd (loopS (step_law18_TmplParts_0 at_1 q_2 c_3 v10) 0) fun o35 =>
     match o35 with
     | .inl _ =>
      if (c_3.2.1 == 0) = true then
       if ((↑(List.length v10.2.2.2.2.2) : Int) == (↑(List.length c_3.1) : Int)) = true then
        if (v10.2.2.2.1 == 0) = true then
         bnd F_law18_live fun v36 =>
         some v36
        else
         some false
       else
        some false
      else
       bnd (F_ref10_Flat (c_3.2.2.2.1, c_3.2.2.2.2.1, c_3.2.2.2.2.2.1, c_3.2.2.2.2.2.2.1, c_3.2.2.2.2.2.2.2.1) (IntKind.i64.wrap (c_3.2.2.2.2.2.2.2.2 - IntKind.i64.wrap (at_1.2.1 - at_1.1))) 0) fun v37 =>
       bnd (loopS (step_law18_TmplParts_2 at_1 q_2 c_3 v10 v37) (([], 0))) fun s_43 =>
       if ((↑(List.length v10.2.2.2.2.2) : Int) == IntKind.i64.wrap ((↑(List.length c_3.1) : Int) + 1)) = true then
        bnd (F_tmpl_Template_Part (v10.1, v10.2.1, v10.2.2.1, v10.2.2.2.1, v10.2.2.2.2.1, v10.2.2.2.2.2) (↑(List.length c_3.1) : Int) at_1.2.1 at_1.2.2) fun v44 =>
        if (v44 == s_43) = true then
         bnd F_law18_live fun v45 =>
         some v45
        else
         some false
       else
        some false
     | .inr s6_46 =>
      some s6_46
def ann_law18_TmplParts : List (List Nat × Ann) := [([8], ⟨none, [(.ret, ⟨(anyN 6 (.cons (.ty .bool) (anyN 196 .nil))), [.cells 60 true (.cons kI (.cons kI (.cons kI .nil))), .cells 23 true (.cons kS (.cons kI (.cons kI .nil))), .cells 31 true (.cons (.keep (.list (.agg (.cons .str (.cons tI (.cons tI (.cons (.list .str) (.cons tI tI)))))))) (.cons kI (.cons kS (.cons kS (.cons kI (.cons kI (.cons (.keep (.list .str)) (.cons kI (.cons kI .nil)))))))))], [], []⟩), (.normal, ⟨(anyN 4 (.cons (.ptr 1 0) (.cons (.ptr 2 0) (anyN 1 (.cons kI (.cons kI (.cons kI (anyN 193 .nil)))))))), [.cells 60 true (.cons kI (.cons kI (.cons kI .nil))), .cells 23 true (.cons kS (.cons kI (.cons kI .nil))), .cells 31 true (.cons (.keep (.list (.agg (.cons .str (.cons tI (.cons tI (.cons (.list .str) (.cons tI tI)))))))) (.cons kI (.cons kS (.cons kS (.cons kI (.cons kI (.cons (.keep (.list .str)) (.cons kI (.cons kI .nil)))))))))], [], []⟩)]⟩), ([9], ⟨none, [(.normal, ⟨(anyN 4 (.cons (.ptr 1 0) (.cons (.ptr 2 0) (anyN 1 (.cons kI (.cons kI (.cons kI (anyN 24 (.cons (.ty .bool) (anyN 168 .nil)))))))))), [.cells 60 true (.cons kI (.cons kI (.cons kI .nil))), .cells 23 true (.cons kS (.cons kI (.cons kI .nil))), .cells 31 true (.cons (.keep (.list (.agg (.cons .str (.cons tI (.cons tI (.cons (.list .str) (.cons tI tI)))))))) (.cons kI (.cons kS (.cons kS (.cons kI (.cons kI (.cons (.keep (.list .str)) (.cons kI (.cons kI .nil)))))))))], [], []⟩)]⟩), ([26], ⟨none, [(.ret, ⟨(anyN 6 (.cons (.ty .bool) (anyN 196 .nil))), [.cells 60 true (.cons kI (.cons kI (.cons kI .nil))), .cells 23 true (.cons kS (.cons kI (.cons kI .nil))), .cells 31 true (.cons (.keep (.list (.agg (.cons .str (.cons tI (.cons tI (.cons (.list .str) (.cons tI tI)))))))) (.cons kI (.cons kS (.cons kS (.cons kI (.cons kI (.cons (.keep (.list .str)) (.cons kI (.cons kI .nil))))))))), .cells 36 true (.cons kS (.cons kI (.cons kI (.cons kI (.cons kS (.cons (.keep (.list (.agg (.cons (.list (.agg (.cons tI (.cons tI tI)))) (.cons tI .bool))))) .nil))))))], [], []⟩), (.normal, ⟨(anyN 4 (.cons (.ptr 1 0) (.cons (.ptr 2 0) (anyN 1 (.cons kI (.cons kI (.cons kI (.cons (.ptr 3 0) (anyN 192 .nil))))))))), [.cells 60 true (.cons kI (.cons kI (.cons kI .nil))), .cells 23 true (.cons kS (.cons kI (.cons kI .nil))), .cells 31 true (.cons (.keep (.list (.agg (.cons .str (.cons tI (.cons tI (.cons (.list .str) (.cons tI tI)))))))) (.cons kI (.cons kS (.cons kS (.cons kI (.cons kI (.cons (.keep (.list .str)) (.cons kI (.cons kI .nil))))))))), .cells 36 true (.cons kS (.cons kI (.cons kI (.cons kI (.cons kS (.cons (.keep (.list (.agg (.cons (.list (.agg (.cons tI (.cons tI tI)))) (.cons tI .bool))))) .nil))))))], [], []⟩)]⟩), ([34], ⟨none, [(.ret, ⟨(anyN 6 (.cons (.ty .bool) (anyN 196 .nil))), [.cells 60 true (.cons kI (.cons kI (.cons kI .nil))), .cells 23 true (.cons kS (.cons kI (.cons kI .nil))), .cells 31 true (.cons (.keep (.list (.agg (.cons .str (.cons tI (.cons tI (.cons (.list .str) (.cons tI tI)))))))) (.cons kI (.cons kS (.cons kS (.cons kI (.cons kI (.cons (.keep (.list .str)) (.cons kI (.cons kI .nil))))))))), .cells 36 true (.cons kS (.cons kI (.cons kI (.cons kI (.cons kS (.cons (.keep (.list (.agg (.cons (.list (.agg (.cons tI (.cons tI tI)))) (.cons tI .bool))))) .nil))))))], [], []⟩), (.normal, ⟨(anyN 4 (.cons (.ptr 1 0) (.cons (.ptr 2 0) (anyN 1 (.cons kI (.cons kI (.cons kI (.cons (.ptr 3 0) (anyN 192 .nil))))))))), [.cells 60 true (.cons kI (.cons kI (.cons kI .nil))), .cells 23 true (.cons kS (.cons kI (.cons kI .nil))), .cells 31 true (.cons (.keep (.list (.agg (.cons .str (.cons tI (.cons tI (.cons (.list .str) (.cons tI tI)))))))) (.cons kI (.cons kS (.cons kS (.cons kI (.cons kI (.cons (.keep (.list .str)) (.cons kI (.cons kI .nil))))))))), .cells 36 true (.cons kS (.cons kI (.cons kI (.cons kI (.cons kS (.cons (.keep (.list (.agg (.cons (.list (.agg (.cons tI (.cons tI tI)))) (.cons tI .bool))))) .nil))))))], [], []⟩)]⟩), ([35], ⟨none, [(.normal, ⟨(anyN 4 (.cons (.ptr 1 0) (.cons (.ptr 2 0) (anyN 1 (.cons kI (.cons kI (.cons kI (.cons (.ptr 3 0) (anyN 72 (.cons (.ty .bool) (anyN 119 .nil))))))))))), [.cells 60 true (.cons kI (.cons kI (.cons kI .nil))), .cells 23 true (.cons kS (.cons kI (.cons kI .nil))), .cells 31 true (.cons (.keep (.list (.agg (.cons .str (.cons tI (.cons tI (.cons (.list .str) (.cons tI tI)))))))) (.cons kI (.cons kS (.cons kS (.cons kI (.cons kI (.cons (.keep (.list .str)) (.cons kI (.cons kI .nil))))))))), .cells 36 true (.cons kS (.cons kI (.cons kI (.cons kI (.cons kS (.cons (.keep (.list (.agg (.cons (.list (.agg (.cons tI (.cons tI tI)))) (.cons tI .bool))))) .nil))))))], [], []⟩)]⟩), ([46], ⟨some ⟨(anyN 4 (.cons (.ptr 1 0) (.cons (.ptr 2 0) (anyN 1 (.cons kI (.cons kI (.cons kI (.cons (.ptr 3 0) (anyN 1 (.cons yI (anyN 190 .nil))))))))))), [.cells 60 true (.cons kI (.cons kI (.cons kI .nil))), .cells 23 true (.cons kS (.cons kI (.cons kI .nil))), .cells 31 true (.cons (.keep (.list (.agg (.cons .str (.cons tI (.cons tI (.cons (.list .str) (.cons tI tI)))))))) (.cons kI (.cons kS (.cons kS (.cons kI (.cons kI (.cons (.keep (.list .str)) (.cons kI (.cons kI .nil))))))))), .cells 36 true (.cons kS (.cons kI (.cons kI (.cons kI (.cons kS (.cons (.keep (.list (.agg (.cons (.list (.agg (.cons tI (.cons tI tI)))) (.cons tI .bool))))) .nil))))))], [], []⟩, [(.exit 0, ⟨(anyN 4 (.cons (.ptr 1 0) (.cons (.ptr 2 0) (anyN 1 (.cons kI (.cons kI (.cons kI (.cons (.ptr 3 0) (anyN 192 .nil))))))))), [.cells 60 true (.cons kI (.cons kI (.cons kI .nil))), .cells 23 true (.cons kS (.cons kI (.cons kI .nil))), .cells 31 true (.cons (.keep (.list (.agg (.cons .str (.cons tI (.cons tI (.cons (.list .str) (.cons tI tI)))))))) (.cons kI (.cons kS (.cons kS (.cons kI (.cons kI (.cons (.keep (.list .str)) (.cons kI (.cons kI .nil))))))))), .cells 36 true (.cons kS (.cons kI (.cons kI (.cons kI (.cons kS (.cons (.keep (.list (.agg (.cons (.list (.agg (.cons tI (.cons tI tI)))) (.cons tI .bool))))) .nil))))))], [], []⟩), (.ret, ⟨(anyN 6 (.cons (.ty .bool) (anyN 196 .nil))), [.cells 60 true (.cons kI (.cons kI (.cons kI .nil))), .cells 23 true (.cons kS (.cons kI (.cons kI .nil))), .cells 31 true (.cons (.keep (.list (.agg (.cons .str (.cons tI (.cons tI (.cons (.list .str) (.cons tI tI)))))))) (.cons kI (.cons kS (.cons kS (.cons kI (.cons kI (.cons (.keep (.list .str)) (.cons kI (.cons kI .nil))))))))), .cells 36 true (.cons kS (.cons kI (.cons kI (.cons kI (.cons kS (.cons (.keep (.list (.agg (.cons (.list (.agg (.cons tI (.cons tI tI)))) (.cons tI .bool))))) .nil))))))], [], []⟩)]⟩), ([65], ⟨some ⟨(anyN 4 (.cons (.ptr 1 0) (.cons (.ptr 2 0) (anyN 1 (.cons kI (.cons kI (.cons kI (.cons (.ptr 3 0) (anyN 1 (.cons kI (anyN 1 (.cons (.keep (.list tRR)) (.cons (.ty .str) (.cons yI (anyN 186 .nil))))))))))))))), [.cells 60 true (.cons kI (.cons kI (.cons kI .nil))), .cells 23 true (.cons kS (.cons kI (.cons kI .nil))), .cells 31 true (.cons (.keep (.list (.agg (.cons .str (.cons tI (.cons tI (.cons (.list .str) (.cons tI tI)))))))) (.cons kI (.cons kS (.cons kS (.cons kI (.cons kI (.cons (.keep (.list .str)) (.cons kI (.cons kI .nil))))))))), .cells 36 true (.cons kS (.cons kI (.cons kI (.cons kI (.cons kS (.cons (.keep (.list (.agg (.cons (.list (.agg (.cons tI (.cons tI tI)))) (.cons tI .bool))))) .nil))))))], [], []⟩, [(.exit 2, ⟨(anyN 4 (.cons (.ptr 1 0) (.cons (.ptr 2 0) (anyN 1 (.cons kI (.cons kI (.cons kI (.cons (.ptr 3 0) (anyN 1 (.cons kI (anyN 2 (.cons (.ty .str) (anyN 187 .nil))))))))))))), [.cells 60 true (.cons kI (.cons kI (.cons kI .nil))), .cells 23 true (.cons kS (.cons kI (.cons kI .nil))), .cells 31 true (.cons (.keep (.list (.agg (.cons .str (.cons tI (.cons tI (.cons (.list .str) (.cons tI tI)))))))) (.cons kI (.cons kS (.cons kS (.cons kI (.cons kI (.cons (.keep (.list .str)) (.cons kI (.cons kI .nil))))))))), .cells 36 true (.cons kS (.cons kI (.cons kI (.cons kI (.cons kS (.cons (.keep (.list (.agg (.cons (.list (.agg (.cons tI (.cons tI tI)))) (.cons tI .bool))))) .nil))))))], [], []⟩)]⟩), ([100], ⟨some ⟨(anyN 4 (.cons (.ptr 1 0) (.cons (.ptr 2 0) (anyN 2 (.cons kI (.cons kI (.cons (.ptr 3 0) (anyN 6 (.cons (.keep (.list tRR)) (.cons (.ty .str) (.cons yI (anyN 183 .nil)))))))))))), [.cells 60 true (.cons kI (.cons kI (.cons kI .nil))), .cells 23 true (.cons kS (.cons kI (.cons kI .nil))), .cells 31 true (.cons (.keep (.list (.agg (.cons .str (.cons tI (.cons tI (.cons (.list .str) (.cons tI tI)))))))) (.cons kI (.cons kS (.cons kS (.cons kI (.cons kI (.cons (.keep (.list .str)) (.cons kI (.cons kI .nil))))))))), .cells 36 true (.cons kS (.cons kI (.cons kI (.cons kI (.cons kS (.cons (.keep (.list (.agg (.cons (.list (.agg (.cons tI (.cons tI tI)))) (.cons tI .bool))))) .nil))))))], [], []⟩, [(.exit 4, ⟨(anyN 5 (.cons (.ptr 2 0) (anyN 2 (.cons kI (.cons kI (.cons (.ptr 3 0) (anyN 7 (.cons (.ty .str) (anyN 184 .nil))))))))), [.cells 60 true (.cons kI (.cons kI (.cons kI .nil))), .cells 23 true (.cons kS (.cons kI (.cons kI .nil))), .cells 31 true (.cons (.keep (.list (.agg (.cons .str (.cons tI (.cons tI (.cons (.list .str) (.cons tI tI)))))))) (.cons kI (.cons kS (.cons kS (.cons kI (.cons kI (.cons (.keep (.list .str)) (.cons kI (.cons kI .nil))))))))), .cells 36 true (.cons kS (.cons kI (.cons kI (.cons kI (.cons kS (.cons (.keep (.list (.agg (.cons (.list (.agg (.cons tI (.cons tI tI)))) (.cons tI .bool))))) .nil))))))], [], []⟩)]⟩)]
@[reducible] def fs_law18_TmplParts : List (Nat × SFn) := [(25, .pure [.str, tI, tRR] [.str] (fun x => F_ref06_Encode x.1 x.2.1 x.2.2)), (24, .pure [(.agg (.cons .str (.cons tI (.cons tI (.cons (.list .str) tI))))), tI, tI] [(.list tRR)] (fun x => F_ref10_Flat x.1 x.2.1 x.2.2)), (22, .pure [(.agg (.cons .str (.cons tI (.cons tI (.cons tI (.cons .str (.list (.agg (.cons (.list (.agg (.cons tI (.cons tI tI)))) (.cons tI .bool)))))))))), tI, tI, tI] [.str] (fun x => F_tmpl_Template_Part x.1 x.2.1 x.2.2.1 x.2.2.2)), (9, .pure [(.agg (.cons (.list (.agg (.cons .str (.cons tI (.cons tI (.cons (.list .str) (.cons tI tI))))))) (.cons tI (.cons .str (.cons .str (.cons tI (.cons tI (.cons (.list .str) (.cons tI tI)))))))))] [.bool] (fun x => F_ref17_Small x)), (10, .pure [] [.bool] (fun x => F_law18_live)), (12, .pure [(.agg (.cons (.list (.agg (.cons .str (.cons tI (.cons tI (.cons (.list .str) (.cons tI tI))))))) (.cons tI (.cons .str (.cons .str (.cons tI (.cons tI (.cons (.list .str) (.cons tI tI)))))))))] [(.agg (.cons (.list (.agg (.cons .str (.cons tI (.cons tI (.cons (.list .str) (.cons tI tI))))))) (.cons tI (.cons .str (.cons .str (.cons tI (.cons tI (.cons (.list .str) (.cons tI tI)))))))))] (fun x => F_law17_Chain x)), (11, .pure [tI, tQ, (.agg (.cons (.list (.agg (.cons .str (.cons tI (.cons tI (.cons (.list .str) (.cons tI tI))))))) (.cons tI (.cons .str (.cons .str (.cons tI (.cons tI (.cons (.list .str) (.cons tI tI)))))))))] [(.agg (.cons .str (.cons tI (.cons tI (.cons tI (.cons .str (.list (.agg (.cons (.list (.agg (.cons tI (.cons tI tI)))) (.cons tI .bool)))))))))), .bool] (fun x => F_tmpl_Make x.1 x.2.1 x.2.2)), (18, .pure [(.agg (.cons .str (.cons tI (.cons tI (.cons tI (.cons .str (.list (.agg (.cons (.list (.agg (.cons tI (.cons tI tI)))) (.cons tI .bool))))))))))] [.bool] (fun x => F_tmpl_Template_Check x)), (20, .pure [(.agg (.cons .str (.cons tI (.cons tI (.cons tI (.cons .str (.list (.agg (.cons (.list (.agg (.cons tI (.cons tI tI)))) (.cons tI .bool)))))))))), tI] [.bool] (fun x => F_tmpl_Template_Live x.1 x.2))]
def cfg_law18_TmplParts : SCfg := SCfg.of (fs_law18_TmplParts ++ inlL) ann_law18_TmplParts keepL
theorem eq_law18_TmplParts (x : HL [(.agg (.cons tI (.cons tI tI))), tQ, (.agg (.cons (.list (.agg (.cons .str (.cons tI (.cons tI (.cons (.list .str) (.cons tI tI))))))) (.cons tI (.cons .str (.cons .str (.cons tI (.cons tI (.cons (.list .str) (.cons tI tI)))))))))]) : fnK cfg_law18_TmplParts Try.prog 100000 5 [(.agg (.cons tI (.cons tI tI))), tQ, (.agg (.cons (.list (.agg (.cons .str (.cons tI (.cons tI (.cons (.list .str) (.cons tI tI))))))) (.cons tI (.cons .str (.cons .str (.cons tI (.cons tI (.cons (.list .str) (.cons tI tI)))))))))] [.bool] x = (fun x => F_law18_TmplParts x.1 x.2.1 x.2.2) x := by kernel_rfl
theorem told_law18_TmplParts : Told CC Try.prog 5 [(.agg (.cons tI (.cons tI tI))), tQ, (.agg (.cons (.list (.agg (.cons .str (.cons tI (.cons tI (.cons (.list .str) (.cons tI tI))))))) (.cons tI (.cons .str (.cons .str (.cons tI (.cons tI (.cons (.list .str) (.cons tI tI)))))))))] [.bool] (fun x => F_law18_TmplParts x.1 x.2.1 x.2.2) := told_of (gok (an := ann_law18_TmplParts) (fs := fs_law18_TmplParts) ⟨told_ref06_Encode, told_ref10_Flat, told_tmpl_Template_Part, told_ref17_Small, told_law18_live, told_law17_Chain, told_tmpl_Make, told_tmpl_Template_Check, told_tmpl_Template_Live, trivial⟩) rfl rfl eq_law18_TmplParts
end
end Go.Abs

set_option maxRecDepth 100000
namespace Go.Abs
open Go Go.Proofs
noncomputable section
end
end Go.Abs

set_option maxRecDepth 100000
namespace Go.Abs
open Go Go.Proofs
noncomputable section
end
end Go.Abs

