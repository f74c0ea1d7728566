/- Part of a proof: a machine of plain data, and what the functions come to on it. -/
import Derived.Test.YthmahgleehgbaaaGreatSnA
set_option linter.unusedSimpArgs false
set_option linter.unusedVariables false
set_option linter.unusedSectionVars false
set_option maxRecDepth 100000
namespace Go.Abs
open Go Go.Proofs
noncomputable section
def step_msg_Check_0 (m_1 : Int × Int × List (List UInt8 × Int × Int) × List (List UInt8 × Int × Int × Int × List UInt8) × List (List UInt8 × Int × Int × Int × List UInt8) × List (List UInt8 × Int × Int × Int × List UInt8)) : Int → Option (Int ⊕ (Int ⊕ Unit)) := fun s8_3 =>
  if decide (s8_3 < (↑(List.length m_1.2.2.2.1) : Int)) = true then
    natOf s8_3 fun n4 =>
    bnd (m_1.2.2.2.1[n4]?) fun x5 =>
    bnd (F_msg_Check_1 (x5.1, x5.2.1, x5.2.2.1, x5.2.2.2.1, x5.2.2.2.2)) fun v6 =>
    if v6 = true then
      grdEq m_1.1 m_1.1 <|
      grdEq m_1.2.1 m_1.2.1 <|
      grdEq m_1.2.2.1 m_1.2.2.1 <|
      grdEq m_1.2.2.2.1 m_1.2.2.2.1 <|
      grdEq m_1.2.2.2.2.1 m_1.2.2.2.2.1 <|
      grdEq m_1.2.2.2.2.2 m_1.2.2.2.2.2 <|
      some (.inr (.inl s8_3))
    else
      grdEq m_1.2.2.2.1 m_1.2.2.2.1 <|
      grdEq ((↑(List.length m_1.2.2.2.1) : Int)) ((↑(List.length m_1.2.2.2.1) : Int)) <|
      grdEq m_1.1 m_1.1 <|
      grdEq m_1.2.1 m_1.2.1 <|
      grdEq m_1.2.2.1 m_1.2.2.1 <|
      grdEq m_1.2.2.2.1 m_1.2.2.2.1 <|
      grdEq m_1.2.2.2.2.1 m_1.2.2.2.2.1 <|
      grdEq m_1.2.2.2.2.2 m_1.2.2.2.2.2 <|
      some (.inl (Go.IntKind.i64.wrap (s8_3 + 1)))
  else
    grdEq m_1.1 m_1.1 <|
    grdEq m_1.2.1 m_1.2.1 <|
    grdEq m_1.2.2.1 m_1.2.2.1 <|
    grdEq m_1.2.2.2.1 m_1.2.2.2.1 <|
    grdEq m_1.2.2.2.2.1 m_1.2.2.2.2.1 <|
    grdEq m_1.2.2.2.2.2 m_1.2.2.2.2.2 <|
    some (.inr (.inr (())))
def step_msg_Check_1 (m_1 : Int × Int × List (List UInt8 × Int × Int) × List (List UInt8 × Int × Int × Int × List UInt8) × List (List UInt8 × Int × Int × Int × List UInt8) × List (List UInt8 × Int × Int × Int × List UInt8)) : Int → Option (Int ⊕ (Int ⊕ Unit)) := fun s8_10 =>
  if decide (s8_10 < (↑(List.length m_1.2.2.2.2.1) : Int)) = true then
    natOf s8_10 fun n11 =>
    bnd (m_1.2.2.2.2.1[n11]?) fun x12 =>
    bnd (F_msg_Check_1 (x12.1, x12.2.1, x12.2.2.1, x12.2.2.2.1, x12.2.2.2.2)) fun v13 =>
    if v13 = true then
      grdEq m_1.1 m_1.1 <|
      grdEq m_1.2.1 m_1.2.1 <|
      grdEq m_1.2.2.1 m_1.2.2.1 <|
      grdEq m_1.2.2.2.1 m_1.2.2.2.1 <|
      grdEq m_1.2.2.2.2.1 m_1.2.2.2.2.1 <|
      grdEq m_1.2.2.2.2.2 m_1.2.2.2.2.2 <|
      some (.inr (.inl s8_10))
    else
      grdEq m_1.2.2.2.2.1 m_1.2.2.2.2.1 <|
      grdEq ((↑(List.length m_1.2.2.2.2.1) : Int)) ((↑(List.length m_1.2.2.2.2.1) : Int)) <|
      grdEq m_1.1 m_1.1 <|
      grdEq m_1.2.1 m_1.2.1 <|
      grdEq m_1.2.2.1 m_1.2.2.1 <|
      grdEq m_1.2.2.2.1 m_1.2.2.2.1 <|
      grdEq m_1.2.2.2.2.1 m_1.2.2.2.2.1 <|
      grdEq m_1.2.2.2.2.2 m_1.2.2.2.2.2 <|
      some (.inl (Go.IntKind.i64.wrap (s8_10 + 1)))
  else
    grdEq m_1.1 m_1.1 <|
    grdEq m_1.2.1 m_1.2.1 <|
    grdEq m_1.2.2.1 m_1.2.2.1 <|
    grdEq m_1.2.2.2.1 m_1.2.2.2.1 <|
    grdEq m_1.2.2.2.2.1 m_1.2.2.2.2.1 <|
    grdEq m_1.2.2.2.2.2 m_1.2.2.2.2.2 <|
    some (.inr (.inr (())))
def step_msg_Check_2 (m_1 : Int × Int × List (List UInt8 × Int × Int) × List (List UInt8 × Int × Int × Int × List UInt8) × List (List UInt8 × Int × Int × Int × List UInt8) × List (List UInt8 × Int × Int × Int × List UInt8)) : Int → Option (Int ⊕ (Int ⊕ Unit)) := fun s8_17 =>
  if decide (s8_17 < (↑(List.length m_1.2.2.2.2.2) : Int)) = true then
    natOf s8_17 fun n18 =>
    bnd (m_1.2.2.2.2.2[n18]?) fun x19 =>
    bnd (F_msg_Check_1 (x19.1, x19.2.1, x19.2.2.1, x19.2.2.2.1, x19.2.2.2.2)) fun v20 =>
    if v20 = true then
      grdEq m_1.1 m_1.1 <|
      grdEq m_1.2.1 m_1.2.1 <|
      grdEq m_1.2.2.1 m_1.2.2.1 <|
      grdEq m_1.2.2.2.1 m_1.2.2.2.1 <|
      grdEq m_1.2.2.2.2.1 m_1.2.2.2.2.1 <|
      grdEq m_1.2.2.2.2.2 m_1.2.2.2.2.2 <|
      some (.inr (.inl s8_17))
    else
      grdEq m_1.2.2.2.2.2 m_1.2.2.2.2.2 <|
      grdEq ((↑(List.length m_1.2.2.2.2.2) : Int)) ((↑(List.length m_1.2.2.2.2.2) : Int)) <|
      grdEq m_1.1 m_1.1 <|
      grdEq m_1.2.1 m_1.2.1 <|
      grdEq m_1.2.2.1 m_1.2.2.1 <|
      grdEq m_1.2.2.2.1 m_1.2.2.2.1 <|
      grdEq m_1.2.2.2.2.1 m_1.2.2.2.2.1 <|
      grdEq m_1.2.2.2.2.2 m_1.2.2.2.2.2 <|
      some (.inl (Go.IntKind.i64.wrap (s8_17 + 1)))
  else
    grdEq m_1.1 m_1.1 <|
    grdEq m_1.2.1 m_1.2.1 <|
    grdEq m_1.2.2.1 m_1.2.2.1 <|
    grdEq m_1.2.2.2.1 m_1.2.2.2.1 <|
    grdEq m_1.2.2.2.2.1 m_1.2.2.2.2.1 <|
    grdEq m_1.2.2.2.2.2 m_1.2.2.2.2.2 <|
    some (.inr (.inr (())))
def step_msg_Check_3 (m_1 : Int × Int × List (List UInt8 × Int × Int) × List (List UInt8 × Int × Int × Int × List UInt8) × List (List UInt8 × Int × Int × Int × List UInt8) × List (List UInt8 × Int × Int × Int × List UInt8)) : Int → Option (Int ⊕ (Int ⊕ Unit)) := fun s8_26 =>
  if decide (s8_26 < (↑(List.length m_1.2.2.1) : Int)) = true then
    natOf s8_26 fun n27 =>
    bnd (m_1.2.2.1[n27]?) fun x28 =>
    bnd (F_msg_Check_2 (x28.1, x28.2.1, x28.2.2)) fun v29 =>
    if v29 = true then
      grdEq m_1.1 m_1.1 <|
      grdEq m_1.2.1 m_1.2.1 <|
      grdEq m_1.2.2.1 m_1.2.2.1 <|
      grdEq m_1.2.2.2.1 m_1.2.2.2.1 <|
      grdEq m_1.2.2.2.2.1 m_1.2.2.2.2.1 <|
      grdEq m_1.2.2.2.2.2 m_1.2.2.2.2.2 <|
      some (.inr (.inl s8_26))
    else
      grdEq m_1.2.2.1 m_1.2.2.1 <|
      grdEq ((↑(List.length m_1.2.2.1) : Int)) ((↑(List.length m_1.2.2.1) : Int)) <|
      grdEq m_1.1 m_1.1 <|
      grdEq m_1.2.1 m_1.2.1 <|
      grdEq m_1.2.2.1 m_1.2.2.1 <|
      grdEq m_1.2.2.2.1 m_1.2.2.2.1 <|
      grdEq m_1.2.2.2.2.1 m_1.2.2.2.2.1 <|
      grdEq m_1.2.2.2.2.2 m_1.2.2.2.2.2 <|
      some (.inl (Go.IntKind.i64.wrap (s8_26 + 1)))
  else
    grdEq m_1.1 m_1.1 <|
    grdEq m_1.2.1 m_1.2.1 <|
    grdEq m_1.2.2.1 m_1.2.2.1 <|
    grdEq m_1.2.2.2.1 m_1.2.2.2.1 <|
    grdEq m_1.2.2.2.2.1 m_1.2.2.2.2.1 <|
    grdEq m_1.2.2.2.2.2 m_1.2.2.2.2.2 <|
    some (.inr (.inr (())))
def step_msg_Check_4 (m_1 : Int × Int × List (List UInt8 × Int × Int) × List (List UInt8 × Int × Int × Int × List UInt8) × List (List UInt8 × Int × Int × Int × List UInt8) × List (List UInt8 × Int × Int × Int × List UInt8)) : Int → Option (Int ⊕ (Int ⊕ Unit)) := fun s8_35 =>
  if decide (s8_35 < (↑(List.length m_1.2.2.1) : Int)) = true then
    natOf s8_35 fun n36 =>
    bnd (m_1.2.2.1[n36]?) fun x37 =>
    bnd (F_msg_Check_2 (x37.1, x37.2.1, x37.2.2)) fun v38 =>
    if v38 = true then
      grdEq m_1.1 m_1.1 <|
      grdEq m_1.2.1 m_1.2.1 <|
      grdEq m_1.2.2.1 m_1.2.2.1 <|
      grdEq m_1.2.2.2.1 m_1.2.2.2.1 <|
      grdEq m_1.2.2.2.2.1 m_1.2.2.2.2.1 <|
      grdEq m_1.2.2.2.2.2 m_1.2.2.2.2.2 <|
      some (.inr (.inl s8_35))
    else
      grdEq m_1.2.2.1 m_1.2.2.1 <|
      grdEq ((↑(List.length m_1.2.2.1) : Int)) ((↑(List.length m_1.2.2.1) : Int)) <|
      grdEq m_1.1 m_1.1 <|
      grdEq m_1.2.1 m_1.2.1 <|
      grdEq m_1.2.2.1 m_1.2.2.1 <|
      grdEq m_1.2.2.2.1 m_1.2.2.2.1 <|
      grdEq m_1.2.2.2.2.1 m_1.2.2.2.2.1 <|
      grdEq m_1.2.2.2.2.2 m_1.2.2.2.2.2 <|
      some (.inl (Go.IntKind.i64.wrap (s8_35 + 1)))
  else
    grdEq m_1.1 m_1.1 <|
    grdEq m_1.2.1 m_1.2.1 <|
    grdEq m_1.2.2.1 m_1.2.2.1 <|
    grdEq m_1.2.2.2.1 m_1.2.2.2.1 <|
    grdEq m_1.2.2.2.2.1 m_1.2.2.2.2.1 <|
    grdEq m_1.2.2.2.2.2 m_1.2.2.2.2.2 <|
    some (.inr (.inr (())))
def step_msg_Check_5 (m_1 : Int × Int × List (List UInt8 × Int × Int) × List (List UInt8 × Int × Int × Int × List UInt8) × List (List UInt8 × Int × Int × Int × List UInt8) × List (List UInt8 × Int × Int × Int × List UInt8)) : Int → Option (Int ⊕ (Int ⊕ Unit)) := fun s8_42 =>
  if decide (s8_42 < (↑(List.length m_1.2.2.2.2.2) : Int)) = true then
    natOf s8_42 fun n43 =>
    bnd (m_1.2.2.2.2.2[n43]?) fun x44 =>
    bnd (F_msg_Check_1 (x44.1, x44.2.1, x44.2.2.1, x44.2.2.2.1, x44.2.2.2.2)) fun v45 =>
    if v45 = true then
      grdEq m_1.1 m_1.1 <|
      grdEq m_1.2.1 m_1.2.1 <|
      grdEq m_1.2.2.1 m_1.2.2.1 <|
      grdEq m_1.2.2.2.1 m_1.2.2.2.1 <|
      grdEq m_1.2.2.2.2.1 m_1.2.2.2.2.1 <|
      grdEq m_1.2.2.2.2.2 m_1.2.2.2.2.2 <|
      some (.inr (.inl s8_42))
    else
      grdEq m_1.2.2.2.2.2 m_1.2.2.2.2.2 <|
      grdEq ((↑(List.length m_1.2.2.2.2.2) : Int)) ((↑(List.length m_1.2.2.2.2.2) : Int)) <|
      grdEq m_1.1 m_1.1 <|
      grdEq m_1.2.1 m_1.2.1 <|
      grdEq m_1.2.2.1 m_1.2.2.1 <|
      grdEq m_1.2.2.2.1 m_1.2.2.2.1 <|
      grdEq m_1.2.2.2.2.1 m_1.2.2.2.2.1 <|
      grdEq m_1.2.2.2.2.2 m_1.2.2.2.2.2 <|
      some (.inl (Go.IntKind.i64.wrap (s8_42 + 1)))
  else
    grdEq m_1.1 m_1.1 <|
    grdEq m_1.2.1 m_1.2.1 <|
    grdEq m_1.2.2.1 m_1.2.2.1 <|
    grdEq m_1.2.2.2.1 m_1.2.2.2.1 <|
    grdEq m_1.2.2.2.2.1 m_1.2.2.2.2.1 <|
    grdEq m_1.2.2.2.2.2 m_1.2.2.2.2.2 <|
    some (.inr (.inr (())))
def step_msg_Check_6 (m_1 : Int × Int × List (List UInt8 × Int × Int) × List (List UInt8 × Int × Int × Int × List UInt8) × List (List UInt8 × Int × Int × Int × List UInt8) × List (List UInt8 × Int × Int × Int × List UInt8)) : Int → Option (Int ⊕ (Int ⊕ Unit)) := fun s8_51 =>
  if decide (s8_51 < (↑(List.length m_1.2.2.1) : Int)) = true then
    natOf s8_51 fun n52 =>
    bnd (m_1.2.2.1[n52]?) fun x53 =>
    bnd (F_msg_Check_2 (x53.1, x53.2.1, x53.2.2)) fun v54 =>
    if v54 = true then
      grdEq m_1.1 m_1.1 <|
      grdEq m_1.2.1 m_1.2.1 <|
      grdEq m_1.2.2.1 m_1.2.2.1 <|
      grdEq m_1.2.2.2.1 m_1.2.2.2.1 <|
      grdEq m_1.2.2.2.2.1 m_1.2.2.2.2.1 <|
      grdEq m_1.2.2.2.2.2 m_1.2.2.2.2.2 <|
      some (.inr (.inl s8_51))
    else
      grdEq m_1.2.2.1 m_1.2.2.1 <|
      grdEq ((↑(List.length m_1.2.2.1) : Int)) ((↑(List.length m_1.2.2.1) : Int)) <|
      grdEq m_1.1 m_1.1 <|
      grdEq m_1.2.1 m_1.2.1 <|
      grdEq m_1.2.2.1 m_1.2.2.1 <|
      grdEq m_1.2.2.2.1 m_1.2.2.2.1 <|
      grdEq m_1.2.2.2.2.1 m_1.2.2.2.2.1 <|
      grdEq m_1.2.2.2.2.2 m_1.2.2.2.2.2 <|
      some (.inl (Go.IntKind.i64.wrap (s8_51 + 1)))
  else
    grdEq m_1.1 m_1.1 <|
    grdEq m_1.2.1 m_1.2.1 <|
    grdEq m_1.2.2.1 m_1.2.2.1 <|
    grdEq m_1.2.2.2.1 m_1.2.2.2.1 <|
    grdEq m_1.2.2.2.2.1 m_1.2.2.2.2.1 <|
    grdEq m_1.2.2.2.2.2 m_1.2.2.2.2.2 <|
    some (.inr (.inr (())))
def step_msg_Check_7 (m_1 : Int × Int × List (List UInt8 × Int × Int) × List (List UInt8 × Int × Int × Int × List UInt8) × List (List UInt8 × Int × Int × Int × List UInt8) × List (List UInt8 × Int × Int × Int × List UInt8)) : Int → Option (Int ⊕ (Int ⊕ Unit)) := fun s8_60 =>
  if decide (s8_60 < (↑(List.length m_1.2.2.1) : Int)) = true then
    natOf s8_60 fun n61 =>
    bnd (m_1.2.2.1[n61]?) fun x62 =>
    bnd (F_msg_Check_2 (x62.1, x62.2.1, x62.2.2)) fun v63 =>
    if v63 = true then
      grdEq m_1.1 m_1.1 <|
      grdEq m_1.2.1 m_1.2.1 <|
      grdEq m_1.2.2.1 m_1.2.2.1 <|
      grdEq m_1.2.2.2.1 m_1.2.2.2.1 <|
      grdEq m_1.2.2.2.2.1 m_1.2.2.2.2.1 <|
      grdEq m_1.2.2.2.2.2 m_1.2.2.2.2.2 <|
      some (.inr (.inl s8_60))
    else
      grdEq m_1.2.2.1 m_1.2.2.1 <|
      grdEq ((↑(List.length m_1.2.2.1) : Int)) ((↑(List.length m_1.2.2.1) : Int)) <|
      grdEq m_1.1 m_1.1 <|
      grdEq m_1.2.1 m_1.2.1 <|
      grdEq m_1.2.2.1 m_1.2.2.1 <|
      grdEq m_1.2.2.2.1 m_1.2.2.2.1 <|
      grdEq m_1.2.2.2.2.1 m_1.2.2.2.2.1 <|
      grdEq m_1.2.2.2.2.2 m_1.2.2.2.2.2 <|
      some (.inl (Go.IntKind.i64.wrap (s8_60 + 1)))
  else
    grdEq m_1.1 m_1.1 <|
    grdEq m_1.2.1 m_1.2.1 <|
    grdEq m_1.2.2.1 m_1.2.2.1 <|
    grdEq m_1.2.2.2.1 m_1.2.2.2.1 <|
    grdEq m_1.2.2.2.2.1 m_1.2.2.2.2.1 <|
    grdEq m_1.2.2.2.2.2 m_1.2.2.2.2.2 <|
    some (.inr (.inr (())))
def step_msg_Check_8 (m_1 : Int × Int × List (List UInt8 × Int × Int) × List (List UInt8 × Int × Int × Int × List UInt8) × List (List UInt8 × Int × Int × Int × List UInt8) × List (List UInt8 × Int × Int × Int × List UInt8)) : Int → Option (Int ⊕ (Int ⊕ Unit)) := fun s8_67 =>
  if decide (s8_67 < (↑(List.length m_1.2.2.2.2.1) : Int)) = true then
    natOf s8_67 fun n68 =>
    bnd (m_1.2.2.2.2.1[n68]?) fun x69 =>
    bnd (F_msg_Check_1 (x69.1, x69.2.1, x69.2.2.1, x69.2.2.2.1, x69.2.2.2.2)) fun v70 =>
    if v70 = true then
      grdEq m_1.1 m_1.1 <|
      grdEq m_1.2.1 m_1.2.1 <|
      grdEq m_1.2.2.1 m_1.2.2.1 <|
      grdEq m_1.2.2.2.1 m_1.2.2.2.1 <|
      grdEq m_1.2.2.2.2.1 m_1.2.2.2.2.1 <|
      grdEq m_1.2.2.2.2.2 m_1.2.2.2.2.2 <|
      some (.inr (.inl s8_67))
    else
      grdEq m_1.2.2.2.2.1 m_1.2.2.2.2.1 <|
      grdEq ((↑(List.length m_1.2.2.2.2.1) : Int)) ((↑(List.length m_1.2.2.2.2.1) : Int)) <|
      grdEq m_1.1 m_1.1 <|
      grdEq m_1.2.1 m_1.2.1 <|
      grdEq m_1.2.2.1 m_1.2.2.1 <|
      grdEq m_1.2.2.2.1 m_1.2.2.2.1 <|
      grdEq m_1.2.2.2.2.1 m_1.2.2.2.2.1 <|
      grdEq m_1.2.2.2.2.2 m_1.2.2.2.2.2 <|
      some (.inl (Go.IntKind.i64.wrap (s8_67 + 1)))
  else
    grdEq m_1.1 m_1.1 <|
    grdEq m_1.2.1 m_1.2.1 <|
    grdEq m_1.2.2.1 m_1.2.2.1 <|
    grdEq m_1.2.2.2.1 m_1.2.2.2.1 <|
    grdEq m_1.2.2.2.2.1 m_1.2.2.2.2.1 <|
    grdEq m_1.2.2.2.2.2 m_1.2.2.2.2.2 <|
    some (.inr (.inr (())))
def step_msg_Check_9 (m_1 : Int × Int × List (List UInt8 × Int × Int) × List (List UInt8 × Int × Int × Int × List UInt8) × List (List UInt8 × Int × Int × Int × List UInt8) × List (List UInt8 × Int × Int × Int × List UInt8)) : Int → Option (Int ⊕ (Int ⊕ Unit)) := fun s8_74 =>
  if decide (s8_74 < (↑(List.length m_1.2.2.2.2.2) : Int)) = true then
    natOf s8_74 fun n75 =>
    bnd (m_1.2.2.2.2.2[n75]?) fun x76 =>
    bnd (F_msg_Check_1 (x76.1, x76.2.1, x76.2.2.1, x76.2.2.2.1, x76.2.2.2.2)) fun v77 =>
    if v77 = true then
      grdEq m_1.1 m_1.1 <|
      grdEq m_1.2.1 m_1.2.1 <|
      grdEq m_1.2.2.1 m_1.2.2.1 <|
      grdEq m_1.2.2.2.1 m_1.2.2.2.1 <|
      grdEq m_1.2.2.2.2.1 m_1.2.2.2.2.1 <|
      grdEq m_1.2.2.2.2.2 m_1.2.2.2.2.2 <|
      some (.inr (.inl s8_74))
    else
      grdEq m_1.2.2.2.2.2 m_1.2.2.2.2.2 <|
      grdEq ((↑(List.length m_1.2.2.2.2.2) : Int)) ((↑(List.length m_1.2.2.2.2.2) : Int)) <|
      grdEq m_1.1 m_1.1 <|
      grdEq m_1.2.1 m_1.2.1 <|
      grdEq m_1.2.2.1 m_1.2.2.1 <|
      grdEq m_1.2.2.2.1 m_1.2.2.2.1 <|
      grdEq m_1.2.2.2.2.1 m_1.2.2.2.2.1 <|
      grdEq m_1.2.2.2.2.2 m_1.2.2.2.2.2 <|
      some (.inl (Go.IntKind.i64.wrap (s8_74 + 1)))
  else
    grdEq m_1.1 m_1.1 <|
    grdEq m_1.2.1 m_1.2.1 <|
    grdEq m_1.2.2.1 m_1.2.2.1 <|
    grdEq m_1.2.2.2.1 m_1.2.2.2.1 <|
    grdEq m_1.2.2.2.2.1 m_1.2.2.2.2.1 <|
    grdEq m_1.2.2.2.2.2 m_1.2.2.2.2.2 <|
    some (.inr (.inr (())))
def step_msg_Check_10 (m_1 : Int × Int × List (List UInt8 × Int × Int) × List (List UInt8 × Int × Int × Int × List UInt8) × List (List UInt8 × Int × Int × Int × List UInt8) × List (List UInt8 × Int × Int × Int × List UInt8)) : Int → Option (Int ⊕ (Int ⊕ Unit)) := fun s8_83 =>
  if decide (s8_83 < (↑(List.length m_1.2.2.1) : Int)) = true then
    natOf s8_83 fun n84 =>
    bnd (m_1.2.2.1[n84]?) fun x85 =>
    bnd (F_msg_Check_2 (x85.1, x85.2.1, x85.2.2)) fun v86 =>
    if v86 = true then
      grdEq m_1.1 m_1.1 <|
      grdEq m_1.2.1 m_1.2.1 <|
      grdEq m_1.2.2.1 m_1.2.2.1 <|
      grdEq m_1.2.2.2.1 m_1.2.2.2.1 <|
      grdEq m_1.2.2.2.2.1 m_1.2.2.2.2.1 <|
      grdEq m_1.2.2.2.2.2 m_1.2.2.2.2.2 <|
      some (.inr (.inl s8_83))
    else
      grdEq m_1.2.2.1 m_1.2.2.1 <|
      grdEq ((↑(List.length m_1.2.2.1) : Int)) ((↑(List.length m_1.2.2.1) : Int)) <|
      grdEq m_1.1 m_1.1 <|
      grdEq m_1.2.1 m_1.2.1 <|
      grdEq m_1.2.2.1 m_1.2.2.1 <|
      grdEq m_1.2.2.2.1 m_1.2.2.2.1 <|
      grdEq m_1.2.2.2.2.1 m_1.2.2.2.2.1 <|
      grdEq m_1.2.2.2.2.2 m_1.2.2.2.2.2 <|
      some (.inl (Go.IntKind.i64.wrap (s8_83 + 1)))
  else
    grdEq m_1.1 m_1.1 <|
    grdEq m_1.2.1 m_1.2.1 <|
    grdEq m_1.2.2.1 m_1.2.2.1 <|
    grdEq m_1.2.2.2.1 m_1.2.2.2.1 <|
    grdEq m_1.2.2.2.2.1 m_1.2.2.2.2.1 <|
    grdEq m_1.2.2.2.2.2 m_1.2.2.2.2.2 <|
    some (.inr (.inr (())))
def step_msg_Check_11 (m_1 : Int × Int × List (List UInt8 × Int × Int) × List (List UInt8 × Int × Int × Int × List UInt8) × List (List UInt8 × Int × Int × Int × List UInt8) × List (List UInt8 × Int × Int × Int × List UInt8)) : Int → Option (Int ⊕ (Int ⊕ Unit)) := fun s8_92 =>
  if decide (s8_92 < (↑(List.length m_1.2.2.1) : Int)) = true then
    natOf s8_92 fun n93 =>
    bnd (m_1.2.2.1[n93]?) fun x94 =>
    bnd (F_msg_Check_2 (x94.1, x94.2.1, x94.2.2)) fun v95 =>
    if v95 = true then
      grdEq m_1.1 m_1.1 <|
      grdEq m_1.2.1 m_1.2.1 <|
      grdEq m_1.2.2.1 m_1.2.2.1 <|
      grdEq m_1.2.2.2.1 m_1.2.2.2.1 <|
      grdEq m_1.2.2.2.2.1 m_1.2.2.2.2.1 <|
      grdEq m_1.2.2.2.2.2 m_1.2.2.2.2.2 <|
      some (.inr (.inl s8_92))
    else
      grdEq m_1.2.2.1 m_1.2.2.1 <|
      grdEq ((↑(List.length m_1.2.2.1) : Int)) ((↑(List.length m_1.2.2.1) : Int)) <|
      grdEq m_1.1 m_1.1 <|
      grdEq m_1.2.1 m_1.2.1 <|
      grdEq m_1.2.2.1 m_1.2.2.1 <|
      grdEq m_1.2.2.2.1 m_1.2.2.2.1 <|
      grdEq m_1.2.2.2.2.1 m_1.2.2.2.2.1 <|
      grdEq m_1.2.2.2.2.2 m_1.2.2.2.2.2 <|
      some (.inl (Go.IntKind.i64.wrap (s8_92 + 1)))
  else
    grdEq m_1.1 m_1.1 <|
    grdEq m_1.2.1 m_1.2.1 <|
    grdEq m_1.2.2.1 m_1.2.2.1 <|
    grdEq m_1.2.2.2.1 m_1.2.2.2.1 <|
    grdEq m_1.2.2.2.2.1 m_1.2.2.2.2.1 <|
    grdEq m_1.2.2.2.2.2 m_1.2.2.2.2.2 <|
    some (.inr (.inr (())))
def step_msg_Check_12 (m_1 : Int × Int × List (List UInt8 × Int × Int) × List (List UInt8 × Int × Int × Int × List UInt8) × List (List UInt8 × Int × Int × Int × List UInt8) × List (List UInt8 × Int × Int × Int × List UInt8)) : Int → Option (Int ⊕ (Int ⊕ Unit)) := fun s8_99 =>
  if decide (s8_99 < (↑(List.length m_1.2.2.2.2.2) : Int)) = true then
    natOf s8_99 fun n100 =>
    bnd (m_1.2.2.2.2.2[n100]?) fun x101 =>
    bnd (F_msg_Check_1 (x101.1, x101.2.1, x101.2.2.1, x101.2.2.2.1, x101.2.2.2.2)) fun v102 =>
    if v102 = true then
      grdEq m_1.1 m_1.1 <|
      grdEq m_1.2.1 m_1.2.1 <|
      grdEq m_1.2.2.1 m_1.2.2.1 <|
      grdEq m_1.2.2.2.1 m_1.2.2.2.1 <|
      grdEq m_1.2.2.2.2.1 m_1.2.2.2.2.1 <|
      grdEq m_1.2.2.2.2.2 m_1.2.2.2.2.2 <|
      some (.inr (.inl s8_99))
    else
      grdEq m_1.2.2.2.2.2 m_1.2.2.2.2.2 <|
      grdEq ((↑(List.length m_1.2.2.2.2.2) : Int)) ((↑(List.length m_1.2.2.2.2.2) : Int)) <|
      grdEq m_1.1 m_1.1 <|
      grdEq m_1.2.1 m_1.2.1 <|
      grdEq m_1.2.2.1 m_1.2.2.1 <|
      grdEq m_1.2.2.2.1 m_1.2.2.2.1 <|
      grdEq m_1.2.2.2.2.1 m_1.2.2.2.2.1 <|
      grdEq m_1.2.2.2.2.2 m_1.2.2.2.2.2 <|
      some (.inl (Go.IntKind.i64.wrap (s8_99 + 1)))
  else
    grdEq m_1.1 m_1.1 <|
    grdEq m_1.2.1 m_1.2.1 <|
    grdEq m_1.2.2.1 m_1.2.2.1 <|
    grdEq m_1.2.2.2.1 m_1.2.2.2.1 <|
    grdEq m_1.2.2.2.2.1 m_1.2.2.2.2.1 <|
    grdEq m_1.2.2.2.2.2 m_1.2.2.2.2.2 <|
    some (.inr (.inr (())))
def step_msg_Check_13 (m_1 : Int × Int × List (List UInt8 × Int × Int) × List (List UInt8 × Int × Int × Int × List UInt8) × List (List UInt8 × Int × Int × Int × List UInt8) × List (List UInt8 × Int × Int × Int × List UInt8)) : Int → Option (Int ⊕ (Int ⊕ Unit)) := fun s8_108 =>
  if decide (s8_108 < (↑(List.length m_1.2.2.1) : Int)) = true then
    natOf s8_108 fun n109 =>
    bnd (m_1.2.2.1[n109]?) fun x110 =>
    bnd (F_msg_Check_2 (x110.1, x110.2.1, x110.2.2)) fun v111 =>
    if v111 = true then
      grdEq m_1.1 m_1.1 <|
      grdEq m_1.2.1 m_1.2.1 <|
      grdEq m_1.2.2.1 m_1.2.2.1 <|
      grdEq m_1.2.2.2.1 m_1.2.2.2.1 <|
      grdEq m_1.2.2.2.2.1 m_1.2.2.2.2.1 <|
      grdEq m_1.2.2.2.2.2 m_1.2.2.2.2.2 <|
      some (.inr (.inl s8_108))
    else
      grdEq m_1.2.2.1 m_1.2.2.1 <|
      grdEq ((↑(List.length m_1.2.2.1) : Int)) ((↑(List.length m_1.2.2.1) : Int)) <|
      grdEq m_1.1 m_1.1 <|
      grdEq m_1.2.1 m_1.2.1 <|
      grdEq m_1.2.2.1 m_1.2.2.1 <|
      grdEq m_1.2.2.2.1 m_1.2.2.2.1 <|
      grdEq m_1.2.2.2.2.1 m_1.2.2.2.2.1 <|
      grdEq m_1.2.2.2.2.2 m_1.2.2.2.2.2 <|
      some (.inl (Go.IntKind.i64.wrap (s8_108 + 1)))
  else
    grdEq m_1.1 m_1.1 <|
    grdEq m_1.2.1 m_1.2.1 <|
    grdEq m_1.2.2.1 m_1.2.2.1 <|
    grdEq m_1.2.2.2.1 m_1.2.2.2.1 <|
    grdEq m_1.2.2.2.2.1 m_1.2.2.2.2.1 <|
    grdEq m_1.2.2.2.2.2 m_1.2.2.2.2.2 <|
    some (.inr (.inr (())))
def step_msg_Check_14 (m_1 : Int × Int × List (List UInt8 × Int × Int) × List (List UInt8 × Int × Int × Int × List UInt8) × List (List UInt8 × Int × Int × Int × List UInt8) × List (List UInt8 × Int × Int × Int × List UInt8)) : Int → Option (Int ⊕ (Int ⊕ Unit)) := fun s8_117 =>
  if decide (s8_117 < (↑(List.length m_1.2.2.1) : Int)) = true then
    natOf s8_117 fun n118 =>
    bnd (m_1.2.2.1[n118]?) fun x119 =>
    bnd (F_msg_Check_2 (x119.1, x119.2.1, x119.2.2)) fun v120 =>
    if v120 = true then
      grdEq m_1.1 m_1.1 <|
      grdEq m_1.2.1 m_1.2.1 <|
      grdEq m_1.2.2.1 m_1.2.2.1 <|
      grdEq m_1.2.2.2.1 m_1.2.2.2.1 <|
      grdEq m_1.2.2.2.2.1 m_1.2.2.2.2.1 <|
      grdEq m_1.2.2.2.2.2 m_1.2.2.2.2.2 <|
      some (.inr (.inl s8_117))
    else
      grdEq m_1.2.2.1 m_1.2.2.1 <|
      grdEq ((↑(List.length m_1.2.2.1) : Int)) ((↑(List.length m_1.2.2.1) : Int)) <|
      grdEq m_1.1 m_1.1 <|
      grdEq m_1.2.1 m_1.2.1 <|
      grdEq m_1.2.2.1 m_1.2.2.1 <|
      grdEq m_1.2.2.2.1 m_1.2.2.2.1 <|
      grdEq m_1.2.2.2.2.1 m_1.2.2.2.2.1 <|
      grdEq m_1.2.2.2.2.2 m_1.2.2.2.2.2 <|
      some (.inl (Go.IntKind.i64.wrap (s8_117 + 1)))
  else
    grdEq m_1.1 m_1.1 <|
    grdEq m_1.2.1 m_1.2.1 <|
    grdEq m_1.2.2.1 m_1.2.2.1 <|
    grdEq m_1.2.2.2.1 m_1.2.2.2.1 <|
    grdEq m_1.2.2.2.2.1 m_1.2.2.2.2.1 <|
    grdEq m_1.2.2.2.2.2 m_1.2.2.2.2.2 <|
    some (.inr (.inr (())))
def F_msg_Check (m_1 : (Int × (Int × (List ((List UInt8 × (Int × Int))) × (List ((List UInt8 × (Int × (Int × (Int × List UInt8))))) × (List ((List UInt8 × (Int × (Int × (Int × List UInt8))))) × List ((List UInt8 × (Int × (Int × (Int × List UInt8))))))))))) : Option (Bool) :=
  bnd (F_msg_small (↑(List.length m_1.2.2.2.1) : Int)) fun v2 =>
  if (!v2) = false then
    bnd (loopS (step_msg_Check_0 m_1) 0) fun o7 =>
    match o7 with
    | .inl s4_8 =>
      if decide (0 ≤ s4_8) = true then
        some false
      else
        bnd (F_msg_small (↑(List.length m_1.2.2.2.2.1) : Int)) fun v9 =>
        if (!v9) = false then
          bnd (loopS (step_msg_Check_1 m_1) 0) fun o14 =>
          match o14 with
          | .inl s4_15 =>
            if decide (0 ≤ s4_15) = true then
              some false
            else
              bnd (F_msg_small (↑(List.length m_1.2.2.2.2.2) : Int)) fun v16 =>
              if (!v16) = false then
                bnd (loopS (step_msg_Check_2 m_1) 0) fun o21 =>
                match o21 with
                | .inl s4_22 =>
                  if decide (0 ≤ s4_22) = true then
                    some false
                  else
                    bnd (F_msg_small m_1.1) fun v23 =>
                    if v23 = true then
                      bnd (F_msg_small m_1.2.1) fun v24 =>
                      if v24 = true then
                        bnd (F_msg_small (↑(List.length m_1.2.2.1) : Int)) fun v25 =>
                        if v25 = true then
                          bnd (loopS (step_msg_Check_3 m_1) 0) fun o30 =>
                          match o30 with
                          | .inl s4_31 =>
                            some (!decide (0 ≤ s4_31))
                          | .inr _ =>
                            some true
                        else
                          some false
                      else
                        some false
                    else
                      some false
                | .inr _ =>
                  bnd (F_msg_small m_1.1) fun v32 =>
                  if v32 = true then
                    bnd (F_msg_small m_1.2.1) fun v33 =>
                    if v33 = true then
                      bnd (F_msg_small (↑(List.length m_1.2.2.1) : Int)) fun v34 =>
                      if v34 = true then
                        bnd (loopS (step_msg_Check_4 m_1) 0) fun o39 =>
                        match o39 with
                        | .inl s4_40 =>
                          some (!decide (0 ≤ s4_40))
                        | .inr _ =>
                          some true
                      else
                        some false
                    else
                      some false
                  else
                    some false
              else
                some false
          | .inr _ =>
            bnd (F_msg_small (↑(List.length m_1.2.2.2.2.2) : Int)) fun v41 =>
            if (!v41) = false then
              bnd (loopS (step_msg_Check_5 m_1) 0) fun o46 =>
              match o46 with
              | .inl s4_47 =>
                if decide (0 ≤ s4_47) = true then
                  some false
                else
                  bnd (F_msg_small m_1.1) fun v48 =>
                  if v48 = true then
                    bnd (F_msg_small m_1.2.1) fun v49 =>
                    if v49 = true then
                      bnd (F_msg_small (↑(List.length m_1.2.2.1) : Int)) fun v50 =>
                      if v50 = true then
                        bnd (loopS (step_msg_Check_6 m_1) 0) fun o55 =>
                        match o55 with
                        | .inl s4_56 =>
                          some (!decide (0 ≤ s4_56))
                        | .inr _ =>
                          some true
                      else
                        some false
                    else
                      some false
                  else
                    some false
              | .inr _ =>
                bnd (F_msg_small m_1.1) fun v57 =>
                if v57 = true then
                  bnd (F_msg_small m_1.2.1) fun v58 =>
                  if v58 = true then
                    bnd (F_msg_small (↑(List.length m_1.2.2.1) : Int)) fun v59 =>
                    if v59 = true then
                      bnd (loopS (step_msg_Check_7 m_1) 0) fun o64 =>
                      match o64 with
                      | .inl s4_65 =>
                        some (!decide (0 ≤ s4_65))
                      | .inr _ =>
                        some true
                    else
                      some false
                  else
                    some false
                else
                  some false
            else
              some false
        else
          some false
    | .inr _ =>
      bnd (F_msg_small (↑(List.length m_1.2.2.2.2.1) : Int)) fun v66 =>
      if (!v66) = false then
        bnd (loopS (step_msg_Check_8 m_1) 0) fun o71 =>
        match o71 with
        | .inl s4_72 =>
          if decide (0 ≤ s4_72) = true then
            some false
          else
            bnd (F_msg_small (↑(List.length m_1.2.2.2.2.2) : Int)) fun v73 =>
            if (!v73) = false then
              bnd (loopS (step_msg_Check_9 m_1) 0) fun o78 =>
              match o78 with
              | .inl s4_79 =>
                if decide (0 ≤ s4_79) = true then
                  some false
                else
                  bnd (F_msg_small m_1.1) fun v80 =>
                  if v80 = true then
                    bnd (F_msg_small m_1.2.1) fun v81 =>
                    if v81 = true then
                      bnd (F_msg_small (↑(List.length m_1.2.2.1) : Int)) fun v82 =>
                      if v82 = true then
                        bnd (loopS (step_msg_Check_10 m_1) 0) fun o87 =>
                        match o87 with
                        | .inl s4_88 =>
                          some (!decide (0 ≤ s4_88))
                        | .inr _ =>
                          some true
                      else
                        some false
                    else
                      some false
                  else
                    some false
              | .inr _ =>
                bnd (F_msg_small m_1.1) fun v89 =>
                if v89 = true then
                  bnd (F_msg_small m_1.2.1) fun v90 =>
                  if v90 = true then
                    bnd (F_msg_small (↑(List.length m_1.2.2.1) : Int)) fun v91 =>
                    if v91 = true then
                      bnd (loopS (step_msg_Check_11 m_1) 0) fun o96 =>
                      match o96 with
                      | .inl s4_97 =>
                        some (!decide (0 ≤ s4_97))
                      | .inr _ =>
                        some true
                    else
                      some false
                  else
                    some false
                else
                  some false
            else
              some false
        | .inr _ =>
          bnd (F_msg_small (↑(List.length m_1.2.2.2.2.2) : Int)) fun v98 =>
          if (!v98) = false then
            bnd (loopS (step_msg_Check_12 m_1) 0) fun o103 =>
            match o103 with
            | .inl s4_104 =>
              if decide (0 ≤ s4_104) = true then
                some false
              else
                bnd (F_msg_small m_1.1) fun v105 =>
                if v105 = true then
                  bnd (F_msg_small m_1.2.1) fun v106 =>
                  if v106 = true then
                    bnd (F_msg_small (↑(List.length m_1.2.2.1) : Int)) fun v107 =>
                    if v107 = true then
                      bnd (loopS (step_msg_Check_13 m_1) 0) fun o112 =>
                      match o112 with
                      | .inl s4_113 =>
                        some (!decide (0 ≤ s4_113))
                      | .inr _ =>
                        some true
                    else
                      some false
                  else
                    some false
                else
                  some false
            | .inr _ =>
              bnd (F_msg_small m_1.1) fun v114 =>
              if v114 = true then
                bnd (F_msg_small m_1.2.1) fun v115 =>
                if v115 = true then
                  bnd (F_msg_small (↑(List.length m_1.2.2.1) : Int)) fun v116 =>
                  if v116 = true then
                    bnd (loopS (step_msg_Check_14 m_1) 0) fun o121 =>
                    match o121 with
                    | .inl s4_122 =>
                      some (!decide (0 ≤ s4_122))
                    | .inr _ =>
                      some true
                  else
                    some false
                else
                  some false
              else
                some false
          else
            some false
      else
        some false
  else
    some false
def ann_msg_Check : List (List Nat × Ann) := [([6], ⟨none, []⟩), ([6, 1000000], ⟨none, []⟩), ([6, 1000000, 1000000], ⟨none, []⟩), ([6, 1000000, 1000000, 1000000], ⟨none, []⟩), ([6, 1000000, 1000000, 1000000, 1000000], ⟨none, []⟩), ([6, 103, 2, 3, 82, 10, 18], ⟨some ⟨(.cons (.keep (.list tRR)) (.cons (.func 83 .nil .nil) (anyN 5 (.cons (.keep (.int .i64)) (.cons (.ty (.int .i64)) (anyN 10 .nil)))))), [.cells 32 true (.cons (.keep (.int .i64)) (.cons (.keep (.int .i64)) (.cons (.keep (.list tQ)) (.cons (.keep (.list tRR)) (.cons (.keep (.list tRR)) (.cons (.keep (.list tRR)) .nil)))))), .cells 98 true (.cons (.ptr 0 3) (.cons (.ptr 0 4) (.cons (.ptr 0 5) .nil)))], [], []⟩, [(.ret, ⟨(anyN 4 (.cons (.ty (.int .i64)) (anyN 14 .nil))), [.cells 32 true (.cons (.keep (.int .i64)) (.cons (.keep (.int .i64)) (.cons (.keep (.list tQ)) (.cons (.keep (.list tRR)) (.cons (.keep (.list tRR)) (.cons (.keep (.list tRR)) .nil)))))), .cells 98 true (.cons (.ptr 0 3) (.cons (.ptr 0 4) (.cons (.ptr 0 5) .nil)))], [], []⟩), (.exit 0, ⟨(anyN 19 .nil), [.cells 32 true (.cons (.keep (.int .i64)) (.cons (.keep (.int .i64)) (.cons (.keep (.list tQ)) (.cons (.keep (.list tRR)) (.cons (.keep (.list tRR)) (.cons (.keep (.list tRR)) .nil)))))), .cells 98 true (.cons (.ptr 0 3) (.cons (.ptr 0 4) (.cons (.ptr 0 5) .nil)))], [], []⟩)]⟩), ([6, 103, 2, 3, 82, 10, 18, 1000000], ⟨some ⟨(.cons (.keep (.list tRR)) (.cons (.func 83 .nil .nil) (anyN 5 (.cons (.keep (.int .i64)) (.cons (.ty (.int .i64)) (anyN 10 .nil)))))), [.cells 32 true (.cons (.keep (.int .i64)) (.cons (.keep (.int .i64)) (.cons (.keep (.list tQ)) (.cons (.keep (.list tRR)) (.cons (.keep (.list tRR)) (.cons (.keep (.list tRR)) .nil)))))), .cells 98 true (.cons (.ptr 0 3) (.cons (.ptr 0 4) (.cons (.ptr 0 5) .nil)))], [], []⟩, [(.ret, ⟨(anyN 4 (.cons (.ty (.int .i64)) (anyN 14 .nil))), [.cells 32 true (.cons (.keep (.int .i64)) (.cons (.keep (.int .i64)) (.cons (.keep (.list tQ)) (.cons (.keep (.list tRR)) (.cons (.keep (.list tRR)) (.cons (.keep (.list tRR)) .nil)))))), .cells 98 true (.cons (.ptr 0 3) (.cons (.ptr 0 4) (.cons (.ptr 0 5) .nil)))], [], []⟩), (.exit 0, ⟨(anyN 19 .nil), [.cells 32 true (.cons (.keep (.int .i64)) (.cons (.keep (.int .i64)) (.cons (.keep (.list tQ)) (.cons (.keep (.list tRR)) (.cons (.keep (.list tRR)) (.cons (.keep (.list tRR)) .nil)))))), .cells 98 true (.cons (.ptr 0 3) (.cons (.ptr 0 4) (.cons (.ptr 0 5) .nil)))], [], []⟩)]⟩), ([6, 103, 2, 3, 82, 10, 18, 1000000, 1000000], ⟨some ⟨(.cons (.keep (.list tRR)) (.cons (.func 83 .nil .nil) (anyN 5 (.cons (.keep (.int .i64)) (.cons (.ty (.int .i64)) (anyN 10 .nil)))))), [.cells 32 true (.cons (.keep (.int .i64)) (.cons (.keep (.int .i64)) (.cons (.keep (.list tQ)) (.cons (.keep (.list tRR)) (.cons (.keep (.list tRR)) (.cons (.keep (.list tRR)) .nil)))))), .cells 98 true (.cons (.ptr 0 3) (.cons (.ptr 0 4) (.cons (.ptr 0 5) .nil)))], [], []⟩, [(.ret, ⟨(anyN 4 (.cons (.ty (.int .i64)) (anyN 14 .nil))), [.cells 32 true (.cons (.keep (.int .i64)) (.cons (.keep (.int .i64)) (.cons (.keep (.list tQ)) (.cons (.keep (.list tRR)) (.cons (.keep (.list tRR)) (.cons (.keep (.list tRR)) .nil)))))), .cells 98 true (.cons (.ptr 0 3) (.cons (.ptr 0 4) (.cons (.ptr 0 5) .nil)))], [], []⟩), (.exit 0, ⟨(anyN 19 .nil), [.cells 32 true (.cons (.keep (.int .i64)) (.cons (.keep (.int .i64)) (.cons (.keep (.list tQ)) (.cons (.keep (.list tRR)) (.cons (.keep (.list tRR)) (.cons (.keep (.list tRR)) .nil)))))), .cells 98 true (.cons (.ptr 0 3) (.cons (.ptr 0 4) (.cons (.ptr 0 5) .nil)))], [], []⟩)]⟩), ([6, 106, 2, 3, 86, 18, 28], ⟨some ⟨(.cons (.keep (.list tQ)) (.cons (.func 85 .nil .nil) (anyN 5 (.cons (.keep (.int .i64)) (.cons (.ty (.int .i64)) (anyN 10 .nil)))))), [.cells 32 true (.cons (.keep (.int .i64)) (.cons (.keep (.int .i64)) (.cons (.keep (.list tQ)) (.cons (.keep (.list tRR)) (.cons (.keep (.list tRR)) (.cons (.keep (.list tRR)) .nil)))))), .cells 98 true (.cons (.ptr 0 3) (.cons (.ptr 0 4) (.cons (.ptr 0 5) .nil)))], [], []⟩, [(.ret, ⟨(anyN 4 (.cons (.ty (.int .i64)) (anyN 14 .nil))), [.cells 32 true (.cons (.keep (.int .i64)) (.cons (.keep (.int .i64)) (.cons (.keep (.list tQ)) (.cons (.keep (.list tRR)) (.cons (.keep (.list tRR)) (.cons (.keep (.list tRR)) .nil)))))), .cells 98 true (.cons (.ptr 0 3) (.cons (.ptr 0 4) (.cons (.ptr 0 5) .nil)))], [], []⟩), (.exit 0, ⟨(anyN 19 .nil), [.cells 32 true (.cons (.keep (.int .i64)) (.cons (.keep (.int .i64)) (.cons (.keep (.list tQ)) (.cons (.keep (.list tRR)) (.cons (.keep (.list tRR)) (.cons (.keep (.list tRR)) .nil)))))), .cells 98 true (.cons (.ptr 0 3) (.cons (.ptr 0 4) (.cons (.ptr 0 5) .nil)))], [], []⟩)]⟩)]
@[reducible] def fs_msg_Check : List (Nat × SFn) := [(83, .pure [tRR] [.bool] (fun x => F_msg_Check_1 x)), (85, .pure [tQ] [.bool] (fun x => F_msg_Check_2 x)), (81, .pure [(.int .i64)] [.bool] (fun x => F_msg_small x))]
def cfg_msg_Check : SCfg := SCfg.of (fs_msg_Check ++ inlL) ann_msg_Check keepL
theorem eq_msg_Check (x : HL [tM]) : fnK cfg_msg_Check Tryz.prog 100000 67 [tM] [.bool] x = (fun x => F_msg_Check x) x := by kernel_rfl
theorem told_msg_Check : Told CC Tryz.prog 67 [tM] [.bool] (fun x => F_msg_Check x) := told_of (gok (an := ann_msg_Check) (fs := fs_msg_Check) ⟨told_msg_Check_1, told_msg_Check_2, told_msg_small, trivial⟩) rfl rfl eq_msg_Check
def F_name_Up (n_1 : List UInt8) : Option ((List UInt8 × Bool)) :=
  bnd (F_name_Check n_1) fun v2 =>
  if (!v2) = false then
    if (n_1 == [0]) = true then
      some (([], false))
    else
      bnd (n_1[0]?) fun x3 =>
      natOf (Go.IntKind.i64.wrap (1 + Go.IntKind.i64.wrap (↑x3.toNat : Int))) fun n4 =>
      grd (n4 ≤ n_1.length) <|
      some ((List.drop n4 n_1, true))
  else
    some (([], false))
def ann_name_Up : List (List Nat × Ann) := []
@[reducible] def fs_name_Up : List (Nat × SFn) := [(38, .pure [.str] [.bool] (fun x => F_name_Check x))]
def cfg_name_Up : SCfg := SCfg.of (fs_name_Up ++ inlL) ann_name_Up keepL
theorem eq_name_Up (x : HL [.str]) : fnK cfg_name_Up Tryz.prog 100000 107 [.str] [.str, .bool] x = (fun x => F_name_Up x) x := by kernel_rfl
theorem told_name_Up : Told CC Tryz.prog 107 [.str] [.str, .bool] (fun x => F_name_Up x) := told_of (gok (an := ann_name_Up) (fs := fs_name_Up) ⟨told_name_Check, trivial⟩) rfl rfl eq_name_Up
def F_ref02_Same (a_1 : List UInt8) (b_2 : List UInt8) : Option (Bool) :=
  bnd (F_ref02_Check a_1) fun v3 =>
  if v3 = true then
    bnd (F_ref02_Check b_2) fun v4 =>
    if v4 = true then
      bnd (F_ref02_Small a_1) fun v5 =>
      bnd (F_ref02_Small b_2) fun v6 =>
      some (v5 == v6)
    else
      some false
  else
    some false
def ann_ref02_Same : List (List Nat × Ann) := []
@[reducible] def fs_ref02_Same : List (Nat × SFn) := [(29, .pure [.str] [.bool] (fun x => F_ref02_Check x)), (51, .pure [.str] [.str] (fun x => F_ref02_Small x))]
def cfg_ref02_Same : SCfg := SCfg.of (fs_ref02_Same ++ inlL) ann_ref02_Same keepL
theorem eq_ref02_Same (x : HL [.str, .str]) : fnK cfg_ref02_Same Tryz.prog 100000 110 [.str, .str] [.bool] x = (fun x => F_ref02_Same x.1 x.2) x := by kernel_rfl
theorem told_ref02_Same : Told CC Tryz.prog 110 [.str, .str] [.bool] (fun x => F_ref02_Same x.1 x.2) := told_of (gok (an := ann_ref02_Same) (fs := fs_ref02_Same) ⟨told_ref02_Check, told_ref02_Small, trivial⟩) rfl rfl eq_ref02_Same
def F_ref05_shape (kind_1 : Int) : Option ((Int × (Int × Int))) :=
  bnd (α := Bool) (if (kind_1 == 2) = true then
      grdEq kind_1 kind_1 <|
      grdEq (α := Int) 0 0 <|
      grdEq (α := Int) 0 0 <|
      grdEq (α := Int) 0 0 <|
      some (kind_1 == 2)
    else
      if (kind_1 == 5) = true then
        grdEq kind_1 kind_1 <|
        grdEq (α := Int) 0 0 <|
        grdEq (α := Int) 0 0 <|
        grdEq (α := Int) 0 0 <|
        some (kind_1 == 5)
      else
        grdEq kind_1 kind_1 <|
        grdEq (α := Int) 0 0 <|
        grdEq (α := Int) 0 0 <|
        grdEq (α := Int) 0 0 <|
        some (kind_1 == 12)) fun s4_2 =>
  if s4_2 = true then
    some ((0, (1, 0)))
  else
    if (kind_1 == 6) = true then
      some ((0, (2, 20)))
    else
      if (kind_1 == 15) = true then
        some ((2, (1, 0)))
      else
        if (kind_1 == 33) = true then
          some ((6, (1, 0)))
        else
          if (kind_1 == 1) = true then
            some ((4, (0, 0)))
          else
            if (kind_1 == 28) = true then
              some ((16, (0, 0)))
            else
              some ((0, (0, 0)))
def ann_ref05_shape : List (List Nat × Ann) := [([6], ⟨none, [(.normal, ⟨(anyN 2 (.cons (.ptr 0 0) (.cons (.keep (.int .i64)) (.cons (.ty .bool) (anyN 20 .nil))))), [.cells 156 true (.cons (.keep (.int .i64)) (.cons (.keep (.int .i64)) (.cons (.keep (.int .i64)) .nil)))], [], []⟩)]⟩)]
def cfg_ref05_shape : SCfg := SCfg.of ([] ++ inlL) ann_ref05_shape keepL
theorem eq_ref05_shape (x : HL [(.int .i64)]) : fnK cfg_ref05_shape Tryz.prog 100000 113 [(.int .i64)] [(.agg (.cons (.int .i64) (.cons (.int .i64) (.int .i64))))] x = (fun x => F_ref05_shape x) x := by kernel_rfl
theorem told_ref05_shape : Told CC Tryz.prog 113 [(.int .i64)] [(.agg (.cons (.int .i64) (.cons (.int .i64) (.int .i64))))] (fun x => F_ref05_shape x) := told_of (gok (an := ann_ref05_shape) (fs := []) trivial) rfl rfl eq_ref05_shape
def step_ref05_texts_0 (d_1 : List UInt8) : Int → Option (Int ⊕ Int) := fun i_2 =>
  if decide (i_2 < (↑d_1.length : Int)) = true then
    natOf i_2 fun n3 =>
    bnd (d_1[n3]?) fun x4 =>
    grdEq d_1 d_1 <|
    some (.inl (Go.IntKind.i64.wrap (Go.IntKind.i64.wrap (i_2 + 1) + Go.IntKind.i64.wrap (↑x4.toNat : Int))))
  else
    grdEq d_1 d_1 <|
    some (.inr i_2)
def F_ref05_texts (d_1 : List UInt8) : Option (Bool) :=
  bnd (loopS (step_ref05_texts_0 d_1) 0) fun i_5 =>
  if (i_5 == (↑d_1.length : Int)) = true then
    some (decide (0 < i_5))
  else
    some false
def ann_ref05_texts : List (List Nat × Ann) := [([6], ⟨some ⟨(.cons (.keep .str) (anyN 2 (.cons (.ty (.int .i64)) (anyN 19 .nil)))), [], [], []⟩, [(.exit 0, ⟨(.cons (.keep .str) (anyN 2 (.cons (.ty (.int .i64)) (anyN 19 .nil)))), [], [], []⟩)]⟩)]
def cfg_ref05_texts : SCfg := SCfg.of ([] ++ inlL) ann_ref05_texts keepL
theorem eq_ref05_texts (x : HL [.str]) : fnK cfg_ref05_texts Tryz.prog 100000 114 [.str] [.bool] x = (fun x => F_ref05_texts x) x := by kernel_rfl
theorem told_ref05_texts : Told CC Tryz.prog 114 [.str] [.bool] (fun x => F_ref05_texts x) := told_of (gok (an := ann_ref05_texts) (fs := []) trivial) rfl rfl eq_ref05_texts
def step_ref05_Expand_0 (msg_1 : List UInt8) (at_2 : Int) (size_3 : Int) (v7 : Int × Int × Int) : (List UInt8 × (Int × Int)) → Option ((List UInt8 × (Int × Int)) ⊕ ((List UInt8 × Int) ⊕ (List UInt8 × Int))) := fun (out_10, i_11, k_12) =>
  if decide (k_12 < v7.2.1) = true then
    bnd (F_ref04_Read msg_1 i_11) fun (v13, v14, v15) =>
    if (v15 != 0) = true then
      grdEq v7.1 v7.1 <|
      grdEq v7.2.1 v7.2.1 <|
      grdEq v7.2.2 v7.2.2 <|
      some (.inr (.inl (([], 4))))
    else
      grd (out_10.length + v13.length ≤ maxStr) <|
      grdEq msg_1 msg_1 <|
      grdEq at_2 at_2 <|
      grdEq size_3 size_3 <|
      grdEq v7.1 v7.1 <|
      grdEq v7.2.1 v7.2.1 <|
      grdEq v7.2.2 v7.2.2 <|
      some (.inl ((out_10 ++ v13, (v14, Go.IntKind.i64.wrap (k_12 + 1)))))
  else
    grdEq msg_1 msg_1 <|
    grdEq at_2 at_2 <|
    grdEq size_3 size_3 <|
    grdEq v7.1 v7.1 <|
    grdEq v7.2.1 v7.2.1 <|
    grdEq v7.2.2 v7.2.2 <|
    some (.inr (.inr ((out_10, i_11))))
def F_ref05_Expand (msg_1 : List UInt8) (at_2 : Int) (size_3 : Int) (kind_4 : Int) : Option ((List UInt8 × Int)) :=
  bnd (F_ref01_Take msg_1 at_2 size_3) fun (v5, v6) =>
  if (!v6) = true then
    some (([], 2))
  else
    bnd (F_ref05_shape kind_4) fun v7 =>
    if (v7.1 == 0 && (v7.2.1 == 0 && (v7.2.2 == 0 && true))) = true then
      if (kind_4 == 16) = true then
        bnd (F_ref05_texts v5) fun v8 =>
        if (!v8) = false then
          if decide (65535 < (↑v5.length : Int)) = true then
            some (([], 4))
          else
            some ((v5, 0))
        else
          some (([], 4))
      else
        if decide (65535 < (↑v5.length : Int)) = true then
          some (([], 4))
        else
          some ((v5, 0))
    else
      if decide (size_3 < v7.1) = true then
        some (([], 4))
      else
        natOf v7.1 fun n9 =>
        grd (n9 ≤ v5.length) <|
        bnd (loopS (step_ref05_Expand_0 msg_1 at_2 size_3 v7) ((List.take n9 v5, (Go.IntKind.i64.wrap (at_2 + v7.1), 0)))) fun o16 =>
        match o16 with
        | .inl (s8_17, s9_18) =>
          some ((s8_17, s9_18))
        | .inr (out_19, i_20) =>
          if (Go.IntKind.i64.wrap (i_20 + v7.2.2) != Go.IntKind.i64.wrap (at_2 + size_3)) = true then
            some (([], 4))
          else
            natOf (Go.IntKind.i64.wrap (at_2 + size_3)) fun n21 =>
            grd (n21 ≤ msg_1.length) <|
            natOf i_20 fun n22 =>
            grd (n22 ≤ n21) <|
            grd (out_19.length + (List.drop n22 (List.take n21 msg_1)).length ≤ maxStr) <|
            if decide (65535 < (↑(out_19 ++ List.drop n22 (List.take n21 msg_1)).length : Int)) = true then
              some (([], 4))
            else
              some ((out_19 ++ List.drop n22 (List.take n21 msg_1), 0))
def ann_ref05_Expand : List (List Nat × Ann) := [([46], ⟨some ⟨(.cons (.keep .str) (.cons (.keep (.int .i64)) (.cons (.keep (.int .i64)) (anyN 9 (.cons (.ptr 0 0) (.cons (.ty .str) (.cons (.ty (.int .i64)) (.cons (.ty (.int .i64)) (anyN 81 .nil))))))))), [.cells 156 true (.cons (.keep (.int .i64)) (.cons (.keep (.int .i64)) (.cons (.keep (.int .i64)) .nil)))], [], []⟩, [(.ret, ⟨(anyN 8 (.cons (.ty .str) (.cons (.ty (.int .i64)) (anyN 87 .nil)))), [.cells 156 true (.cons (.keep (.int .i64)) (.cons (.keep (.int .i64)) (.cons (.keep (.int .i64)) .nil)))], [], []⟩), (.exit 0, ⟨(.cons (.keep .str) (.cons (.keep (.int .i64)) (.cons (.keep (.int .i64)) (anyN 9 (.cons (.ptr 0 0) (.cons (.ty .str) (.cons (.ty (.int .i64)) (anyN 82 .nil)))))))), [.cells 156 true (.cons (.keep (.int .i64)) (.cons (.keep (.int .i64)) (.cons (.keep (.int .i64)) .nil)))], [], []⟩)]⟩)]
@[reducible] def fs_ref05_Expand : List (Nat × SFn) := [(75, .pure [.str, (.int .i64)] [.str, (.int .i64), (.int .i64)] (fun x => F_ref04_Read x.1 x.2)), (74, .pure [.str, (.int .i64), (.int .i64)] [.str, .bool] (fun x => F_ref01_Take x.1 x.2.1 x.2.2)), (113, .pure [(.int .i64)] [(.agg (.cons (.int .i64) (.cons (.int .i64) (.int .i64))))] (fun x => F_ref05_shape x)), (114, .pure [.str] [.bool] (fun x => F_ref05_texts x))]
def cfg_ref05_Expand : SCfg := SCfg.of (fs_ref05_Expand ++ inlL) ann_ref05_Expand keepL
theorem eq_ref05_Expand (x : HL [.str, (.int .i64), (.int .i64), (.int .i64)]) : fnK cfg_ref05_Expand Tryz.prog 100000 94 [.str, (.int .i64), (.int .i64), (.int .i64)] [.str, (.int .i64)] x = (fun x => F_ref05_Expand x.1 x.2.1 x.2.2.1 x.2.2.2) x := by kernel_rfl
theorem told_ref05_Expand : Told CC Tryz.prog 94 [.str, (.int .i64), (.int .i64), (.int .i64)] [.str, (.int .i64)] (fun x => F_ref05_Expand x.1 x.2.1 x.2.2.1 x.2.2.2) := told_of (gok (an := ann_ref05_Expand) (fs := fs_ref05_Expand) ⟨told_ref04_Read, told_ref01_Take, told_ref05_shape, told_ref05_texts, trivial⟩) rfl rfl eq_ref05_Expand
def F_ref06_Decode (msg_1 : List UInt8) (at_2 : Int) : Option (((List UInt8 × (Int × (Int × (Int × List UInt8)))) × (Int × Int))) :=
  bnd (F_ref04_Read msg_1 at_2) fun (v3, v4, v5) =>
  if (v5 != 0) = true then
    some ((([], (0, (0, (0, [])))), (0, v5)))
  else
    bnd (F_ref01_Take msg_1 v4 10) fun (v6, v7) =>
    if (!v7) = true then
      some ((([], (0, (0, (0, [])))), (0, 2)))
    else
      bnd (F_ref01_Get msg_1 v4 2) fun (v8, v9) =>
      bnd (F_ref01_Get msg_1 (Go.IntKind.i64.wrap (v4 + 2)) 2) fun (v10, v11) =>
      bnd (F_ref01_Get msg_1 (Go.IntKind.i64.wrap (v4 + 4)) 4) fun (v12, v13) =>
      bnd (F_ref01_Get msg_1 (Go.IntKind.i64.wrap (v4 + 8)) 2) fun (v14, v15) =>
      bnd (α := Int) (if decide (2147483648 ≤ v12) = true then
          grdEq msg_1 msg_1 <|
          grdEq v3 v3 <|
          grdEq v4 v4 <|
          grdEq v8 v8 <|
          grdEq v10 v10 <|
          grdEq v14 v14 <|
          grdEq (α := List UInt8) ([]) ([]) <|
          grdEq (α := Int) 0 0 <|
          grdEq (α := Int) 0 0 <|
          grdEq (α := Int) 0 0 <|
          grdEq (α := List UInt8) ([]) ([]) <|
          some 0
        else
          grdEq msg_1 msg_1 <|
          grdEq v3 v3 <|
          grdEq v4 v4 <|
          grdEq v8 v8 <|
          grdEq v10 v10 <|
          grdEq v14 v14 <|
          grdEq (α := List UInt8) ([]) ([]) <|
          grdEq (α := Int) 0 0 <|
          grdEq (α := Int) 0 0 <|
          grdEq (α := Int) 0 0 <|
          grdEq (α := List UInt8) ([]) ([]) <|
          some v12) fun ttl_16 =>
      bnd (F_ref05_Expand msg_1 (Go.IntKind.i64.wrap (v4 + 10)) v14 v8) fun (v17, v18) =>
      if (v18 != 0) = true then
        some ((([], (0, (0, (0, [])))), (0, v18)))
      else
        some (((v3, (v8, (v10, (ttl_16, v17)))), (Go.IntKind.i64.wrap (Go.IntKind.i64.wrap (v4 + 10) + v14), 0)))
def ann_ref06_Decode : List (List Nat × Ann) := [([30], ⟨none, [(.normal, ⟨(.cons (.keep .str) (anyN 3 (.cons (.ptr 0 0) (anyN 2 (.cons (.keep .str) (.cons (.keep (.int .i64)) (anyN 3 (.cons (.keep (.int .i64)) (anyN 1 (.cons (.keep (.int .i64)) (anyN 1 (.cons (.ty (.int .i64)) (anyN 1 (.cons (.keep (.int .i64)) (anyN 75 .nil))))))))))))))), [.cells 68 true (.cons (.keep .str) (.cons (.keep (.int .i64)) (.cons (.keep (.int .i64)) (.cons (.keep (.int .i64)) (.cons (.keep .str) .nil)))))], [], []⟩)]⟩)]
@[reducible] def fs_ref06_Decode : List (Nat × SFn) := [(75, .pure [.str, (.int .i64)] [.str, (.int .i64), (.int .i64)] (fun x => F_ref04_Read x.1 x.2)), (74, .pure [.str, (.int .i64), (.int .i64)] [.str, .bool] (fun x => F_ref01_Take x.1 x.2.1 x.2.2)), (48, .pure [.str, (.int .i64), (.int .i64)] [(.int .i64), .bool] (fun x => F_ref01_Get x.1 x.2.1 x.2.2)), (94, .pure [.str, (.int .i64), (.int .i64), (.int .i64)] [.str, (.int .i64)] (fun x => F_ref05_Expand x.1 x.2.1 x.2.2.1 x.2.2.2))]
def cfg_ref06_Decode : SCfg := SCfg.of (fs_ref06_Decode ++ inlL) ann_ref06_Decode keepL
theorem eq_ref06_Decode (x : HL [.str, (.int .i64)]) : fnK cfg_ref06_Decode Tryz.prog 100000 76 [.str, (.int .i64)] [tRR, (.int .i64), (.int .i64)] x = (fun x => F_ref06_Decode x.1 x.2) x := by kernel_rfl
theorem told_ref06_Decode : Told CC Tryz.prog 76 [.str, (.int .i64)] [tRR, (.int .i64), (.int .i64)] (fun x => F_ref06_Decode x.1 x.2) := told_of (gok (an := ann_ref06_Decode) (fs := fs_ref06_Decode) ⟨told_ref04_Read, told_ref01_Take, told_ref01_Get, told_ref05_Expand, trivial⟩) rfl rfl eq_ref06_Decode
def step_ref08_section_0 (s_1 : List UInt8) (many_3 : Int) : (Int × (List ((List UInt8 × (Int × (Int × (Int × List UInt8))))) × Int)) → Option ((Int × (List ((List UInt8 × (Int × (Int × (Int × List UInt8))))) × Int)) ⊕ ((Int × Int) ⊕ (Int × List ((List UInt8 × (Int × (Int × (Int × List UInt8)))))))) := fun (at_4, out_5, i_6) =>
  if decide (i_6 < many_3) = true then
    bnd (F_ref06_Decode s_1 at_4) fun (v7, v8, v9) =>
    if (v9 != 0) = true then
      some (.inr (.inl ((0, v9))))
    else
      grd ((out_5.length + [(v7.1, v7.2.1, v7.2.2.1, v7.2.2.2.1, v7.2.2.2.2)].length) * 56 ≤ roomLim) <|
      grdEq s_1 s_1 <|
      grdEq many_3 many_3 <|
      some (.inl ((v8, (out_5 ++ [(v7.1, v7.2.1, v7.2.2.1, v7.2.2.2.1, v7.2.2.2.2)], Go.IntKind.i64.wrap (i_6 + 1)))))
  else
    some (.inr (.inr ((at_4, out_5))))
def F_ref08_section (s_1 : List UInt8) (at_2 : Int) (many_3 : Int) : Option ((List ((List UInt8 × (Int × (Int × (Int × List UInt8))))) × (Int × Int))) :=
  bnd (loopS (step_ref08_section_0 s_1 many_3) ((at_2, ([], 0)))) fun o10 =>
  match o10 with
  | .inl (s7_11, s8_12) =>
    some (([], (s7_11, s8_12)))
  | .inr (at_13, out_14) =>
    some ((out_14, (at_13, 0)))
def ann_ref08_section : List (List Nat × Ann) := [([8], ⟨some ⟨(.cons (.keep .str) (.cons (.ty (.int .i64)) (.cons (.keep (.int .i64)) (anyN 6 (.cons (.own tRR 0 true) (.cons (.ty (.int .i64)) (anyN 25 .nil))))))), [], [⟨⟨0, tRR, 68, true, true⟩, true⟩], []⟩, [(.ret, ⟨(anyN 6 (.cons .nill (.cons (.ty (.int .i64)) (.cons (.ty (.int .i64)) (anyN 27 .nil))))), [], [⟨⟨0, tRR, 68, true, true⟩, false⟩], []⟩), (.exit 0, ⟨(anyN 1 (.cons (.ty (.int .i64)) (anyN 7 (.cons (.own tRR 0 true) (anyN 26 .nil))))), [], [⟨⟨0, tRR, 68, true, true⟩, false⟩], []⟩)]⟩)]
@[reducible] def fs_ref08_section : List (Nat × SFn) := [(76, .pure [.str, (.int .i64)] [tRR, (.int .i64), (.int .i64)] (fun x => F_ref06_Decode x.1 x.2))]
def cfg_ref08_section : SCfg := SCfg.of (fs_ref08_section ++ inlL) ann_ref08_section keepL
theorem eq_ref08_section (x : HL [.str, (.int .i64), (.int .i64)]) : fnK cfg_ref08_section Tryz.prog 100000 50 [.str, (.int .i64), (.int .i64)] [(.list tRR), (.int .i64), (.int .i64)] x = (fun x => F_ref08_section x.1 x.2.1 x.2.2) x := by kernel_rfl
theorem told_ref08_section : Told CC Tryz.prog 50 [.str, (.int .i64), (.int .i64)] [(.list tRR), (.int .i64), (.int .i64)] (fun x => F_ref08_section x.1 x.2.1 x.2.2) := told_of (gok (an := ann_ref08_section) (fs := fs_ref08_section) ⟨told_ref06_Decode, trivial⟩) rfl rfl eq_ref08_section
def F_ref08_Decode (s_1 : List UInt8) : Option (((Int × (Int × (List ((List UInt8 × (Int × Int))) × (List ((List UInt8 × (Int × (Int × (Int × List UInt8))))) × (List ((List UInt8 × (Int × (Int × (Int × List UInt8))))) × List ((List UInt8 × (Int × (Int × (Int × List UInt8)))))))))) × Int)) :=
  if decide (65535 < (↑s_1.length : Int)) = true then
    some (((0, (0, ([], ([], ([], []))))), 6))
  else
    bnd (F_ref08_Head s_1) fun (v2, v3, v4) =>
    if (!v4) = true then
      some (((0, (0, ([], ([], ([], []))))), 2))
    else
      bnd (F_ref01_Get s_1 4 2) fun (v5, v6) =>
      bnd (F_ref01_Get s_1 6 2) fun (v7, v8) =>
      bnd (F_ref01_Get s_1 8 2) fun (v9, v10) =>
      bnd (F_ref01_Get s_1 10 2) fun (v11, v12) =>
      bnd (F_ref08_questions s_1 12 v5) fun (v13, v14, v15) =>
      if (v15 != 0) = true then
        some (((0, (0, ([], ([], ([], []))))), v15))
      else
        bnd (F_ref08_section s_1 v14 v7) fun (v16, v17, v18) =>
        if (v18 != 0) = true then
          some (((0, (0, ([], ([], ([], []))))), v18))
        else
          bnd (F_ref08_section s_1 v17 v9) fun (v19, v20, v21) =>
          if (v21 != 0) = true then
            some (((0, (0, ([], ([], ([], []))))), v21))
          else
            bnd (F_ref08_section s_1 v20 v11) fun (v22, v23, v24) =>
            if (v24 != 0) = true then
              some (((0, (0, ([], ([], ([], []))))), v24))
            else
              if (v23 != (↑s_1.length : Int)) = true then
                some (((0, (0, ([], ([], ([], []))))), 5))
              else
                some (((v2, (v3, (v13, (v16, (v19, v22))))), 0))
def ann_ref08_Decode : List (List Nat × Ann) := [([26], ⟨none, []⟩), ([26, 1000000], ⟨none, []⟩), ([26, 1000000, 1000000], ⟨none, []⟩), ([26, 1000000, 1000000, 1000000], ⟨none, []⟩), ([26, 1000000, 1000000, 1000000, 1000000], ⟨none, []⟩)]
@[reducible] def fs_ref08_Decode : List (Nat × SFn) := [(47, .pure [.str] [(.int .i64), (.int .i64), .bool] (fun x => F_ref08_Head x)), (48, .pure [.str, (.int .i64), (.int .i64)] [(.int .i64), .bool] (fun x => F_ref01_Get x.1 x.2.1 x.2.2)), (49, .pure [.str, (.int .i64), (.int .i64)] [(.list tQ), (.int .i64), (.int .i64)] (fun x => F_ref08_questions x.1 x.2.1 x.2.2)), (50, .pure [.str, (.int .i64), (.int .i64)] [(.list tRR), (.int .i64), (.int .i64)] (fun x => F_ref08_section x.1 x.2.1 x.2.2))]
def cfg_ref08_Decode : SCfg := SCfg.of (fs_ref08_Decode ++ inlL) ann_ref08_Decode keepL
theorem eq_ref08_Decode (x : HL [.str]) : fnK cfg_ref08_Decode Tryz.prog 100000 27 [.str] [tM, (.int .i64)] x = (fun x => F_ref08_Decode x) x := by kernel_rfl
theorem told_ref08_Decode : Told CC Tryz.prog 27 [.str] [tM, (.int .i64)] (fun x => F_ref08_Decode x) := told_of (gok (an := ann_ref08_Decode) (fs := fs_ref08_Decode) ⟨told_ref08_Head, told_ref01_Get, told_ref08_questions, told_ref08_section, trivial⟩) rfl rfl eq_ref08_Decode
end
end Go.Abs

set_option maxRecDepth 100000
namespace Go.Abs
open Go Go.Proofs
noncomputable section
def F_ref05_Check (kind_1 : Int) (d_2 : List UInt8) : Option (Bool) :=
  if decide (65535 < (↑d_2.length : Int)) = true then
    some false
  else
    bnd (F_ref05_Expand d_2 0 (↑d_2.length : Int) kind_1) fun (v3, v4) =>
    if (v4 == 0) = true then
      some (v3 == d_2)
    else
      some false
def ann_ref05_Check : List (List Nat × Ann) := []
@[reducible] def fs_ref05_Check : List (Nat × SFn) := [(94, .pure [.str, (.int .i64), (.int .i64), (.int .i64)] [.str, (.int .i64)] (fun x => F_ref05_Expand x.1 x.2.1 x.2.2.1 x.2.2.2))]
def cfg_ref05_Check : SCfg := SCfg.of (fs_ref05_Check ++ inlL) ann_ref05_Check keepL
theorem eq_ref05_Check (x : HL [(.int .i64), .str]) : fnK cfg_ref05_Check Tryz.prog 100000 112 [(.int .i64), .str] [.bool] x = (fun x => F_ref05_Check x.1 x.2) x := by kernel_rfl
theorem told_ref05_Check : Told CC Tryz.prog 112 [(.int .i64), .str] [.bool] (fun x => F_ref05_Check x.1 x.2) := told_of (gok (an := ann_ref05_Check) (fs := fs_ref05_Check) ⟨told_ref05_Expand, trivial⟩) rfl rfl eq_ref05_Check
def F_ref06_Check (r_1 : (List UInt8 × (Int × (Int × (Int × List UInt8))))) : Option (Bool) :=
  bnd (F_ref02_Check r_1.1) fun v2 =>
  if v2 = true then
    if decide (0 ≤ r_1.2.1) = true then
      if decide (r_1.2.1 ≤ 65535) = true then
        if decide (0 ≤ r_1.2.2.1) = true then
          if decide (r_1.2.2.1 ≤ 65535) = true then
            if decide (0 ≤ r_1.2.2.2.1) = true then
              if decide (r_1.2.2.2.1 < 2147483648) = true then
                bnd (F_ref05_Check r_1.2.1 r_1.2.2.2.2) fun v3 =>
                some v3
              else
                some false
            else
              some false
          else
            some false
        else
          some false
      else
        some false
    else
      some false
  else
    some false
def ann_ref06_Check : List (List Nat × Ann) := []
@[reducible] def fs_ref06_Check : List (Nat × SFn) := [(29, .pure [.str] [.bool] (fun x => F_ref02_Check x)), (112, .pure [(.int .i64), .str] [.bool] (fun x => F_ref05_Check x.1 x.2))]
def cfg_ref06_Check : SCfg := SCfg.of (fs_ref06_Check ++ inlL) ann_ref06_Check keepL
theorem eq_ref06_Check (x : HL [tRR]) : fnK cfg_ref06_Check Tryz.prog 100000 92 [tRR] [.bool] x = (fun x => F_ref06_Check x) x := by kernel_rfl
theorem told_ref06_Check : Told CC Tryz.prog 92 [tRR] [.bool] (fun x => F_ref06_Check x) := told_of (gok (an := ann_ref06_Check) (fs := fs_ref06_Check) ⟨told_ref02_Check, told_ref05_Check, trivial⟩) rfl rfl eq_ref06_Check
def step_ref08_records_0 (l_1 : List (List UInt8 × Int × Int × Int × List UInt8)) : Int → Option (Int ⊕ (Bool ⊕ Unit)) := fun i_2 =>
  if decide (i_2 < (↑l_1.length : Int)) = true then
    natOf i_2 fun n3 =>
    bnd (l_1[n3]?) fun x4 =>
    bnd (F_ref06_Check (x4.1, x4.2.1, x4.2.2.1, x4.2.2.2.1, x4.2.2.2.2)) fun v5 =>
    if (!v5) = true then
      some (.inr (.inl false))
    else
      grdEq l_1 l_1 <|
      some (.inl (Go.IntKind.i64.wrap (i_2 + 1)))
  else
    grdEq l_1 l_1 <|
    some (.inr (.inr (())))
def F_ref08_records (l_1 : List ((List UInt8 × (Int × (Int × (Int × List UInt8)))))) : Option (Bool) :=
  bnd (loopS (step_ref08_records_0 l_1) 0) fun o6 =>
  match o6 with
  | .inl s2_7 =>
    some s2_7
  | .inr _ =>
    bnd (F_ref08_small (↑l_1.length : Int)) fun v8 =>
    some v8
def ann_ref08_records : List (List Nat × Ann) := [([6], ⟨some ⟨(.cons (.keep (.list tRR)) (anyN 2 (.cons (.ty (.int .i64)) (anyN 15 .nil)))), [], [], []⟩, [(.ret, ⟨(anyN 2 (.cons (.ty .bool) (anyN 16 .nil))), [], [], []⟩), (.exit 0, ⟨(.cons (.keep (.list tRR)) (anyN 18 .nil)), [], [], []⟩)]⟩)]
@[reducible] def fs_ref08_records : List (Nat × SFn) := [(92, .pure [tRR] [.bool] (fun x => F_ref06_Check x)), (89, .pure [(.int .i64)] [.bool] (fun x => F_ref08_small x))]
def cfg_ref08_records : SCfg := SCfg.of (fs_ref08_records ++ inlL) ann_ref08_records keepL
theorem eq_ref08_records (x : HL [(.list tRR)]) : fnK cfg_ref08_records Tryz.prog 100000 90 [(.list tRR)] [.bool] x = (fun x => F_ref08_records x) x := by kernel_rfl
theorem told_ref08_records : Told CC Tryz.prog 90 [(.list tRR)] [.bool] (fun x => F_ref08_records x) := told_of (gok (an := ann_ref08_records) (fs := fs_ref08_records) ⟨told_ref06_Check, told_ref08_small, trivial⟩) rfl rfl eq_ref08_records
def step_ref08_Check_0 (m_1 : Int × Int × List (List UInt8 × Int × Int) × List (List UInt8 × Int × Int × Int × List UInt8) × List (List UInt8 × Int × Int × Int × List UInt8) × List (List UInt8 × Int × Int × Int × List UInt8)) : Int → Option (Int ⊕ (Bool ⊕ Unit)) := fun i_2 =>
  if decide (i_2 < (↑(List.length m_1.2.2.1) : Int)) = true then
    natOf i_2 fun n3 =>
    bnd (m_1.2.2.1[n3]?) fun x4 =>
    bnd (F_ref02_Check x4.1) fun v5 =>
    if (!v5) = false then
      bnd (F_ref08_small x4.2.1) fun v6 =>
      if (!v6) = false then
        bnd (F_ref08_small x4.2.2) fun v7 =>
        if (!v7) = true then
          grdEq m_1.1 m_1.1 <|
          grdEq m_1.2.1 m_1.2.1 <|
          grdEq m_1.2.2.1 m_1.2.2.1 <|
          grdEq m_1.2.2.2.1 m_1.2.2.2.1 <|
          grdEq m_1.2.2.2.2.1 m_1.2.2.2.2.1 <|
          grdEq m_1.2.2.2.2.2 m_1.2.2.2.2.2 <|
          some (.inr (.inl false))
        else
          grdEq m_1.1 m_1.1 <|
          grdEq m_1.2.1 m_1.2.1 <|
          grdEq m_1.2.2.1 m_1.2.2.1 <|
          grdEq m_1.2.2.2.1 m_1.2.2.2.1 <|
          grdEq m_1.2.2.2.2.1 m_1.2.2.2.2.1 <|
          grdEq m_1.2.2.2.2.2 m_1.2.2.2.2.2 <|
          some (.inl (Go.IntKind.i64.wrap (i_2 + 1)))
      else
        grdEq m_1.1 m_1.1 <|
        grdEq m_1.2.1 m_1.2.1 <|
        grdEq m_1.2.2.1 m_1.2.2.1 <|
        grdEq m_1.2.2.2.1 m_1.2.2.2.1 <|
        grdEq m_1.2.2.2.2.1 m_1.2.2.2.2.1 <|
        grdEq m_1.2.2.2.2.2 m_1.2.2.2.2.2 <|
        some (.inr (.inl false))
    else
      grdEq m_1.1 m_1.1 <|
      grdEq m_1.2.1 m_1.2.1 <|
      grdEq m_1.2.2.1 m_1.2.2.1 <|
      grdEq m_1.2.2.2.1 m_1.2.2.2.1 <|
      grdEq m_1.2.2.2.2.1 m_1.2.2.2.2.1 <|
      grdEq m_1.2.2.2.2.2 m_1.2.2.2.2.2 <|
      some (.inr (.inl false))
  else
    grdEq m_1.1 m_1.1 <|
    grdEq m_1.2.1 m_1.2.1 <|
    grdEq m_1.2.2.1 m_1.2.2.1 <|
    grdEq m_1.2.2.2.1 m_1.2.2.2.1 <|
    grdEq m_1.2.2.2.2.1 m_1.2.2.2.2.1 <|
    grdEq m_1.2.2.2.2.2 m_1.2.2.2.2.2 <|
    some (.inr (.inr (())))
def F_ref08_Check (m_1 : (Int × (Int × (List ((List UInt8 × (Int × Int))) × (List ((List UInt8 × (Int × (Int × (Int × List UInt8))))) × (List ((List UInt8 × (Int × (Int × (Int × List UInt8))))) × List ((List UInt8 × (Int × (Int × (Int × List UInt8))))))))))) : Option (Bool) :=
  bnd (loopS (step_ref08_Check_0 m_1) 0) fun o8 =>
  match o8 with
  | .inl s2_9 =>
    some s2_9
  | .inr _ =>
    bnd (F_ref08_small m_1.1) fun v10 =>
    if v10 = true then
      bnd (F_ref08_small m_1.2.1) fun v11 =>
      if v11 = true then
        bnd (F_ref08_small (↑(List.length m_1.2.2.1) : Int)) fun v12 =>
        if v12 = true then
          bnd (F_ref08_records m_1.2.2.2.1) fun v13 =>
          if v13 = true then
            bnd (F_ref08_records m_1.2.2.2.2.1) fun v14 =>
            if v14 = true then
              bnd (F_ref08_records m_1.2.2.2.2.2) fun v15 =>
              some v15
            else
              some false
          else
            some false
        else
          some false
      else
        some false
    else
      some false
def ann_ref08_Check : List (List Nat × Ann) := [([6], ⟨some ⟨(anyN 1 (.cons (.ptr 0 0) (anyN 1 (.cons (.ty (.int .i64)) (anyN 58 .nil))))), [.cells 32 true (.cons (.keep (.int .i64)) (.cons (.keep (.int .i64)) (.cons (.keep (.list tQ)) (.cons (.keep (.list tRR)) (.cons (.keep (.list tRR)) (.cons (.keep (.list tRR)) .nil))))))], [], []⟩, [(.ret, ⟨(anyN 2 (.cons (.ty .bool) (anyN 59 .nil))), [.cells 32 true (.cons (.keep (.int .i64)) (.cons (.keep (.int .i64)) (.cons (.keep (.list tQ)) (.cons (.keep (.list tRR)) (.cons (.keep (.list tRR)) (.cons (.keep (.list tRR)) .nil))))))], [], []⟩), (.exit 0, ⟨(anyN 1 (.cons (.ptr 0 0) (anyN 60 .nil))), [.cells 32 true (.cons (.keep (.int .i64)) (.cons (.keep (.int .i64)) (.cons (.keep (.list tQ)) (.cons (.keep (.list tRR)) (.cons (.keep (.list tRR)) (.cons (.keep (.list tRR)) .nil))))))], [], []⟩)]⟩)]
@[reducible] def fs_ref08_Check : List (Nat × SFn) := [(29, .pure [.str] [.bool] (fun x => F_ref02_Check x)), (89, .pure [(.int .i64)] [.bool] (fun x => F_ref08_small x)), (90, .pure [(.list tRR)] [.bool] (fun x => F_ref08_records x))]
def cfg_ref08_Check : SCfg := SCfg.of (fs_ref08_Check ++ inlL) ann_ref08_Check keepL
theorem eq_ref08_Check (x : HL [tM]) : fnK cfg_ref08_Check Tryz.prog 100000 70 [tM] [.bool] x = (fun x => F_ref08_Check x) x := by kernel_rfl
theorem told_ref08_Check : Told CC Tryz.prog 70 [tM] [.bool] (fun x => F_ref08_Check x) := told_of (gok (an := ann_ref08_Check) (fs := fs_ref08_Check) ⟨told_ref02_Check, told_ref08_small, told_ref08_records, trivial⟩) rfl rfl eq_ref08_Check
def step_ref02_Join_0 (l_1 : List (List UInt8)) : (List UInt8 × Int) → Option ((List UInt8 × Int) ⊕ (List UInt8 ⊕ (List UInt8 × Bool))) := fun (s_2, i_3) =>
  if decide (i_3 < (↑l_1.length : Int)) = true then
    bnd (α := ((List UInt8 × Bool) ⊕ Unit)) (natOf i_3 fun n4 =>
      bnd (l_1[n4]?) fun x5 =>
      if decide ((↑(List.length x5) : Int) < 1) = false then
        natOf i_3 fun n6 =>
        bnd (l_1[n6]?) fun x7 =>
        if decide (63 < (↑(List.length x7) : Int)) = false then
          if decide (255 < (↑s_2.length : Int)) = true then
            some (.inl (([], false)))
          else
            grdEq l_1 l_1 <|
            grdEq s_2 s_2 <|
            grdEq i_3 i_3 <|
            some (.inr (()))
        else
          some (.inl (([], false)))
      else
        some (.inl (([], false)))) fun o8 =>
    match o8 with
    | .inl (s2_9, s3_10) =>
      some (.inr (.inr ((s2_9, s3_10))))
    | .inr _ =>
      natOf i_3 fun n11 =>
      bnd (l_1[n11]?) fun x12 =>
      grd (s_2.length + (List.map (fun n => UInt8.ofNat (Int.toNat n)) [Go.IntKind.u8.wrap (↑(List.length x12) : Int)]).length ≤ maxStr) <|
      natOf i_3 fun n13 =>
      bnd (l_1[n13]?) fun x14 =>
      grd ((s_2 ++ List.map (fun n => UInt8.ofNat (Int.toNat n)) [Go.IntKind.u8.wrap (↑(List.length x12) : Int)]).length + List.length x14 ≤ maxStr) <|
      grdEq l_1 l_1 <|
      some (.inl ((s_2 ++ List.map (fun n => UInt8.ofNat (Int.toNat n)) [Go.IntKind.u8.wrap (↑(List.length x12) : Int)] ++ x14, Go.IntKind.i64.wrap (i_3 + 1))))
  else
    some (.inr (.inl s_2))
def F_ref02_Join (l_1 : List (List UInt8)) : Option ((List UInt8 × Bool)) :=
  bnd (loopS (step_ref02_Join_0 l_1) (([], 0))) fun o15 =>
  match o15 with
  | .inl s_16 =>
    grd (s_16.length + 1 ≤ maxStr) <|
    if decide (255 < (↑(s_16 ++ [0]).length : Int)) = true then
      some (([], false))
    else
      some ((s_16 ++ [0], true))
  | .inr (s2_17, s3_18) =>
    some ((s2_17, s3_18))
def ann_ref02_Join : List (List Nat × Ann) := [([17], ⟨none, [(.ret, ⟨(anyN 2 (.cons (.ty .str) (.cons (.ty .bool) (anyN 48 .nil)))), [], [], []⟩), (.normal, ⟨(.cons (.keep (.list .str)) (anyN 3 (.cons (.keep .str) (.cons (.keep (.int .i64)) (anyN 46 .nil))))), [], [], []⟩)]⟩), ([8], ⟨some ⟨(.cons (.keep (.list .str)) (anyN 3 (.cons (.ty .str) (.cons (.ty (.int .i64)) (anyN 46 .nil))))), [], [], []⟩, [(.exit 0, ⟨(anyN 4 (.cons (.ty .str) (anyN 47 .nil))), [], [], []⟩), (.ret, ⟨(anyN 2 (.cons (.ty .str) (.cons (.ty .bool) (anyN 48 .nil)))), [], [], []⟩)]⟩)]
def cfg_ref02_Join : SCfg := SCfg.of ([] ++ inlL) ann_ref02_Join keepL
theorem eq_ref02_Join (x : HL [(.list .str)]) : fnK cfg_ref02_Join Tryz.prog 100000 121 [(.list .str)] [.str, .bool] x = (fun x => F_ref02_Join x) x := by kernel_rfl
theorem told_ref02_Join : Told CC Tryz.prog 121 [(.list .str)] [.str, .bool] (fun x => F_ref02_Join x) := told_of (gok (an := ann_ref02_Join) (fs := []) trivial) rfl rfl eq_ref02_Join
def F_ref02_Up (n_1 : List UInt8) : Option ((List UInt8 × Bool)) :=
  bnd (F_ref02_Labels n_1) fun (v2, v3) =>
  bnd (α := ((List UInt8 × Bool) ⊕ Unit)) (if (!v3) = false then
      if ((↑v2.length : Int) == 0) = true then
        some (.inl (([], false)))
      else
        grdEq v2 v2 <|
        some (.inr (()))
    else
      some (.inl (([], false)))) fun o4 =>
  match o4 with
  | .inl (s2_5, s3_6) =>
    some ((s2_5, s3_6))
  | .inr _ =>
    grd (1 ≤ v2.length) <|
    bnd (F_ref02_Join (List.drop 1 v2)) fun (v7, v8) =>
    some ((v7, v8))
def ann_ref02_Up : List (List Nat × Ann) := [([4], ⟨none, [(.ret, ⟨(anyN 2 (.cons (.ty .str) (.cons (.ty .bool) (anyN 19 .nil)))), [], [], []⟩), (.normal, ⟨(anyN 4 (.cons (.keep (.list .str)) (anyN 18 .nil))), [], [], []⟩)]⟩)]
@[reducible] def fs_ref02_Up : List (Nat × SFn) := [(53, .pure [.str] [(.list .str), .bool] (fun x => F_ref02_Labels x)), (121, .pure [(.list .str)] [.str, .bool] (fun x => F_ref02_Join x))]
def cfg_ref02_Up : SCfg := SCfg.of (fs_ref02_Up ++ inlL) ann_ref02_Up keepL
theorem eq_ref02_Up (x : HL [.str]) : fnK cfg_ref02_Up Tryz.prog 100000 111 [.str] [.str, .bool] x = (fun x => F_ref02_Up x) x := by kernel_rfl
theorem told_ref02_Up : Told CC Tryz.prog 111 [.str] [.str, .bool] (fun x => F_ref02_Up x) := told_of (gok (an := ann_ref02_Up) (fs := fs_ref02_Up) ⟨told_ref02_Labels, told_ref02_Join, trivial⟩) rfl rfl eq_ref02_Up
def step_ref04_Write_1 (base_1 : List UInt8) (at_2 : Int) (n_3 : List UInt8) (rest_8 : List UInt8) : List UInt8 → Option (List UInt8 ⊕ (List UInt8 ⊕ Unit)) := fun end_9 =>
  if decide (1 < (↑end_9.length : Int)) = true then
    bnd (F_ref02_Same end_9 rest_8) fun v10 =>
    if v10 = true then
      natOf (Go.IntKind.i64.wrap ((↑n_3.length : Int) - (↑rest_8.length : Int))) fun n11 =>
      grd (n11 ≤ n_3.length) <|
      bnd (F_ref01_Put (Go.IntKind.i64.wrap (Go.IntKind.i64.wrap (Go.IntKind.i64.wrap (49152 + at_2) + (↑base_1.length : Int)) - (↑end_9.length : Int))) 2) fun v12 =>
      grd ((List.take n11 n_3).length + v12.length ≤ maxStr) <|
      some (.inr (.inl (List.take n11 n_3 ++ v12)))
    else
      bnd (F_ref02_Up end_9) fun (v13, v14) =>
      grdEq base_1 base_1 <|
      grdEq at_2 at_2 <|
      grdEq n_3 n_3 <|
      grdEq rest_8 rest_8 <|
      some (.inl v13)
  else
    grdEq base_1 base_1 <|
    grdEq at_2 at_2 <|
    grdEq n_3 n_3 <|
    grdEq rest_8 rest_8 <|
    some (.inr (.inr (())))
def step_ref04_Write_0 (base_1 : List UInt8) (at_2 : Int) (n_3 : List UInt8) : List UInt8 → Option (List UInt8 ⊕ (Unit ⊕ List UInt8)) := fun rest_8 =>
  if decide (1 < (↑rest_8.length : Int)) = true then
    bnd (loopS (step_ref04_Write_1 base_1 at_2 n_3 rest_8) base_1) fun o15 =>
    match o15 with
    | .inl s6_16 =>
      some (.inr (.inr s6_16))
    | .inr _ =>
      bnd (F_ref02_Up rest_8) fun (v17, v18) =>
      grdEq base_1 base_1 <|
      grdEq at_2 at_2 <|
      grdEq n_3 n_3 <|
      some (.inl v17)
  else
    grdEq n_3 n_3 <|
    some (.inr (.inl (())))
def F_ref04_Write (base_1 : List UInt8) (at_2 : Int) (n_3 : List UInt8) : Option (List UInt8) :=
  bnd (α := (List UInt8 ⊕ Unit)) (bnd (F_ref02_Check base_1) fun v4 =>
    if (!v4) = false then
      bnd (F_ref02_Check n_3) fun v5 =>
      if (!v5) = false then
        if decide (at_2 < 0) = false then
          if decide (16000 < at_2) = true then
            some (.inl ([]))
          else
            grdEq base_1 base_1 <|
            grdEq at_2 at_2 <|
            grdEq n_3 n_3 <|
            some (.inr (()))
        else
          some (.inl ([]))
      else
        some (.inl ([]))
    else
      some (.inl ([]))) fun o6 =>
  match o6 with
  | .inl s6_7 =>
    some s6_7
  | .inr _ =>
    bnd (loopS (step_ref04_Write_0 base_1 at_2 n_3) n_3) fun o19 =>
    match o19 with
    | .inl _ =>
      some n_3
    | .inr s6_20 =>
      some s6_20
def ann_ref04_Write : List (List Nat × Ann) := [([2], ⟨none, [(.ret, ⟨(anyN 6 (.cons (.ty .str) (anyN 65 .nil))), [], [], []⟩), (.normal, ⟨(.cons (.keep .str) (.cons (.keep (.int .i64)) (.cons (.keep .str) (anyN 69 .nil)))), [], [], []⟩)]⟩), ([14], ⟨some ⟨(.cons (.keep .str) (.cons (.keep (.int .i64)) (.cons (.keep .str) (anyN 4 (.cons (.ty .str) (anyN 64 .nil)))))), [], [], []⟩, [(.exit 0, ⟨(anyN 2 (.cons (.keep .str) (anyN 69 .nil))), [], [], []⟩), (.ret, ⟨(anyN 6 (.cons (.ty .str) (anyN 65 .nil))), [], [], []⟩)]⟩), ([26], ⟨some ⟨(.cons (.keep .str) (.cons (.keep (.int .i64)) (.cons (.keep .str) (anyN 4 (.cons (.keep .str) (.cons (.ty .str) (anyN 63 .nil))))))), [], [], []⟩, [(.ret, ⟨(anyN 6 (.cons (.ty .str) (anyN 65 .nil))), [], [], []⟩), (.exit 2, ⟨(.cons (.keep .str) (.cons (.keep (.int .i64)) (.cons (.keep .str) (anyN 4 (.cons (.keep .str) (anyN 64 .nil)))))), [], [], []⟩)]⟩)]
@[reducible] def fs_ref04_Write : List (Nat × SFn) := [(110, .pure [.str, .str] [.bool] (fun x => F_ref02_Same x.1 x.2)), (71, .pure [(.int .i64), (.int .i64)] [.str] (fun x => F_ref01_Put x.1 x.2)), (111, .pure [.str] [.str, .bool] (fun x => F_ref02_Up x)), (29, .pure [.str] [.bool] (fun x => F_ref02_Check x))]
def cfg_ref04_Write : SCfg := SCfg.of (fs_ref04_Write ++ inlL) ann_ref04_Write keepL
theorem eq_ref04_Write (x : HL [.str, (.int .i64), .str]) : fnK cfg_ref04_Write Tryz.prog 100000 91 [.str, (.int .i64), .str] [.str] x = (fun x => F_ref04_Write x.1 x.2.1 x.2.2) x := by kernel_rfl
theorem told_ref04_Write : Told CC Tryz.prog 91 [.str, (.int .i64), .str] [.str] (fun x => F_ref04_Write x.1 x.2.1 x.2.2) := told_of (gok (an := ann_ref04_Write) (fs := fs_ref04_Write) ⟨told_ref02_Same, told_ref01_Put, told_ref02_Up, told_ref02_Check, trivial⟩) rfl rfl eq_ref04_Write
def F_ref06_Encode (base_1 : List UInt8) (at_2 : Int) (r_3 : (List UInt8 × (Int × (Int × (Int × List UInt8))))) : Option (List UInt8) :=
  bnd (F_ref04_Write base_1 at_2 r_3.1) fun v4 =>
  bnd (α := (List UInt8 ⊕ Unit)) (bnd (F_ref06_Check (r_3.1, r_3.2.1, r_3.2.2.1, r_3.2.2.2.1, r_3.2.2.2.2)) fun v5 =>
    if (!v5) = false then
      if (v4 == []) = true then
        grdEq r_3.1 r_3.1 <|
        grdEq r_3.2.1 r_3.2.1 <|
        grdEq r_3.2.2.1 r_3.2.2.1 <|
        grdEq r_3.2.2.2.1 r_3.2.2.2.1 <|
        grdEq r_3.2.2.2.2 r_3.2.2.2.2 <|
        some (.inl ([]))
      else
        grdEq v4 v4 <|
        grdEq r_3.1 r_3.1 <|
        grdEq r_3.2.1 r_3.2.1 <|
        grdEq r_3.2.2.1 r_3.2.2.1 <|
        grdEq r_3.2.2.2.1 r_3.2.2.2.1 <|
        grdEq r_3.2.2.2.2 r_3.2.2.2.2 <|
        some (.inr (()))
    else
      grdEq r_3.1 r_3.1 <|
      grdEq r_3.2.1 r_3.2.1 <|
      grdEq r_3.2.2.1 r_3.2.2.1 <|
      grdEq r_3.2.2.2.1 r_3.2.2.2.1 <|
      grdEq r_3.2.2.2.2 r_3.2.2.2.2 <|
      some (.inl ([]))) fun o6 =>
  match o6 with
  | .inl s6_7 =>
    some s6_7
  | .inr _ =>
    bnd (F_ref01_Put r_3.2.1 2) fun v8 =>
    grd (v4.length + v8.length ≤ maxStr) <|
    bnd (F_ref01_Put r_3.2.2.1 2) fun v9 =>
    grd ((v4 ++ v8).length + v9.length ≤ maxStr) <|
    bnd (F_ref01_Put r_3.2.2.2.1 4) fun v10 =>
    grd ((v4 ++ v8 ++ v9).length + v10.length ≤ maxStr) <|
    bnd (F_ref01_Put (↑(List.length r_3.2.2.2.2) : Int) 2) fun v11 =>
    grd ((v4 ++ v8 ++ v9 ++ v10).length + v11.length ≤ maxStr) <|
    grd ((v4 ++ v8 ++ v9 ++ v10 ++ v11).length + List.length r_3.2.2.2.2 ≤ maxStr) <|
    some (v4 ++ v8 ++ v9 ++ v10 ++ v11 ++ r_3.2.2.2.2)
def ann_ref06_Encode : List (List Nat × Ann) := [([4], ⟨none, [(.ret, ⟨(anyN 6 (.cons (.ty .str) (anyN 34 .nil))), [.cells 68 true (.cons (.keep .str) (.cons (.keep (.int .i64)) (.cons (.keep (.int .i64)) (.cons (.keep (.int .i64)) (.cons (.keep .str) .nil)))))], [], []⟩), (.normal, ⟨(anyN 5 (.cons (.ptr 0 0) (anyN 1 (.cons (.keep .str) (anyN 33 .nil))))), [.cells 68 true (.cons (.keep .str) (.cons (.keep (.int .i64)) (.cons (.keep (.int .i64)) (.cons (.keep (.int .i64)) (.cons (.keep .str) .nil)))))], [], []⟩)]⟩)]
@[reducible] def fs_ref06_Encode : List (Nat × SFn) := [(91, .pure [.str, (.int .i64), .str] [.str] (fun x => F_ref04_Write x.1 x.2.1 x.2.2)), (92, .pure [tRR] [.bool] (fun x => F_ref06_Check x)), (71, .pure [(.int .i64), (.int .i64)] [.str] (fun x => F_ref01_Put x.1 x.2))]
def cfg_ref06_Encode : SCfg := SCfg.of (fs_ref06_Encode ++ inlL) ann_ref06_Encode keepL
theorem eq_ref06_Encode (x : HL [.str, (.int .i64), tRR]) : fnK cfg_ref06_Encode Tryz.prog 100000 72 [.str, (.int .i64), tRR] [.str] x = (fun x => F_ref06_Encode x.1 x.2.1 x.2.2) x := by kernel_rfl
theorem told_ref06_Encode : Told CC Tryz.prog 72 [.str, (.int .i64), tRR] [.str] (fun x => F_ref06_Encode x.1 x.2.1 x.2.2) := told_of (gok (an := ann_ref06_Encode) (fs := fs_ref06_Encode) ⟨told_ref04_Write, told_ref06_Check, told_ref01_Put, trivial⟩) rfl rfl eq_ref06_Encode
def step_ref08_Encode_0 (m_1 : Int × Int × List (List UInt8 × Int × Int) × List (List UInt8 × Int × Int × Int × List UInt8) × List (List UInt8 × Int × Int × Int × List UInt8) × List (List UInt8 × Int × Int × Int × List UInt8)) : (List UInt8 × Int) → Option ((List UInt8 × Int) ⊕ List UInt8) := fun (s_9, i_10) =>
  if decide (i_10 < (↑(List.length m_1.2.2.1) : Int)) = true then
    natOf i_10 fun n11 =>
    bnd (m_1.2.2.1[n11]?) fun x12 =>
    grd (s_9.length + List.length x12.1 ≤ maxStr) <|
    natOf i_10 fun n13 =>
    bnd (m_1.2.2.1[n13]?) fun x14 =>
    bnd (F_ref01_Put x14.2.1 2) fun v15 =>
    grd ((s_9 ++ x12.1).length + v15.length ≤ maxStr) <|
    natOf i_10 fun n16 =>
    bnd (m_1.2.2.1[n16]?) fun x17 =>
    bnd (F_ref01_Put x17.2.2 2) fun v18 =>
    grd ((s_9 ++ x12.1 ++ v15).length + v18.length ≤ maxStr) <|
    grdEq m_1.1 m_1.1 <|
    grdEq m_1.2.1 m_1.2.1 <|
    grdEq m_1.2.2.1 m_1.2.2.1 <|
    grdEq m_1.2.2.2.1 m_1.2.2.2.1 <|
    grdEq m_1.2.2.2.2.1 m_1.2.2.2.2.1 <|
    grdEq m_1.2.2.2.2.2 m_1.2.2.2.2.2 <|
    some (.inl ((s_9 ++ x12.1 ++ v15 ++ v18, Go.IntKind.i64.wrap (i_10 + 1))))
  else
    grdEq m_1.1 m_1.1 <|
    grdEq m_1.2.1 m_1.2.1 <|
    grdEq m_1.2.2.1 m_1.2.2.1 <|
    grdEq m_1.2.2.2.1 m_1.2.2.2.1 <|
    grdEq m_1.2.2.2.2.1 m_1.2.2.2.2.1 <|
    grdEq m_1.2.2.2.2.2 m_1.2.2.2.2.2 <|
    some (.inr s_9)
def step_ref08_Encode_1 (m_1 : Int × Int × List (List UInt8 × Int × Int) × List (List UInt8 × Int × Int × Int × List UInt8) × List (List UInt8 × Int × Int × Int × List UInt8) × List (List UInt8 × Int × Int × Int × List UInt8)) : (List UInt8 × (List ((List UInt8 × (Int × (Int × (Int × List UInt8))))) × Int)) → Option ((List UInt8 × (List ((List UInt8 × (Int × (Int × (Int × List UInt8))))) × Int)) ⊕ List UInt8) := fun (s_20, all_21, i_22) =>
  bnd (α := (List ((List UInt8 × (Int × (Int × (Int × List UInt8))))) ⊕ Unit)) (if decide (i_22 < (↑all_21.length : Int)) = true then
      if decide ((↑s_20.length : Int) ≤ 65535) = true then
        grdEq s_20 s_20 <|
        grdEq i_22 i_22 <|
        grdEq m_1.1 m_1.1 <|
        grdEq m_1.2.1 m_1.2.1 <|
        grdEq m_1.2.2.1 m_1.2.2.1 <|
        grdEq m_1.2.2.2.1 m_1.2.2.2.1 <|
        grdEq m_1.2.2.2.2.1 m_1.2.2.2.2.1 <|
        grdEq m_1.2.2.2.2.2 m_1.2.2.2.2.2 <|
        some (.inl all_21)
      else
        grdEq s_20 s_20 <|
        grdEq m_1.1 m_1.1 <|
        grdEq m_1.2.1 m_1.2.1 <|
        grdEq m_1.2.2.1 m_1.2.2.1 <|
        grdEq m_1.2.2.2.1 m_1.2.2.2.1 <|
        grdEq m_1.2.2.2.2.1 m_1.2.2.2.2.1 <|
        grdEq m_1.2.2.2.2.2 m_1.2.2.2.2.2 <|
        some (.inr (()))
    else
      grdEq s_20 s_20 <|
      grdEq m_1.1 m_1.1 <|
      grdEq m_1.2.1 m_1.2.1 <|
      grdEq m_1.2.2.1 m_1.2.2.1 <|
      grdEq m_1.2.2.2.1 m_1.2.2.2.1 <|
      grdEq m_1.2.2.2.2.1 m_1.2.2.2.2.1 <|
      grdEq m_1.2.2.2.2.2 m_1.2.2.2.2.2 <|
      some (.inr (()))) fun o23 =>
  match o23 with
  | .inl all_24 =>
    bnd (F_ref08_Base (m_1.1, m_1.2.1, m_1.2.2.1, m_1.2.2.2.1, m_1.2.2.2.2.1, m_1.2.2.2.2.2)) fun v25 =>
    natOf i_22 fun n26 =>
    bnd (all_24[n26]?) fun x27 =>
    bnd (F_ref06_Encode v25 12 (x27.1, x27.2.1, x27.2.2.1, x27.2.2.2.1, x27.2.2.2.2)) fun v28 =>
    grd (s_20.length + v28.length ≤ maxStr) <|
    grdEq m_1.1 m_1.1 <|
    grdEq m_1.2.1 m_1.2.1 <|
    grdEq m_1.2.2.1 m_1.2.2.1 <|
    grdEq m_1.2.2.2.1 m_1.2.2.2.1 <|
    grdEq m_1.2.2.2.2.1 m_1.2.2.2.2.1 <|
    grdEq m_1.2.2.2.2.2 m_1.2.2.2.2.2 <|
    some (.inl ((s_20 ++ v28, (all_24, Go.IntKind.i64.wrap (i_22 + 1)))))
  | .inr _ =>
    grdEq m_1.1 m_1.1 <|
    grdEq m_1.2.1 m_1.2.1 <|
    grdEq m_1.2.2.1 m_1.2.2.1 <|
    grdEq m_1.2.2.2.1 m_1.2.2.2.1 <|
    grdEq m_1.2.2.2.2.1 m_1.2.2.2.2.1 <|
    grdEq m_1.2.2.2.2.2 m_1.2.2.2.2.2 <|
    some (.inr s_20)
def F_ref08_Encode (m_1 : (Int × (Int × (List ((List UInt8 × (Int × Int))) × (List ((List UInt8 × (Int × (Int × (Int × List UInt8))))) × (List ((List UInt8 × (Int × (Int × (Int × List UInt8))))) × List ((List UInt8 × (Int × (Int × (Int × List UInt8))))))))))) : Option ((List UInt8 × Int)) :=
  bnd (F_ref08_Check (m_1.1, m_1.2.1, m_1.2.2.1, m_1.2.2.2.1, m_1.2.2.2.2.1, m_1.2.2.2.2.2)) fun v2 =>
  if (!v2) = true then
    some (([], 1))
  else
    bnd (F_ref01_Put m_1.1 2) fun v3 =>
    bnd (F_ref01_Put m_1.2.1 2) fun v4 =>
    grd (v3.length + v4.length ≤ maxStr) <|
    bnd (F_ref01_Put (↑(List.length m_1.2.2.1) : Int) 2) fun v5 =>
    grd ((v3 ++ v4).length + v5.length ≤ maxStr) <|
    bnd (F_ref01_Put (↑(List.length m_1.2.2.2.1) : Int) 2) fun v6 =>
    grd ((v3 ++ v4 ++ v5).length + v6.length ≤ maxStr) <|
    bnd (F_ref01_Put (↑(List.length m_1.2.2.2.2.1) : Int) 2) fun v7 =>
    grd ((v3 ++ v4 ++ v5 ++ v6).length + v7.length ≤ maxStr) <|
    bnd (F_ref01_Put (↑(List.length m_1.2.2.2.2.2) : Int) 2) fun v8 =>
    grd ((v3 ++ v4 ++ v5 ++ v6 ++ v7).length + v8.length ≤ maxStr) <|
    bnd (loopS (step_ref08_Encode_0 m_1) ((v3 ++ v4 ++ v5 ++ v6 ++ v7 ++ v8, 0))) fun s_19 =>
    grd (List.length m_1.2.2.2.1 * 56 ≤ roomLim) <|
    grd ((List.length m_1.2.2.2.1 + List.length m_1.2.2.2.2.1) * 56 ≤ roomLim) <|
    grd (((m_1.2.2.2.1 ++ m_1.2.2.2.2.1).length + List.length m_1.2.2.2.2.2) * 56 ≤ roomLim) <|
    bnd (loopS (step_ref08_Encode_1 m_1) ((s_19, (m_1.2.2.2.1 ++ m_1.2.2.2.2.1 ++ m_1.2.2.2.2.2, 0)))) fun s_29 =>
    if decide (65535 < (↑s_29.length : Int)) = true then
      some (([], 6))
    else
      some ((s_29, 0))
def ann_ref08_Encode : List (List Nat × Ann) := [([40], ⟨none, [(.normal, ⟨(anyN 1 (.cons (.ptr 0 0) (anyN 2 (.cons (.keep .str) (anyN 1 (.cons (.own tRR 0 true) (.cons (.keep (.int .i64)) (anyN 97 .nil)))))))), [.cells 32 true (.cons (.keep (.int .i64)) (.cons (.keep (.int .i64)) (.cons (.keep (.list tQ)) (.cons (.keep (.list tRR)) (.cons (.keep (.list tRR)) (.cons (.keep (.list tRR)) .nil))))))], [⟨⟨2, tRR, 68, true, true⟩, false⟩], []⟩), (.exit 2, ⟨(anyN 4 (.cons (.keep .str) (anyN 100 .nil))), [.cells 32 true (.cons (.keep (.int .i64)) (.cons (.keep (.int .i64)) (.cons (.keep (.list tQ)) (.cons (.keep (.list tRR)) (.cons (.keep (.list tRR)) (.cons (.keep (.list tRR)) .nil))))))], [⟨⟨2, tRR, 68, true, true⟩, false⟩], []⟩)]⟩), ([16], ⟨some ⟨(anyN 1 (.cons (.ptr 0 0) (anyN 2 (.cons (.ty .str) (.cons (.ty (.int .i64)) (anyN 99 .nil)))))), [.cells 32 true (.cons (.keep (.int .i64)) (.cons (.keep (.int .i64)) (.cons (.keep (.list tQ)) (.cons (.keep (.list tRR)) (.cons (.keep (.list tRR)) (.cons (.keep (.list tRR)) .nil))))))], [], []⟩, [(.exit 0, ⟨(anyN 1 (.cons (.ptr 0 0) (anyN 2 (.cons (.ty .str) (anyN 100 .nil))))), [.cells 32 true (.cons (.keep (.int .i64)) (.cons (.keep (.int .i64)) (.cons (.keep (.list tQ)) (.cons (.keep (.list tRR)) (.cons (.keep (.list tRR)) (.cons (.keep (.list tRR)) .nil))))))], [], []⟩)]⟩), ([39], ⟨some ⟨(anyN 1 (.cons (.ptr 0 0) (anyN 2 (.cons (.ty .str) (anyN 1 (.cons (.own tRR 0 true) (.cons (.ty (.int .i64)) (anyN 97 .nil)))))))), [.cells 32 true (.cons (.keep (.int .i64)) (.cons (.keep (.int .i64)) (.cons (.keep (.list tQ)) (.cons (.keep (.list tRR)) (.cons (.keep (.list tRR)) (.cons (.keep (.list tRR)) .nil))))))], [⟨⟨2, tRR, 68, true, true⟩, false⟩], []⟩, [(.exit 2, ⟨(anyN 4 (.cons (.ty .str) (anyN 100 .nil))), [.cells 32 true (.cons (.keep (.int .i64)) (.cons (.keep (.int .i64)) (.cons (.keep (.list tQ)) (.cons (.keep (.list tRR)) (.cons (.keep (.list tRR)) (.cons (.keep (.list tRR)) .nil))))))], [⟨⟨2, tRR, 68, true, true⟩, false⟩], []⟩)]⟩)]
@[reducible] def fs_ref08_Encode : List (Nat × SFn) := [(71, .pure [(.int .i64), (.int .i64)] [.str] (fun x => F_ref01_Put x.1 x.2)), (73, .pure [tM] [.str] (fun x => F_ref08_Base x)), (72, .pure [.str, (.int .i64), tRR] [.str] (fun x => F_ref06_Encode x.1 x.2.1 x.2.2)), (70, .pure [tM] [.bool] (fun x => F_ref08_Check x))]
def cfg_ref08_Encode : SCfg := SCfg.of (fs_ref08_Encode ++ inlL) ann_ref08_Encode keepL
theorem eq_ref08_Encode (x : HL [tM]) : fnK cfg_ref08_Encode Tryz.prog 100000 43 [tM] [.str, (.int .i64)] x = (fun x => F_ref08_Encode x) x := by kernel_rfl
theorem told_ref08_Encode : Told CC Tryz.prog 43 [tM] [.str, (.int .i64)] (fun x => F_ref08_Encode x) := told_of (gok (an := ann_ref08_Encode) (fs := fs_ref08_Encode) ⟨told_ref01_Put, told_ref08_Base, told_ref06_Encode, told_ref08_Check, trivial⟩) rfl rfl eq_ref08_Encode
def F_law20_answer (o_1 : (Int × (Int × (List UInt8 × (List UInt8 × (Int × (Int × (Int × Int)))))))) : Option (List UInt8) :=
  bnd (F_ref08_Encode (o_1.1, 33792, [(o_1.2.2.2.1, o_1.2.2.2.2.1, o_1.2.2.2.2.2.1)], [], [], [])) fun (v2, v3) =>
  some v2
def ann_law20_answer : List (List Nat × Ann) := []
@[reducible] def fs_law20_answer : List (Nat × SFn) := [(43, .pure [tM] [.str, (.int .i64)] (fun x => F_ref08_Encode x))]
def cfg_law20_answer : SCfg := SCfg.of (fs_law20_answer ++ inlL) ann_law20_answer keepL
theorem eq_law20_answer (x : HL [tO]) : fnK cfg_law20_answer Tryz.prog 100000 26 [tO] [.str] x = (fun x => F_law20_answer x) x := by kernel_rfl
theorem told_law20_answer : Told CC Tryz.prog 26 [tO] [.str] (fun x => F_law20_answer x) := told_of (gok (an := ann_law20_answer) (fs := fs_law20_answer) ⟨told_ref08_Encode, trivial⟩) rfl rfl eq_law20_answer
def F_stringslite_HasSuffix (s_1 : List UInt8) (suffix_2 : List UInt8) : Option (Bool) :=
  if decide ((↑suffix_2.length : Int) ≤ (↑s_1.length : Int)) = true then
    natOf (Go.IntKind.i64.wrap ((↑s_1.length : Int) - (↑suffix_2.length : Int))) fun n3 =>
    grd (n3 ≤ s_1.length) <|
    some (List.drop n3 s_1 == suffix_2)
  else
    some false
def ann_stringslite_HasSuffix : List (List Nat × Ann) := []
def cfg_stringslite_HasSuffix : SCfg := SCfg.of ([] ++ inlL) ann_stringslite_HasSuffix keepL
theorem eq_stringslite_HasSuffix (x : HL [.str, .str]) : fnK cfg_stringslite_HasSuffix Tryz.prog 100000 125 [.str, .str] [.bool] x = (fun x => F_stringslite_HasSuffix x.1 x.2) x := by kernel_rfl
theorem told_stringslite_HasSuffix : Told CC Tryz.prog 125 [.str, .str] [.bool] (fun x => F_stringslite_HasSuffix x.1 x.2) := told_of (gok (an := ann_stringslite_HasSuffix) (fs := []) trivial) rfl rfl eq_stringslite_HasSuffix
def F_stringslite_TrimSuffix (s_1 : List UInt8) (suffix_2 : List UInt8) : Option (List UInt8) :=
  bnd (F_stringslite_HasSuffix s_1 suffix_2) fun v3 =>
  if v3 = true then
    natOf (Go.IntKind.i64.wrap ((↑s_1.length : Int) - (↑suffix_2.length : Int))) fun n4 =>
    grd (n4 ≤ s_1.length) <|
    some (List.take n4 s_1)
  else
    some s_1
def ann_stringslite_TrimSuffix : List (List Nat × Ann) := []
@[reducible] def fs_stringslite_TrimSuffix : List (Nat × SFn) := [(125, .pure [.str, .str] [.bool] (fun x => F_stringslite_HasSuffix x.1 x.2))]
def cfg_stringslite_TrimSuffix : SCfg := SCfg.of (fs_stringslite_TrimSuffix ++ inlL) ann_stringslite_TrimSuffix keepL
theorem eq_stringslite_TrimSuffix (x : HL [.str, .str]) : fnK cfg_stringslite_TrimSuffix Tryz.prog 100000 120 [.str, .str] [.str] x = (fun x => F_stringslite_TrimSuffix x.1 x.2) x := by kernel_rfl
theorem told_stringslite_TrimSuffix : Told CC Tryz.prog 120 [.str, .str] [.str] (fun x => F_stringslite_TrimSuffix x.1 x.2) := told_of (gok (an := ann_stringslite_TrimSuffix) (fs := fs_stringslite_TrimSuffix) ⟨told_stringslite_HasSuffix, trivial⟩) rfl rfl eq_stringslite_TrimSuffix
def F_strings_TrimSuffix (s_1 : List UInt8) (suffix_2 : List UInt8) : Option (List UInt8) :=
  bnd (F_stringslite_TrimSuffix s_1 suffix_2) fun v3 =>
  some v3
def ann_strings_TrimSuffix : List (List Nat × Ann) := []
@[reducible] def fs_strings_TrimSuffix : List (Nat × SFn) := [(120, .pure [.str, .str] [.str] (fun x => F_stringslite_TrimSuffix x.1 x.2))]
def cfg_strings_TrimSuffix : SCfg := SCfg.of (fs_strings_TrimSuffix ++ inlL) ann_strings_TrimSuffix keepL
theorem eq_strings_TrimSuffix (x : HL [.str, .str]) : fnK cfg_strings_TrimSuffix Tryz.prog 100000 109 [.str, .str] [.str] x = (fun x => F_strings_TrimSuffix x.1 x.2) x := by kernel_rfl
theorem told_strings_TrimSuffix : Told CC Tryz.prog 109 [.str, .str] [.str] (fun x => F_strings_TrimSuffix x.1 x.2) := told_of (gok (an := ann_strings_TrimSuffix) (fs := fs_strings_TrimSuffix) ⟨told_stringslite_TrimSuffix, trivial⟩) rfl rfl eq_strings_TrimSuffix
def F_name_small (c_1 : Int) : Option (Int) :=
  if decide (65 ≤ c_1) = true then
    if decide (c_1 ≤ 90) = true then
      some (Go.IntKind.u8.wrap (c_1 + 32))
    else
      some c_1
  else
    some c_1
def ann_name_small : List (List Nat × Ann) := []
def cfg_name_small : SCfg := SCfg.of ([] ++ inlL) ann_name_small keepL
theorem eq_name_small (x : HL [(.int .u8)]) : fnK cfg_name_small Tryz.prog 100000 128 [(.int .u8)] [(.int .u8)] x = (fun x => F_name_small x) x := by kernel_rfl
theorem told_name_small : Told CC Tryz.prog 128 [(.int .u8)] [(.int .u8)] (fun x => F_name_small x) := told_of (gok (an := ann_name_small) (fs := []) trivial) rfl rfl eq_name_small
def step_name_low_0 (s_1 : List UInt8) : (List (Int) × (List (Int) × Int)) → Option ((List (Int) × (List (Int) × Int)) ⊕ List (Int)) := fun (b_2, s8_3, s10_4) =>
  if decide (s10_4 < (↑(List.map (fun b => (↑b.toNat : Int)) s_1).length : Int)) = true then
    natOf s10_4 fun n5 =>
    bnd (s8_3[n5]?) fun x6 =>
    bnd (F_name_small x6) fun v7 =>
    natOf s10_4 fun n8 =>
    bnd (b_2[n8]?) fun x9 =>
    grdEq ((↑(List.map (fun b => (↑b.toNat : Int)) s_1).length : Int)) ((↑(List.map (fun b => (↑b.toNat : Int)) s_1).length : Int)) <|
    some (.inl ((b_2.set n8 v7, (s8_3.set n8 v7, Go.IntKind.i64.wrap (s10_4 + 1)))))
  else
    some (.inr b_2)
def F_name_low (s_1 : List UInt8) : Option (List UInt8) :=
  bnd (loopS (step_name_low_0 s_1) ((List.map (fun b => (↑b.toNat : Int)) s_1, (List.map (fun b => (↑b.toNat : Int)) s_1, 0)))) fun b_10 =>
  some (List.map (fun n => UInt8.ofNat (Int.toNat n)) b_10)
def ann_name_low : List (List Nat × Ann) := [([8], ⟨some ⟨(anyN 3 (.cons (.own (.int .u8) 0 true) (anyN 4 (.cons (.own (.int .u8) 0 true) (.cons (.keep (.int .i64)) (.cons (.ty (.int .i64)) (anyN 12 .nil))))))), [], [⟨⟨0, (.int .u8), 5, true, true⟩, false⟩], [0]⟩, [(.exit 0, ⟨(anyN 3 (.cons (.own (.int .u8) 0 true) (anyN 19 .nil))), [], [⟨⟨0, (.int .u8), 5, true, true⟩, false⟩], [0]⟩)]⟩)]
@[reducible] def fs_name_low : List (Nat × SFn) := [(128, .pure [(.int .u8)] [(.int .u8)] (fun x => F_name_small x))]
def cfg_name_low : SCfg := SCfg.of (fs_name_low ++ inlL) ann_name_low keepL
theorem eq_name_low (x : HL [.str]) : fnK cfg_name_low Tryz.prog 100000 124 [.str] [.str] x = (fun x => F_name_low x) x := by kernel_rfl
theorem told_name_low : Told CC Tryz.prog 124 [.str] [.str] (fun x => F_name_low x) := told_of (gok (an := ann_name_low) (fs := fs_name_low) ⟨told_name_small, trivial⟩) rfl rfl eq_name_low
def F_name_Same (a_1 : List UInt8) (b_2 : List UInt8) : Option (Bool) :=
  bnd (F_name_Check a_1) fun v3 =>
  if v3 = true then
    bnd (F_name_Check b_2) fun v4 =>
    if v4 = true then
      bnd (F_name_low a_1) fun v5 =>
      bnd (F_name_low b_2) fun v6 =>
      some (v5 == v6)
    else
      some false
  else
    some false
def ann_name_Same : List (List Nat × Ann) := []
@[reducible] def fs_name_Same : List (Nat × SFn) := [(38, .pure [.str] [.bool] (fun x => F_name_Check x)), (124, .pure [.str] [.str] (fun x => F_name_low x))]
def cfg_name_Same : SCfg := SCfg.of (fs_name_Same ++ inlL) ann_name_Same keepL
theorem eq_name_Same (x : HL [.str, .str]) : fnK cfg_name_Same Tryz.prog 100000 119 [.str, .str] [.bool] x = (fun x => F_name_Same x.1 x.2) x := by kernel_rfl
theorem told_name_Same : Told CC Tryz.prog 119 [.str, .str] [.bool] (fun x => F_name_Same x.1 x.2) := told_of (gok (an := ann_name_Same) (fs := fs_name_Same) ⟨told_name_Check, told_name_low, trivial⟩) rfl rfl eq_name_Same
def step_comp_place_0 (base_1 : List UInt8) (n_2 : List UInt8) : (List UInt8 × Bool) → Option ((List UInt8 × Bool) ⊕ (Int ⊕ Unit)) := fun (end_3, is_4) =>
  bnd (α := (Unit ⊕ Unit)) (if is_4 = true then
      if decide (1 < (↑end_3.length : Int)) = true then
        grdEq base_1 base_1 <|
        grdEq n_2 n_2 <|
        grdEq end_3 end_3 <|
        some (.inl (()))
      else
        some (.inr (()))
    else
      some (.inr (()))) fun o5 =>
  match o5 with
  | .inl _ =>
    bnd (F_name_Same end_3 n_2) fun v6 =>
    if v6 = true then
      some (.inr (.inl (Go.IntKind.i64.wrap ((↑base_1.length : Int) - (↑end_3.length : Int)))))
    else
      bnd (F_name_Up end_3) fun (v7, v8) =>
      grdEq base_1 base_1 <|
      grdEq n_2 n_2 <|
      some (.inl ((v7, v8)))
  | .inr _ =>
    some (.inr (.inr (())))
def F_comp_place (base_1 : List UInt8) (n_2 : List UInt8) : Option (Int) :=
  bnd (loopS (step_comp_place_0 base_1 n_2) ((base_1, true))) fun o9 =>
  match o9 with
  | .inl s4_10 =>
    some s4_10
  | .inr _ =>
    some (-1)
def ann_comp_place : List (List Nat × Ann) := [([7], ⟨none, [(.normal, ⟨(.cons (.keep .str) (.cons (.keep .str) (anyN 3 (.cons (.keep .str) (anyN 21 .nil))))), [], [], []⟩), (.exit 0, ⟨(anyN 27 .nil), [], [], []⟩)]⟩), ([6], ⟨some ⟨(.cons (.keep .str) (.cons (.keep .str) (anyN 3 (.cons (.ty .str) (.cons (.ty .bool) (anyN 20 .nil)))))), [], [], []⟩, [(.ret, ⟨(anyN 4 (.cons (.ty (.int .i64)) (anyN 22 .nil))), [], [], []⟩), (.exit 0, ⟨(anyN 27 .nil), [], [], []⟩)]⟩)]
@[reducible] def fs_comp_place : List (Nat × SFn) := [(119, .pure [.str, .str] [.bool] (fun x => F_name_Same x.1 x.2)), (107, .pure [.str] [.str, .bool] (fun x => F_name_Up x))]
def cfg_comp_place : SCfg := SCfg.of (fs_comp_place ++ inlL) ann_comp_place keepL
theorem eq_comp_place (x : HL [.str, .str]) : fnK cfg_comp_place Tryz.prog 100000 108 [.str, .str] [(.int .i64)] x = (fun x => F_comp_place x.1 x.2) x := by kernel_rfl
theorem told_comp_place : Told CC Tryz.prog 108 [.str, .str] [(.int .i64)] (fun x => F_comp_place x.1 x.2) := told_of (gok (an := ann_comp_place) (fs := fs_comp_place) ⟨told_name_Same, told_name_Up, trivial⟩) rfl rfl eq_comp_place
end
end Go.Abs

set_option maxRecDepth 100000
namespace Go.Abs
open Go Go.Proofs
noncomputable section
def step_comp_Write_0 (base_1 : List UInt8) (at_2 : Int) (n_3 : List UInt8) : (List UInt8 × Bool) → Option ((List UInt8 × Bool) ⊕ (List UInt8 ⊕ Unit)) := fun (rest_8, is_9) =>
  bnd (α := (Unit ⊕ Unit)) (if is_9 = true then
      if decide (1 < (↑rest_8.length : Int)) = true then
        grdEq base_1 base_1 <|
        grdEq at_2 at_2 <|
        grdEq n_3 n_3 <|
        grdEq rest_8 rest_8 <|
        some (.inl (()))
      else
        grdEq n_3 n_3 <|
        some (.inr (()))
    else
      grdEq n_3 n_3 <|
      some (.inr (()))) fun o10 =>
  match o10 with
  | .inl _ =>
    bnd (F_comp_place base_1 rest_8) fun v11 =>
    if decide (0 ≤ v11) = true then
      bnd (F_strings_TrimSuffix n_3 rest_8) fun v12 =>
      bnd (F_octet_Put (Go.IntKind.i64.wrap (Go.IntKind.i64.wrap (49152 + at_2) + v11)) 2) fun v13 =>
      grd (v12.length + v13.length ≤ maxStr) <|
      some (.inr (.inl (v12 ++ v13)))
    else
      bnd (F_name_Up rest_8) fun (v14, v15) =>
      grdEq base_1 base_1 <|
      grdEq at_2 at_2 <|
      grdEq n_3 n_3 <|
      some (.inl ((v14, v15)))
  | .inr _ =>
    grdEq n_3 n_3 <|
    some (.inr (.inr (())))
def F_comp_Write (base_1 : List UInt8) (at_2 : Int) (n_3 : List UInt8) : Option (List UInt8) :=
  bnd (α := (List UInt8 ⊕ Unit)) (bnd (F_name_Check base_1) fun v4 =>
    if (!v4) = false then
      bnd (F_name_Check n_3) fun v5 =>
      if (!v5) = false then
        if decide (at_2 < 0) = false then
          if decide (16000 < at_2) = true then
            some (.inl ([]))
          else
            grdEq base_1 base_1 <|
            grdEq at_2 at_2 <|
            grdEq n_3 n_3 <|
            some (.inr (()))
        else
          some (.inl ([]))
      else
        some (.inl ([]))
    else
      some (.inl ([]))) fun o6 =>
  match o6 with
  | .inl s6_7 =>
    some s6_7
  | .inr _ =>
    bnd (loopS (step_comp_Write_0 base_1 at_2 n_3) ((n_3, true))) fun o16 =>
    match o16 with
    | .inl s6_17 =>
      some s6_17
    | .inr _ =>
      some n_3
def ann_comp_Write : List (List Nat × Ann) := [([2], ⟨none, [(.ret, ⟨(anyN 6 (.cons (.ty .str) (anyN 46 .nil))), [], [], []⟩), (.normal, ⟨(.cons (.keep .str) (.cons (.keep (.int .i64)) (.cons (.keep .str) (anyN 50 .nil)))), [], [], []⟩)]⟩), ([15], ⟨none, [(.normal, ⟨(.cons (.keep .str) (.cons (.keep (.int .i64)) (.cons (.keep .str) (anyN 4 (.cons (.keep .str) (anyN 45 .nil)))))), [], [], []⟩), (.exit 0, ⟨(anyN 2 (.cons (.keep .str) (anyN 50 .nil))), [], [], []⟩)]⟩), ([14], ⟨some ⟨(.cons (.keep .str) (.cons (.keep (.int .i64)) (.cons (.keep .str) (anyN 4 (.cons (.ty .str) (.cons (.ty .bool) (anyN 44 .nil))))))), [], [], []⟩, [(.ret, ⟨(anyN 6 (.cons (.ty .str) (anyN 46 .nil))), [], [], []⟩), (.exit 0, ⟨(anyN 2 (.cons (.keep .str) (anyN 50 .nil))), [], [], []⟩)]⟩)]
@[reducible] def fs_comp_Write : List (Nat × SFn) := [(108, .pure [.str, .str] [(.int .i64)] (fun x => F_comp_place x.1 x.2)), (109, .pure [.str, .str] [.str] (fun x => F_strings_TrimSuffix x.1 x.2)), (68, .pure [(.int .i64), (.int .i64)] [.str] (fun x => F_octet_Put x.1 x.2)), (107, .pure [.str] [.str, .bool] (fun x => F_name_Up x)), (38, .pure [.str] [.bool] (fun x => F_name_Check x))]
def cfg_comp_Write : SCfg := SCfg.of (fs_comp_Write ++ inlL) ann_comp_Write keepL
theorem eq_comp_Write (x : HL [.str, (.int .i64), .str]) : fnK cfg_comp_Write Tryz.prog 100000 88 [.str, (.int .i64), .str] [.str] x = (fun x => F_comp_Write x.1 x.2.1 x.2.2) x := by kernel_rfl
theorem told_comp_Write : Told CC Tryz.prog 88 [.str, (.int .i64), .str] [.str] (fun x => F_comp_Write x.1 x.2.1 x.2.2) := told_of (gok (an := ann_comp_Write) (fs := fs_comp_Write) ⟨told_comp_place, told_strings_TrimSuffix, told_octet_Put, told_name_Up, told_name_Check, trivial⟩) rfl rfl eq_comp_Write
def F_record_Encode (base_1 : List UInt8) (at_2 : Int) (r_3 : (List UInt8 × (Int × (Int × (Int × List UInt8))))) : Option (List UInt8) :=
  bnd (F_comp_Write base_1 at_2 r_3.1) fun v4 =>
  bnd (α := (List UInt8 ⊕ Unit)) (if (v4 == []) = false then
      bnd (F_record_Check (r_3.1, r_3.2.1, r_3.2.2.1, r_3.2.2.2.1, r_3.2.2.2.2)) fun v5 =>
      if (!v5) = true then
        grdEq r_3.1 r_3.1 <|
        grdEq r_3.2.1 r_3.2.1 <|
        grdEq r_3.2.2.1 r_3.2.2.1 <|
        grdEq r_3.2.2.2.1 r_3.2.2.2.1 <|
        grdEq r_3.2.2.2.2 r_3.2.2.2.2 <|
        some (.inl ([]))
      else
        grdEq v4 v4 <|
        grdEq r_3.1 r_3.1 <|
        grdEq r_3.2.1 r_3.2.1 <|
        grdEq r_3.2.2.1 r_3.2.2.1 <|
        grdEq r_3.2.2.2.1 r_3.2.2.2.1 <|
        grdEq r_3.2.2.2.2 r_3.2.2.2.2 <|
        some (.inr (()))
    else
      grdEq r_3.1 r_3.1 <|
      grdEq r_3.2.1 r_3.2.1 <|
      grdEq r_3.2.2.1 r_3.2.2.1 <|
      grdEq r_3.2.2.2.1 r_3.2.2.2.1 <|
      grdEq r_3.2.2.2.2 r_3.2.2.2.2 <|
      some (.inl ([]))) fun o6 =>
  match o6 with
  | .inl s6_7 =>
    some s6_7
  | .inr _ =>
    bnd (F_octet_Put r_3.2.1 2) fun v8 =>
    grd (v4.length + v8.length ≤ maxStr) <|
    bnd (F_octet_Put r_3.2.2.1 2) fun v9 =>
    grd ((v4 ++ v8).length + v9.length ≤ maxStr) <|
    bnd (F_octet_Put r_3.2.2.2.1 4) fun v10 =>
    grd ((v4 ++ v8 ++ v9).length + v10.length ≤ maxStr) <|
    bnd (F_octet_Put (↑(List.length r_3.2.2.2.2) : Int) 2) fun v11 =>
    grd ((v4 ++ v8 ++ v9 ++ v10).length + v11.length ≤ maxStr) <|
    grd ((v4 ++ v8 ++ v9 ++ v10 ++ v11).length + List.length r_3.2.2.2.2 ≤ maxStr) <|
    some (v4 ++ v8 ++ v9 ++ v10 ++ v11 ++ r_3.2.2.2.2)
def ann_record_Encode : List (List Nat × Ann) := [([4], ⟨none, [(.ret, ⟨(anyN 6 (.cons (.ty .str) (anyN 34 .nil))), [.cells 68 true (.cons (.keep .str) (.cons (.keep (.int .i64)) (.cons (.keep (.int .i64)) (.cons (.keep (.int .i64)) (.cons (.keep .str) .nil)))))], [], []⟩), (.normal, ⟨(anyN 5 (.cons (.ptr 0 0) (anyN 1 (.cons (.keep .str) (anyN 33 .nil))))), [.cells 68 true (.cons (.keep .str) (.cons (.keep (.int .i64)) (.cons (.keep (.int .i64)) (.cons (.keep (.int .i64)) (.cons (.keep .str) .nil)))))], [], []⟩)]⟩)]
@[reducible] def fs_record_Encode : List (Nat × SFn) := [(88, .pure [.str, (.int .i64), .str] [.str] (fun x => F_comp_Write x.1 x.2.1 x.2.2)), (84, .pure [tRR] [.bool] (fun x => F_record_Check x)), (68, .pure [(.int .i64), (.int .i64)] [.str] (fun x => F_octet_Put x.1 x.2))]
def cfg_record_Encode : SCfg := SCfg.of (fs_record_Encode ++ inlL) ann_record_Encode keepL
theorem eq_record_Encode (x : HL [.str, (.int .i64), tRR]) : fnK cfg_record_Encode Tryz.prog 100000 69 [.str, (.int .i64), tRR] [.str] x = (fun x => F_record_Encode x.1 x.2.1 x.2.2) x := by kernel_rfl
theorem told_record_Encode : Told CC Tryz.prog 69 [.str, (.int .i64), tRR] [.str] (fun x => F_record_Encode x.1 x.2.1 x.2.2) := told_of (gok (an := ann_record_Encode) (fs := fs_record_Encode) ⟨told_comp_Write, told_record_Check, told_octet_Put, trivial⟩) rfl rfl eq_record_Encode
def step_msg_Encode_0 (m_1 : Int × Int × List (List UInt8 × Int × Int) × List (List UInt8 × Int × Int × Int × List UInt8) × List (List UInt8 × Int × Int × Int × List UInt8) × List (List UInt8 × Int × Int × Int × List UInt8)) : (List UInt8 × (List UInt8 × Int)) → Option ((List UInt8 × (List UInt8 × Int)) ⊕ (List UInt8 × List UInt8)) := fun (s_9, base_10, s44_11) =>
  if decide (s44_11 < (↑(List.length m_1.2.2.1) : Int)) = true then
    natOf s44_11 fun n12 =>
    bnd (m_1.2.2.1[n12]?) fun x13 =>
    bnd (α := List UInt8) (if (s44_11 == 0) = true then
        grdEq s_9 s_9 <|
        grdEq m_1.2.2.1 m_1.2.2.1 <|
        grdEq ((↑(List.length m_1.2.2.1) : Int)) ((↑(List.length m_1.2.2.1) : Int)) <|
        grdEq s44_11 s44_11 <|
        grdEq m_1.1 m_1.1 <|
        grdEq m_1.2.1 m_1.2.1 <|
        grdEq m_1.2.2.1 m_1.2.2.1 <|
        grdEq m_1.2.2.2.1 m_1.2.2.2.1 <|
        grdEq m_1.2.2.2.2.1 m_1.2.2.2.2.1 <|
        grdEq m_1.2.2.2.2.2 m_1.2.2.2.2.2 <|
        grdEq x13.1 x13.1 <|
        grdEq x13.2.1 x13.2.1 <|
        grdEq x13.2.2 x13.2.2 <|
        some x13.1
      else
        grdEq s_9 s_9 <|
        grdEq m_1.2.2.1 m_1.2.2.1 <|
        grdEq ((↑(List.length m_1.2.2.1) : Int)) ((↑(List.length m_1.2.2.1) : Int)) <|
        grdEq s44_11 s44_11 <|
        grdEq m_1.1 m_1.1 <|
        grdEq m_1.2.1 m_1.2.1 <|
        grdEq m_1.2.2.1 m_1.2.2.1 <|
        grdEq m_1.2.2.2.1 m_1.2.2.2.1 <|
        grdEq m_1.2.2.2.2.1 m_1.2.2.2.2.1 <|
        grdEq m_1.2.2.2.2.2 m_1.2.2.2.2.2 <|
        grdEq x13.1 x13.1 <|
        grdEq x13.2.1 x13.2.1 <|
        grdEq x13.2.2 x13.2.2 <|
        some base_10) fun base_14 =>
    bnd (F_octet_Put x13.2.1 2) fun v15 =>
    grd (List.length x13.1 + v15.length ≤ maxStr) <|
    bnd (F_octet_Put x13.2.2 2) fun v16 =>
    grd ((x13.1 ++ v15).length + v16.length ≤ maxStr) <|
    grd (s_9.length + (x13.1 ++ v15 ++ v16).length ≤ maxStr) <|
    grdEq m_1.2.2.1 m_1.2.2.1 <|
    grdEq ((↑(List.length m_1.2.2.1) : Int)) ((↑(List.length m_1.2.2.1) : Int)) <|
    grdEq m_1.1 m_1.1 <|
    grdEq m_1.2.1 m_1.2.1 <|
    grdEq m_1.2.2.1 m_1.2.2.1 <|
    grdEq m_1.2.2.2.1 m_1.2.2.2.1 <|
    grdEq m_1.2.2.2.2.1 m_1.2.2.2.2.1 <|
    grdEq m_1.2.2.2.2.2 m_1.2.2.2.2.2 <|
    some (.inl ((s_9 ++ (x13.1 ++ v15 ++ v16), (base_14, Go.IntKind.i64.wrap (s44_11 + 1)))))
  else
    grdEq m_1.1 m_1.1 <|
    grdEq m_1.2.1 m_1.2.1 <|
    grdEq m_1.2.2.1 m_1.2.2.1 <|
    grdEq m_1.2.2.2.1 m_1.2.2.2.1 <|
    grdEq m_1.2.2.2.2.1 m_1.2.2.2.2.1 <|
    grdEq m_1.2.2.2.2.2 m_1.2.2.2.2.2 <|
    some (.inr ((s_9, base_10)))
def step_msg_Encode_1 (m_1 : Int × Int × List (List UInt8 × Int × Int) × List (List UInt8 × Int × Int × Int × List UInt8) × List (List UInt8 × Int × Int × Int × List UInt8) × List (List UInt8 × Int × Int × Int × List UInt8)) (base_18 : List UInt8) : (List UInt8 × Int) → Option ((List UInt8 × Int) ⊕ List UInt8) := fun (s_19, s74_20) =>
  if decide (s74_20 < (↑(List.length m_1.2.2.2.1) : Int)) = true then
    natOf s74_20 fun n21 =>
    bnd (m_1.2.2.2.1[n21]?) fun x22 =>
    if decide (65535 < (↑s_19.length : Int)) = true then
      grdEq base_18 base_18 <|
      grdEq (α := Int) 0 0 <|
      grdEq m_1.1 m_1.1 <|
      grdEq m_1.2.1 m_1.2.1 <|
      grdEq m_1.2.2.1 m_1.2.2.1 <|
      grdEq m_1.2.2.2.1 m_1.2.2.2.1 <|
      grdEq m_1.2.2.2.2.1 m_1.2.2.2.2.1 <|
      grdEq m_1.2.2.2.2.2 m_1.2.2.2.2.2 <|
      some (.inr s_19)
    else
      bnd (F_record_Encode base_18 12 (x22.1, x22.2.1, x22.2.2.1, x22.2.2.2.1, x22.2.2.2.2)) fun v23 =>
      grd (s_19.length + v23.length ≤ maxStr) <|
      grdEq base_18 base_18 <|
      grdEq (α := Int) 0 0 <|
      grdEq m_1.2.2.2.1 m_1.2.2.2.1 <|
      grdEq ((↑(List.length m_1.2.2.2.1) : Int)) ((↑(List.length m_1.2.2.2.1) : Int)) <|
      grdEq m_1.1 m_1.1 <|
      grdEq m_1.2.1 m_1.2.1 <|
      grdEq m_1.2.2.1 m_1.2.2.1 <|
      grdEq m_1.2.2.2.1 m_1.2.2.2.1 <|
      grdEq m_1.2.2.2.2.1 m_1.2.2.2.2.1 <|
      grdEq m_1.2.2.2.2.2 m_1.2.2.2.2.2 <|
      some (.inl ((s_19 ++ v23, Go.IntKind.i64.wrap (s74_20 + 1))))
  else
    grdEq base_18 base_18 <|
    grdEq (α := Int) 0 0 <|
    grdEq m_1.1 m_1.1 <|
    grdEq m_1.2.1 m_1.2.1 <|
    grdEq m_1.2.2.1 m_1.2.2.1 <|
    grdEq m_1.2.2.2.1 m_1.2.2.2.1 <|
    grdEq m_1.2.2.2.2.1 m_1.2.2.2.2.1 <|
    grdEq m_1.2.2.2.2.2 m_1.2.2.2.2.2 <|
    some (.inr s_19)
def step_msg_Encode_2 (m_1 : Int × Int × List (List UInt8 × Int × Int) × List (List UInt8 × Int × Int × Int × List UInt8) × List (List UInt8 × Int × Int × Int × List UInt8) × List (List UInt8 × Int × Int × Int × List UInt8)) (base_18 : List UInt8) : (List UInt8 × Int) → Option ((List UInt8 × Int) ⊕ List UInt8) := fun (s_25, s74_26) =>
  if decide (s74_26 < (↑(List.length m_1.2.2.2.2.1) : Int)) = true then
    natOf s74_26 fun n27 =>
    bnd (m_1.2.2.2.2.1[n27]?) fun x28 =>
    if decide (65535 < (↑s_25.length : Int)) = true then
      grdEq base_18 base_18 <|
      grdEq (α := Int) 1 1 <|
      grdEq m_1.1 m_1.1 <|
      grdEq m_1.2.1 m_1.2.1 <|
      grdEq m_1.2.2.1 m_1.2.2.1 <|
      grdEq m_1.2.2.2.1 m_1.2.2.2.1 <|
      grdEq m_1.2.2.2.2.1 m_1.2.2.2.2.1 <|
      grdEq m_1.2.2.2.2.2 m_1.2.2.2.2.2 <|
      some (.inr s_25)
    else
      bnd (F_record_Encode base_18 12 (x28.1, x28.2.1, x28.2.2.1, x28.2.2.2.1, x28.2.2.2.2)) fun v29 =>
      grd (s_25.length + v29.length ≤ maxStr) <|
      grdEq base_18 base_18 <|
      grdEq (α := Int) 1 1 <|
      grdEq m_1.2.2.2.2.1 m_1.2.2.2.2.1 <|
      grdEq ((↑(List.length m_1.2.2.2.2.1) : Int)) ((↑(List.length m_1.2.2.2.2.1) : Int)) <|
      grdEq m_1.1 m_1.1 <|
      grdEq m_1.2.1 m_1.2.1 <|
      grdEq m_1.2.2.1 m_1.2.2.1 <|
      grdEq m_1.2.2.2.1 m_1.2.2.2.1 <|
      grdEq m_1.2.2.2.2.1 m_1.2.2.2.2.1 <|
      grdEq m_1.2.2.2.2.2 m_1.2.2.2.2.2 <|
      some (.inl ((s_25 ++ v29, Go.IntKind.i64.wrap (s74_26 + 1))))
  else
    grdEq base_18 base_18 <|
    grdEq (α := Int) 1 1 <|
    grdEq m_1.1 m_1.1 <|
    grdEq m_1.2.1 m_1.2.1 <|
    grdEq m_1.2.2.1 m_1.2.2.1 <|
    grdEq m_1.2.2.2.1 m_1.2.2.2.1 <|
    grdEq m_1.2.2.2.2.1 m_1.2.2.2.2.1 <|
    grdEq m_1.2.2.2.2.2 m_1.2.2.2.2.2 <|
    some (.inr s_25)
def step_msg_Encode_3 (m_1 : Int × Int × List (List UInt8 × Int × Int) × List (List UInt8 × Int × Int × Int × List UInt8) × List (List UInt8 × Int × Int × Int × List UInt8) × List (List UInt8 × Int × Int × Int × List UInt8)) (base_18 : List UInt8) : (List UInt8 × Int) → Option ((List UInt8 × Int) ⊕ List UInt8) := fun (s_31, s74_32) =>
  if decide (s74_32 < (↑(List.length m_1.2.2.2.2.2) : Int)) = true then
    natOf s74_32 fun n33 =>
    bnd (m_1.2.2.2.2.2[n33]?) fun x34 =>
    if decide (65535 < (↑s_31.length : Int)) = true then
      grdEq base_18 base_18 <|
      grdEq (α := Int) 2 2 <|
      grdEq m_1.1 m_1.1 <|
      grdEq m_1.2.1 m_1.2.1 <|
      grdEq m_1.2.2.1 m_1.2.2.1 <|
      grdEq m_1.2.2.2.1 m_1.2.2.2.1 <|
      grdEq m_1.2.2.2.2.1 m_1.2.2.2.2.1 <|
      grdEq m_1.2.2.2.2.2 m_1.2.2.2.2.2 <|
      some (.inr s_31)
    else
      bnd (F_record_Encode base_18 12 (x34.1, x34.2.1, x34.2.2.1, x34.2.2.2.1, x34.2.2.2.2)) fun v35 =>
      grd (s_31.length + v35.length ≤ maxStr) <|
      grdEq base_18 base_18 <|
      grdEq (α := Int) 2 2 <|
      grdEq m_1.2.2.2.2.2 m_1.2.2.2.2.2 <|
      grdEq ((↑(List.length m_1.2.2.2.2.2) : Int)) ((↑(List.length m_1.2.2.2.2.2) : Int)) <|
      grdEq m_1.1 m_1.1 <|
      grdEq m_1.2.1 m_1.2.1 <|
      grdEq m_1.2.2.1 m_1.2.2.1 <|
      grdEq m_1.2.2.2.1 m_1.2.2.2.1 <|
      grdEq m_1.2.2.2.2.1 m_1.2.2.2.2.1 <|
      grdEq m_1.2.2.2.2.2 m_1.2.2.2.2.2 <|
      some (.inl ((s_31 ++ v35, Go.IntKind.i64.wrap (s74_32 + 1))))
  else
    grdEq base_18 base_18 <|
    grdEq (α := Int) 2 2 <|
    grdEq m_1.1 m_1.1 <|
    grdEq m_1.2.1 m_1.2.1 <|
    grdEq m_1.2.2.1 m_1.2.2.1 <|
    grdEq m_1.2.2.2.1 m_1.2.2.2.1 <|
    grdEq m_1.2.2.2.2.1 m_1.2.2.2.2.1 <|
    grdEq m_1.2.2.2.2.2 m_1.2.2.2.2.2 <|
    some (.inr s_31)
def F_msg_Encode (m_1 : (Int × (Int × (List ((List UInt8 × (Int × Int))) × (List ((List UInt8 × (Int × (Int × (Int × List UInt8))))) × (List ((List UInt8 × (Int × (Int × (Int × List UInt8))))) × List ((List UInt8 × (Int × (Int × (Int × List UInt8))))))))))) : Option ((List UInt8 × Int)) :=
  bnd (F_msg_Check (m_1.1, m_1.2.1, m_1.2.2.1, m_1.2.2.2.1, m_1.2.2.2.2.1, m_1.2.2.2.2.2)) fun v2 =>
  if (!v2) = true then
    some (([], 1))
  else
    bnd (F_octet_Put m_1.1 2) fun v3 =>
    bnd (F_octet_Put m_1.2.1 2) fun v4 =>
    grd (v3.length + v4.length ≤ maxStr) <|
    bnd (F_octet_Put (↑(List.length m_1.2.2.1) : Int) 2) fun v5 =>
    grd ((v3 ++ v4).length + v5.length ≤ maxStr) <|
    bnd (F_octet_Put (↑(List.length m_1.2.2.2.1) : Int) 2) fun v6 =>
    grd ((v3 ++ v4 ++ v5).length + v6.length ≤ maxStr) <|
    bnd (F_octet_Put (↑(List.length m_1.2.2.2.2.1) : Int) 2) fun v7 =>
    grd ((v3 ++ v4 ++ v5 ++ v6).length + v7.length ≤ maxStr) <|
    bnd (F_octet_Put (↑(List.length m_1.2.2.2.2.2) : Int) 2) fun v8 =>
    grd ((v3 ++ v4 ++ v5 ++ v6 ++ v7).length + v8.length ≤ maxStr) <|
    bnd (loopS (step_msg_Encode_0 m_1) ((v3 ++ v4 ++ v5 ++ v6 ++ v7 ++ v8, ([0], 0)))) fun (s_17, base_18) =>
    bnd (loopS (step_msg_Encode_1 m_1 base_18) ((s_17, 0))) fun s_24 =>
    bnd (loopS (step_msg_Encode_2 m_1 base_18) ((s_24, 0))) fun s_30 =>
    bnd (loopS (step_msg_Encode_3 m_1 base_18) ((s_30, 0))) fun s_36 =>
    if decide (65535 < (↑s_36.length : Int)) = true then
      some (([], 6))
    else
      some ((s_36, 0))
def ann_msg_Encode : List (List Nat × Ann) := [([46], ⟨none, [(.normal, ⟨(anyN 1 (.cons (.ptr 0 0) (anyN 2 (.cons (.keep .str) (anyN 2 (.cons (.ty .str) (anyN 1 (.cons (.ptr 2 0) (anyN 32 (.cons (.keep (.list tQ)) (.cons (.keep (.int .i64)) (.cons (.keep (.int .i64)) (anyN 47 .nil))))))))))))), [.cells 32 true (.cons (.keep (.int .i64)) (.cons (.keep (.int .i64)) (.cons (.keep (.list tQ)) (.cons (.keep (.list tRR)) (.cons (.keep (.list tRR)) (.cons (.keep (.list tRR)) .nil)))))), .cells 98 true (.cons (.ptr 0 3) (.cons (.ptr 0 4) (.cons (.ptr 0 5) .nil))), .cells 24 true (.cons (.keep .str) (.cons (.keep (.int .i64)) (.cons (.keep (.int .i64)) .nil)))], [], []⟩)]⟩), ([16], ⟨none, []⟩), ([58], ⟨none, []⟩), ([16, 1000000], ⟨none, []⟩), ([16, 1000000, 1000000], ⟨none, []⟩), ([16, 1000000, 1000000, 1000000], ⟨none, []⟩), ([16, 1000000, 1000000, 1000000, 1000000], ⟨none, []⟩), ([58, 1000000], ⟨none, []⟩), ([58, 1000000, 1000000], ⟨none, []⟩), ([58, 1000000, 1000000, 1000000], ⟨none, []⟩), ([58, 1000000, 1000000, 1000000, 1000000], ⟨none, []⟩), ([35], ⟨some ⟨(anyN 1 (.cons (.ptr 0 0) (anyN 2 (.cons (.ty .str) (anyN 2 (.cons (.ty .str) (anyN 34 (.cons (.keep (.list tQ)) (.cons (.keep (.int .i64)) (.cons (.ty (.int .i64)) (anyN 47 .nil))))))))))), [.cells 32 true (.cons (.keep (.int .i64)) (.cons (.keep (.int .i64)) (.cons (.keep (.list tQ)) (.cons (.keep (.list tRR)) (.cons (.keep (.list tRR)) (.cons (.keep (.list tRR)) .nil)))))), .cells 98 true (.cons (.ptr 0 3) (.cons (.ptr 0 4) (.cons (.ptr 0 5) .nil)))], [], []⟩, [(.exit 2, ⟨(anyN 1 (.cons (.ptr 0 0) (anyN 2 (.cons (.ty .str) (anyN 2 (.cons (.ty .str) (anyN 84 .nil))))))), [.cells 32 true (.cons (.keep (.int .i64)) (.cons (.keep (.int .i64)) (.cons (.keep (.list tQ)) (.cons (.keep (.list tRR)) (.cons (.keep (.list tRR)) (.cons (.keep (.list tRR)) .nil)))))), .cells 98 true (.cons (.ptr 0 3) (.cons (.ptr 0 4) (.cons (.ptr 0 5) .nil)))], [], []⟩)]⟩), ([72], ⟨some ⟨(anyN 4 (.cons (.ty .str) (anyN 2 (.cons (.keep .str) (anyN 58 (.cons (.agg (.cons (.ptr 0 3) (.cons (.ptr 0 4) (.cons (.ptr 0 5) .nil)))) (.cons (.keep (.int .i64)) (anyN 4 (.cons (.keep (.list tRR)) (.cons (.keep (.int .i64)) (.cons (.ty (.int .i64)) (anyN 17 .nil)))))))))))), [.cells 32 true (.cons (.keep (.int .i64)) (.cons (.keep (.int .i64)) (.cons (.keep (.list tQ)) (.cons (.keep (.list tRR)) (.cons (.keep (.list tRR)) (.cons (.keep (.list tRR)) .nil)))))), .cells 98 true (.cons (.ptr 0 3) (.cons (.ptr 0 4) (.cons (.ptr 0 5) .nil))), .cells 98 true (.cons (.ptr 0 3) (.cons (.ptr 0 4) (.cons (.ptr 0 5) .nil)))], [], []⟩, [(.exit 6, ⟨(anyN 4 (.cons (.ty .str) (anyN 2 (.cons (.keep .str) (anyN 58 (.cons (.agg (.cons (.ptr 0 3) (.cons (.ptr 0 4) (.cons (.ptr 0 5) .nil)))) (.cons (.keep (.int .i64)) (anyN 24 .nil)))))))), [.cells 32 true (.cons (.keep (.int .i64)) (.cons (.keep (.int .i64)) (.cons (.keep (.list tQ)) (.cons (.keep (.list tRR)) (.cons (.keep (.list tRR)) (.cons (.keep (.list tRR)) .nil)))))), .cells 98 true (.cons (.ptr 0 3) (.cons (.ptr 0 4) (.cons (.ptr 0 5) .nil))), .cells 98 true (.cons (.ptr 0 3) (.cons (.ptr 0 4) (.cons (.ptr 0 5) .nil)))], [], []⟩)]⟩), ([72, 1000000], ⟨some ⟨(anyN 4 (.cons (.ty .str) (anyN 2 (.cons (.keep .str) (anyN 58 (.cons (.agg (.cons (.ptr 0 3) (.cons (.ptr 0 4) (.cons (.ptr 0 5) .nil)))) (.cons (.keep (.int .i64)) (anyN 4 (.cons (.keep (.list tRR)) (.cons (.keep (.int .i64)) (.cons (.ty (.int .i64)) (anyN 17 .nil)))))))))))), [.cells 32 true (.cons (.keep (.int .i64)) (.cons (.keep (.int .i64)) (.cons (.keep (.list tQ)) (.cons (.keep (.list tRR)) (.cons (.keep (.list tRR)) (.cons (.keep (.list tRR)) .nil)))))), .cells 98 true (.cons (.ptr 0 3) (.cons (.ptr 0 4) (.cons (.ptr 0 5) .nil))), .cells 98 true (.cons (.ptr 0 3) (.cons (.ptr 0 4) (.cons (.ptr 0 5) .nil)))], [], []⟩, [(.exit 6, ⟨(anyN 4 (.cons (.ty .str) (anyN 2 (.cons (.keep .str) (anyN 58 (.cons (.agg (.cons (.ptr 0 3) (.cons (.ptr 0 4) (.cons (.ptr 0 5) .nil)))) (.cons (.keep (.int .i64)) (anyN 24 .nil)))))))), [.cells 32 true (.cons (.keep (.int .i64)) (.cons (.keep (.int .i64)) (.cons (.keep (.list tQ)) (.cons (.keep (.list tRR)) (.cons (.keep (.list tRR)) (.cons (.keep (.list tRR)) .nil)))))), .cells 98 true (.cons (.ptr 0 3) (.cons (.ptr 0 4) (.cons (.ptr 0 5) .nil))), .cells 98 true (.cons (.ptr 0 3) (.cons (.ptr 0 4) (.cons (.ptr 0 5) .nil)))], [], []⟩)]⟩), ([72, 1000000, 1000000], ⟨some ⟨(anyN 4 (.cons (.ty .str) (anyN 2 (.cons (.keep .str) (anyN 58 (.cons (.agg (.cons (.ptr 0 3) (.cons (.ptr 0 4) (.cons (.ptr 0 5) .nil)))) (.cons (.keep (.int .i64)) (anyN 4 (.cons (.keep (.list tRR)) (.cons (.keep (.int .i64)) (.cons (.ty (.int .i64)) (anyN 17 .nil)))))))))))), [.cells 32 true (.cons (.keep (.int .i64)) (.cons (.keep (.int .i64)) (.cons (.keep (.list tQ)) (.cons (.keep (.list tRR)) (.cons (.keep (.list tRR)) (.cons (.keep (.list tRR)) .nil)))))), .cells 98 true (.cons (.ptr 0 3) (.cons (.ptr 0 4) (.cons (.ptr 0 5) .nil))), .cells 98 true (.cons (.ptr 0 3) (.cons (.ptr 0 4) (.cons (.ptr 0 5) .nil)))], [], []⟩, [(.exit 6, ⟨(anyN 4 (.cons (.ty .str) (anyN 2 (.cons (.keep .str) (anyN 58 (.cons (.agg (.cons (.ptr 0 3) (.cons (.ptr 0 4) (.cons (.ptr 0 5) .nil)))) (.cons (.keep (.int .i64)) (anyN 24 .nil)))))))), [.cells 32 true (.cons (.keep (.int .i64)) (.cons (.keep (.int .i64)) (.cons (.keep (.list tQ)) (.cons (.keep (.list tRR)) (.cons (.keep (.list tRR)) (.cons (.keep (.list tRR)) .nil)))))), .cells 98 true (.cons (.ptr 0 3) (.cons (.ptr 0 4) (.cons (.ptr 0 5) .nil))), .cells 98 true (.cons (.ptr 0 3) (.cons (.ptr 0 4) (.cons (.ptr 0 5) .nil)))], [], []⟩)]⟩)]
@[reducible] def fs_msg_Encode : List (Nat × SFn) := [(68, .pure [(.int .i64), (.int .i64)] [.str] (fun x => F_octet_Put x.1 x.2)), (69, .pure [.str, (.int .i64), tRR] [.str] (fun x => F_record_Encode x.1 x.2.1 x.2.2)), (67, .pure [tM] [.bool] (fun x => F_msg_Check x))]
def cfg_msg_Encode : SCfg := SCfg.of (fs_msg_Encode ++ inlL) ann_msg_Encode keepL
theorem eq_msg_Encode (x : HL [tM]) : fnK cfg_msg_Encode Tryz.prog 100000 41 [tM] [.str, (.int .i64)] x = (fun x => F_msg_Encode x) x := by kernel_rfl
theorem told_msg_Encode : Told CC Tryz.prog 41 [tM] [.str, (.int .i64)] (fun x => F_msg_Encode x) := told_of (gok (an := ann_msg_Encode) (fs := fs_msg_Encode) ⟨told_octet_Put, told_record_Encode, told_msg_Check, trivial⟩) rfl rfl eq_msg_Encode
def F_query_Out_Bytes (o_1 : (Int × (Int × (List UInt8 × (List UInt8 × (Int × (Int × (Int × Int)))))))) : Option (List UInt8) :=
  bnd (F_query_Out_Check (o_1.1, o_1.2.1, o_1.2.2.1, o_1.2.2.2.1, o_1.2.2.2.2.1, o_1.2.2.2.2.2.1, o_1.2.2.2.2.2.2.1, o_1.2.2.2.2.2.2.2)) fun v2 =>
  if (!v2) = true then
    some ([])
  else
    bnd (F_edns_Opt_Record (true, 1232, 0, 0, false)) fun (v3, v4) =>
    bnd (F_msg_Encode (o_1.1, 0, [(o_1.2.2.2.1, o_1.2.2.2.2.1, o_1.2.2.2.2.2.1)], [], [], [(v3.1, v3.2.1, v3.2.2.1, v3.2.2.2.1, v3.2.2.2.2)])) fun (v5, v6) =>
    some v5
def ann_query_Out_Bytes : List (List Nat × Ann) := []
@[reducible] def fs_query_Out_Bytes : List (Nat × SFn) := [(15, .pure [tO] [.bool] (fun x => F_query_Out_Check x)), (40, .pure [(.agg (.cons .bool (.cons (.int .i64) (.cons (.int .i64) (.cons (.int .i64) .bool)))))] [tRR, .bool] (fun x => F_edns_Opt_Record x)), (41, .pure [tM] [.str, (.int .i64)] (fun x => F_msg_Encode x))]
def cfg_query_Out_Bytes : SCfg := SCfg.of (fs_query_Out_Bytes ++ inlL) ann_query_Out_Bytes keepL
theorem eq_query_Out_Bytes (x : HL [tO]) : fnK cfg_query_Out_Bytes Tryz.prog 100000 17 [tO] [.str] x = (fun x => F_query_Out_Bytes x) x := by kernel_rfl
theorem told_query_Out_Bytes : Told CC Tryz.prog 17 [tO] [.str] (fun x => F_query_Out_Bytes x) := told_of (gok (an := ann_query_Out_Bytes) (fs := fs_query_Out_Bytes) ⟨told_query_Out_Check, told_edns_Opt_Record, told_msg_Encode, trivial⟩) rfl rfl eq_query_Out_Bytes
def F_flag_Field_Of (f_1 : Int) (bits_2 : Int) : Option (Int) :=
  bnd (F_flag_Field_may f_1 bits_2) fun v3 =>
  if (!v3) = true then
    some 0
  else
    if (f_1 == 0) = true then
      bnd (F_flag_place_mask (15, 1)) fun v4 =>
      some (Go.bits Go.BinOp.and Go.IntKind.i64 (bits_2.fdiv 32768) v4)
    else
      if (f_1 == 1) = true then
        bnd (F_flag_place_mask (11, 4)) fun v5 =>
        some (Go.bits Go.BinOp.and Go.IntKind.i64 (bits_2.fdiv 2048) v5)
      else
        if (f_1 == 2) = true then
          bnd (F_flag_place_mask (10, 1)) fun v6 =>
          some (Go.bits Go.BinOp.and Go.IntKind.i64 (bits_2.fdiv 1024) v6)
        else
          if (f_1 == 3) = true then
            bnd (F_flag_place_mask (9, 1)) fun v7 =>
            some (Go.bits Go.BinOp.and Go.IntKind.i64 (bits_2.fdiv 512) v7)
          else
            if (f_1 == 4) = true then
              bnd (F_flag_place_mask (8, 1)) fun v8 =>
              some (Go.bits Go.BinOp.and Go.IntKind.i64 (bits_2.fdiv 256) v8)
            else
              if (f_1 == 5) = true then
                bnd (F_flag_place_mask (7, 1)) fun v9 =>
                some (Go.bits Go.BinOp.and Go.IntKind.i64 (bits_2.fdiv 128) v9)
              else
                if (f_1 == 6) = true then
                  bnd (F_flag_place_mask (5, 1)) fun v10 =>
                  some (Go.bits Go.BinOp.and Go.IntKind.i64 (bits_2.fdiv 32) v10)
                else
                  if (f_1 == 7) = true then
                    bnd (F_flag_place_mask (4, 1)) fun v11 =>
                    some (Go.bits Go.BinOp.and Go.IntKind.i64 (bits_2.fdiv 16) v11)
                  else
                    if (f_1 == 8) = true then
                      bnd (F_flag_place_mask (0, 4)) fun v12 =>
                      some (Go.bits Go.BinOp.and Go.IntKind.i64 (bits_2.fdiv 1) v12)
                    else
                      none
def ann_flag_Field_Of : List (List Nat × Ann) := []
@[reducible] def fs_flag_Field_Of : List (Nat × SFn) := [(59, .pure [(.int .i64), (.int .i64)] [.bool] (fun x => F_flag_Field_may x.1 x.2)), (61, .pure [(.agg (.cons (.int .i64) (.int .i64)))] [(.int .i64)] (fun x => F_flag_place_mask x))]
def cfg_flag_Field_Of : SCfg := SCfg.of (fs_flag_Field_Of ++ inlL) ann_flag_Field_Of keepL
theorem eq_flag_Field_Of (x : HL [(.int .i64), (.int .i64)]) : fnK cfg_flag_Field_Of Tryz.prog 100000 31 [(.int .i64), (.int .i64)] [(.int .i64)] x = (fun x => F_flag_Field_Of x.1 x.2) x := by kernel_rfl
theorem told_flag_Field_Of : Told CC Tryz.prog 31 [(.int .i64), (.int .i64)] [(.int .i64)] (fun x => F_flag_Field_Of x.1 x.2) := told_of (gok (an := ann_flag_Field_Of) (fs := fs_flag_Field_Of) ⟨told_flag_Field_may, told_flag_place_mask, trivial⟩) rfl rfl eq_flag_Field_Of
def step_query_Match_0 (l_1 : List (Int × Int × List UInt8 × List UInt8 × Int × Int × Int × Int)) (server_2 : List UInt8) (port_3 : Int) (v5 : Int × Int × List (List UInt8 × Int × Int) × List (List UInt8 × Int × Int × Int × List UInt8) × List (List UInt8 × Int × Int × Int × List UInt8) × List (List UInt8 × Int × Int × Int × List UInt8)) : Int → Option (Int ⊕ (Int ⊕ Unit)) := fun s8_13 =>
  if decide (s8_13 < (↑l_1.length : Int)) = true then
    natOf s8_13 fun n14 =>
    bnd (l_1[n14]?) fun x15 =>
    if (x15.2.2.1 == server_2) = true then
      if (x15.2.1 == port_3) = true then
        bnd (F_query_Out_answers (x15.1, x15.2.1, x15.2.2.1, x15.2.2.2.1, x15.2.2.2.2.1, x15.2.2.2.2.2.1, x15.2.2.2.2.2.2.1, x15.2.2.2.2.2.2.2) (v5.1, v5.2.1, v5.2.2.1, v5.2.2.2.1, v5.2.2.2.2.1, v5.2.2.2.2.2)) fun v16 =>
        if v16 = true then
          grdEq server_2 server_2 <|
          grdEq port_3 port_3 <|
          grdEq (α := Int) 0 0 <|
          grdEq (α := Int) 0 0 <|
          grdEq v5.1 v5.1 <|
          grdEq v5.2.1 v5.2.1 <|
          grdEq v5.2.2.1 v5.2.2.1 <|
          grdEq v5.2.2.2.1 v5.2.2.2.1 <|
          grdEq v5.2.2.2.2.1 v5.2.2.2.2.1 <|
          grdEq v5.2.2.2.2.2 v5.2.2.2.2.2 <|
          some (.inr (.inl s8_13))
        else
          grdEq l_1 l_1 <|
          grdEq ((↑l_1.length : Int)) ((↑l_1.length : Int)) <|
          grdEq server_2 server_2 <|
          grdEq port_3 port_3 <|
          grdEq (α := Int) 0 0 <|
          grdEq (α := Int) 0 0 <|
          grdEq v5.1 v5.1 <|
          grdEq v5.2.1 v5.2.1 <|
          grdEq v5.2.2.1 v5.2.2.1 <|
          grdEq v5.2.2.2.1 v5.2.2.2.1 <|
          grdEq v5.2.2.2.2.1 v5.2.2.2.2.1 <|
          grdEq v5.2.2.2.2.2 v5.2.2.2.2.2 <|
          some (.inl (Go.IntKind.i64.wrap (s8_13 + 1)))
      else
        grdEq l_1 l_1 <|
        grdEq ((↑l_1.length : Int)) ((↑l_1.length : Int)) <|
        grdEq server_2 server_2 <|
        grdEq port_3 port_3 <|
        grdEq (α := Int) 0 0 <|
        grdEq (α := Int) 0 0 <|
        grdEq v5.1 v5.1 <|
        grdEq v5.2.1 v5.2.1 <|
        grdEq v5.2.2.1 v5.2.2.1 <|
        grdEq v5.2.2.2.1 v5.2.2.2.1 <|
        grdEq v5.2.2.2.2.1 v5.2.2.2.2.1 <|
        grdEq v5.2.2.2.2.2 v5.2.2.2.2.2 <|
        some (.inl (Go.IntKind.i64.wrap (s8_13 + 1)))
    else
      grdEq l_1 l_1 <|
      grdEq ((↑l_1.length : Int)) ((↑l_1.length : Int)) <|
      grdEq server_2 server_2 <|
      grdEq port_3 port_3 <|
      grdEq (α := Int) 0 0 <|
      grdEq (α := Int) 0 0 <|
      grdEq v5.1 v5.1 <|
      grdEq v5.2.1 v5.2.1 <|
      grdEq v5.2.2.1 v5.2.2.1 <|
      grdEq v5.2.2.2.1 v5.2.2.2.1 <|
      grdEq v5.2.2.2.2.1 v5.2.2.2.2.1 <|
      grdEq v5.2.2.2.2.2 v5.2.2.2.2.2 <|
      some (.inl (Go.IntKind.i64.wrap (s8_13 + 1)))
  else
    grdEq server_2 server_2 <|
    grdEq port_3 port_3 <|
    grdEq (α := Int) 0 0 <|
    grdEq (α := Int) 0 0 <|
    grdEq v5.1 v5.1 <|
    grdEq v5.2.1 v5.2.1 <|
    grdEq v5.2.2.1 v5.2.2.1 <|
    grdEq v5.2.2.2.1 v5.2.2.2.1 <|
    grdEq v5.2.2.2.2.1 v5.2.2.2.2.1 <|
    grdEq v5.2.2.2.2.2 v5.2.2.2.2.2 <|
    some (.inr (.inr (())))
def F_query_Match (l_1 : List ((Int × (Int × (List UInt8 × (List UInt8 × (Int × (Int × (Int × Int))))))))) (server_2 : List UInt8) (port_3 : Int) (s_4 : List UInt8) : Option ((Int × ((Int × (Int × (List ((List UInt8 × (Int × Int))) × (List ((List UInt8 × (Int × (Int × (Int × List UInt8))))) × (List ((List UInt8 × (Int × (Int × (Int × List UInt8))))) × List ((List UInt8 × (Int × (Int × (Int × List UInt8)))))))))) × Int))) :=
  bnd (F_msg_Decode s_4) fun (v5, v6) =>
  bnd (α := ((Int × Int) ⊕ Unit)) (bnd (α := Bool) (if (v6 != 0) = false then
        bnd (F_flag_Field_Of 0 v5.2.1) fun v7 =>
        if (v7 == 0) = false then
          bnd (F_flag_Field_Of 1 v5.2.1) fun v8 =>
          if (v8 != 0) = false then
            grdEq l_1 l_1 <|
            grdEq server_2 server_2 <|
            grdEq port_3 port_3 <|
            grdEq (α := Int) 0 0 <|
            grdEq (α := Int) 0 0 <|
            grdEq v5.1 v5.1 <|
            grdEq v5.2.1 v5.2.1 <|
            grdEq v5.2.2.1 v5.2.2.1 <|
            grdEq v5.2.2.2.1 v5.2.2.2.1 <|
            grdEq v5.2.2.2.2.1 v5.2.2.2.2.1 <|
            grdEq v5.2.2.2.2.2 v5.2.2.2.2.2 <|
            some ((↑(List.length v5.2.2.1) : Int) != 1)
          else
            grdEq l_1 l_1 <|
            grdEq server_2 server_2 <|
            grdEq port_3 port_3 <|
            grdEq (α := Int) 0 0 <|
            grdEq (α := Int) 0 0 <|
            grdEq v5.1 v5.1 <|
            grdEq v5.2.1 v5.2.1 <|
            grdEq v5.2.2.1 v5.2.2.1 <|
            grdEq v5.2.2.2.1 v5.2.2.2.1 <|
            grdEq v5.2.2.2.2.1 v5.2.2.2.2.1 <|
            grdEq v5.2.2.2.2.2 v5.2.2.2.2.2 <|
            some true
        else
          grdEq l_1 l_1 <|
          grdEq server_2 server_2 <|
          grdEq port_3 port_3 <|
          grdEq (α := Int) 0 0 <|
          grdEq (α := Int) 0 0 <|
          grdEq v5.1 v5.1 <|
          grdEq v5.2.1 v5.2.1 <|
          grdEq v5.2.2.1 v5.2.2.1 <|
          grdEq v5.2.2.2.1 v5.2.2.2.1 <|
          grdEq v5.2.2.2.2.1 v5.2.2.2.2.1 <|
          grdEq v5.2.2.2.2.2 v5.2.2.2.2.2 <|
          some true
      else
        grdEq l_1 l_1 <|
        grdEq server_2 server_2 <|
        grdEq port_3 port_3 <|
        grdEq (α := Int) 0 0 <|
        grdEq (α := Int) 0 0 <|
        grdEq v5.1 v5.1 <|
        grdEq v5.2.1 v5.2.1 <|
        grdEq v5.2.2.1 v5.2.2.1 <|
        grdEq v5.2.2.2.1 v5.2.2.2.1 <|
        grdEq v5.2.2.2.2.1 v5.2.2.2.2.1 <|
        grdEq v5.2.2.2.2.2 v5.2.2.2.2.2 <|
        some true) fun s38_9 =>
    if s38_9 = true then
      grdEq server_2 server_2 <|
      grdEq port_3 port_3 <|
      grdEq (α := Int) 0 0 <|
      grdEq (α := Int) 0 0 <|
      grdEq v5.1 v5.1 <|
      grdEq v5.2.1 v5.2.1 <|
      grdEq v5.2.2.1 v5.2.2.1 <|
      grdEq v5.2.2.2.1 v5.2.2.2.1 <|
      grdEq v5.2.2.2.2.1 v5.2.2.2.2.1 <|
      grdEq v5.2.2.2.2.2 v5.2.2.2.2.2 <|
      some (.inl ((-1, 7)))
    else
      grdEq l_1 l_1 <|
      grdEq server_2 server_2 <|
      grdEq port_3 port_3 <|
      grdEq (α := Int) 0 0 <|
      grdEq (α := Int) 0 0 <|
      grdEq v5.1 v5.1 <|
      grdEq v5.2.1 v5.2.1 <|
      grdEq v5.2.2.1 v5.2.2.1 <|
      grdEq v5.2.2.2.1 v5.2.2.2.1 <|
      grdEq v5.2.2.2.2.1 v5.2.2.2.2.1 <|
      grdEq v5.2.2.2.2.2 v5.2.2.2.2.2 <|
      some (.inr (()))) fun o10 =>
  match o10 with
  | .inl (s8_11, s10_12) =>
    some ((s8_11, ((0, (0, ([], ([], ([], []))))), s10_12)))
  | .inr _ =>
    bnd (loopS (step_query_Match_0 l_1 server_2 port_3 v5) 0) fun o17 =>
    match o17 with
    | .inl s4_18 =>
      if decide (s4_18 < 0) = true then
        some ((-1, ((0, (0, ([], ([], ([], []))))), 13)))
      else
        some ((s4_18, ((v5.1, (v5.2.1, (v5.2.2.1, (v5.2.2.2.1, (v5.2.2.2.2.1, v5.2.2.2.2.2))))), 0)))
    | .inr _ =>
      some ((-1, ((0, (0, ([], ([], ([], []))))), 13)))
def ann_query_Match : List (List Nat × Ann) := [([4], ⟨none, [(.ret, ⟨(anyN 8 (.cons (.ty (.int .i64)) (.cons (.ptr 2 0) (.cons (.ty (.int .i64)) (anyN 37 .nil))))), [.cells 9 true (.cons (.keep .str) .nil), .cells 3 true (.cons (.keep (.int .i64)) .nil), .cells 32 true (.cons (.keep (.int .i64)) (.cons (.keep (.int .i64)) (.cons .nill (.cons .nill (.cons .nill (.cons .nill .nil)))))), .cells 32 true (.cons (.keep (.int .i64)) (.cons (.keep (.int .i64)) (.cons (.keep (.list tQ)) (.cons (.keep (.list tRR)) (.cons (.keep (.list tRR)) (.cons (.keep (.list tRR)) .nil))))))], [], []⟩), (.normal, ⟨(.cons (.keep (.list tO)) (anyN 4 (.cons (.ptr 0 0) (.cons (.ptr 1 0) (anyN 2 (.cons (.ptr 2 0) (anyN 1 (.cons (.ptr 3 0) (anyN 36 .nil))))))))), [.cells 9 true (.cons (.keep .str) .nil), .cells 3 true (.cons (.keep (.int .i64)) .nil), .cells 32 true (.cons (.keep (.int .i64)) (.cons (.keep (.int .i64)) (.cons .nill (.cons .nill (.cons .nill (.cons .nill .nil)))))), .cells 32 true (.cons (.keep (.int .i64)) (.cons (.keep (.int .i64)) (.cons (.keep (.list tQ)) (.cons (.keep (.list tRR)) (.cons (.keep (.list tRR)) (.cons (.keep (.list tRR)) .nil))))))], [], []⟩)]⟩), ([5], ⟨none, [(.normal, ⟨(.cons (.keep (.list tO)) (anyN 4 (.cons (.ptr 0 0) (.cons (.ptr 1 0) (anyN 2 (.cons (.ptr 2 0) (anyN 1 (.cons (.ptr 3 0) (anyN 26 (.cons (.ty .bool) (anyN 9 .nil))))))))))), [.cells 9 true (.cons (.keep .str) .nil), .cells 3 true (.cons (.keep (.int .i64)) .nil), .cells 32 true (.cons (.keep (.int .i64)) (.cons (.keep (.int .i64)) (.cons .nill (.cons .nill (.cons .nill (.cons .nill .nil)))))), .cells 32 true (.cons (.keep (.int .i64)) (.cons (.keep (.int .i64)) (.cons (.keep (.list tQ)) (.cons (.keep (.list tRR)) (.cons (.keep (.list tRR)) (.cons (.keep (.list tRR)) .nil))))))], [], []⟩)]⟩), ([6, 32, 2, 13], ⟨some ⟨(.cons (.keep (.list tO)) (.cons (.func 33 .nil (.cons (.ptr 0 0) (.cons (.ptr 1 0) (.cons (.ptr 3 0) .nil)))) (anyN 5 (.cons (.keep (.int .i64)) (.cons (.ty (.int .i64)) (anyN 10 .nil)))))), [.cells 9 true (.cons (.keep .str) .nil), .cells 3 true (.cons (.keep (.int .i64)) .nil), .cells 32 true (.cons (.keep (.int .i64)) (.cons (.keep (.int .i64)) (.cons .nill (.cons .nill (.cons .nill (.cons .nill .nil)))))), .cells 32 true (.cons (.keep (.int .i64)) (.cons (.keep (.int .i64)) (.cons (.keep (.list tQ)) (.cons (.keep (.list tRR)) (.cons (.keep (.list tRR)) (.cons (.keep (.list tRR)) .nil))))))], [], []⟩, [(.ret, ⟨(anyN 4 (.cons (.ty (.int .i64)) (anyN 14 .nil))), [.cells 9 true (.cons (.keep .str) .nil), .cells 3 true (.cons (.keep (.int .i64)) .nil), .cells 32 true (.cons (.keep (.int .i64)) (.cons (.keep (.int .i64)) (.cons .nill (.cons .nill (.cons .nill (.cons .nill .nil)))))), .cells 32 true (.cons (.keep (.int .i64)) (.cons (.keep (.int .i64)) (.cons (.keep (.list tQ)) (.cons (.keep (.list tRR)) (.cons (.keep (.list tRR)) (.cons (.keep (.list tRR)) .nil))))))], [], []⟩), (.exit 0, ⟨(anyN 19 .nil), [.cells 9 true (.cons (.keep .str) .nil), .cells 3 true (.cons (.keep (.int .i64)) .nil), .cells 32 true (.cons (.keep (.int .i64)) (.cons (.keep (.int .i64)) (.cons .nill (.cons .nill (.cons .nill (.cons .nill .nil)))))), .cells 32 true (.cons (.keep (.int .i64)) (.cons (.keep (.int .i64)) (.cons (.keep (.list tQ)) (.cons (.keep (.list tRR)) (.cons (.keep (.list tRR)) (.cons (.keep (.list tRR)) .nil))))))], [], []⟩)]⟩)]
@[reducible] def fs_query_Match : List (Nat × SFn) := [(34, .pure [tO, tM] [.bool] (fun x => F_query_Out_answers x.1 x.2)), (30, .pure [.str] [tM, (.int .i64)] (fun x => F_msg_Decode x)), (31, .pure [(.int .i64), (.int .i64)] [(.int .i64)] (fun x => F_flag_Field_Of x.1 x.2))]
def cfg_query_Match : SCfg := SCfg.of (fs_query_Match ++ inlL) ann_query_Match keepL
theorem eq_query_Match (x : HL [(.list tO), .str, (.int .i64), .str]) : fnK cfg_query_Match Tryz.prog 100000 11 [(.list tO), .str, (.int .i64), .str] [(.int .i64), tM, (.int .i64)] x = (fun x => F_query_Match x.1 x.2.1 x.2.2.1 x.2.2.2) x := by kernel_rfl
theorem told_query_Match : Told CC Tryz.prog 11 [(.list tO), .str, (.int .i64), .str] [(.int .i64), tM, (.int .i64)] (fun x => F_query_Match x.1 x.2.1 x.2.2.1 x.2.2.2) := told_of (gok (an := ann_query_Match) (fs := fs_query_Match) ⟨told_query_Out_answers, told_msg_Decode, told_flag_Field_Of, trivial⟩) rfl rfl eq_query_Match
def step_query_Without_0 (task_2 : Int) (s_3 : List (Int × Int × List UInt8 × List UInt8 × Int × Int × Int × Int)) : (List ((Int × (Int × (List UInt8 × (List UInt8 × (Int × (Int × (Int × Int)))))))) × Int) → Option ((List ((Int × (Int × (List UInt8 × (List UInt8 × (Int × (Int × (Int × Int)))))))) × Int) ⊕ (Int ⊕ Unit)) := fun (s_4, s8_5) =>
  if decide (s8_5 < (↑s_3.length : Int)) = true then
    natOf s8_5 fun n6 =>
    bnd (s_4[n6]?) fun x7 =>
    if (x7.2.2.2.2.2.2.2 == task_2) = true then
      grdEq task_2 task_2 <|
      some (.inr (.inl s8_5))
    else
      grdEq ((↑s_3.length : Int)) ((↑s_3.length : Int)) <|
      grdEq task_2 task_2 <|
      some (.inl ((s_4, Go.IntKind.i64.wrap (s8_5 + 1))))
  else
    grdEq task_2 task_2 <|
    some (.inr (.inr (())))
def step_query_Without_1 (task_2 : Int) : (List ((Int × (Int × (List UInt8 × (List UInt8 × (Int × (Int × (Int × Int)))))))) × (Int × Int)) → Option ((List ((Int × (Int × (List UInt8 × (List UInt8 × (Int × (Int × (Int × Int)))))))) × (Int × Int)) ⊕ (List ((Int × (Int × (List UInt8 × (List UInt8 × (Int × (Int × (Int × Int)))))))) × Int)) := fun (s_10, i_11, j_12) =>
  if decide (j_12 < (↑s_10.length : Int)) = true then
    natOf j_12 fun n13 =>
    bnd (s_10[n13]?) fun x14 =>
    if (!x14.2.2.2.2.2.2.2 == task_2) = true then
      natOf i_11 fun n15 =>
      bnd (s_10[n15]?) fun x16 =>
      grdEq task_2 task_2 <|
      some (.inl ((s_10.set n15 (x14.1, x14.2.1, x14.2.2.1, x14.2.2.2.1, x14.2.2.2.2.1, x14.2.2.2.2.2.1, x14.2.2.2.2.2.2.1, x14.2.2.2.2.2.2.2), (Go.IntKind.i64.wrap (i_11 + 1), Go.IntKind.i64.wrap (j_12 + 1)))))
    else
      grdEq task_2 task_2 <|
      some (.inl ((s_10, (i_11, Go.IntKind.i64.wrap (j_12 + 1)))))
  else
    grdEq task_2 task_2 <|
    some (.inr ((s_10, i_11)))
def F_query_Without (l_1 : List ((Int × (Int × (List UInt8 × (List UInt8 × (Int × (Int × (Int × Int))))))))) (task_2 : Int) : Option (List ((Int × (Int × (List UInt8 × (List UInt8 × (Int × (Int × (Int × Int))))))))) :=
  bnd (α := List ((Int × (Int × (List UInt8 × (List UInt8 × (Int × (Int × (Int × Int))))))))) (selB l_1.isEmpty
      (grdEq task_2 task_2 <|
        some ([]))
      (grd ((0 + l_1.length) * 80 ≤ roomLim) <|
        grdEq task_2 task_2 <|
        some l_1)) fun s_3 =>
  bnd (loopS (step_query_Without_0 task_2 s_3) ((s_3, 0))) fun o8 =>
  match o8 with
  | .inl s4_9 =>
    if (s4_9 == -1) = true then
      some s_3
    else
      bnd (loopS (step_query_Without_1 task_2) ((s_3, (s4_9, Go.IntKind.i64.wrap (s4_9 + 1))))) fun (s_17, i_18) =>
      natOf i_18 fun n19 =>
      grd (n19 ≤ s_17.length) <|
      natOf i_18 fun n20 =>
      grd (n20 ≤ (List.take (s_17.length - (List.drop n19 s_17).length) s_17 ++ List.replicate (List.drop n19 s_17).length (0, 0, [], [], 0, 0, 0, 0)).length) <|
      some (List.take n20 (List.take (s_17.length - (List.drop n19 s_17).length) s_17 ++ List.replicate (List.drop n19 s_17).length (0, 0, [], [], 0, 0, 0, 0)))
  | .inr _ =>
    some s_3
def ann_query_Without : List (List Nat × Ann) := [([2000000, 45, 1, 3], ⟨none, [(.ret, ⟨(.cons (.own tO 0 true) .nil), [.cells 3 true (.cons (.keep (.int .i64)) .nil)], [⟨⟨1, tO, 41, true, true⟩, true⟩], []⟩)]⟩), ([16, 44, 3, 3], ⟨some ⟨(.cons (.own tO 0 true) (.cons (.func 46 .nil (.cons (.ptr 0 0) .nil)) (anyN 3 (.cons (.ty (.int .i64)) (.cons (.ty (.int .i64)) (anyN 35 .nil)))))), [.cells 3 true (.cons (.keep (.int .i64)) .nil)], [⟨⟨1, tO, 41, true, true⟩, false⟩], [0]⟩, [(.exit 0, ⟨(.cons (.own tO 0 true) (anyN 4 (.cons (.ty (.int .i64)) (anyN 36 .nil)))), [.cells 3 true (.cons (.keep (.int .i64)) .nil)], [⟨⟨1, tO, 41, true, true⟩, false⟩], [0]⟩)]⟩), ([6, 32, 2, 3, 44, 3, 3], ⟨some ⟨(.cons (.own tO 0 true) (.cons (.func 46 .nil (.cons (.ptr 0 0) .nil)) (anyN 5 (.cons (.keep (.int .i64)) (.cons (.ty (.int .i64)) (anyN 10 .nil)))))), [.cells 3 true (.cons (.keep (.int .i64)) .nil)], [⟨⟨1, tO, 41, true, true⟩, false⟩], []⟩, [(.ret, ⟨(anyN 4 (.cons (.ty (.int .i64)) (anyN 14 .nil))), [.cells 3 true (.cons (.keep (.int .i64)) .nil)], [⟨⟨1, tO, 41, true, true⟩, false⟩], []⟩), (.exit 0, ⟨(anyN 19 .nil), [.cells 3 true (.cons (.keep (.int .i64)) .nil)], [⟨⟨1, tO, 41, true, true⟩, false⟩], []⟩)]⟩)]
def cfg_query_Without : SCfg := SCfg.of ([] ++ inlL) ann_query_Without keepL
theorem eq_query_Without (x : HL [(.list tO), (.int .i64)]) : fnK cfg_query_Without Tryz.prog 100000 24 [(.list tO), (.int .i64)] [(.list tO)] x = (fun x => F_query_Without x.1 x.2) x := by kernel_rfl
theorem told_query_Without : Told CC Tryz.prog 24 [(.list tO), (.int .i64)] [(.list tO)] (fun x => F_query_Without x.1 x.2) := told_of (gok (an := ann_query_Without) (fs := []) trivial) rfl rfl eq_query_Without
def F_law20_live : Option (Bool) :=
  bnd (F_law20_answer (7, 99, [49, 49, 49, 49], [1, 65, 0], 1, 1, 5, 3)) fun v1 =>
  bnd (F_query_Match [(7, 99, [49, 49, 49, 49], [1, 65, 0], 1, 1, 5, 3)] [49, 49, 49, 49] 99 v1) fun (v2, v3, v4) =>
  bnd (F_law20_answer (7, 99, [49, 49, 49, 49], [1, 65, 0], 1, 1, 5, 3)) fun v5 =>
  bnd (F_query_Match [(7, 99, [49, 49, 49, 49], [1, 65, 0], 1, 1, 5, 3)] [49, 49, 49, 50] 99 v5) fun (v6, v7, v8) =>
  bnd (F_law20_answer (7, 99, [49, 49, 49, 49], [1, 97, 0], 1, 1, 5, 3)) fun v9 =>
  bnd (F_query_Match [(7, 99, [49, 49, 49, 49], [1, 65, 0], 1, 1, 5, 3)] [49, 49, 49, 49] 99 v9) fun (v10, v11, v12) =>
  bnd (F_query_Out_Bytes (7, 99, [49, 49, 49, 49], [1, 65, 0], 1, 1, 5, 3)) fun v13 =>
  bnd (F_query_Match [(7, 99, [49, 49, 49, 49], [1, 65, 0], 1, 1, 5, 3)] [49, 49, 49, 49] 99 v13) fun (v14, v15, v16) =>
  if (v2 == 0) = true then
    if (v3.1 == 7) = true then
      if (v4 == 0) = true then
        if (v8 == 13) = true then
          if (v12 == 13) = true then
            if (v16 == 7) = true then
              bnd (F_query_Out_Bytes (7, 99, [49, 49, 49, 49], [1, 65, 0], 1, 1, 5, 3)) fun v17 =>
              if ((↑v17.length : Int) == 30) = true then
                bnd (F_query_Out_Check (7, 99, [49, 49, 49, 49], [1, 65, 0], 1, 1, 5, 3)) fun v18 =>
                if v18 = true then
                  bnd (F_query_Out_Check (0, 0, [], [], 0, 0, 0, 0)) fun v19 =>
                  if (!v19) = true then
                    bnd (F_query_Late [(7, 99, [49, 49, 49, 49], [1, 65, 0], 1, 1, 5, 3)] 5) fun v20 =>
                    bnd (F_ref13_Same v20 [0]) fun v21 =>
                    if v21 = true then
                      bnd (F_query_Late [(7, 99, [49, 49, 49, 49], [1, 65, 0], 1, 1, 5, 3)] 4) fun v22 =>
                      if ((↑v22.length : Int) == 0) = true then
                        bnd (F_query_Without [(7, 99, [49, 49, 49, 49], [1, 65, 0], 1, 1, 5, 3)] 3) fun v23 =>
                        if ((↑v23.length : Int) == 0) = true then
                          bnd (F_query_Without [(7, 99, [49, 49, 49, 49], [1, 65, 0], 1, 1, 5, 3)] 2) fun v24 =>
                          some ((↑v24.length : Int) == 1)
                        else
                          some false
                      else
                        some false
                    else
                      some false
                  else
                    some false
                else
                  some false
              else
                some false
            else
              some false
          else
            some false
        else
          some false
      else
        some false
    else
      some false
  else
    some false
def ann_law20_live : List (List Nat × Ann) := []
@[reducible] def fs_law20_live : List (Nat × SFn) := [(26, .pure [tO] [.str] (fun x => F_law20_answer x)), (11, .pure [(.list tO), .str, (.int .i64), .str] [(.int .i64), tM, (.int .i64)] (fun x => F_query_Match x.1 x.2.1 x.2.2.1 x.2.2.2)), (17, .pure [tO] [.str] (fun x => F_query_Out_Bytes x)), (15, .pure [tO] [.bool] (fun x => F_query_Out_Check x)), (20, .pure [(.list tO), (.int .i64)] [(.list (.int .i64))] (fun x => F_query_Late x.1 x.2)), (19, .pure [(.list (.int .i64)), (.list (.int .i64))] [.bool] (fun x => F_ref13_Same x.1 x.2)), (24, .pure [(.list tO), (.int .i64)] [(.list tO)] (fun x => F_query_Without x.1 x.2))]
def cfg_law20_live : SCfg := SCfg.of (fs_law20_live ++ inlL) ann_law20_live keepL
theorem eq_law20_live (x : HL []) : fnK cfg_law20_live Tryz.prog 100000 10 [] [.bool] x = (fun x => F_law20_live) x := by kernel_rfl
theorem told_law20_live : Told CC Tryz.prog 10 [] [.bool] (fun x => F_law20_live) := told_of (gok (an := ann_law20_live) (fs := fs_law20_live) ⟨told_law20_answer, told_query_Match, told_query_Out_Bytes, told_query_Out_Check, told_query_Late, told_ref13_Same, told_query_Without, trivial⟩) rfl rfl eq_law20_live
end
end Go.Abs
