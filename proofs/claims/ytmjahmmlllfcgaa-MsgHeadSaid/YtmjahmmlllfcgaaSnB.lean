/- Part of a proof: a machine of plain data, and what the functions come to on it. -/
import Derived.Test.YtmjahmmlllfcgaaSnA
set_option linter.unusedSimpArgs false
set_option linter.unusedVariables false
set_option linter.unusedSectionVars false
set_option maxRecDepth 100000
namespace Go.Abs
open Go Go.Proofs
noncomputable section
def step_msg_Check_0 (m_1 : Int × Int × List (List UInt8 × Int × Int) × List (List UInt8 × Int × Int × Int × List UInt8) × List (List UInt8 × Int × Int × Int × List UInt8) × List (List UInt8 × Int × Int × Int × List UInt8)) : Int → Option (Int ⊕ (Int ⊕ Unit)) := fun s8_3 =>
  if decide (s8_3 < (↑(List.length m_1.snd.snd.snd.fst) : Int)) = true then
    natOf s8_3 fun n4 =>
    bnd (m_1.snd.snd.snd.fst[n4]?) fun x5 =>
    bnd (F_msg_Check_1 (x5.fst, x5.snd.fst, x5.snd.snd.fst, x5.snd.snd.snd.fst, x5.snd.snd.snd.snd)) fun v6 =>
    if v6 = true then
      grdEq m_1.fst m_1.fst <|
      grdEq m_1.snd.fst m_1.snd.fst <|
      grdEq m_1.snd.snd.fst m_1.snd.snd.fst <|
      grdEq m_1.snd.snd.snd.fst m_1.snd.snd.snd.fst <|
      grdEq m_1.snd.snd.snd.snd.fst m_1.snd.snd.snd.snd.fst <|
      grdEq m_1.snd.snd.snd.snd.snd m_1.snd.snd.snd.snd.snd <|
      some (.inr (.inl s8_3))
    else
      grdEq m_1.snd.snd.snd.fst m_1.snd.snd.snd.fst <|
      grdEq ((↑(List.length m_1.snd.snd.snd.fst) : Int)) ((↑(List.length m_1.snd.snd.snd.fst) : Int)) <|
      grdEq m_1.fst m_1.fst <|
      grdEq m_1.snd.fst m_1.snd.fst <|
      grdEq m_1.snd.snd.fst m_1.snd.snd.fst <|
      grdEq m_1.snd.snd.snd.fst m_1.snd.snd.snd.fst <|
      grdEq m_1.snd.snd.snd.snd.fst m_1.snd.snd.snd.snd.fst <|
      grdEq m_1.snd.snd.snd.snd.snd m_1.snd.snd.snd.snd.snd <|
      some (.inl (Go.IntKind.i64.wrap (s8_3 + 1)))
  else
    grdEq m_1.fst m_1.fst <|
    grdEq m_1.snd.fst m_1.snd.fst <|
    grdEq m_1.snd.snd.fst m_1.snd.snd.fst <|
    grdEq m_1.snd.snd.snd.fst m_1.snd.snd.snd.fst <|
    grdEq m_1.snd.snd.snd.snd.fst m_1.snd.snd.snd.snd.fst <|
    grdEq m_1.snd.snd.snd.snd.snd m_1.snd.snd.snd.snd.snd <|
    some (.inr (.inr (())))
def step_msg_Check_1 (m_1 : Int × Int × List (List UInt8 × Int × Int) × List (List UInt8 × Int × Int × Int × List UInt8) × List (List UInt8 × Int × Int × Int × List UInt8) × List (List UInt8 × Int × Int × Int × List UInt8)) : Int → Option (Int ⊕ (Int ⊕ Unit)) := fun s8_10 =>
  if decide (s8_10 < (↑(List.length m_1.snd.snd.snd.snd.fst) : Int)) = true then
    natOf s8_10 fun n11 =>
    bnd (m_1.snd.snd.snd.snd.fst[n11]?) fun x12 =>
    bnd (F_msg_Check_1 (x12.fst, x12.snd.fst, x12.snd.snd.fst, x12.snd.snd.snd.fst, x12.snd.snd.snd.snd)) fun v13 =>
    if v13 = true then
      grdEq m_1.fst m_1.fst <|
      grdEq m_1.snd.fst m_1.snd.fst <|
      grdEq m_1.snd.snd.fst m_1.snd.snd.fst <|
      grdEq m_1.snd.snd.snd.fst m_1.snd.snd.snd.fst <|
      grdEq m_1.snd.snd.snd.snd.fst m_1.snd.snd.snd.snd.fst <|
      grdEq m_1.snd.snd.snd.snd.snd m_1.snd.snd.snd.snd.snd <|
      some (.inr (.inl s8_10))
    else
      grdEq m_1.snd.snd.snd.snd.fst m_1.snd.snd.snd.snd.fst <|
      grdEq ((↑(List.length m_1.snd.snd.snd.snd.fst) : Int)) ((↑(List.length m_1.snd.snd.snd.snd.fst) : Int)) <|
      grdEq m_1.fst m_1.fst <|
      grdEq m_1.snd.fst m_1.snd.fst <|
      grdEq m_1.snd.snd.fst m_1.snd.snd.fst <|
      grdEq m_1.snd.snd.snd.fst m_1.snd.snd.snd.fst <|
      grdEq m_1.snd.snd.snd.snd.fst m_1.snd.snd.snd.snd.fst <|
      grdEq m_1.snd.snd.snd.snd.snd m_1.snd.snd.snd.snd.snd <|
      some (.inl (Go.IntKind.i64.wrap (s8_10 + 1)))
  else
    grdEq m_1.fst m_1.fst <|
    grdEq m_1.snd.fst m_1.snd.fst <|
    grdEq m_1.snd.snd.fst m_1.snd.snd.fst <|
    grdEq m_1.snd.snd.snd.fst m_1.snd.snd.snd.fst <|
    grdEq m_1.snd.snd.snd.snd.fst m_1.snd.snd.snd.snd.fst <|
    grdEq m_1.snd.snd.snd.snd.snd m_1.snd.snd.snd.snd.snd <|
    some (.inr (.inr (())))
def step_msg_Check_2 (m_1 : Int × Int × List (List UInt8 × Int × Int) × List (List UInt8 × Int × Int × Int × List UInt8) × List (List UInt8 × Int × Int × Int × List UInt8) × List (List UInt8 × Int × Int × Int × List UInt8)) : Int → Option (Int ⊕ (Int ⊕ Unit)) := fun s8_17 =>
  if decide (s8_17 < (↑(List.length m_1.snd.snd.snd.snd.snd) : Int)) = true then
    natOf s8_17 fun n18 =>
    bnd (m_1.snd.snd.snd.snd.snd[n18]?) fun x19 =>
    bnd (F_msg_Check_1 (x19.fst, x19.snd.fst, x19.snd.snd.fst, x19.snd.snd.snd.fst, x19.snd.snd.snd.snd)) fun v20 =>
    if v20 = true then
      grdEq m_1.fst m_1.fst <|
      grdEq m_1.snd.fst m_1.snd.fst <|
      grdEq m_1.snd.snd.fst m_1.snd.snd.fst <|
      grdEq m_1.snd.snd.snd.fst m_1.snd.snd.snd.fst <|
      grdEq m_1.snd.snd.snd.snd.fst m_1.snd.snd.snd.snd.fst <|
      grdEq m_1.snd.snd.snd.snd.snd m_1.snd.snd.snd.snd.snd <|
      some (.inr (.inl s8_17))
    else
      grdEq m_1.snd.snd.snd.snd.snd m_1.snd.snd.snd.snd.snd <|
      grdEq ((↑(List.length m_1.snd.snd.snd.snd.snd) : Int)) ((↑(List.length m_1.snd.snd.snd.snd.snd) : Int)) <|
      grdEq m_1.fst m_1.fst <|
      grdEq m_1.snd.fst m_1.snd.fst <|
      grdEq m_1.snd.snd.fst m_1.snd.snd.fst <|
      grdEq m_1.snd.snd.snd.fst m_1.snd.snd.snd.fst <|
      grdEq m_1.snd.snd.snd.snd.fst m_1.snd.snd.snd.snd.fst <|
      grdEq m_1.snd.snd.snd.snd.snd m_1.snd.snd.snd.snd.snd <|
      some (.inl (Go.IntKind.i64.wrap (s8_17 + 1)))
  else
    grdEq m_1.fst m_1.fst <|
    grdEq m_1.snd.fst m_1.snd.fst <|
    grdEq m_1.snd.snd.fst m_1.snd.snd.fst <|
    grdEq m_1.snd.snd.snd.fst m_1.snd.snd.snd.fst <|
    grdEq m_1.snd.snd.snd.snd.fst m_1.snd.snd.snd.snd.fst <|
    grdEq m_1.snd.snd.snd.snd.snd m_1.snd.snd.snd.snd.snd <|
    some (.inr (.inr (())))
def step_msg_Check_3 (m_1 : Int × Int × List (List UInt8 × Int × Int) × List (List UInt8 × Int × Int × Int × List UInt8) × List (List UInt8 × Int × Int × Int × List UInt8) × List (List UInt8 × Int × Int × Int × List UInt8)) : Int → Option (Int ⊕ (Int ⊕ Unit)) := fun s8_26 =>
  if decide (s8_26 < (↑(List.length m_1.snd.snd.fst) : Int)) = true then
    natOf s8_26 fun n27 =>
    bnd (m_1.snd.snd.fst[n27]?) fun x28 =>
    bnd (F_msg_Check_2 (x28.fst, x28.snd.fst, x28.snd.snd)) fun v29 =>
    if v29 = true then
      grdEq m_1.fst m_1.fst <|
      grdEq m_1.snd.fst m_1.snd.fst <|
      grdEq m_1.snd.snd.fst m_1.snd.snd.fst <|
      grdEq m_1.snd.snd.snd.fst m_1.snd.snd.snd.fst <|
      grdEq m_1.snd.snd.snd.snd.fst m_1.snd.snd.snd.snd.fst <|
      grdEq m_1.snd.snd.snd.snd.snd m_1.snd.snd.snd.snd.snd <|
      some (.inr (.inl s8_26))
    else
      grdEq m_1.snd.snd.fst m_1.snd.snd.fst <|
      grdEq ((↑(List.length m_1.snd.snd.fst) : Int)) ((↑(List.length m_1.snd.snd.fst) : Int)) <|
      grdEq m_1.fst m_1.fst <|
      grdEq m_1.snd.fst m_1.snd.fst <|
      grdEq m_1.snd.snd.fst m_1.snd.snd.fst <|
      grdEq m_1.snd.snd.snd.fst m_1.snd.snd.snd.fst <|
      grdEq m_1.snd.snd.snd.snd.fst m_1.snd.snd.snd.snd.fst <|
      grdEq m_1.snd.snd.snd.snd.snd m_1.snd.snd.snd.snd.snd <|
      some (.inl (Go.IntKind.i64.wrap (s8_26 + 1)))
  else
    grdEq m_1.fst m_1.fst <|
    grdEq m_1.snd.fst m_1.snd.fst <|
    grdEq m_1.snd.snd.fst m_1.snd.snd.fst <|
    grdEq m_1.snd.snd.snd.fst m_1.snd.snd.snd.fst <|
    grdEq m_1.snd.snd.snd.snd.fst m_1.snd.snd.snd.snd.fst <|
    grdEq m_1.snd.snd.snd.snd.snd m_1.snd.snd.snd.snd.snd <|
    some (.inr (.inr (())))
def step_msg_Check_4 (m_1 : Int × Int × List (List UInt8 × Int × Int) × List (List UInt8 × Int × Int × Int × List UInt8) × List (List UInt8 × Int × Int × Int × List UInt8) × List (List UInt8 × Int × Int × Int × List UInt8)) : Int → Option (Int ⊕ (Int ⊕ Unit)) := fun s8_35 =>
  if decide (s8_35 < (↑(List.length m_1.snd.snd.fst) : Int)) = true then
    natOf s8_35 fun n36 =>
    bnd (m_1.snd.snd.fst[n36]?) fun x37 =>
    bnd (F_msg_Check_2 (x37.fst, x37.snd.fst, x37.snd.snd)) fun v38 =>
    if v38 = true then
      grdEq m_1.fst m_1.fst <|
      grdEq m_1.snd.fst m_1.snd.fst <|
      grdEq m_1.snd.snd.fst m_1.snd.snd.fst <|
      grdEq m_1.snd.snd.snd.fst m_1.snd.snd.snd.fst <|
      grdEq m_1.snd.snd.snd.snd.fst m_1.snd.snd.snd.snd.fst <|
      grdEq m_1.snd.snd.snd.snd.snd m_1.snd.snd.snd.snd.snd <|
      some (.inr (.inl s8_35))
    else
      grdEq m_1.snd.snd.fst m_1.snd.snd.fst <|
      grdEq ((↑(List.length m_1.snd.snd.fst) : Int)) ((↑(List.length m_1.snd.snd.fst) : Int)) <|
      grdEq m_1.fst m_1.fst <|
      grdEq m_1.snd.fst m_1.snd.fst <|
      grdEq m_1.snd.snd.fst m_1.snd.snd.fst <|
      grdEq m_1.snd.snd.snd.fst m_1.snd.snd.snd.fst <|
      grdEq m_1.snd.snd.snd.snd.fst m_1.snd.snd.snd.snd.fst <|
      grdEq m_1.snd.snd.snd.snd.snd m_1.snd.snd.snd.snd.snd <|
      some (.inl (Go.IntKind.i64.wrap (s8_35 + 1)))
  else
    grdEq m_1.fst m_1.fst <|
    grdEq m_1.snd.fst m_1.snd.fst <|
    grdEq m_1.snd.snd.fst m_1.snd.snd.fst <|
    grdEq m_1.snd.snd.snd.fst m_1.snd.snd.snd.fst <|
    grdEq m_1.snd.snd.snd.snd.fst m_1.snd.snd.snd.snd.fst <|
    grdEq m_1.snd.snd.snd.snd.snd m_1.snd.snd.snd.snd.snd <|
    some (.inr (.inr (())))
def step_msg_Check_5 (m_1 : Int × Int × List (List UInt8 × Int × Int) × List (List UInt8 × Int × Int × Int × List UInt8) × List (List UInt8 × Int × Int × Int × List UInt8) × List (List UInt8 × Int × Int × Int × List UInt8)) : Int → Option (Int ⊕ (Int ⊕ Unit)) := fun s8_42 =>
  if decide (s8_42 < (↑(List.length m_1.snd.snd.snd.snd.snd) : Int)) = true then
    natOf s8_42 fun n43 =>
    bnd (m_1.snd.snd.snd.snd.snd[n43]?) fun x44 =>
    bnd (F_msg_Check_1 (x44.fst, x44.snd.fst, x44.snd.snd.fst, x44.snd.snd.snd.fst, x44.snd.snd.snd.snd)) fun v45 =>
    if v45 = true then
      grdEq m_1.fst m_1.fst <|
      grdEq m_1.snd.fst m_1.snd.fst <|
      grdEq m_1.snd.snd.fst m_1.snd.snd.fst <|
      grdEq m_1.snd.snd.snd.fst m_1.snd.snd.snd.fst <|
      grdEq m_1.snd.snd.snd.snd.fst m_1.snd.snd.snd.snd.fst <|
      grdEq m_1.snd.snd.snd.snd.snd m_1.snd.snd.snd.snd.snd <|
      some (.inr (.inl s8_42))
    else
      grdEq m_1.snd.snd.snd.snd.snd m_1.snd.snd.snd.snd.snd <|
      grdEq ((↑(List.length m_1.snd.snd.snd.snd.snd) : Int)) ((↑(List.length m_1.snd.snd.snd.snd.snd) : Int)) <|
      grdEq m_1.fst m_1.fst <|
      grdEq m_1.snd.fst m_1.snd.fst <|
      grdEq m_1.snd.snd.fst m_1.snd.snd.fst <|
      grdEq m_1.snd.snd.snd.fst m_1.snd.snd.snd.fst <|
      grdEq m_1.snd.snd.snd.snd.fst m_1.snd.snd.snd.snd.fst <|
      grdEq m_1.snd.snd.snd.snd.snd m_1.snd.snd.snd.snd.snd <|
      some (.inl (Go.IntKind.i64.wrap (s8_42 + 1)))
  else
    grdEq m_1.fst m_1.fst <|
    grdEq m_1.snd.fst m_1.snd.fst <|
    grdEq m_1.snd.snd.fst m_1.snd.snd.fst <|
    grdEq m_1.snd.snd.snd.fst m_1.snd.snd.snd.fst <|
    grdEq m_1.snd.snd.snd.snd.fst m_1.snd.snd.snd.snd.fst <|
    grdEq m_1.snd.snd.snd.snd.snd m_1.snd.snd.snd.snd.snd <|
    some (.inr (.inr (())))
def step_msg_Check_6 (m_1 : Int × Int × List (List UInt8 × Int × Int) × List (List UInt8 × Int × Int × Int × List UInt8) × List (List UInt8 × Int × Int × Int × List UInt8) × List (List UInt8 × Int × Int × Int × List UInt8)) : Int → Option (Int ⊕ (Int ⊕ Unit)) := fun s8_51 =>
  if decide (s8_51 < (↑(List.length m_1.snd.snd.fst) : Int)) = true then
    natOf s8_51 fun n52 =>
    bnd (m_1.snd.snd.fst[n52]?) fun x53 =>
    bnd (F_msg_Check_2 (x53.fst, x53.snd.fst, x53.snd.snd)) fun v54 =>
    if v54 = true then
      grdEq m_1.fst m_1.fst <|
      grdEq m_1.snd.fst m_1.snd.fst <|
      grdEq m_1.snd.snd.fst m_1.snd.snd.fst <|
      grdEq m_1.snd.snd.snd.fst m_1.snd.snd.snd.fst <|
      grdEq m_1.snd.snd.snd.snd.fst m_1.snd.snd.snd.snd.fst <|
      grdEq m_1.snd.snd.snd.snd.snd m_1.snd.snd.snd.snd.snd <|
      some (.inr (.inl s8_51))
    else
      grdEq m_1.snd.snd.fst m_1.snd.snd.fst <|
      grdEq ((↑(List.length m_1.snd.snd.fst) : Int)) ((↑(List.length m_1.snd.snd.fst) : Int)) <|
      grdEq m_1.fst m_1.fst <|
      grdEq m_1.snd.fst m_1.snd.fst <|
      grdEq m_1.snd.snd.fst m_1.snd.snd.fst <|
      grdEq m_1.snd.snd.snd.fst m_1.snd.snd.snd.fst <|
      grdEq m_1.snd.snd.snd.snd.fst m_1.snd.snd.snd.snd.fst <|
      grdEq m_1.snd.snd.snd.snd.snd m_1.snd.snd.snd.snd.snd <|
      some (.inl (Go.IntKind.i64.wrap (s8_51 + 1)))
  else
    grdEq m_1.fst m_1.fst <|
    grdEq m_1.snd.fst m_1.snd.fst <|
    grdEq m_1.snd.snd.fst m_1.snd.snd.fst <|
    grdEq m_1.snd.snd.snd.fst m_1.snd.snd.snd.fst <|
    grdEq m_1.snd.snd.snd.snd.fst m_1.snd.snd.snd.snd.fst <|
    grdEq m_1.snd.snd.snd.snd.snd m_1.snd.snd.snd.snd.snd <|
    some (.inr (.inr (())))
def step_msg_Check_7 (m_1 : Int × Int × List (List UInt8 × Int × Int) × List (List UInt8 × Int × Int × Int × List UInt8) × List (List UInt8 × Int × Int × Int × List UInt8) × List (List UInt8 × Int × Int × Int × List UInt8)) : Int → Option (Int ⊕ (Int ⊕ Unit)) := fun s8_60 =>
  if decide (s8_60 < (↑(List.length m_1.snd.snd.fst) : Int)) = true then
    natOf s8_60 fun n61 =>
    bnd (m_1.snd.snd.fst[n61]?) fun x62 =>
    bnd (F_msg_Check_2 (x62.fst, x62.snd.fst, x62.snd.snd)) fun v63 =>
    if v63 = true then
      grdEq m_1.fst m_1.fst <|
      grdEq m_1.snd.fst m_1.snd.fst <|
      grdEq m_1.snd.snd.fst m_1.snd.snd.fst <|
      grdEq m_1.snd.snd.snd.fst m_1.snd.snd.snd.fst <|
      grdEq m_1.snd.snd.snd.snd.fst m_1.snd.snd.snd.snd.fst <|
      grdEq m_1.snd.snd.snd.snd.snd m_1.snd.snd.snd.snd.snd <|
      some (.inr (.inl s8_60))
    else
      grdEq m_1.snd.snd.fst m_1.snd.snd.fst <|
      grdEq ((↑(List.length m_1.snd.snd.fst) : Int)) ((↑(List.length m_1.snd.snd.fst) : Int)) <|
      grdEq m_1.fst m_1.fst <|
      grdEq m_1.snd.fst m_1.snd.fst <|
      grdEq m_1.snd.snd.fst m_1.snd.snd.fst <|
      grdEq m_1.snd.snd.snd.fst m_1.snd.snd.snd.fst <|
      grdEq m_1.snd.snd.snd.snd.fst m_1.snd.snd.snd.snd.fst <|
      grdEq m_1.snd.snd.snd.snd.snd m_1.snd.snd.snd.snd.snd <|
      some (.inl (Go.IntKind.i64.wrap (s8_60 + 1)))
  else
    grdEq m_1.fst m_1.fst <|
    grdEq m_1.snd.fst m_1.snd.fst <|
    grdEq m_1.snd.snd.fst m_1.snd.snd.fst <|
    grdEq m_1.snd.snd.snd.fst m_1.snd.snd.snd.fst <|
    grdEq m_1.snd.snd.snd.snd.fst m_1.snd.snd.snd.snd.fst <|
    grdEq m_1.snd.snd.snd.snd.snd m_1.snd.snd.snd.snd.snd <|
    some (.inr (.inr (())))
def step_msg_Check_8 (m_1 : Int × Int × List (List UInt8 × Int × Int) × List (List UInt8 × Int × Int × Int × List UInt8) × List (List UInt8 × Int × Int × Int × List UInt8) × List (List UInt8 × Int × Int × Int × List UInt8)) : Int → Option (Int ⊕ (Int ⊕ Unit)) := fun s8_67 =>
  if decide (s8_67 < (↑(List.length m_1.snd.snd.snd.snd.fst) : Int)) = true then
    natOf s8_67 fun n68 =>
    bnd (m_1.snd.snd.snd.snd.fst[n68]?) fun x69 =>
    bnd (F_msg_Check_1 (x69.fst, x69.snd.fst, x69.snd.snd.fst, x69.snd.snd.snd.fst, x69.snd.snd.snd.snd)) fun v70 =>
    if v70 = true then
      grdEq m_1.fst m_1.fst <|
      grdEq m_1.snd.fst m_1.snd.fst <|
      grdEq m_1.snd.snd.fst m_1.snd.snd.fst <|
      grdEq m_1.snd.snd.snd.fst m_1.snd.snd.snd.fst <|
      grdEq m_1.snd.snd.snd.snd.fst m_1.snd.snd.snd.snd.fst <|
      grdEq m_1.snd.snd.snd.snd.snd m_1.snd.snd.snd.snd.snd <|
      some (.inr (.inl s8_67))
    else
      grdEq m_1.snd.snd.snd.snd.fst m_1.snd.snd.snd.snd.fst <|
      grdEq ((↑(List.length m_1.snd.snd.snd.snd.fst) : Int)) ((↑(List.length m_1.snd.snd.snd.snd.fst) : Int)) <|
      grdEq m_1.fst m_1.fst <|
      grdEq m_1.snd.fst m_1.snd.fst <|
      grdEq m_1.snd.snd.fst m_1.snd.snd.fst <|
      grdEq m_1.snd.snd.snd.fst m_1.snd.snd.snd.fst <|
      grdEq m_1.snd.snd.snd.snd.fst m_1.snd.snd.snd.snd.fst <|
      grdEq m_1.snd.snd.snd.snd.snd m_1.snd.snd.snd.snd.snd <|
      some (.inl (Go.IntKind.i64.wrap (s8_67 + 1)))
  else
    grdEq m_1.fst m_1.fst <|
    grdEq m_1.snd.fst m_1.snd.fst <|
    grdEq m_1.snd.snd.fst m_1.snd.snd.fst <|
    grdEq m_1.snd.snd.snd.fst m_1.snd.snd.snd.fst <|
    grdEq m_1.snd.snd.snd.snd.fst m_1.snd.snd.snd.snd.fst <|
    grdEq m_1.snd.snd.snd.snd.snd m_1.snd.snd.snd.snd.snd <|
    some (.inr (.inr (())))
def step_msg_Check_9 (m_1 : Int × Int × List (List UInt8 × Int × Int) × List (List UInt8 × Int × Int × Int × List UInt8) × List (List UInt8 × Int × Int × Int × List UInt8) × List (List UInt8 × Int × Int × Int × List UInt8)) : Int → Option (Int ⊕ (Int ⊕ Unit)) := fun s8_74 =>
  if decide (s8_74 < (↑(List.length m_1.snd.snd.snd.snd.snd) : Int)) = true then
    natOf s8_74 fun n75 =>
    bnd (m_1.snd.snd.snd.snd.snd[n75]?) fun x76 =>
    bnd (F_msg_Check_1 (x76.fst, x76.snd.fst, x76.snd.snd.fst, x76.snd.snd.snd.fst, x76.snd.snd.snd.snd)) fun v77 =>
    if v77 = true then
      grdEq m_1.fst m_1.fst <|
      grdEq m_1.snd.fst m_1.snd.fst <|
      grdEq m_1.snd.snd.fst m_1.snd.snd.fst <|
      grdEq m_1.snd.snd.snd.fst m_1.snd.snd.snd.fst <|
      grdEq m_1.snd.snd.snd.snd.fst m_1.snd.snd.snd.snd.fst <|
      grdEq m_1.snd.snd.snd.snd.snd m_1.snd.snd.snd.snd.snd <|
      some (.inr (.inl s8_74))
    else
      grdEq m_1.snd.snd.snd.snd.snd m_1.snd.snd.snd.snd.snd <|
      grdEq ((↑(List.length m_1.snd.snd.snd.snd.snd) : Int)) ((↑(List.length m_1.snd.snd.snd.snd.snd) : Int)) <|
      grdEq m_1.fst m_1.fst <|
      grdEq m_1.snd.fst m_1.snd.fst <|
      grdEq m_1.snd.snd.fst m_1.snd.snd.fst <|
      grdEq m_1.snd.snd.snd.fst m_1.snd.snd.snd.fst <|
      grdEq m_1.snd.snd.snd.snd.fst m_1.snd.snd.snd.snd.fst <|
      grdEq m_1.snd.snd.snd.snd.snd m_1.snd.snd.snd.snd.snd <|
      some (.inl (Go.IntKind.i64.wrap (s8_74 + 1)))
  else
    grdEq m_1.fst m_1.fst <|
    grdEq m_1.snd.fst m_1.snd.fst <|
    grdEq m_1.snd.snd.fst m_1.snd.snd.fst <|
    grdEq m_1.snd.snd.snd.fst m_1.snd.snd.snd.fst <|
    grdEq m_1.snd.snd.snd.snd.fst m_1.snd.snd.snd.snd.fst <|
    grdEq m_1.snd.snd.snd.snd.snd m_1.snd.snd.snd.snd.snd <|
    some (.inr (.inr (())))
def step_msg_Check_10 (m_1 : Int × Int × List (List UInt8 × Int × Int) × List (List UInt8 × Int × Int × Int × List UInt8) × List (List UInt8 × Int × Int × Int × List UInt8) × List (List UInt8 × Int × Int × Int × List UInt8)) : Int → Option (Int ⊕ (Int ⊕ Unit)) := fun s8_83 =>
  if decide (s8_83 < (↑(List.length m_1.snd.snd.fst) : Int)) = true then
    natOf s8_83 fun n84 =>
    bnd (m_1.snd.snd.fst[n84]?) fun x85 =>
    bnd (F_msg_Check_2 (x85.fst, x85.snd.fst, x85.snd.snd)) fun v86 =>
    if v86 = true then
      grdEq m_1.fst m_1.fst <|
      grdEq m_1.snd.fst m_1.snd.fst <|
      grdEq m_1.snd.snd.fst m_1.snd.snd.fst <|
      grdEq m_1.snd.snd.snd.fst m_1.snd.snd.snd.fst <|
      grdEq m_1.snd.snd.snd.snd.fst m_1.snd.snd.snd.snd.fst <|
      grdEq m_1.snd.snd.snd.snd.snd m_1.snd.snd.snd.snd.snd <|
      some (.inr (.inl s8_83))
    else
      grdEq m_1.snd.snd.fst m_1.snd.snd.fst <|
      grdEq ((↑(List.length m_1.snd.snd.fst) : Int)) ((↑(List.length m_1.snd.snd.fst) : Int)) <|
      grdEq m_1.fst m_1.fst <|
      grdEq m_1.snd.fst m_1.snd.fst <|
      grdEq m_1.snd.snd.fst m_1.snd.snd.fst <|
      grdEq m_1.snd.snd.snd.fst m_1.snd.snd.snd.fst <|
      grdEq m_1.snd.snd.snd.snd.fst m_1.snd.snd.snd.snd.fst <|
      grdEq m_1.snd.snd.snd.snd.snd m_1.snd.snd.snd.snd.snd <|
      some (.inl (Go.IntKind.i64.wrap (s8_83 + 1)))
  else
    grdEq m_1.fst m_1.fst <|
    grdEq m_1.snd.fst m_1.snd.fst <|
    grdEq m_1.snd.snd.fst m_1.snd.snd.fst <|
    grdEq m_1.snd.snd.snd.fst m_1.snd.snd.snd.fst <|
    grdEq m_1.snd.snd.snd.snd.fst m_1.snd.snd.snd.snd.fst <|
    grdEq m_1.snd.snd.snd.snd.snd m_1.snd.snd.snd.snd.snd <|
    some (.inr (.inr (())))
def step_msg_Check_11 (m_1 : Int × Int × List (List UInt8 × Int × Int) × List (List UInt8 × Int × Int × Int × List UInt8) × List (List UInt8 × Int × Int × Int × List UInt8) × List (List UInt8 × Int × Int × Int × List UInt8)) : Int → Option (Int ⊕ (Int ⊕ Unit)) := fun s8_92 =>
  if decide (s8_92 < (↑(List.length m_1.snd.snd.fst) : Int)) = true then
    natOf s8_92 fun n93 =>
    bnd (m_1.snd.snd.fst[n93]?) fun x94 =>
    bnd (F_msg_Check_2 (x94.fst, x94.snd.fst, x94.snd.snd)) fun v95 =>
    if v95 = true then
      grdEq m_1.fst m_1.fst <|
      grdEq m_1.snd.fst m_1.snd.fst <|
      grdEq m_1.snd.snd.fst m_1.snd.snd.fst <|
      grdEq m_1.snd.snd.snd.fst m_1.snd.snd.snd.fst <|
      grdEq m_1.snd.snd.snd.snd.fst m_1.snd.snd.snd.snd.fst <|
      grdEq m_1.snd.snd.snd.snd.snd m_1.snd.snd.snd.snd.snd <|
      some (.inr (.inl s8_92))
    else
      grdEq m_1.snd.snd.fst m_1.snd.snd.fst <|
      grdEq ((↑(List.length m_1.snd.snd.fst) : Int)) ((↑(List.length m_1.snd.snd.fst) : Int)) <|
      grdEq m_1.fst m_1.fst <|
      grdEq m_1.snd.fst m_1.snd.fst <|
      grdEq m_1.snd.snd.fst m_1.snd.snd.fst <|
      grdEq m_1.snd.snd.snd.fst m_1.snd.snd.snd.fst <|
      grdEq m_1.snd.snd.snd.snd.fst m_1.snd.snd.snd.snd.fst <|
      grdEq m_1.snd.snd.snd.snd.snd m_1.snd.snd.snd.snd.snd <|
      some (.inl (Go.IntKind.i64.wrap (s8_92 + 1)))
  else
    grdEq m_1.fst m_1.fst <|
    grdEq m_1.snd.fst m_1.snd.fst <|
    grdEq m_1.snd.snd.fst m_1.snd.snd.fst <|
    grdEq m_1.snd.snd.snd.fst m_1.snd.snd.snd.fst <|
    grdEq m_1.snd.snd.snd.snd.fst m_1.snd.snd.snd.snd.fst <|
    grdEq m_1.snd.snd.snd.snd.snd m_1.snd.snd.snd.snd.snd <|
    some (.inr (.inr (())))
def step_msg_Check_12 (m_1 : Int × Int × List (List UInt8 × Int × Int) × List (List UInt8 × Int × Int × Int × List UInt8) × List (List UInt8 × Int × Int × Int × List UInt8) × List (List UInt8 × Int × Int × Int × List UInt8)) : Int → Option (Int ⊕ (Int ⊕ Unit)) := fun s8_99 =>
  if decide (s8_99 < (↑(List.length m_1.snd.snd.snd.snd.snd) : Int)) = true then
    natOf s8_99 fun n100 =>
    bnd (m_1.snd.snd.snd.snd.snd[n100]?) fun x101 =>
    bnd (F_msg_Check_1 (x101.fst, x101.snd.fst, x101.snd.snd.fst, x101.snd.snd.snd.fst, x101.snd.snd.snd.snd)) fun v102 =>
    if v102 = true then
      grdEq m_1.fst m_1.fst <|
      grdEq m_1.snd.fst m_1.snd.fst <|
      grdEq m_1.snd.snd.fst m_1.snd.snd.fst <|
      grdEq m_1.snd.snd.snd.fst m_1.snd.snd.snd.fst <|
      grdEq m_1.snd.snd.snd.snd.fst m_1.snd.snd.snd.snd.fst <|
      grdEq m_1.snd.snd.snd.snd.snd m_1.snd.snd.snd.snd.snd <|
      some (.inr (.inl s8_99))
    else
      grdEq m_1.snd.snd.snd.snd.snd m_1.snd.snd.snd.snd.snd <|
      grdEq ((↑(List.length m_1.snd.snd.snd.snd.snd) : Int)) ((↑(List.length m_1.snd.snd.snd.snd.snd) : Int)) <|
      grdEq m_1.fst m_1.fst <|
      grdEq m_1.snd.fst m_1.snd.fst <|
      grdEq m_1.snd.snd.fst m_1.snd.snd.fst <|
      grdEq m_1.snd.snd.snd.fst m_1.snd.snd.snd.fst <|
      grdEq m_1.snd.snd.snd.snd.fst m_1.snd.snd.snd.snd.fst <|
      grdEq m_1.snd.snd.snd.snd.snd m_1.snd.snd.snd.snd.snd <|
      some (.inl (Go.IntKind.i64.wrap (s8_99 + 1)))
  else
    grdEq m_1.fst m_1.fst <|
    grdEq m_1.snd.fst m_1.snd.fst <|
    grdEq m_1.snd.snd.fst m_1.snd.snd.fst <|
    grdEq m_1.snd.snd.snd.fst m_1.snd.snd.snd.fst <|
    grdEq m_1.snd.snd.snd.snd.fst m_1.snd.snd.snd.snd.fst <|
    grdEq m_1.snd.snd.snd.snd.snd m_1.snd.snd.snd.snd.snd <|
    some (.inr (.inr (())))
def step_msg_Check_13 (m_1 : Int × Int × List (List UInt8 × Int × Int) × List (List UInt8 × Int × Int × Int × List UInt8) × List (List UInt8 × Int × Int × Int × List UInt8) × List (List UInt8 × Int × Int × Int × List UInt8)) : Int → Option (Int ⊕ (Int ⊕ Unit)) := fun s8_108 =>
  if decide (s8_108 < (↑(List.length m_1.snd.snd.fst) : Int)) = true then
    natOf s8_108 fun n109 =>
    bnd (m_1.snd.snd.fst[n109]?) fun x110 =>
    bnd (F_msg_Check_2 (x110.fst, x110.snd.fst, x110.snd.snd)) fun v111 =>
    if v111 = true then
      grdEq m_1.fst m_1.fst <|
      grdEq m_1.snd.fst m_1.snd.fst <|
      grdEq m_1.snd.snd.fst m_1.snd.snd.fst <|
      grdEq m_1.snd.snd.snd.fst m_1.snd.snd.snd.fst <|
      grdEq m_1.snd.snd.snd.snd.fst m_1.snd.snd.snd.snd.fst <|
      grdEq m_1.snd.snd.snd.snd.snd m_1.snd.snd.snd.snd.snd <|
      some (.inr (.inl s8_108))
    else
      grdEq m_1.snd.snd.fst m_1.snd.snd.fst <|
      grdEq ((↑(List.length m_1.snd.snd.fst) : Int)) ((↑(List.length m_1.snd.snd.fst) : Int)) <|
      grdEq m_1.fst m_1.fst <|
      grdEq m_1.snd.fst m_1.snd.fst <|
      grdEq m_1.snd.snd.fst m_1.snd.snd.fst <|
      grdEq m_1.snd.snd.snd.fst m_1.snd.snd.snd.fst <|
      grdEq m_1.snd.snd.snd.snd.fst m_1.snd.snd.snd.snd.fst <|
      grdEq m_1.snd.snd.snd.snd.snd m_1.snd.snd.snd.snd.snd <|
      some (.inl (Go.IntKind.i64.wrap (s8_108 + 1)))
  else
    grdEq m_1.fst m_1.fst <|
    grdEq m_1.snd.fst m_1.snd.fst <|
    grdEq m_1.snd.snd.fst m_1.snd.snd.fst <|
    grdEq m_1.snd.snd.snd.fst m_1.snd.snd.snd.fst <|
    grdEq m_1.snd.snd.snd.snd.fst m_1.snd.snd.snd.snd.fst <|
    grdEq m_1.snd.snd.snd.snd.snd m_1.snd.snd.snd.snd.snd <|
    some (.inr (.inr (())))
def step_msg_Check_14 (m_1 : Int × Int × List (List UInt8 × Int × Int) × List (List UInt8 × Int × Int × Int × List UInt8) × List (List UInt8 × Int × Int × Int × List UInt8) × List (List UInt8 × Int × Int × Int × List UInt8)) : Int → Option (Int ⊕ (Int ⊕ Unit)) := fun s8_117 =>
  if decide (s8_117 < (↑(List.length m_1.snd.snd.fst) : Int)) = true then
    natOf s8_117 fun n118 =>
    bnd (m_1.snd.snd.fst[n118]?) fun x119 =>
    bnd (F_msg_Check_2 (x119.fst, x119.snd.fst, x119.snd.snd)) fun v120 =>
    if v120 = true then
      grdEq m_1.fst m_1.fst <|
      grdEq m_1.snd.fst m_1.snd.fst <|
      grdEq m_1.snd.snd.fst m_1.snd.snd.fst <|
      grdEq m_1.snd.snd.snd.fst m_1.snd.snd.snd.fst <|
      grdEq m_1.snd.snd.snd.snd.fst m_1.snd.snd.snd.snd.fst <|
      grdEq m_1.snd.snd.snd.snd.snd m_1.snd.snd.snd.snd.snd <|
      some (.inr (.inl s8_117))
    else
      grdEq m_1.snd.snd.fst m_1.snd.snd.fst <|
      grdEq ((↑(List.length m_1.snd.snd.fst) : Int)) ((↑(List.length m_1.snd.snd.fst) : Int)) <|
      grdEq m_1.fst m_1.fst <|
      grdEq m_1.snd.fst m_1.snd.fst <|
      grdEq m_1.snd.snd.fst m_1.snd.snd.fst <|
      grdEq m_1.snd.snd.snd.fst m_1.snd.snd.snd.fst <|
      grdEq m_1.snd.snd.snd.snd.fst m_1.snd.snd.snd.snd.fst <|
      grdEq m_1.snd.snd.snd.snd.snd m_1.snd.snd.snd.snd.snd <|
      some (.inl (Go.IntKind.i64.wrap (s8_117 + 1)))
  else
    grdEq m_1.fst m_1.fst <|
    grdEq m_1.snd.fst m_1.snd.fst <|
    grdEq m_1.snd.snd.fst m_1.snd.snd.fst <|
    grdEq m_1.snd.snd.snd.fst m_1.snd.snd.snd.fst <|
    grdEq m_1.snd.snd.snd.snd.fst m_1.snd.snd.snd.snd.fst <|
    grdEq m_1.snd.snd.snd.snd.snd m_1.snd.snd.snd.snd.snd <|
    some (.inr (.inr (())))
def F_msg_Check (m_1 : (Int × (Int × (List ((List UInt8 × (Int × Int))) × (List ((List UInt8 × (Int × (Int × (Int × List UInt8))))) × (List ((List UInt8 × (Int × (Int × (Int × List UInt8))))) × List ((List UInt8 × (Int × (Int × (Int × List UInt8))))))))))) : Option (Bool) :=
  bnd (F_msg_small (↑(List.length m_1.snd.snd.snd.fst) : Int)) fun v2 =>
  if (!v2) = false then
    bnd (loopS (step_msg_Check_0 m_1) 0) fun o7 =>
    match o7 with
    | .inl s4_8 =>
      if decide (0 ≤ s4_8) = true then
        some false
      else
        bnd (F_msg_small (↑(List.length m_1.snd.snd.snd.snd.fst) : Int)) fun v9 =>
        if (!v9) = false then
          bnd (loopS (step_msg_Check_1 m_1) 0) fun o14 =>
          match o14 with
          | .inl s4_15 =>
            if decide (0 ≤ s4_15) = true then
              some false
            else
              bnd (F_msg_small (↑(List.length m_1.snd.snd.snd.snd.snd) : Int)) fun v16 =>
              if (!v16) = false then
                bnd (loopS (step_msg_Check_2 m_1) 0) fun o21 =>
                match o21 with
                | .inl s4_22 =>
                  if decide (0 ≤ s4_22) = true then
                    some false
                  else
                    bnd (F_msg_small m_1.fst) fun v23 =>
                    if v23 = true then
                      bnd (F_msg_small m_1.snd.fst) fun v24 =>
                      if v24 = true then
                        bnd (F_msg_small (↑(List.length m_1.snd.snd.fst) : Int)) fun v25 =>
                        if v25 = true then
                          bnd (loopS (step_msg_Check_3 m_1) 0) fun o30 =>
                          match o30 with
                          | .inl s4_31 =>
                            some (!decide (0 ≤ s4_31))
                          | .inr _ =>
                            some true
                        else
                          some false
                      else
                        some false
                    else
                      some false
                | .inr _ =>
                  bnd (F_msg_small m_1.fst) fun v32 =>
                  if v32 = true then
                    bnd (F_msg_small m_1.snd.fst) fun v33 =>
                    if v33 = true then
                      bnd (F_msg_small (↑(List.length m_1.snd.snd.fst) : Int)) fun v34 =>
                      if v34 = true then
                        bnd (loopS (step_msg_Check_4 m_1) 0) fun o39 =>
                        match o39 with
                        | .inl s4_40 =>
                          some (!decide (0 ≤ s4_40))
                        | .inr _ =>
                          some true
                      else
                        some false
                    else
                      some false
                  else
                    some false
              else
                some false
          | .inr _ =>
            bnd (F_msg_small (↑(List.length m_1.snd.snd.snd.snd.snd) : Int)) fun v41 =>
            if (!v41) = false then
              bnd (loopS (step_msg_Check_5 m_1) 0) fun o46 =>
              match o46 with
              | .inl s4_47 =>
                if decide (0 ≤ s4_47) = true then
                  some false
                else
                  bnd (F_msg_small m_1.fst) fun v48 =>
                  if v48 = true then
                    bnd (F_msg_small m_1.snd.fst) fun v49 =>
                    if v49 = true then
                      bnd (F_msg_small (↑(List.length m_1.snd.snd.fst) : Int)) fun v50 =>
                      if v50 = true then
                        bnd (loopS (step_msg_Check_6 m_1) 0) fun o55 =>
                        match o55 with
                        | .inl s4_56 =>
                          some (!decide (0 ≤ s4_56))
                        | .inr _ =>
                          some true
                      else
                        some false
                    else
                      some false
                  else
                    some false
              | .inr _ =>
                bnd (F_msg_small m_1.fst) fun v57 =>
                if v57 = true then
                  bnd (F_msg_small m_1.snd.fst) fun v58 =>
                  if v58 = true then
                    bnd (F_msg_small (↑(List.length m_1.snd.snd.fst) : Int)) fun v59 =>
                    if v59 = true then
                      bnd (loopS (step_msg_Check_7 m_1) 0) fun o64 =>
                      match o64 with
                      | .inl s4_65 =>
                        some (!decide (0 ≤ s4_65))
                      | .inr _ =>
                        some true
                    else
                      some false
                  else
                    some false
                else
                  some false
            else
              some false
        else
          some false
    | .inr _ =>
      bnd (F_msg_small (↑(List.length m_1.snd.snd.snd.snd.fst) : Int)) fun v66 =>
      if (!v66) = false then
        bnd (loopS (step_msg_Check_8 m_1) 0) fun o71 =>
        match o71 with
        | .inl s4_72 =>
          if decide (0 ≤ s4_72) = true then
            some false
          else
            bnd (F_msg_small (↑(List.length m_1.snd.snd.snd.snd.snd) : Int)) fun v73 =>
            if (!v73) = false then
              bnd (loopS (step_msg_Check_9 m_1) 0) fun o78 =>
              match o78 with
              | .inl s4_79 =>
                if decide (0 ≤ s4_79) = true then
                  some false
                else
                  bnd (F_msg_small m_1.fst) fun v80 =>
                  if v80 = true then
                    bnd (F_msg_small m_1.snd.fst) fun v81 =>
                    if v81 = true then
                      bnd (F_msg_small (↑(List.length m_1.snd.snd.fst) : Int)) fun v82 =>
                      if v82 = true then
                        bnd (loopS (step_msg_Check_10 m_1) 0) fun o87 =>
                        match o87 with
                        | .inl s4_88 =>
                          some (!decide (0 ≤ s4_88))
                        | .inr _ =>
                          some true
                      else
                        some false
                    else
                      some false
                  else
                    some false
              | .inr _ =>
                bnd (F_msg_small m_1.fst) fun v89 =>
                if v89 = true then
                  bnd (F_msg_small m_1.snd.fst) fun v90 =>
                  if v90 = true then
                    bnd (F_msg_small (↑(List.length m_1.snd.snd.fst) : Int)) fun v91 =>
                    if v91 = true then
                      bnd (loopS (step_msg_Check_11 m_1) 0) fun o96 =>
                      match o96 with
                      | .inl s4_97 =>
                        some (!decide (0 ≤ s4_97))
                      | .inr _ =>
                        some true
                    else
                      some false
                  else
                    some false
                else
                  some false
            else
              some false
        | .inr _ =>
          bnd (F_msg_small (↑(List.length m_1.snd.snd.snd.snd.snd) : Int)) fun v98 =>
          if (!v98) = false then
            bnd (loopS (step_msg_Check_12 m_1) 0) fun o103 =>
            match o103 with
            | .inl s4_104 =>
              if decide (0 ≤ s4_104) = true then
                some false
              else
                bnd (F_msg_small m_1.fst) fun v105 =>
                if v105 = true then
                  bnd (F_msg_small m_1.snd.fst) fun v106 =>
                  if v106 = true then
                    bnd (F_msg_small (↑(List.length m_1.snd.snd.fst) : Int)) fun v107 =>
                    if v107 = true then
                      bnd (loopS (step_msg_Check_13 m_1) 0) fun o112 =>
                      match o112 with
                      | .inl s4_113 =>
                        some (!decide (0 ≤ s4_113))
                      | .inr _ =>
                        some true
                    else
                      some false
                  else
                    some false
                else
                  some false
            | .inr _ =>
              bnd (F_msg_small m_1.fst) fun v114 =>
              if v114 = true then
                bnd (F_msg_small m_1.snd.fst) fun v115 =>
                if v115 = true then
                  bnd (F_msg_small (↑(List.length m_1.snd.snd.fst) : Int)) fun v116 =>
                  if v116 = true then
                    bnd (loopS (step_msg_Check_14 m_1) 0) fun o121 =>
                    match o121 with
                    | .inl s4_122 =>
                      some (!decide (0 ≤ s4_122))
                    | .inr _ =>
                      some true
                  else
                    some false
                else
                  some false
              else
                some false
          else
            some false
      else
        some false
  else
    some false
def ann_msg_Check : List (List Nat × Ann) := [([6], ⟨none, []⟩), ([6, 1000000], ⟨none, []⟩), ([6, 1000000, 1000000], ⟨none, []⟩), ([6, 1000000, 1000000, 1000000], ⟨none, []⟩), ([6, 1000000, 1000000, 1000000, 1000000], ⟨none, []⟩), ([6, 93, 2, 3, 67, 10, 18], ⟨some ⟨(.cons (.keep (.list tRR)) (.cons (.func 68 .nil .nil) (anyN 5 (.cons (.keep (.int .i64)) (.cons (.ty (.int .i64)) (anyN 10 .nil)))))), [.cells 43 true (.cons (.keep (.int .i64)) (.cons (.keep (.int .i64)) (.cons (.keep (.list tQ)) (.cons (.keep (.list tRR)) (.cons (.keep (.list tRR)) (.cons (.keep (.list tRR)) .nil)))))), .cells 79 true (.cons (.ptr 0 3) (.cons (.ptr 0 4) (.cons (.ptr 0 5) .nil)))], [], []⟩, [(.ret, ⟨(anyN 4 (.cons (.ty (.int .i64)) (anyN 14 .nil))), [.cells 43 true (.cons (.keep (.int .i64)) (.cons (.keep (.int .i64)) (.cons (.keep (.list tQ)) (.cons (.keep (.list tRR)) (.cons (.keep (.list tRR)) (.cons (.keep (.list tRR)) .nil)))))), .cells 79 true (.cons (.ptr 0 3) (.cons (.ptr 0 4) (.cons (.ptr 0 5) .nil)))], [], []⟩), (.exit 0, ⟨(anyN 19 .nil), [.cells 43 true (.cons (.keep (.int .i64)) (.cons (.keep (.int .i64)) (.cons (.keep (.list tQ)) (.cons (.keep (.list tRR)) (.cons (.keep (.list tRR)) (.cons (.keep (.list tRR)) .nil)))))), .cells 79 true (.cons (.ptr 0 3) (.cons (.ptr 0 4) (.cons (.ptr 0 5) .nil)))], [], []⟩)]⟩), ([6, 93, 2, 3, 67, 10, 18, 1000000], ⟨some ⟨(.cons (.keep (.list tRR)) (.cons (.func 68 .nil .nil) (anyN 5 (.cons (.keep (.int .i64)) (.cons (.ty (.int .i64)) (anyN 10 .nil)))))), [.cells 43 true (.cons (.keep (.int .i64)) (.cons (.keep (.int .i64)) (.cons (.keep (.list tQ)) (.cons (.keep (.list tRR)) (.cons (.keep (.list tRR)) (.cons (.keep (.list tRR)) .nil)))))), .cells 79 true (.cons (.ptr 0 3) (.cons (.ptr 0 4) (.cons (.ptr 0 5) .nil)))], [], []⟩, [(.ret, ⟨(anyN 4 (.cons (.ty (.int .i64)) (anyN 14 .nil))), [.cells 43 true (.cons (.keep (.int .i64)) (.cons (.keep (.int .i64)) (.cons (.keep (.list tQ)) (.cons (.keep (.list tRR)) (.cons (.keep (.list tRR)) (.cons (.keep (.list tRR)) .nil)))))), .cells 79 true (.cons (.ptr 0 3) (.cons (.ptr 0 4) (.cons (.ptr 0 5) .nil)))], [], []⟩), (.exit 0, ⟨(anyN 19 .nil), [.cells 43 true (.cons (.keep (.int .i64)) (.cons (.keep (.int .i64)) (.cons (.keep (.list tQ)) (.cons (.keep (.list tRR)) (.cons (.keep (.list tRR)) (.cons (.keep (.list tRR)) .nil)))))), .cells 79 true (.cons (.ptr 0 3) (.cons (.ptr 0 4) (.cons (.ptr 0 5) .nil)))], [], []⟩)]⟩), ([6, 93, 2, 3, 67, 10, 18, 1000000, 1000000], ⟨some ⟨(.cons (.keep (.list tRR)) (.cons (.func 68 .nil .nil) (anyN 5 (.cons (.keep (.int .i64)) (.cons (.ty (.int .i64)) (anyN 10 .nil)))))), [.cells 43 true (.cons (.keep (.int .i64)) (.cons (.keep (.int .i64)) (.cons (.keep (.list tQ)) (.cons (.keep (.list tRR)) (.cons (.keep (.list tRR)) (.cons (.keep (.list tRR)) .nil)))))), .cells 79 true (.cons (.ptr 0 3) (.cons (.ptr 0 4) (.cons (.ptr 0 5) .nil)))], [], []⟩, [(.ret, ⟨(anyN 4 (.cons (.ty (.int .i64)) (anyN 14 .nil))), [.cells 43 true (.cons (.keep (.int .i64)) (.cons (.keep (.int .i64)) (.cons (.keep (.list tQ)) (.cons (.keep (.list tRR)) (.cons (.keep (.list tRR)) (.cons (.keep (.list tRR)) .nil)))))), .cells 79 true (.cons (.ptr 0 3) (.cons (.ptr 0 4) (.cons (.ptr 0 5) .nil)))], [], []⟩), (.exit 0, ⟨(anyN 19 .nil), [.cells 43 true (.cons (.keep (.int .i64)) (.cons (.keep (.int .i64)) (.cons (.keep (.list tQ)) (.cons (.keep (.list tRR)) (.cons (.keep (.list tRR)) (.cons (.keep (.list tRR)) .nil)))))), .cells 79 true (.cons (.ptr 0 3) (.cons (.ptr 0 4) (.cons (.ptr 0 5) .nil)))], [], []⟩)]⟩), ([6, 94, 2, 3, 70, 18, 28], ⟨some ⟨(.cons (.keep (.list tQ)) (.cons (.func 69 .nil .nil) (anyN 5 (.cons (.keep (.int .i64)) (.cons (.ty (.int .i64)) (anyN 10 .nil)))))), [.cells 43 true (.cons (.keep (.int .i64)) (.cons (.keep (.int .i64)) (.cons (.keep (.list tQ)) (.cons (.keep (.list tRR)) (.cons (.keep (.list tRR)) (.cons (.keep (.list tRR)) .nil)))))), .cells 79 true (.cons (.ptr 0 3) (.cons (.ptr 0 4) (.cons (.ptr 0 5) .nil)))], [], []⟩, [(.ret, ⟨(anyN 4 (.cons (.ty (.int .i64)) (anyN 14 .nil))), [.cells 43 true (.cons (.keep (.int .i64)) (.cons (.keep (.int .i64)) (.cons (.keep (.list tQ)) (.cons (.keep (.list tRR)) (.cons (.keep (.list tRR)) (.cons (.keep (.list tRR)) .nil)))))), .cells 79 true (.cons (.ptr 0 3) (.cons (.ptr 0 4) (.cons (.ptr 0 5) .nil)))], [], []⟩), (.exit 0, ⟨(anyN 19 .nil), [.cells 43 true (.cons (.keep (.int .i64)) (.cons (.keep (.int .i64)) (.cons (.keep (.list tQ)) (.cons (.keep (.list tRR)) (.cons (.keep (.list tRR)) (.cons (.keep (.list tRR)) .nil)))))), .cells 79 true (.cons (.ptr 0 3) (.cons (.ptr 0 4) (.cons (.ptr 0 5) .nil)))], [], []⟩)]⟩)]
@[reducible] def fs_msg_Check : List (Nat × SFn) := [(68, .pure [tRR] [.bool] (fun x => F_msg_Check_1 x)), (69, .pure [tQ] [.bool] (fun x => F_msg_Check_2 x)), (66, .pure [(.int .i64)] [.bool] (fun x => F_msg_small x))]
def cfg_msg_Check : SCfg := SCfg.of (fs_msg_Check ++ inlL) ann_msg_Check keepL
theorem eq_msg_Check (x : HL [tM]) : fnK cfg_msg_Check Try.prog 100000 36 [tM] [.bool] x = (fun x => F_msg_Check x) x := by kernel_rfl
theorem told_msg_Check : Told CC Try.prog 36 [tM] [.bool] (fun x => F_msg_Check x) := told_of (gok (an := ann_msg_Check) (fs := fs_msg_Check) ⟨told_msg_Check_1, told_msg_Check_2, told_msg_small, trivial⟩) rfl rfl eq_msg_Check
end
end Go.Abs

set_option maxRecDepth 100000
namespace Go.Abs
open Go Go.Proofs
noncomputable section
def F_stringslite_HasSuffix (s_1 : List UInt8) (suffix_2 : List UInt8) : Option (Bool) :=
  if decide ((↑suffix_2.length : Int) ≤ (↑s_1.length : Int)) = true then
    natOf (Go.IntKind.i64.wrap ((↑s_1.length : Int) - (↑suffix_2.length : Int))) fun n3 =>
    grd (n3 ≤ s_1.length) <|
    some (List.drop n3 s_1 == suffix_2)
  else
    some false
def ann_stringslite_HasSuffix : List (List Nat × Ann) := []
def cfg_stringslite_HasSuffix : SCfg := SCfg.of ([] ++ inlL) ann_stringslite_HasSuffix keepL
theorem eq_stringslite_HasSuffix (x : HL [.str, .str]) : fnK cfg_stringslite_HasSuffix Try.prog 100000 107 [.str, .str] [.bool] x = (fun x => F_stringslite_HasSuffix x.1 x.2) x := by kernel_rfl
theorem told_stringslite_HasSuffix : Told CC Try.prog 107 [.str, .str] [.bool] (fun x => F_stringslite_HasSuffix x.1 x.2) := told_of (gok (an := ann_stringslite_HasSuffix) (fs := []) trivial) rfl rfl eq_stringslite_HasSuffix
def F_stringslite_TrimSuffix (s_1 : List UInt8) (suffix_2 : List UInt8) : Option (List UInt8) :=
  bnd (F_stringslite_HasSuffix s_1 suffix_2) fun v3 =>
  if v3 = true then
    natOf (Go.IntKind.i64.wrap ((↑s_1.length : Int) - (↑suffix_2.length : Int))) fun n4 =>
    grd (n4 ≤ s_1.length) <|
    some (List.take n4 s_1)
  else
    some s_1
def ann_stringslite_TrimSuffix : List (List Nat × Ann) := []
@[reducible] def fs_stringslite_TrimSuffix : List (Nat × SFn) := [(107, .pure [.str, .str] [.bool] (fun x => F_stringslite_HasSuffix x.1 x.2))]
def cfg_stringslite_TrimSuffix : SCfg := SCfg.of (fs_stringslite_TrimSuffix ++ inlL) ann_stringslite_TrimSuffix keepL
theorem eq_stringslite_TrimSuffix (x : HL [.str, .str]) : fnK cfg_stringslite_TrimSuffix Try.prog 100000 101 [.str, .str] [.str] x = (fun x => F_stringslite_TrimSuffix x.1 x.2) x := by kernel_rfl
theorem told_stringslite_TrimSuffix : Told CC Try.prog 101 [.str, .str] [.str] (fun x => F_stringslite_TrimSuffix x.1 x.2) := told_of (gok (an := ann_stringslite_TrimSuffix) (fs := fs_stringslite_TrimSuffix) ⟨told_stringslite_HasSuffix, trivial⟩) rfl rfl eq_stringslite_TrimSuffix
def F_strings_TrimSuffix (s_1 : List UInt8) (suffix_2 : List UInt8) : Option (List UInt8) :=
  bnd (F_stringslite_TrimSuffix s_1 suffix_2) fun v3 =>
  some v3
def ann_strings_TrimSuffix : List (List Nat × Ann) := []
@[reducible] def fs_strings_TrimSuffix : List (Nat × SFn) := [(101, .pure [.str, .str] [.str] (fun x => F_stringslite_TrimSuffix x.1 x.2))]
def cfg_strings_TrimSuffix : SCfg := SCfg.of (fs_strings_TrimSuffix ++ inlL) ann_strings_TrimSuffix keepL
theorem eq_strings_TrimSuffix (x : HL [.str, .str]) : fnK cfg_strings_TrimSuffix Try.prog 100000 90 [.str, .str] [.str] x = (fun x => F_strings_TrimSuffix x.1 x.2) x := by kernel_rfl
theorem told_strings_TrimSuffix : Told CC Try.prog 90 [.str, .str] [.str] (fun x => F_strings_TrimSuffix x.1 x.2) := told_of (gok (an := ann_strings_TrimSuffix) (fs := fs_strings_TrimSuffix) ⟨told_stringslite_TrimSuffix, trivial⟩) rfl rfl eq_strings_TrimSuffix
def F_name_small (c_1 : Int) : Option (Int) :=
  if decide (65 ≤ c_1) = true then
    if decide (c_1 ≤ 90) = true then
      some (Go.IntKind.u8.wrap (c_1 + 32))
    else
      some c_1
  else
    some c_1
def ann_name_small : List (List Nat × Ann) := []
def cfg_name_small : SCfg := SCfg.of ([] ++ inlL) ann_name_small keepL
theorem eq_name_small (x : HL [(.int .u8)]) : fnK cfg_name_small Try.prog 100000 110 [(.int .u8)] [(.int .u8)] x = (fun x => F_name_small x) x := by kernel_rfl
theorem told_name_small : Told CC Try.prog 110 [(.int .u8)] [(.int .u8)] (fun x => F_name_small x) := told_of (gok (an := ann_name_small) (fs := []) trivial) rfl rfl eq_name_small
def step_name_low_0 (s_1 : List UInt8) : (List (Int) × (List (Int) × Int)) → Option ((List (Int) × (List (Int) × Int)) ⊕ List (Int)) := fun (b_2, s8_3, s10_4) =>
  if decide (s10_4 < (↑(List.map (fun b => (↑b.toNat : Int)) s_1).length : Int)) = true then
    natOf s10_4 fun n5 =>
    bnd (s8_3[n5]?) fun x6 =>
    bnd (F_name_small x6) fun v7 =>
    natOf s10_4 fun n8 =>
    bnd (b_2[n8]?) fun x9 =>
    grdEq ((↑(List.map (fun b => (↑b.toNat : Int)) s_1).length : Int)) ((↑(List.map (fun b => (↑b.toNat : Int)) s_1).length : Int)) <|
    some (.inl ((b_2.set n8 v7, (s8_3.set n8 v7, Go.IntKind.i64.wrap (s10_4 + 1)))))
  else
    some (.inr b_2)
def F_name_low (s_1 : List UInt8) : Option (List UInt8) :=
  bnd (loopS (step_name_low_0 s_1) ((List.map (fun b => (↑b.toNat : Int)) s_1, (List.map (fun b => (↑b.toNat : Int)) s_1, 0)))) fun b_10 =>
  some (List.map (fun n => UInt8.ofNat (Int.toNat n)) b_10)
def ann_name_low : List (List Nat × Ann) := [([8], ⟨some ⟨(anyN 3 (.cons (.own (.int .u8) 0 true) (anyN 4 (.cons (.own (.int .u8) 0 true) (.cons (.keep (.int .i64)) (.cons (.ty (.int .i64)) (anyN 12 .nil))))))), [], [⟨⟨0, (.int .u8), 5, true, true⟩, false⟩], [0]⟩, [(.exit 0, ⟨(anyN 3 (.cons (.own (.int .u8) 0 true) (anyN 19 .nil))), [], [⟨⟨0, (.int .u8), 5, true, true⟩, false⟩], [0]⟩)]⟩)]
@[reducible] def fs_name_low : List (Nat × SFn) := [(110, .pure [(.int .u8)] [(.int .u8)] (fun x => F_name_small x))]
def cfg_name_low : SCfg := SCfg.of (fs_name_low ++ inlL) ann_name_low keepL
theorem eq_name_low (x : HL [.str]) : fnK cfg_name_low Try.prog 100000 106 [.str] [.str] x = (fun x => F_name_low x) x := by kernel_rfl
theorem told_name_low : Told CC Try.prog 106 [.str] [.str] (fun x => F_name_low x) := told_of (gok (an := ann_name_low) (fs := fs_name_low) ⟨told_name_small, trivial⟩) rfl rfl eq_name_low
def F_name_Same (a_1 : List UInt8) (b_2 : List UInt8) : Option (Bool) :=
  bnd (F_name_Check a_1) fun v3 =>
  if v3 = true then
    bnd (F_name_Check b_2) fun v4 =>
    if v4 = true then
      bnd (F_name_low a_1) fun v5 =>
      bnd (F_name_low b_2) fun v6 =>
      some (v5 == v6)
    else
      some false
  else
    some false
def ann_name_Same : List (List Nat × Ann) := []
@[reducible] def fs_name_Same : List (Nat × SFn) := [(48, .pure [.str] [.bool] (fun x => F_name_Check x)), (106, .pure [.str] [.str] (fun x => F_name_low x))]
def cfg_name_Same : SCfg := SCfg.of (fs_name_Same ++ inlL) ann_name_Same keepL
theorem eq_name_Same (x : HL [.str, .str]) : fnK cfg_name_Same Try.prog 100000 100 [.str, .str] [.bool] x = (fun x => F_name_Same x.1 x.2) x := by kernel_rfl
theorem told_name_Same : Told CC Try.prog 100 [.str, .str] [.bool] (fun x => F_name_Same x.1 x.2) := told_of (gok (an := ann_name_Same) (fs := fs_name_Same) ⟨told_name_Check, told_name_low, trivial⟩) rfl rfl eq_name_Same
def step_comp_place_0 (base_1 : List UInt8) (n_2 : List UInt8) : (List UInt8 × Bool) → Option ((List UInt8 × Bool) ⊕ (Int ⊕ Unit)) := fun (end_3, is_4) =>
  bnd (α := (Unit ⊕ Unit)) (if is_4 = true then
      if decide (1 < (↑end_3.length : Int)) = true then
        grdEq base_1 base_1 <|
        grdEq n_2 n_2 <|
        grdEq end_3 end_3 <|
        some (.inl (()))
      else
        some (.inr (()))
    else
      some (.inr (()))) fun o5 =>
  match o5 with
  | .inl _ =>
    bnd (F_name_Same end_3 n_2) fun v6 =>
    if v6 = true then
      some (.inr (.inl (Go.IntKind.i64.wrap ((↑base_1.length : Int) - (↑end_3.length : Int)))))
    else
      bnd (F_name_Up end_3) fun (v7, v8) =>
      grdEq base_1 base_1 <|
      grdEq n_2 n_2 <|
      some (.inl ((v7, v8)))
  | .inr _ =>
    some (.inr (.inr (())))
def F_comp_place (base_1 : List UInt8) (n_2 : List UInt8) : Option (Int) :=
  bnd (loopS (step_comp_place_0 base_1 n_2) ((base_1, true))) fun o9 =>
  match o9 with
  | .inl s4_10 =>
    some s4_10
  | .inr _ =>
    some (-1)
def ann_comp_place : List (List Nat × Ann) := [([7], ⟨none, [(.normal, ⟨(.cons (.keep .str) (.cons (.keep .str) (anyN 3 (.cons (.keep .str) (anyN 21 .nil))))), [], [], []⟩), (.exit 0, ⟨(anyN 27 .nil), [], [], []⟩)]⟩), ([6], ⟨some ⟨(.cons (.keep .str) (.cons (.keep .str) (anyN 3 (.cons (.ty .str) (.cons (.ty .bool) (anyN 20 .nil)))))), [], [], []⟩, [(.ret, ⟨(anyN 4 (.cons (.ty (.int .i64)) (anyN 22 .nil))), [], [], []⟩), (.exit 0, ⟨(anyN 27 .nil), [], [], []⟩)]⟩)]
@[reducible] def fs_comp_place : List (Nat × SFn) := [(100, .pure [.str, .str] [.bool] (fun x => F_name_Same x.1 x.2)), (88, .pure [.str] [.str, .bool] (fun x => F_name_Up x))]
def cfg_comp_place : SCfg := SCfg.of (fs_comp_place ++ inlL) ann_comp_place keepL
theorem eq_comp_place (x : HL [.str, .str]) : fnK cfg_comp_place Try.prog 100000 89 [.str, .str] [(.int .i64)] x = (fun x => F_comp_place x.1 x.2) x := by kernel_rfl
theorem told_comp_place : Told CC Try.prog 89 [.str, .str] [(.int .i64)] (fun x => F_comp_place x.1 x.2) := told_of (gok (an := ann_comp_place) (fs := fs_comp_place) ⟨told_name_Same, told_name_Up, trivial⟩) rfl rfl eq_comp_place
def step_comp_Write_0 (base_1 : List UInt8) (at_2 : Int) (n_3 : List UInt8) : (List UInt8 × Bool) → Option ((List UInt8 × Bool) ⊕ (List UInt8 ⊕ Unit)) := fun (rest_8, is_9) =>
  bnd (α := (Unit ⊕ Unit)) (if is_9 = true then
      if decide (1 < (↑rest_8.length : Int)) = true then
        grdEq base_1 base_1 <|
        grdEq at_2 at_2 <|
        grdEq n_3 n_3 <|
        grdEq rest_8 rest_8 <|
        some (.inl (()))
      else
        grdEq n_3 n_3 <|
        some (.inr (()))
    else
      grdEq n_3 n_3 <|
      some (.inr (()))) fun o10 =>
  match o10 with
  | .inl _ =>
    bnd (F_comp_place base_1 rest_8) fun v11 =>
    if decide (0 ≤ v11) = true then
      bnd (F_strings_TrimSuffix n_3 rest_8) fun v12 =>
      bnd (F_octet_Put (Go.IntKind.i64.wrap (Go.IntKind.i64.wrap (49152 + at_2) + v11)) 2) fun v13 =>
      grd (v12.length + v13.length ≤ maxStr) <|
      some (.inr (.inl (v12 ++ v13)))
    else
      bnd (F_name_Up rest_8) fun (v14, v15) =>
      grdEq base_1 base_1 <|
      grdEq at_2 at_2 <|
      grdEq n_3 n_3 <|
      some (.inl ((v14, v15)))
  | .inr _ =>
    grdEq n_3 n_3 <|
    some (.inr (.inr (())))
def F_comp_Write (base_1 : List UInt8) (at_2 : Int) (n_3 : List UInt8) : Option (List UInt8) :=
  bnd (α := (List UInt8 ⊕ Unit)) (bnd (F_name_Check base_1) fun v4 =>
    if (!v4) = false then
      bnd (F_name_Check n_3) fun v5 =>
      if (!v5) = false then
        if decide (at_2 < 0) = false then
          if decide (16000 < at_2) = true then
            some (.inl ([]))
          else
            grdEq base_1 base_1 <|
            grdEq at_2 at_2 <|
            grdEq n_3 n_3 <|
            some (.inr (()))
        else
          some (.inl ([]))
      else
        some (.inl ([]))
    else
      some (.inl ([]))) fun o6 =>
  match o6 with
  | .inl s6_7 =>
    some s6_7
  | .inr _ =>
    bnd (loopS (step_comp_Write_0 base_1 at_2 n_3) ((n_3, true))) fun o16 =>
    match o16 with
    | .inl s6_17 =>
      some s6_17
    | .inr _ =>
      some n_3
def ann_comp_Write : List (List Nat × Ann) := [([2], ⟨none, [(.ret, ⟨(anyN 6 (.cons (.ty .str) (anyN 46 .nil))), [], [], []⟩), (.normal, ⟨(.cons (.keep .str) (.cons (.keep (.int .i64)) (.cons (.keep .str) (anyN 50 .nil)))), [], [], []⟩)]⟩), ([15], ⟨none, [(.normal, ⟨(.cons (.keep .str) (.cons (.keep (.int .i64)) (.cons (.keep .str) (anyN 4 (.cons (.keep .str) (anyN 45 .nil)))))), [], [], []⟩), (.exit 0, ⟨(anyN 2 (.cons (.keep .str) (anyN 50 .nil))), [], [], []⟩)]⟩), ([14], ⟨some ⟨(.cons (.keep .str) (.cons (.keep (.int .i64)) (.cons (.keep .str) (anyN 4 (.cons (.ty .str) (.cons (.ty .bool) (anyN 44 .nil))))))), [], [], []⟩, [(.ret, ⟨(anyN 6 (.cons (.ty .str) (anyN 46 .nil))), [], [], []⟩), (.exit 0, ⟨(anyN 2 (.cons (.keep .str) (anyN 50 .nil))), [], [], []⟩)]⟩)]
@[reducible] def fs_comp_Write : List (Nat × SFn) := [(89, .pure [.str, .str] [(.int .i64)] (fun x => F_comp_place x.1 x.2)), (90, .pure [.str, .str] [.str] (fun x => F_strings_TrimSuffix x.1 x.2)), (53, .pure [(.int .i64), (.int .i64)] [.str] (fun x => F_octet_Put x.1 x.2)), (88, .pure [.str] [.str, .bool] (fun x => F_name_Up x)), (48, .pure [.str] [.bool] (fun x => F_name_Check x))]
def cfg_comp_Write : SCfg := SCfg.of (fs_comp_Write ++ inlL) ann_comp_Write keepL
theorem eq_comp_Write (x : HL [.str, (.int .i64), .str]) : fnK cfg_comp_Write Try.prog 100000 52 [.str, (.int .i64), .str] [.str] x = (fun x => F_comp_Write x.1 x.2.1 x.2.2) x := by kernel_rfl
theorem told_comp_Write : Told CC Try.prog 52 [.str, (.int .i64), .str] [.str] (fun x => F_comp_Write x.1 x.2.1 x.2.2) := told_of (gok (an := ann_comp_Write) (fs := fs_comp_Write) ⟨told_comp_place, told_strings_TrimSuffix, told_octet_Put, told_name_Up, told_name_Check, trivial⟩) rfl rfl eq_comp_Write
def F_record_Encode (base_1 : List UInt8) (at_2 : Int) (r_3 : (List UInt8 × (Int × (Int × (Int × List UInt8))))) : Option (List UInt8) :=
  bnd (F_comp_Write base_1 at_2 r_3.fst) fun v4 =>
  bnd (α := (List UInt8 ⊕ Unit)) (if (v4 == []) = false then
      bnd (F_record_Check (r_3.fst, r_3.snd.fst, r_3.snd.snd.fst, r_3.snd.snd.snd.fst, r_3.snd.snd.snd.snd)) fun v5 =>
      if (!v5) = true then
        grdEq r_3.fst r_3.fst <|
        grdEq r_3.snd.fst r_3.snd.fst <|
        grdEq r_3.snd.snd.fst r_3.snd.snd.fst <|
        grdEq r_3.snd.snd.snd.fst r_3.snd.snd.snd.fst <|
        grdEq r_3.snd.snd.snd.snd r_3.snd.snd.snd.snd <|
        some (.inl ([]))
      else
        grdEq v4 v4 <|
        grdEq r_3.fst r_3.fst <|
        grdEq r_3.snd.fst r_3.snd.fst <|
        grdEq r_3.snd.snd.fst r_3.snd.snd.fst <|
        grdEq r_3.snd.snd.snd.fst r_3.snd.snd.snd.fst <|
        grdEq r_3.snd.snd.snd.snd r_3.snd.snd.snd.snd <|
        some (.inr (()))
    else
      grdEq r_3.fst r_3.fst <|
      grdEq r_3.snd.fst r_3.snd.fst <|
      grdEq r_3.snd.snd.fst r_3.snd.snd.fst <|
      grdEq r_3.snd.snd.snd.fst r_3.snd.snd.snd.fst <|
      grdEq r_3.snd.snd.snd.snd r_3.snd.snd.snd.snd <|
      some (.inl ([]))) fun o6 =>
  match o6 with
  | .inl s6_7 =>
    some s6_7
  | .inr _ =>
    bnd (F_octet_Put r_3.snd.fst 2) fun v8 =>
    grd (v4.length + v8.length ≤ maxStr) <|
    bnd (F_octet_Put r_3.snd.snd.fst 2) fun v9 =>
    grd ((v4 ++ v8).length + v9.length ≤ maxStr) <|
    bnd (F_octet_Put r_3.snd.snd.snd.fst 4) fun v10 =>
    grd ((v4 ++ v8 ++ v9).length + v10.length ≤ maxStr) <|
    bnd (F_octet_Put (↑(List.length r_3.snd.snd.snd.snd) : Int) 2) fun v11 =>
    grd ((v4 ++ v8 ++ v9 ++ v10).length + v11.length ≤ maxStr) <|
    grd ((v4 ++ v8 ++ v9 ++ v10 ++ v11).length + List.length r_3.snd.snd.snd.snd ≤ maxStr) <|
    some (v4 ++ v8 ++ v9 ++ v10 ++ v11 ++ r_3.snd.snd.snd.snd)
def ann_record_Encode : List (List Nat × Ann) := [([4], ⟨none, [(.ret, ⟨(anyN 6 (.cons (.ty .str) (anyN 34 .nil))), [.cells 24 true (.cons (.keep .str) (.cons (.keep (.int .i64)) (.cons (.keep (.int .i64)) (.cons (.keep (.int .i64)) (.cons (.keep .str) .nil)))))], [], []⟩), (.normal, ⟨(anyN 5 (.cons (.ptr 0 0) (anyN 1 (.cons (.keep .str) (anyN 33 .nil))))), [.cells 24 true (.cons (.keep .str) (.cons (.keep (.int .i64)) (.cons (.keep (.int .i64)) (.cons (.keep (.int .i64)) (.cons (.keep .str) .nil)))))], [], []⟩)]⟩)]
@[reducible] def fs_record_Encode : List (Nat × SFn) := [(52, .pure [.str, (.int .i64), .str] [.str] (fun x => F_comp_Write x.1 x.2.1 x.2.2)), (17, .pure [tRR] [.bool] (fun x => F_record_Check x)), (53, .pure [(.int .i64), (.int .i64)] [.str] (fun x => F_octet_Put x.1 x.2))]
def cfg_record_Encode : SCfg := SCfg.of (fs_record_Encode ++ inlL) ann_record_Encode keepL
theorem eq_record_Encode (x : HL [.str, (.int .i64), tRR]) : fnK cfg_record_Encode Try.prog 100000 19 [.str, (.int .i64), tRR] [.str] x = (fun x => F_record_Encode x.1 x.2.1 x.2.2) x := by kernel_rfl
theorem told_record_Encode : Told CC Try.prog 19 [.str, (.int .i64), tRR] [.str] (fun x => F_record_Encode x.1 x.2.1 x.2.2) := told_of (gok (an := ann_record_Encode) (fs := fs_record_Encode) ⟨told_comp_Write, told_record_Check, told_octet_Put, trivial⟩) rfl rfl eq_record_Encode
end
end Go.Abs
