/- Part of a proof: a machine of plain data, and what the functions come to on it. -/
import Derived.Test.YtmjahmmlllfcgaaSnB
set_option linter.unusedSimpArgs false
set_option linter.unusedVariables false
set_option linter.unusedSectionVars false
set_option maxRecDepth 100000
namespace Go.Abs
open Go Go.Proofs
noncomputable section
def step_msg_Encode_0 (m_1 : Int × Int × List (List UInt8 × Int × Int) × List (List UInt8 × Int × Int × Int × List UInt8) × List (List UInt8 × Int × Int × Int × List UInt8) × List (List UInt8 × Int × Int × Int × List UInt8)) : (List UInt8 × (List UInt8 × Int)) → Option ((List UInt8 × (List UInt8 × Int)) ⊕ (List UInt8 × List UInt8)) := fun (s_9, base_10, s44_11) =>
  if decide (s44_11 < (↑(List.length m_1.snd.snd.fst) : Int)) = true then
    natOf s44_11 fun n12 =>
    bnd (m_1.snd.snd.fst[n12]?) fun x13 =>
    bnd (α := List UInt8) (if (s44_11 == 0) = true then
        grdEq s_9 s_9 <|
        grdEq m_1.snd.snd.fst m_1.snd.snd.fst <|
        grdEq ((↑(List.length m_1.snd.snd.fst) : Int)) ((↑(List.length m_1.snd.snd.fst) : Int)) <|
        grdEq s44_11 s44_11 <|
        grdEq m_1.fst m_1.fst <|
        grdEq m_1.snd.fst m_1.snd.fst <|
        grdEq m_1.snd.snd.fst m_1.snd.snd.fst <|
        grdEq m_1.snd.snd.snd.fst m_1.snd.snd.snd.fst <|
        grdEq m_1.snd.snd.snd.snd.fst m_1.snd.snd.snd.snd.fst <|
        grdEq m_1.snd.snd.snd.snd.snd m_1.snd.snd.snd.snd.snd <|
        grdEq x13.fst x13.fst <|
        grdEq x13.snd.fst x13.snd.fst <|
        grdEq x13.snd.snd x13.snd.snd <|
        some x13.fst
      else
        grdEq s_9 s_9 <|
        grdEq m_1.snd.snd.fst m_1.snd.snd.fst <|
        grdEq ((↑(List.length m_1.snd.snd.fst) : Int)) ((↑(List.length m_1.snd.snd.fst) : Int)) <|
        grdEq s44_11 s44_11 <|
        grdEq m_1.fst m_1.fst <|
        grdEq m_1.snd.fst m_1.snd.fst <|
        grdEq m_1.snd.snd.fst m_1.snd.snd.fst <|
        grdEq m_1.snd.snd.snd.fst m_1.snd.snd.snd.fst <|
        grdEq m_1.snd.snd.snd.snd.fst m_1.snd.snd.snd.snd.fst <|
        grdEq m_1.snd.snd.snd.snd.snd m_1.snd.snd.snd.snd.snd <|
        grdEq x13.fst x13.fst <|
        grdEq x13.snd.fst x13.snd.fst <|
        grdEq x13.snd.snd x13.snd.snd <|
        some base_10) fun base_14 =>
    bnd (F_octet_Put x13.snd.fst 2) fun v15 =>
    grd (List.length x13.fst + v15.length ≤ maxStr) <|
    bnd (F_octet_Put x13.snd.snd 2) fun v16 =>
    grd ((x13.fst ++ v15).length + v16.length ≤ maxStr) <|
    grd (s_9.length + (x13.fst ++ v15 ++ v16).length ≤ maxStr) <|
    grdEq m_1.snd.snd.fst m_1.snd.snd.fst <|
    grdEq ((↑(List.length m_1.snd.snd.fst) : Int)) ((↑(List.length m_1.snd.snd.fst) : Int)) <|
    grdEq m_1.fst m_1.fst <|
    grdEq m_1.snd.fst m_1.snd.fst <|
    grdEq m_1.snd.snd.fst m_1.snd.snd.fst <|
    grdEq m_1.snd.snd.snd.fst m_1.snd.snd.snd.fst <|
    grdEq m_1.snd.snd.snd.snd.fst m_1.snd.snd.snd.snd.fst <|
    grdEq m_1.snd.snd.snd.snd.snd m_1.snd.snd.snd.snd.snd <|
    some (.inl ((s_9 ++ (x13.fst ++ v15 ++ v16), (base_14, Go.IntKind.i64.wrap (s44_11 + 1)))))
  else
    grdEq m_1.fst m_1.fst <|
    grdEq m_1.snd.fst m_1.snd.fst <|
    grdEq m_1.snd.snd.fst m_1.snd.snd.fst <|
    grdEq m_1.snd.snd.snd.fst m_1.snd.snd.snd.fst <|
    grdEq m_1.snd.snd.snd.snd.fst m_1.snd.snd.snd.snd.fst <|
    grdEq m_1.snd.snd.snd.snd.snd m_1.snd.snd.snd.snd.snd <|
    some (.inr ((s_9, base_10)))
def step_msg_Encode_1 (m_1 : Int × Int × List (List UInt8 × Int × Int) × List (List UInt8 × Int × Int × Int × List UInt8) × List (List UInt8 × Int × Int × Int × List UInt8) × List (List UInt8 × Int × Int × Int × List UInt8)) (base_18 : List UInt8) : (List UInt8 × Int) → Option ((List UInt8 × Int) ⊕ List UInt8) := fun (s_19, s74_20) =>
  if decide (s74_20 < (↑(List.length m_1.snd.snd.snd.fst) : Int)) = true then
    natOf s74_20 fun n21 =>
    bnd (m_1.snd.snd.snd.fst[n21]?) fun x22 =>
    if decide (65535 < (↑s_19.length : Int)) = true then
      grdEq base_18 base_18 <|
      grdEq (α := Int) 0 0 <|
      grdEq m_1.fst m_1.fst <|
      grdEq m_1.snd.fst m_1.snd.fst <|
      grdEq m_1.snd.snd.fst m_1.snd.snd.fst <|
      grdEq m_1.snd.snd.snd.fst m_1.snd.snd.snd.fst <|
      grdEq m_1.snd.snd.snd.snd.fst m_1.snd.snd.snd.snd.fst <|
      grdEq m_1.snd.snd.snd.snd.snd m_1.snd.snd.snd.snd.snd <|
      some (.inr s_19)
    else
      bnd (F_record_Encode base_18 12 (x22.fst, x22.snd.fst, x22.snd.snd.fst, x22.snd.snd.snd.fst, x22.snd.snd.snd.snd)) fun v23 =>
      grd (s_19.length + v23.length ≤ maxStr) <|
      grdEq base_18 base_18 <|
      grdEq (α := Int) 0 0 <|
      grdEq m_1.snd.snd.snd.fst m_1.snd.snd.snd.fst <|
      grdEq ((↑(List.length m_1.snd.snd.snd.fst) : Int)) ((↑(List.length m_1.snd.snd.snd.fst) : Int)) <|
      grdEq m_1.fst m_1.fst <|
      grdEq m_1.snd.fst m_1.snd.fst <|
      grdEq m_1.snd.snd.fst m_1.snd.snd.fst <|
      grdEq m_1.snd.snd.snd.fst m_1.snd.snd.snd.fst <|
      grdEq m_1.snd.snd.snd.snd.fst m_1.snd.snd.snd.snd.fst <|
      grdEq m_1.snd.snd.snd.snd.snd m_1.snd.snd.snd.snd.snd <|
      some (.inl ((s_19 ++ v23, Go.IntKind.i64.wrap (s74_20 + 1))))
  else
    grdEq base_18 base_18 <|
    grdEq (α := Int) 0 0 <|
    grdEq m_1.fst m_1.fst <|
    grdEq m_1.snd.fst m_1.snd.fst <|
    grdEq m_1.snd.snd.fst m_1.snd.snd.fst <|
    grdEq m_1.snd.snd.snd.fst m_1.snd.snd.snd.fst <|
    grdEq m_1.snd.snd.snd.snd.fst m_1.snd.snd.snd.snd.fst <|
    grdEq m_1.snd.snd.snd.snd.snd m_1.snd.snd.snd.snd.snd <|
    some (.inr s_19)
def step_msg_Encode_2 (m_1 : Int × Int × List (List UInt8 × Int × Int) × List (List UInt8 × Int × Int × Int × List UInt8) × List (List UInt8 × Int × Int × Int × List UInt8) × List (List UInt8 × Int × Int × Int × List UInt8)) (base_18 : List UInt8) : (List UInt8 × Int) → Option ((List UInt8 × Int) ⊕ List UInt8) := fun (s_25, s74_26) =>
  if decide (s74_26 < (↑(List.length m_1.snd.snd.snd.snd.fst) : Int)) = true then
    natOf s74_26 fun n27 =>
    bnd (m_1.snd.snd.snd.snd.fst[n27]?) fun x28 =>
    if decide (65535 < (↑s_25.length : Int)) = true then
      grdEq base_18 base_18 <|
      grdEq (α := Int) 1 1 <|
      grdEq m_1.fst m_1.fst <|
      grdEq m_1.snd.fst m_1.snd.fst <|
      grdEq m_1.snd.snd.fst m_1.snd.snd.fst <|
      grdEq m_1.snd.snd.snd.fst m_1.snd.snd.snd.fst <|
      grdEq m_1.snd.snd.snd.snd.fst m_1.snd.snd.snd.snd.fst <|
      grdEq m_1.snd.snd.snd.snd.snd m_1.snd.snd.snd.snd.snd <|
      some (.inr s_25)
    else
      bnd (F_record_Encode base_18 12 (x28.fst, x28.snd.fst, x28.snd.snd.fst, x28.snd.snd.snd.fst, x28.snd.snd.snd.snd)) fun v29 =>
      grd (s_25.length + v29.length ≤ maxStr) <|
      grdEq base_18 base_18 <|
      grdEq (α := Int) 1 1 <|
      grdEq m_1.snd.snd.snd.snd.fst m_1.snd.snd.snd.snd.fst <|
      grdEq ((↑(List.length m_1.snd.snd.snd.snd.fst) : Int)) ((↑(List.length m_1.snd.snd.snd.snd.fst) : Int)) <|
      grdEq m_1.fst m_1.fst <|
      grdEq m_1.snd.fst m_1.snd.fst <|
      grdEq m_1.snd.snd.fst m_1.snd.snd.fst <|
      grdEq m_1.snd.snd.snd.fst m_1.snd.snd.snd.fst <|
      grdEq m_1.snd.snd.snd.snd.fst m_1.snd.snd.snd.snd.fst <|
      grdEq m_1.snd.snd.snd.snd.snd m_1.snd.snd.snd.snd.snd <|
      some (.inl ((s_25 ++ v29, Go.IntKind.i64.wrap (s74_26 + 1))))
  else
    grdEq base_18 base_18 <|
    grdEq (α := Int) 1 1 <|
    grdEq m_1.fst m_1.fst <|
    grdEq m_1.snd.fst m_1.snd.fst <|
    grdEq m_1.snd.snd.fst m_1.snd.snd.fst <|
    grdEq m_1.snd.snd.snd.fst m_1.snd.snd.snd.fst <|
    grdEq m_1.snd.snd.snd.snd.fst m_1.snd.snd.snd.snd.fst <|
    grdEq m_1.snd.snd.snd.snd.snd m_1.snd.snd.snd.snd.snd <|
    some (.inr s_25)
def step_msg_Encode_3 (m_1 : Int × Int × List (List UInt8 × Int × Int) × List (List UInt8 × Int × Int × Int × List UInt8) × List (List UInt8 × Int × Int × Int × List UInt8) × List (List UInt8 × Int × Int × Int × List UInt8)) (base_18 : List UInt8) : (List UInt8 × Int) → Option ((List UInt8 × Int) ⊕ List UInt8) := fun (s_31, s74_32) =>
  if decide (s74_32 < (↑(List.length m_1.snd.snd.snd.snd.snd) : Int)) = true then
    natOf s74_32 fun n33 =>
    bnd (m_1.snd.snd.snd.snd.snd[n33]?) fun x34 =>
    if decide (65535 < (↑s_31.length : Int)) = true then
      grdEq base_18 base_18 <|
      grdEq (α := Int) 2 2 <|
      grdEq m_1.fst m_1.fst <|
      grdEq m_1.snd.fst m_1.snd.fst <|
      grdEq m_1.snd.snd.fst m_1.snd.snd.fst <|
      grdEq m_1.snd.snd.snd.fst m_1.snd.snd.snd.fst <|
      grdEq m_1.snd.snd.snd.snd.fst m_1.snd.snd.snd.snd.fst <|
      grdEq m_1.snd.snd.snd.snd.snd m_1.snd.snd.snd.snd.snd <|
      some (.inr s_31)
    else
      bnd (F_record_Encode base_18 12 (x34.fst, x34.snd.fst, x34.snd.snd.fst, x34.snd.snd.snd.fst, x34.snd.snd.snd.snd)) fun v35 =>
      grd (s_31.length + v35.length ≤ maxStr) <|
      grdEq base_18 base_18 <|
      grdEq (α := Int) 2 2 <|
      grdEq m_1.snd.snd.snd.snd.snd m_1.snd.snd.snd.snd.snd <|
      grdEq ((↑(List.length m_1.snd.snd.snd.snd.snd) : Int)) ((↑(List.length m_1.snd.snd.snd.snd.snd) : Int)) <|
      grdEq m_1.fst m_1.fst <|
      grdEq m_1.snd.fst m_1.snd.fst <|
      grdEq m_1.snd.snd.fst m_1.snd.snd.fst <|
      grdEq m_1.snd.snd.snd.fst m_1.snd.snd.snd.fst <|
      grdEq m_1.snd.snd.snd.snd.fst m_1.snd.snd.snd.snd.fst <|
      grdEq m_1.snd.snd.snd.snd.snd m_1.snd.snd.snd.snd.snd <|
      some (.inl ((s_31 ++ v35, Go.IntKind.i64.wrap (s74_32 + 1))))
  else
    grdEq base_18 base_18 <|
    grdEq (α := Int) 2 2 <|
    grdEq m_1.fst m_1.fst <|
    grdEq m_1.snd.fst m_1.snd.fst <|
    grdEq m_1.snd.snd.fst m_1.snd.snd.fst <|
    grdEq m_1.snd.snd.snd.fst m_1.snd.snd.snd.fst <|
    grdEq m_1.snd.snd.snd.snd.fst m_1.snd.snd.snd.snd.fst <|
    grdEq m_1.snd.snd.snd.snd.snd m_1.snd.snd.snd.snd.snd <|
    some (.inr s_31)
def F_msg_Encode (m_1 : (Int × (Int × (List ((List UInt8 × (Int × Int))) × (List ((List UInt8 × (Int × (Int × (Int × List UInt8))))) × (List ((List UInt8 × (Int × (Int × (Int × List UInt8))))) × List ((List UInt8 × (Int × (Int × (Int × List UInt8))))))))))) : Option ((List UInt8 × Int)) :=
  bnd (F_msg_Check (m_1.fst, m_1.snd.fst, m_1.snd.snd.fst, m_1.snd.snd.snd.fst, m_1.snd.snd.snd.snd.fst, m_1.snd.snd.snd.snd.snd)) fun v2 =>
  if (!v2) = true then
    some (([], 1))
  else
    bnd (F_octet_Put m_1.fst 2) fun v3 =>
    bnd (F_octet_Put m_1.snd.fst 2) fun v4 =>
    grd (v3.length + v4.length ≤ maxStr) <|
    bnd (F_octet_Put (↑(List.length m_1.snd.snd.fst) : Int) 2) fun v5 =>
    grd ((v3 ++ v4).length + v5.length ≤ maxStr) <|
    bnd (F_octet_Put (↑(List.length m_1.snd.snd.snd.fst) : Int) 2) fun v6 =>
    grd ((v3 ++ v4 ++ v5).length + v6.length ≤ maxStr) <|
    bnd (F_octet_Put (↑(List.length m_1.snd.snd.snd.snd.fst) : Int) 2) fun v7 =>
    grd ((v3 ++ v4 ++ v5 ++ v6).length + v7.length ≤ maxStr) <|
    bnd (F_octet_Put (↑(List.length m_1.snd.snd.snd.snd.snd) : Int) 2) fun v8 =>
    grd ((v3 ++ v4 ++ v5 ++ v6 ++ v7).length + v8.length ≤ maxStr) <|
    bnd (loopS (step_msg_Encode_0 m_1) ((v3 ++ v4 ++ v5 ++ v6 ++ v7 ++ v8, ([0], 0)))) fun (s_17, base_18) =>
    bnd (loopS (step_msg_Encode_1 m_1 base_18) ((s_17, 0))) fun s_24 =>
    bnd (loopS (step_msg_Encode_2 m_1 base_18) ((s_24, 0))) fun s_30 =>
    bnd (loopS (step_msg_Encode_3 m_1 base_18) ((s_30, 0))) fun s_36 =>
    if decide (65535 < (↑s_36.length : Int)) = true then
      some (([], 6))
    else
      some ((s_36, 0))
def ann_msg_Encode : List (List Nat × Ann) := [([46], ⟨none, [(.normal, ⟨(anyN 1 (.cons (.ptr 0 0) (anyN 2 (.cons (.keep .str) (anyN 2 (.cons (.ty .str) (anyN 1 (.cons (.ptr 2 0) (anyN 32 (.cons (.keep (.list tQ)) (.cons (.keep (.int .i64)) (.cons (.keep (.int .i64)) (anyN 47 .nil))))))))))))), [.cells 43 true (.cons (.keep (.int .i64)) (.cons (.keep (.int .i64)) (.cons (.keep (.list tQ)) (.cons (.keep (.list tRR)) (.cons (.keep (.list tRR)) (.cons (.keep (.list tRR)) .nil)))))), .cells 79 true (.cons (.ptr 0 3) (.cons (.ptr 0 4) (.cons (.ptr 0 5) .nil))), .cells 74 true (.cons (.keep .str) (.cons (.keep (.int .i64)) (.cons (.keep (.int .i64)) .nil)))], [], []⟩)]⟩), ([16], ⟨none, []⟩), ([58], ⟨none, []⟩), ([16, 1000000], ⟨none, []⟩), ([16, 1000000, 1000000], ⟨none, []⟩), ([16, 1000000, 1000000, 1000000], ⟨none, []⟩), ([16, 1000000, 1000000, 1000000, 1000000], ⟨none, []⟩), ([58, 1000000], ⟨none, []⟩), ([58, 1000000, 1000000], ⟨none, []⟩), ([58, 1000000, 1000000, 1000000], ⟨none, []⟩), ([58, 1000000, 1000000, 1000000, 1000000], ⟨none, []⟩), ([35], ⟨some ⟨(anyN 1 (.cons (.ptr 0 0) (anyN 2 (.cons (.ty .str) (anyN 2 (.cons (.ty .str) (anyN 34 (.cons (.keep (.list tQ)) (.cons (.keep (.int .i64)) (.cons (.ty (.int .i64)) (anyN 47 .nil))))))))))), [.cells 43 true (.cons (.keep (.int .i64)) (.cons (.keep (.int .i64)) (.cons (.keep (.list tQ)) (.cons (.keep (.list tRR)) (.cons (.keep (.list tRR)) (.cons (.keep (.list tRR)) .nil)))))), .cells 79 true (.cons (.ptr 0 3) (.cons (.ptr 0 4) (.cons (.ptr 0 5) .nil)))], [], []⟩, [(.exit 2, ⟨(anyN 1 (.cons (.ptr 0 0) (anyN 2 (.cons (.ty .str) (anyN 2 (.cons (.ty .str) (anyN 84 .nil))))))), [.cells 43 true (.cons (.keep (.int .i64)) (.cons (.keep (.int .i64)) (.cons (.keep (.list tQ)) (.cons (.keep (.list tRR)) (.cons (.keep (.list tRR)) (.cons (.keep (.list tRR)) .nil)))))), .cells 79 true (.cons (.ptr 0 3) (.cons (.ptr 0 4) (.cons (.ptr 0 5) .nil)))], [], []⟩)]⟩), ([72], ⟨some ⟨(anyN 4 (.cons (.ty .str) (anyN 2 (.cons (.keep .str) (anyN 58 (.cons (.agg (.cons (.ptr 0 3) (.cons (.ptr 0 4) (.cons (.ptr 0 5) .nil)))) (.cons (.keep (.int .i64)) (anyN 4 (.cons (.keep (.list tRR)) (.cons (.keep (.int .i64)) (.cons (.ty (.int .i64)) (anyN 17 .nil)))))))))))), [.cells 43 true (.cons (.keep (.int .i64)) (.cons (.keep (.int .i64)) (.cons (.keep (.list tQ)) (.cons (.keep (.list tRR)) (.cons (.keep (.list tRR)) (.cons (.keep (.list tRR)) .nil)))))), .cells 79 true (.cons (.ptr 0 3) (.cons (.ptr 0 4) (.cons (.ptr 0 5) .nil))), .cells 79 true (.cons (.ptr 0 3) (.cons (.ptr 0 4) (.cons (.ptr 0 5) .nil)))], [], []⟩, [(.exit 6, ⟨(anyN 4 (.cons (.ty .str) (anyN 2 (.cons (.keep .str) (anyN 58 (.cons (.agg (.cons (.ptr 0 3) (.cons (.ptr 0 4) (.cons (.ptr 0 5) .nil)))) (.cons (.keep (.int .i64)) (anyN 24 .nil)))))))), [.cells 43 true (.cons (.keep (.int .i64)) (.cons (.keep (.int .i64)) (.cons (.keep (.list tQ)) (.cons (.keep (.list tRR)) (.cons (.keep (.list tRR)) (.cons (.keep (.list tRR)) .nil)))))), .cells 79 true (.cons (.ptr 0 3) (.cons (.ptr 0 4) (.cons (.ptr 0 5) .nil))), .cells 79 true (.cons (.ptr 0 3) (.cons (.ptr 0 4) (.cons (.ptr 0 5) .nil)))], [], []⟩)]⟩), ([72, 1000000], ⟨some ⟨(anyN 4 (.cons (.ty .str) (anyN 2 (.cons (.keep .str) (anyN 58 (.cons (.agg (.cons (.ptr 0 3) (.cons (.ptr 0 4) (.cons (.ptr 0 5) .nil)))) (.cons (.keep (.int .i64)) (anyN 4 (.cons (.keep (.list tRR)) (.cons (.keep (.int .i64)) (.cons (.ty (.int .i64)) (anyN 17 .nil)))))))))))), [.cells 43 true (.cons (.keep (.int .i64)) (.cons (.keep (.int .i64)) (.cons (.keep (.list tQ)) (.cons (.keep (.list tRR)) (.cons (.keep (.list tRR)) (.cons (.keep (.list tRR)) .nil)))))), .cells 79 true (.cons (.ptr 0 3) (.cons (.ptr 0 4) (.cons (.ptr 0 5) .nil))), .cells 79 true (.cons (.ptr 0 3) (.cons (.ptr 0 4) (.cons (.ptr 0 5) .nil)))], [], []⟩, [(.exit 6, ⟨(anyN 4 (.cons (.ty .str) (anyN 2 (.cons (.keep .str) (anyN 58 (.cons (.agg (.cons (.ptr 0 3) (.cons (.ptr 0 4) (.cons (.ptr 0 5) .nil)))) (.cons (.keep (.int .i64)) (anyN 24 .nil)))))))), [.cells 43 true (.cons (.keep (.int .i64)) (.cons (.keep (.int .i64)) (.cons (.keep (.list tQ)) (.cons (.keep (.list tRR)) (.cons (.keep (.list tRR)) (.cons (.keep (.list tRR)) .nil)))))), .cells 79 true (.cons (.ptr 0 3) (.cons (.ptr 0 4) (.cons (.ptr 0 5) .nil))), .cells 79 true (.cons (.ptr 0 3) (.cons (.ptr 0 4) (.cons (.ptr 0 5) .nil)))], [], []⟩)]⟩), ([72, 1000000, 1000000], ⟨some ⟨(anyN 4 (.cons (.ty .str) (anyN 2 (.cons (.keep .str) (anyN 58 (.cons (.agg (.cons (.ptr 0 3) (.cons (.ptr 0 4) (.cons (.ptr 0 5) .nil)))) (.cons (.keep (.int .i64)) (anyN 4 (.cons (.keep (.list tRR)) (.cons (.keep (.int .i64)) (.cons (.ty (.int .i64)) (anyN 17 .nil)))))))))))), [.cells 43 true (.cons (.keep (.int .i64)) (.cons (.keep (.int .i64)) (.cons (.keep (.list tQ)) (.cons (.keep (.list tRR)) (.cons (.keep (.list tRR)) (.cons (.keep (.list tRR)) .nil)))))), .cells 79 true (.cons (.ptr 0 3) (.cons (.ptr 0 4) (.cons (.ptr 0 5) .nil))), .cells 79 true (.cons (.ptr 0 3) (.cons (.ptr 0 4) (.cons (.ptr 0 5) .nil)))], [], []⟩, [(.exit 6, ⟨(anyN 4 (.cons (.ty .str) (anyN 2 (.cons (.keep .str) (anyN 58 (.cons (.agg (.cons (.ptr 0 3) (.cons (.ptr 0 4) (.cons (.ptr 0 5) .nil)))) (.cons (.keep (.int .i64)) (anyN 24 .nil)))))))), [.cells 43 true (.cons (.keep (.int .i64)) (.cons (.keep (.int .i64)) (.cons (.keep (.list tQ)) (.cons (.keep (.list tRR)) (.cons (.keep (.list tRR)) (.cons (.keep (.list tRR)) .nil)))))), .cells 79 true (.cons (.ptr 0 3) (.cons (.ptr 0 4) (.cons (.ptr 0 5) .nil))), .cells 79 true (.cons (.ptr 0 3) (.cons (.ptr 0 4) (.cons (.ptr 0 5) .nil)))], [], []⟩)]⟩)]
@[reducible] def fs_msg_Encode : List (Nat × SFn) := [(53, .pure [(.int .i64), (.int .i64)] [.str] (fun x => F_octet_Put x.1 x.2)), (19, .pure [.str, (.int .i64), tRR] [.str] (fun x => F_record_Encode x.1 x.2.1 x.2.2)), (36, .pure [tM] [.bool] (fun x => F_msg_Check x))]
def cfg_msg_Encode : SCfg := SCfg.of (fs_msg_Encode ++ inlL) ann_msg_Encode keepL
theorem eq_msg_Encode (x : HL [tM]) : fnK cfg_msg_Encode Try.prog 100000 34 [tM] [.str, (.int .i64)] x = (fun x => F_msg_Encode x) x := by kernel_rfl
theorem told_msg_Encode : Told CC Try.prog 34 [tM] [.str, (.int .i64)] (fun x => F_msg_Encode x) := told_of (gok (an := ann_msg_Encode) (fs := fs_msg_Encode) ⟨told_octet_Put, told_record_Encode, told_msg_Check, trivial⟩) rfl rfl eq_msg_Encode
def F_law08_live : Option (Bool) :=
  bnd (F_msg_Encode (7, 33152, [([1, 97, 0], 1, 1)], [([1, 97, 0], 1, 1, 5, [97, 98, 99, 100])], [], [])) fun (v1, v2) =>
  bnd (F_msg_Decode v1) fun (v3, v4) =>
  grd (v1.length + 1 ≤ maxStr) <|
  bnd (F_msg_Decode (v1 ++ [122])) fun (v5, v6) =>
  bnd (F_msg_Decode [115, 104, 111, 114, 116]) fun (v7, v8) =>
  bnd (F_msg_Head v1) fun (v9, v10, v11) =>
  bnd (F_msg_Decode [0, 0, 0, 0, 0, 0, 0, 0, 0, 0, 0, 0]) fun (v12, v13) =>
  if ((↑v1.length : Int) == 35) = true then
    if (v2 == 0) = true then
      if (v4 == 0) = true then
        bnd (F_msg_Same (v3.fst, v3.snd.fst, v3.snd.snd.fst, v3.snd.snd.snd.fst, v3.snd.snd.snd.snd.fst, v3.snd.snd.snd.snd.snd) (7, 33152, [([1, 97, 0], 1, 1)], [([1, 97, 0], 1, 1, 5, [97, 98, 99, 100])], [], [])) fun v14 =>
        if v14 = true then
          if (v6 == 5) = true then
            if (v8 == 2) = true then
              if (v9 == 7) = true then
                if (v10 == 33152) = true then
                  if v11 = true then
                    if (v13 == 0) = true then
                      bnd (F_msg_Same (v12.fst, v12.snd.fst, v12.snd.snd.fst, v12.snd.snd.snd.fst, v12.snd.snd.snd.snd.fst, v12.snd.snd.snd.snd.snd) (0, 0, [], [], [], [])) fun v15 =>
                      if v15 = true then
                        bnd (F_msg_Check (7, 33152, [([1, 97, 0], 1, 1)], [([1, 97, 0], 1, 1, 5, [97, 98, 99, 100])], [], [])) fun v16 =>
                        if v16 = true then
                          bnd (F_msg_Check (-1, 0, [], [], [], [])) fun v17 =>
                          if (!v17) = true then
                            bnd (F_msg_Same (7, 33152, [([1, 97, 0], 1, 1)], [([1, 97, 0], 1, 1, 5, [97, 98, 99, 100])], [], []) (v12.fst, v12.snd.fst, v12.snd.snd.fst, v12.snd.snd.snd.fst, v12.snd.snd.snd.snd.fst, v12.snd.snd.snd.snd.snd)) fun v18 =>
                            some (!v18)
                          else
                            some false
                        else
                          some false
                      else
                        some false
                    else
                      some false
                  else
                    some false
                else
                  some false
              else
                some false
            else
              some false
          else
            some false
        else
          some false
      else
        some false
    else
      some false
  else
    some false
def ann_law08_live : List (List Nat × Ann) := []
@[reducible] def fs_law08_live : List (Nat × SFn) := [(34, .pure [tM] [.str, (.int .i64)] (fun x => F_msg_Encode x)), (28, .pure [.str] [tM, (.int .i64)] (fun x => F_msg_Decode x)), (30, .pure [.str] [(.int .i64), (.int .i64), .bool] (fun x => F_msg_Head x)), (38, .pure [tM, tM] [.bool] (fun x => F_msg_Same x.1 x.2)), (36, .pure [tM] [.bool] (fun x => F_msg_Check x))]
def cfg_law08_live : SCfg := SCfg.of (fs_law08_live ++ inlL) ann_law08_live keepL
theorem eq_law08_live (x : HL []) : fnK cfg_law08_live Try.prog 100000 27 [] [.bool] x = (fun x => F_law08_live) x := by kernel_rfl
theorem told_law08_live : Told CC Try.prog 27 [] [.bool] (fun x => F_law08_live) := told_of (gok (an := ann_law08_live) (fs := fs_law08_live) ⟨told_msg_Encode, told_msg_Decode, told_msg_Head, told_msg_Same, told_msg_Check, trivial⟩) rfl rfl eq_law08_live
end
end Go.Abs

set_option maxRecDepth 100000
namespace Go.Abs
open Go Go.Proofs
noncomputable section
def F_law08_MsgHead (m_1 : (Int × (Int × (List ((List UInt8 × (Int × Int))) × (List ((List UInt8 × (Int × (Int × (Int × List UInt8))))) × (List ((List UInt8 × (Int × (Int × (Int × List UInt8))))) × List ((List UInt8 × (Int × (Int × (Int × List UInt8))))))))))) (id_2 : Int) : Option (Bool) :=
  bnd (F_ref08_Small (m_1.fst, m_1.snd.fst, m_1.snd.snd.fst, m_1.snd.snd.snd.fst, m_1.snd.snd.snd.snd.fst, m_1.snd.snd.snd.snd.snd)) fun v3 =>
  if (!v3) = true then
    bnd F_law08_live fun v4 =>
    some v4
  else
    bnd (F_msg_Encode (m_1.fst, m_1.snd.fst, m_1.snd.snd.fst, m_1.snd.snd.snd.fst, m_1.snd.snd.snd.snd.fst, m_1.snd.snd.snd.snd.snd)) fun (v5, v6) =>
    bnd (F_msg_Head v5) fun (v7, v8, v9) =>
    if (v6 != 0) = true then
      if (!v9) = true then
        bnd F_law08_live fun v10 =>
        some v10
      else
        some false
    else
      bnd (α := (Bool ⊕ Unit)) (if decide ((↑v5.length : Int) < 12) = false then
          if (!v9) = false then
            if (v7 != m_1.fst) = false then
              if (v8 != m_1.snd.fst) = true then
                grdEq m_1.fst m_1.fst <|
                grdEq m_1.snd.fst m_1.snd.fst <|
                grdEq m_1.snd.snd.fst m_1.snd.snd.fst <|
                grdEq m_1.snd.snd.snd.fst m_1.snd.snd.snd.fst <|
                grdEq m_1.snd.snd.snd.snd.fst m_1.snd.snd.snd.snd.fst <|
                grdEq m_1.snd.snd.snd.snd.snd m_1.snd.snd.snd.snd.snd <|
                some (.inl false)
              else
                grdEq id_2 id_2 <|
                grdEq v5 v5 <|
                grdEq m_1.fst m_1.fst <|
                grdEq m_1.snd.fst m_1.snd.fst <|
                grdEq m_1.snd.snd.fst m_1.snd.snd.fst <|
                grdEq m_1.snd.snd.snd.fst m_1.snd.snd.snd.fst <|
                grdEq m_1.snd.snd.snd.snd.fst m_1.snd.snd.snd.snd.fst <|
                grdEq m_1.snd.snd.snd.snd.snd m_1.snd.snd.snd.snd.snd <|
                some (.inr (()))
            else
              grdEq m_1.fst m_1.fst <|
              grdEq m_1.snd.fst m_1.snd.fst <|
              grdEq m_1.snd.snd.fst m_1.snd.snd.fst <|
              grdEq m_1.snd.snd.snd.fst m_1.snd.snd.snd.fst <|
              grdEq m_1.snd.snd.snd.snd.fst m_1.snd.snd.snd.snd.fst <|
              grdEq m_1.snd.snd.snd.snd.snd m_1.snd.snd.snd.snd.snd <|
              some (.inl false)
          else
            grdEq m_1.fst m_1.fst <|
            grdEq m_1.snd.fst m_1.snd.fst <|
            grdEq m_1.snd.snd.fst m_1.snd.snd.fst <|
            grdEq m_1.snd.snd.snd.fst m_1.snd.snd.snd.fst <|
            grdEq m_1.snd.snd.snd.snd.fst m_1.snd.snd.snd.snd.fst <|
            grdEq m_1.snd.snd.snd.snd.snd m_1.snd.snd.snd.snd.snd <|
            some (.inl false)
        else
          grdEq m_1.fst m_1.fst <|
          grdEq m_1.snd.fst m_1.snd.fst <|
          grdEq m_1.snd.snd.fst m_1.snd.snd.fst <|
          grdEq m_1.snd.snd.snd.fst m_1.snd.snd.snd.fst <|
          grdEq m_1.snd.snd.snd.snd.fst m_1.snd.snd.snd.snd.fst <|
          grdEq m_1.snd.snd.snd.snd.snd m_1.snd.snd.snd.snd.snd <|
          some (.inl false)) fun o11 =>
      match o11 with
      | .inl s4_12 =>
        some s4_12
      | .inr _ =>
        bnd (α := (Bool ⊕ Unit)) (bnd (α := Bool) (if decide (id_2 < 0) = false then
              grdEq id_2 id_2 <|
              grdEq v5 v5 <|
              grdEq m_1.fst m_1.fst <|
              grdEq m_1.snd.fst m_1.snd.fst <|
              grdEq m_1.snd.snd.fst m_1.snd.snd.fst <|
              grdEq m_1.snd.snd.snd.fst m_1.snd.snd.snd.fst <|
              grdEq m_1.snd.snd.snd.snd.fst m_1.snd.snd.snd.snd.fst <|
              grdEq m_1.snd.snd.snd.snd.snd m_1.snd.snd.snd.snd.snd <|
              some (decide (65535 < id_2))
            else
              grdEq id_2 id_2 <|
              grdEq v5 v5 <|
              grdEq m_1.fst m_1.fst <|
              grdEq m_1.snd.fst m_1.snd.fst <|
              grdEq m_1.snd.snd.fst m_1.snd.snd.fst <|
              grdEq m_1.snd.snd.snd.fst m_1.snd.snd.snd.fst <|
              grdEq m_1.snd.snd.snd.snd.fst m_1.snd.snd.snd.snd.fst <|
              grdEq m_1.snd.snd.snd.snd.snd m_1.snd.snd.snd.snd.snd <|
              some true) fun s60_13 =>
          if s60_13 = true then
            bnd F_law08_live fun v14 =>
            grdEq m_1.fst m_1.fst <|
            grdEq m_1.snd.fst m_1.snd.fst <|
            grdEq m_1.snd.snd.fst m_1.snd.snd.fst <|
            grdEq m_1.snd.snd.snd.fst m_1.snd.snd.snd.fst <|
            grdEq m_1.snd.snd.snd.snd.fst m_1.snd.snd.snd.snd.fst <|
            grdEq m_1.snd.snd.snd.snd.snd m_1.snd.snd.snd.snd.snd <|
            some (.inl v14)
          else
            grdEq id_2 id_2 <|
            grdEq v5 v5 <|
            grdEq m_1.fst m_1.fst <|
            grdEq m_1.snd.fst m_1.snd.fst <|
            grdEq m_1.snd.snd.fst m_1.snd.snd.fst <|
            grdEq m_1.snd.snd.snd.fst m_1.snd.snd.snd.fst <|
            grdEq m_1.snd.snd.snd.snd.fst m_1.snd.snd.snd.snd.fst <|
            grdEq m_1.snd.snd.snd.snd.snd m_1.snd.snd.snd.snd.snd <|
            some (.inr (()))) fun o15 =>
        match o15 with
        | .inl s4_16 =>
          some s4_16
        | .inr _ =>
          bnd (F_msg_Decode v5) fun (v17, v18) =>
          grd (2 ≤ v5.length) <|
          grd ((List.map (fun n => UInt8.ofNat (Int.toNat n)) [Go.IntKind.u8.wrap (Go.IntKind.i64.wrap (id_2.tdiv 256)), Go.IntKind.u8.wrap (id_2.tmod 256)]).length + (List.drop 2 v5).length ≤ maxStr) <|
          bnd (F_msg_Decode (List.map (fun n => UInt8.ofNat (Int.toNat n)) [Go.IntKind.u8.wrap (Go.IntKind.i64.wrap (id_2.tdiv 256)), Go.IntKind.u8.wrap (id_2.tmod 256)] ++ List.drop 2 v5)) fun (v19, v20) =>
          bnd (α := (Bool ⊕ Unit)) (if (v18 != 0) = false then
              if (v20 != 0) = false then
                if (v19.fst != id_2) = true then
                  grdEq m_1.fst m_1.fst <|
                  grdEq m_1.snd.fst m_1.snd.fst <|
                  grdEq m_1.snd.snd.fst m_1.snd.snd.fst <|
                  grdEq m_1.snd.snd.snd.fst m_1.snd.snd.snd.fst <|
                  grdEq m_1.snd.snd.snd.snd.fst m_1.snd.snd.snd.snd.fst <|
                  grdEq m_1.snd.snd.snd.snd.snd m_1.snd.snd.snd.snd.snd <|
                  grdEq v17.fst v17.fst <|
                  grdEq v17.snd.fst v17.snd.fst <|
                  grdEq v17.snd.snd.fst v17.snd.snd.fst <|
                  grdEq v17.snd.snd.snd.fst v17.snd.snd.snd.fst <|
                  grdEq v17.snd.snd.snd.snd.fst v17.snd.snd.snd.snd.fst <|
                  grdEq v17.snd.snd.snd.snd.snd v17.snd.snd.snd.snd.snd <|
                  grdEq v19.fst v19.fst <|
                  grdEq v19.snd.fst v19.snd.fst <|
                  grdEq v19.snd.snd.fst v19.snd.snd.fst <|
                  grdEq v19.snd.snd.snd.fst v19.snd.snd.snd.fst <|
                  grdEq v19.snd.snd.snd.snd.fst v19.snd.snd.snd.snd.fst <|
                  grdEq v19.snd.snd.snd.snd.snd v19.snd.snd.snd.snd.snd <|
                  some (.inl false)
                else
                  grdEq m_1.fst m_1.fst <|
                  grdEq m_1.snd.fst m_1.snd.fst <|
                  grdEq m_1.snd.snd.fst m_1.snd.snd.fst <|
                  grdEq m_1.snd.snd.snd.fst m_1.snd.snd.snd.fst <|
                  grdEq m_1.snd.snd.snd.snd.fst m_1.snd.snd.snd.snd.fst <|
                  grdEq m_1.snd.snd.snd.snd.snd m_1.snd.snd.snd.snd.snd <|
                  grdEq v17.fst v17.fst <|
                  grdEq v17.snd.fst v17.snd.fst <|
                  grdEq v17.snd.snd.fst v17.snd.snd.fst <|
                  grdEq v17.snd.snd.snd.fst v17.snd.snd.snd.fst <|
                  grdEq v17.snd.snd.snd.snd.fst v17.snd.snd.snd.snd.fst <|
                  grdEq v17.snd.snd.snd.snd.snd v17.snd.snd.snd.snd.snd <|
                  grdEq v19.fst v19.fst <|
                  grdEq v19.snd.fst v19.snd.fst <|
                  grdEq v19.snd.snd.fst v19.snd.snd.fst <|
                  grdEq v19.snd.snd.snd.fst v19.snd.snd.snd.fst <|
                  grdEq v19.snd.snd.snd.snd.fst v19.snd.snd.snd.snd.fst <|
                  grdEq v19.snd.snd.snd.snd.snd v19.snd.snd.snd.snd.snd <|
                  some (.inr (()))
              else
                grdEq m_1.fst m_1.fst <|
                grdEq m_1.snd.fst m_1.snd.fst <|
                grdEq m_1.snd.snd.fst m_1.snd.snd.fst <|
                grdEq m_1.snd.snd.snd.fst m_1.snd.snd.snd.fst <|
                grdEq m_1.snd.snd.snd.snd.fst m_1.snd.snd.snd.snd.fst <|
                grdEq m_1.snd.snd.snd.snd.snd m_1.snd.snd.snd.snd.snd <|
                grdEq v17.fst v17.fst <|
                grdEq v17.snd.fst v17.snd.fst <|
                grdEq v17.snd.snd.fst v17.snd.snd.fst <|
                grdEq v17.snd.snd.snd.fst v17.snd.snd.snd.fst <|
                grdEq v17.snd.snd.snd.snd.fst v17.snd.snd.snd.snd.fst <|
                grdEq v17.snd.snd.snd.snd.snd v17.snd.snd.snd.snd.snd <|
                grdEq v19.fst v19.fst <|
                grdEq v19.snd.fst v19.snd.fst <|
                grdEq v19.snd.snd.fst v19.snd.snd.fst <|
                grdEq v19.snd.snd.snd.fst v19.snd.snd.snd.fst <|
                grdEq v19.snd.snd.snd.snd.fst v19.snd.snd.snd.snd.fst <|
                grdEq v19.snd.snd.snd.snd.snd v19.snd.snd.snd.snd.snd <|
                some (.inl false)
            else
              grdEq m_1.fst m_1.fst <|
              grdEq m_1.snd.fst m_1.snd.fst <|
              grdEq m_1.snd.snd.fst m_1.snd.snd.fst <|
              grdEq m_1.snd.snd.snd.fst m_1.snd.snd.snd.fst <|
              grdEq m_1.snd.snd.snd.snd.fst m_1.snd.snd.snd.snd.fst <|
              grdEq m_1.snd.snd.snd.snd.snd m_1.snd.snd.snd.snd.snd <|
              grdEq v17.fst v17.fst <|
              grdEq v17.snd.fst v17.snd.fst <|
              grdEq v17.snd.snd.fst v17.snd.snd.fst <|
              grdEq v17.snd.snd.snd.fst v17.snd.snd.snd.fst <|
              grdEq v17.snd.snd.snd.snd.fst v17.snd.snd.snd.snd.fst <|
              grdEq v17.snd.snd.snd.snd.snd v17.snd.snd.snd.snd.snd <|
              grdEq v19.fst v19.fst <|
              grdEq v19.snd.fst v19.snd.fst <|
              grdEq v19.snd.snd.fst v19.snd.snd.fst <|
              grdEq v19.snd.snd.snd.fst v19.snd.snd.snd.fst <|
              grdEq v19.snd.snd.snd.snd.fst v19.snd.snd.snd.snd.fst <|
              grdEq v19.snd.snd.snd.snd.snd v19.snd.snd.snd.snd.snd <|
              some (.inl false)) fun o21 =>
          match o21 with
          | .inl s4_22 =>
            some s4_22
          | .inr _ =>
            bnd (F_msg_Same (m_1.fst, v19.snd.fst, v19.snd.snd.fst, v19.snd.snd.snd.fst, v19.snd.snd.snd.snd.fst, v19.snd.snd.snd.snd.snd) (v17.fst, v17.snd.fst, v17.snd.snd.fst, v17.snd.snd.snd.fst, v17.snd.snd.snd.snd.fst, v17.snd.snd.snd.snd.snd)) fun v23 =>
            if v23 = true then
              bnd F_law08_live fun v24 =>
              some v24
            else
              some false
def ann_law08_MsgHead : List (List Nat × Ann) := [([22], ⟨none, [(.ret, ⟨(anyN 4 (.cons (.ty .bool) (anyN 98 .nil))), [.cells 43 true (.cons (.keep (.int .i64)) (.cons (.keep (.int .i64)) (.cons (.keep (.list tQ)) (.cons (.keep (.list tRR)) (.cons (.keep (.list tRR)) (.cons (.keep (.list tRR)) .nil))))))], [], []⟩), (.normal, ⟨(anyN 1 (.cons (.keep (.int .i64)) (.cons (.ptr 0 0) (anyN 2 (.cons (.keep .str) (anyN 97 .nil)))))), [.cells 43 true (.cons (.keep (.int .i64)) (.cons (.keep (.int .i64)) (.cons (.keep (.list tQ)) (.cons (.keep (.list tRR)) (.cons (.keep (.list tRR)) (.cons (.keep (.list tRR)) .nil))))))], [], []⟩)]⟩), ([30], ⟨none, [(.ret, ⟨(anyN 4 (.cons (.ty .bool) (anyN 98 .nil))), [.cells 43 true (.cons (.keep (.int .i64)) (.cons (.keep (.int .i64)) (.cons (.keep (.list tQ)) (.cons (.keep (.list tRR)) (.cons (.keep (.list tRR)) (.cons (.keep (.list tRR)) .nil))))))], [], []⟩), (.normal, ⟨(anyN 1 (.cons (.keep (.int .i64)) (.cons (.ptr 0 0) (anyN 2 (.cons (.keep .str) (anyN 97 .nil)))))), [.cells 43 true (.cons (.keep (.int .i64)) (.cons (.keep (.int .i64)) (.cons (.keep (.list tQ)) (.cons (.keep (.list tRR)) (.cons (.keep (.list tRR)) (.cons (.keep (.list tRR)) .nil))))))], [], []⟩)]⟩), ([31], ⟨none, [(.normal, ⟨(anyN 1 (.cons (.keep (.int .i64)) (.cons (.ptr 0 0) (anyN 2 (.cons (.keep .str) (anyN 54 (.cons (.ty .bool) (anyN 42 .nil)))))))), [.cells 43 true (.cons (.keep (.int .i64)) (.cons (.keep (.int .i64)) (.cons (.keep (.list tQ)) (.cons (.keep (.list tRR)) (.cons (.keep (.list tRR)) (.cons (.keep (.list tRR)) .nil))))))], [], []⟩)]⟩), ([42], ⟨none, [(.ret, ⟨(anyN 4 (.cons (.ty .bool) (anyN 98 .nil))), [.cells 43 true (.cons (.keep (.int .i64)) (.cons (.keep (.int .i64)) (.cons (.keep (.list tQ)) (.cons (.keep (.list tRR)) (.cons (.keep (.list tRR)) (.cons (.keep (.list tRR)) .nil)))))), .cells 43 true (.cons (.keep (.int .i64)) (.cons (.keep (.int .i64)) (.cons (.keep (.list tQ)) (.cons (.keep (.list tRR)) (.cons (.keep (.list tRR)) (.cons (.keep (.list tRR)) .nil)))))), .cells 43 true (.cons (.keep (.int .i64)) (.cons (.keep (.int .i64)) (.cons (.keep (.list tQ)) (.cons (.keep (.list tRR)) (.cons (.keep (.list tRR)) (.cons (.keep (.list tRR)) .nil))))))], [], []⟩), (.normal, ⟨(anyN 2 (.cons (.ptr 0 0) (anyN 7 (.cons (.ptr 1 0) (anyN 1 (.cons (.ptr 2 0) (anyN 90 .nil))))))), [.cells 43 true (.cons (.keep (.int .i64)) (.cons (.keep (.int .i64)) (.cons (.keep (.list tQ)) (.cons (.keep (.list tRR)) (.cons (.keep (.list tRR)) (.cons (.keep (.list tRR)) .nil)))))), .cells 43 true (.cons (.keep (.int .i64)) (.cons (.keep (.int .i64)) (.cons (.keep (.list tQ)) (.cons (.keep (.list tRR)) (.cons (.keep (.list tRR)) (.cons (.keep (.list tRR)) .nil)))))), .cells 43 true (.cons (.keep (.int .i64)) (.cons (.keep (.int .i64)) (.cons (.keep (.list tQ)) (.cons (.keep (.list tRR)) (.cons (.keep (.list tRR)) (.cons (.keep (.list tRR)) .nil))))))], [], []⟩)]⟩)]
@[reducible] def fs_law08_MsgHead : List (Nat × SFn) := [(33, .pure [tM] [.bool] (fun x => F_ref08_Small x)), (27, .pure [] [.bool] (fun x => F_law08_live)), (34, .pure [tM] [.str, (.int .i64)] (fun x => F_msg_Encode x)), (30, .pure [.str] [(.int .i64), (.int .i64), .bool] (fun x => F_msg_Head x)), (28, .pure [.str] [tM, (.int .i64)] (fun x => F_msg_Decode x)), (38, .pure [tM, tM] [.bool] (fun x => F_msg_Same x.1 x.2))]
def cfg_law08_MsgHead : SCfg := SCfg.of (fs_law08_MsgHead ++ inlL) ann_law08_MsgHead keepL
theorem eq_law08_MsgHead (x : HL [tM, (.int .i64)]) : fnK cfg_law08_MsgHead Try.prog 100000 13 [tM, (.int .i64)] [.bool] x = (fun x => F_law08_MsgHead x.1 x.2) x := by kernel_rfl
theorem told_law08_MsgHead : Told CC Try.prog 13 [tM, (.int .i64)] [.bool] (fun x => F_law08_MsgHead x.1 x.2) := told_of (gok (an := ann_law08_MsgHead) (fs := fs_law08_MsgHead) ⟨told_ref08_Small, told_law08_live, told_msg_Encode, told_msg_Head, told_msg_Decode, told_msg_Same, trivial⟩) rfl rfl eq_law08_MsgHead
end
end Go.Abs

