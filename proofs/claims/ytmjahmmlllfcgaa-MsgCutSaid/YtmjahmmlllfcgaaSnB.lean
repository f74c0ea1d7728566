/- Part of a proof: a machine of plain data, and what the functions come to on it. -/
import Derived.Test.YtmjahmmlllfcgaaSnA
set_option linter.unusedSimpArgs false
set_option linter.unusedVariables false
set_option linter.unusedSectionVars false
set_option maxRecDepth 100000
namespace Go.Abs
open Go Go.Proofs
noncomputable section

/-! wellspring/wellspringref06.Encode -/
def F_ref06_Encode (base_1 : List UInt8) (at_2 : Int) (r_3 : (List UInt8 × (Int × (Int × (Int × List UInt8))))) : Option (List UInt8) :=
  bnd (F_ref04_Write base_1 at_2 r_3.fst) fun v4 =>
  bnd (α := (List UInt8 ⊕ Unit)) (bnd (F_ref06_Check (r_3.fst, r_3.snd.fst, r_3.snd.snd.fst, r_3.snd.snd.snd.fst, r_3.snd.snd.snd.snd)) fun v5 =>
    if (!v5) = false then
      if (v4 == []) = true then
        grdEq r_3.fst r_3.fst <|
        grdEq r_3.snd.fst r_3.snd.fst <|
        grdEq r_3.snd.snd.fst r_3.snd.snd.fst <|
        grdEq r_3.snd.snd.snd.fst r_3.snd.snd.snd.fst <|
        grdEq r_3.snd.snd.snd.snd r_3.snd.snd.snd.snd <|
        some (.inl ([]))
      else
        grdEq v4 v4 <|
        grdEq r_3.fst r_3.fst <|
        grdEq r_3.snd.fst r_3.snd.fst <|
        grdEq r_3.snd.snd.fst r_3.snd.snd.fst <|
        grdEq r_3.snd.snd.snd.fst r_3.snd.snd.snd.fst <|
        grdEq r_3.snd.snd.snd.snd r_3.snd.snd.snd.snd <|
        some (.inr (()))
    else
      grdEq r_3.fst r_3.fst <|
      grdEq r_3.snd.fst r_3.snd.fst <|
      grdEq r_3.snd.snd.fst r_3.snd.snd.fst <|
      grdEq r_3.snd.snd.snd.fst r_3.snd.snd.snd.fst <|
      grdEq r_3.snd.snd.snd.snd r_3.snd.snd.snd.snd <|
      some (.inl ([]))) fun o6 =>
  match o6 with
  | .inl s6_7 =>
    some s6_7
  | .inr _ =>
    bnd (F_ref01_Put r_3.snd.fst 2) fun v8 =>
    grd (v4.length + v8.length ≤ maxStr) <|
    bnd (F_ref01_Put r_3.snd.snd.fst 2) fun v9 =>
    grd ((v4 ++ v8).length + v9.length ≤ maxStr) <|
    bnd (F_ref01_Put r_3.snd.snd.snd.fst 4) fun v10 =>
    grd ((v4 ++ v8 ++ v9).length + v10.length ≤ maxStr) <|
    bnd (F_ref01_Put (↑(List.length r_3.snd.snd.snd.snd) : Int) 2) fun v11 =>
    grd ((v4 ++ v8 ++ v9 ++ v10).length + v11.length ≤ maxStr) <|
    grd ((v4 ++ v8 ++ v9 ++ v10 ++ v11).length + List.length r_3.snd.snd.snd.snd ≤ maxStr) <|
    some (v4 ++ v8 ++ v9 ++ v10 ++ v11 ++ r_3.snd.snd.snd.snd)
def ann_ref06_Encode : List (List Nat × Ann) := [([4], ⟨none, [(.ret, ⟨(anyN 6 (.cons (.ty .str) (anyN 34 .nil))), [.cells 24 true (.cons (.keep .str) (.cons (.keep (.int .i64)) (.cons (.keep (.int .i64)) (.cons (.keep (.int .i64)) (.cons (.keep .str) .nil)))))], [], []⟩), (.normal, ⟨(anyN 5 (.cons (.ptr 0 0) (anyN 1 (.cons (.keep .str) (anyN 33 .nil))))), [.cells 24 true (.cons (.keep .str) (.cons (.keep (.int .i64)) (.cons (.keep (.int .i64)) (.cons (.keep (.int .i64)) (.cons (.keep .str) .nil)))))], [], []⟩)]⟩)]
@[reducible] def fs_ref06_Encode : List (Nat × SFn) := [(54, .pure [.str, (.int .i64), .str] [.str] (fun x => F_ref04_Write x.1 x.2.1 x.2.2)), (18, .pure [tRR] [.bool] (fun x => F_ref06_Check x)), (26, .pure [(.int .i64), (.int .i64)] [.str] (fun x => F_ref01_Put x.1 x.2))]
def cfg_ref06_Encode : SCfg := SCfg.of (fs_ref06_Encode ++ inlL) ann_ref06_Encode keepL
theorem eq_ref06_Encode (x : HL [.str, (.int .i64), tRR]) : fnK cfg_ref06_Encode Try.prog 100000 20 [.str, (.int .i64), tRR] [.str] x = (fun x => F_ref06_Encode x.1 x.2.1 x.2.2) x := by kernel_rfl
theorem told_ref06_Encode : Told CC Try.prog 20 [.str, (.int .i64), tRR] [.str] (fun x => F_ref06_Encode x.1 x.2.1 x.2.2) := told_of (gok (an := ann_ref06_Encode) (fs := fs_ref06_Encode) ⟨told_ref04_Write, told_ref06_Check, told_ref01_Put, trivial⟩) rfl rfl eq_ref06_Encode

/-! wellspring/wellspringref06.TTL -/
def F_ref06_TTL (base_1 : List UInt8) (at_2 : Int) (r_3 : (List UInt8 × (Int × (Int × (Int × List UInt8))))) : Option (Int) :=
  bnd (F_ref06_Encode base_1 at_2 (r_3.fst, r_3.snd.fst, r_3.snd.snd.fst, r_3.snd.snd.snd.fst, r_3.snd.snd.snd.snd)) fun v4 =>
  if (v4 == []) = true then
    some (-1)
  else
    bnd (F_ref04_Write base_1 at_2 r_3.fst) fun v5 =>
    some (Go.IntKind.i64.wrap ((↑v5.length : Int) + 4))
def ann_ref06_TTL : List (List Nat × Ann) := []
@[reducible] def fs_ref06_TTL : List (Nat × SFn) := [(20, .pure [.str, (.int .i64), tRR] [.str] (fun x => F_ref06_Encode x.1 x.2.1 x.2.2)), (54, .pure [.str, (.int .i64), .str] [.str] (fun x => F_ref04_Write x.1 x.2.1 x.2.2))]
def cfg_ref06_TTL : SCfg := SCfg.of (fs_ref06_TTL ++ inlL) ann_ref06_TTL keepL
theorem eq_ref06_TTL (x : HL [.str, (.int .i64), tRR]) : fnK cfg_ref06_TTL Try.prog 100000 22 [.str, (.int .i64), tRR] [(.int .i64)] x = (fun x => F_ref06_TTL x.1 x.2.1 x.2.2) x := by kernel_rfl
theorem told_ref06_TTL : Told CC Try.prog 22 [.str, (.int .i64), tRR] [(.int .i64)] (fun x => F_ref06_TTL x.1 x.2.1 x.2.2) := told_of (gok (an := ann_ref06_TTL) (fs := fs_ref06_TTL) ⟨told_ref06_Encode, told_ref04_Write, trivial⟩) rfl rfl eq_ref06_TTL

/-! wellspring/wellspringlaw06.RecordEncodes -/
def F_law06_RecordEncodes (base_1 : List UInt8) (at_2 : Int) (r_3 : (List UInt8 × (Int × (Int × (Int × List UInt8))))) : Option (Bool) :=
  bnd (α := (Bool ⊕ Unit)) (bnd (α := Bool) (if decide (300 < (↑base_1.length : Int)) = false then
        if decide (300 < (↑(List.length r_3.fst) : Int)) = false then
          grdEq base_1 base_1 <|
          grdEq at_2 at_2 <|
          grdEq r_3.fst r_3.fst <|
          grdEq r_3.snd.fst r_3.snd.fst <|
          grdEq r_3.snd.snd.fst r_3.snd.snd.fst <|
          grdEq r_3.snd.snd.snd.fst r_3.snd.snd.snd.fst <|
          grdEq r_3.snd.snd.snd.snd r_3.snd.snd.snd.snd <|
          some (decide (70000 < (↑(List.length r_3.snd.snd.snd.snd) : Int)))
        else
          grdEq base_1 base_1 <|
          grdEq at_2 at_2 <|
          grdEq r_3.fst r_3.fst <|
          grdEq r_3.snd.fst r_3.snd.fst <|
          grdEq r_3.snd.snd.fst r_3.snd.snd.fst <|
          grdEq r_3.snd.snd.snd.fst r_3.snd.snd.snd.fst <|
          grdEq r_3.snd.snd.snd.snd r_3.snd.snd.snd.snd <|
          some true
      else
        grdEq base_1 base_1 <|
        grdEq at_2 at_2 <|
        grdEq r_3.fst r_3.fst <|
        grdEq r_3.snd.fst r_3.snd.fst <|
        grdEq r_3.snd.snd.fst r_3.snd.snd.fst <|
        grdEq r_3.snd.snd.snd.fst r_3.snd.snd.snd.fst <|
        grdEq r_3.snd.snd.snd.snd r_3.snd.snd.snd.snd <|
        some true) fun s21_4 =>
    if s21_4 = true then
      bnd F_law06_live fun v5 =>
      grdEq r_3.fst r_3.fst <|
      grdEq r_3.snd.fst r_3.snd.fst <|
      grdEq r_3.snd.snd.fst r_3.snd.snd.fst <|
      grdEq r_3.snd.snd.snd.fst r_3.snd.snd.snd.fst <|
      grdEq r_3.snd.snd.snd.snd r_3.snd.snd.snd.snd <|
      some (.inl v5)
    else
      grdEq base_1 base_1 <|
      grdEq at_2 at_2 <|
      grdEq r_3.fst r_3.fst <|
      grdEq r_3.snd.fst r_3.snd.fst <|
      grdEq r_3.snd.snd.fst r_3.snd.snd.fst <|
      grdEq r_3.snd.snd.snd.fst r_3.snd.snd.snd.fst <|
      grdEq r_3.snd.snd.snd.snd r_3.snd.snd.snd.snd <|
      some (.inr (()))) fun o6 =>
  match o6 with
  | .inl s6_7 =>
    some s6_7
  | .inr _ =>
    bnd (F_record_Check (r_3.fst, r_3.snd.fst, r_3.snd.snd.fst, r_3.snd.snd.snd.fst, r_3.snd.snd.snd.snd)) fun v8 =>
    bnd (F_ref06_Check (r_3.fst, r_3.snd.fst, r_3.snd.snd.fst, r_3.snd.snd.snd.fst, r_3.snd.snd.snd.snd)) fun v9 =>
    if (v8 == v9) = true then
      bnd (F_record_Encode base_1 at_2 (r_3.fst, r_3.snd.fst, r_3.snd.snd.fst, r_3.snd.snd.snd.fst, r_3.snd.snd.snd.snd)) fun v10 =>
      bnd (F_ref06_Encode base_1 at_2 (r_3.fst, r_3.snd.fst, r_3.snd.snd.fst, r_3.snd.snd.snd.fst, r_3.snd.snd.snd.snd)) fun v11 =>
      if (v10 == v11) = true then
        bnd (F_record_TTL base_1 at_2 (r_3.fst, r_3.snd.fst, r_3.snd.snd.fst, r_3.snd.snd.snd.fst, r_3.snd.snd.snd.snd)) fun v12 =>
        bnd (F_ref06_TTL base_1 at_2 (r_3.fst, r_3.snd.fst, r_3.snd.snd.fst, r_3.snd.snd.snd.fst, r_3.snd.snd.snd.snd)) fun v13 =>
        if (v12 == v13) = true then
          bnd F_law06_live fun v14 =>
          some v14
        else
          some false
      else
        some false
    else
      some false
def ann_law06_RecordEncodes : List (List Nat × Ann) := [([2], ⟨none, [(.ret, ⟨(anyN 6 (.cons (.ty .bool) (anyN 46 .nil))), [.cells 24 true (.cons (.keep .str) (.cons (.keep (.int .i64)) (.cons (.keep (.int .i64)) (.cons (.keep (.int .i64)) (.cons (.keep .str) .nil)))))], [], []⟩), (.normal, ⟨(.cons (.keep .str) (.cons (.keep (.int .i64)) (anyN 3 (.cons (.ptr 0 0) (anyN 47 .nil))))), [.cells 24 true (.cons (.keep .str) (.cons (.keep (.int .i64)) (.cons (.keep (.int .i64)) (.cons (.keep (.int .i64)) (.cons (.keep .str) .nil)))))], [], []⟩)]⟩), ([3], ⟨none, [(.normal, ⟨(.cons (.keep .str) (.cons (.keep (.int .i64)) (anyN 3 (.cons (.ptr 0 0) (anyN 15 (.cons (.ty .bool) (anyN 31 .nil))))))), [.cells 24 true (.cons (.keep .str) (.cons (.keep (.int .i64)) (.cons (.keep (.int .i64)) (.cons (.keep (.int .i64)) (.cons (.keep .str) .nil)))))], [], []⟩)]⟩)]
@[reducible] def fs_law06_RecordEncodes : List (Nat × SFn) := [(14, .pure [] [.bool] (fun x => F_law06_live)), (17, .pure [tRR] [.bool] (fun x => F_record_Check x)), (18, .pure [tRR] [.bool] (fun x => F_ref06_Check x)), (19, .pure [.str, (.int .i64), tRR] [.str] (fun x => F_record_Encode x.1 x.2.1 x.2.2)), (20, .pure [.str, (.int .i64), tRR] [.str] (fun x => F_ref06_Encode x.1 x.2.1 x.2.2)), (21, .pure [.str, (.int .i64), tRR] [(.int .i64)] (fun x => F_record_TTL x.1 x.2.1 x.2.2)), (22, .pure [.str, (.int .i64), tRR] [(.int .i64)] (fun x => F_ref06_TTL x.1 x.2.1 x.2.2))]
def cfg_law06_RecordEncodes : SCfg := SCfg.of (fs_law06_RecordEncodes ++ inlL) ann_law06_RecordEncodes keepL
theorem eq_law06_RecordEncodes (x : HL [.str, (.int .i64), tRR]) : fnK cfg_law06_RecordEncodes Try.prog 100000 4 [.str, (.int .i64), tRR] [.bool] x = (fun x => F_law06_RecordEncodes x.1 x.2.1 x.2.2) x := by kernel_rfl
theorem told_law06_RecordEncodes : Told CC Try.prog 4 [.str, (.int .i64), tRR] [.bool] (fun x => F_law06_RecordEncodes x.1 x.2.1 x.2.2) := told_of (gok (an := ann_law06_RecordEncodes) (fs := fs_law06_RecordEncodes) ⟨told_law06_live, told_record_Check, told_ref06_Check, told_record_Encode, told_ref06_Encode, told_record_TTL, told_ref06_TTL, trivial⟩) rfl rfl eq_law06_RecordEncodes

/-! wellspring/wellspringref08.Check -/
def step_ref08_Check_0 (m_1 : Int × Int × List (List UInt8 × Int × Int) × List (List UInt8 × Int × Int × Int × List UInt8) × List (List UInt8 × Int × Int × Int × List UInt8) × List (List UInt8 × Int × Int × Int × List UInt8)) : Int → Option (Int ⊕ (Bool ⊕ Unit)) := fun i_2 =>
  if decide (i_2 < (↑(List.length m_1.snd.snd.fst) : Int)) = true then
    natOf i_2 fun n3 =>
    bnd (m_1.snd.snd.fst[n3]?) fun x4 =>
    bnd (F_ref02_Check x4.fst) fun v5 =>
    if (!v5) = false then
      bnd (F_ref08_small x4.snd.fst) fun v6 =>
      if (!v6) = false then
        bnd (F_ref08_small x4.snd.snd) fun v7 =>
        if (!v7) = true then
          grdEq m_1.fst m_1.fst <|
          grdEq m_1.snd.fst m_1.snd.fst <|
          grdEq m_1.snd.snd.fst m_1.snd.snd.fst <|
          grdEq m_1.snd.snd.snd.fst m_1.snd.snd.snd.fst <|
          grdEq m_1.snd.snd.snd.snd.fst m_1.snd.snd.snd.snd.fst <|
          grdEq m_1.snd.snd.snd.snd.snd m_1.snd.snd.snd.snd.snd <|
          some (.inr (.inl false))
        else
          grdEq m_1.fst m_1.fst <|
          grdEq m_1.snd.fst m_1.snd.fst <|
          grdEq m_1.snd.snd.fst m_1.snd.snd.fst <|
          grdEq m_1.snd.snd.snd.fst m_1.snd.snd.snd.fst <|
          grdEq m_1.snd.snd.snd.snd.fst m_1.snd.snd.snd.snd.fst <|
          grdEq m_1.snd.snd.snd.snd.snd m_1.snd.snd.snd.snd.snd <|
          some (.inl (Go.IntKind.i64.wrap (i_2 + 1)))
      else
        grdEq m_1.fst m_1.fst <|
        grdEq m_1.snd.fst m_1.snd.fst <|
        grdEq m_1.snd.snd.fst m_1.snd.snd.fst <|
        grdEq m_1.snd.snd.snd.fst m_1.snd.snd.snd.fst <|
        grdEq m_1.snd.snd.snd.snd.fst m_1.snd.snd.snd.snd.fst <|
        grdEq m_1.snd.snd.snd.snd.snd m_1.snd.snd.snd.snd.snd <|
        some (.inr (.inl false))
    else
      grdEq m_1.fst m_1.fst <|
      grdEq m_1.snd.fst m_1.snd.fst <|
      grdEq m_1.snd.snd.fst m_1.snd.snd.fst <|
      grdEq m_1.snd.snd.snd.fst m_1.snd.snd.snd.fst <|
      grdEq m_1.snd.snd.snd.snd.fst m_1.snd.snd.snd.snd.fst <|
      grdEq m_1.snd.snd.snd.snd.snd m_1.snd.snd.snd.snd.snd <|
      some (.inr (.inl false))
  else
    grdEq m_1.fst m_1.fst <|
    grdEq m_1.snd.fst m_1.snd.fst <|
    grdEq m_1.snd.snd.fst m_1.snd.snd.fst <|
    grdEq m_1.snd.snd.snd.fst m_1.snd.snd.snd.fst <|
    grdEq m_1.snd.snd.snd.snd.fst m_1.snd.snd.snd.snd.fst <|
    grdEq m_1.snd.snd.snd.snd.snd m_1.snd.snd.snd.snd.snd <|
    some (.inr (.inr (())))

def F_ref08_Check (m_1 : (Int × (Int × (List ((List UInt8 × (Int × Int))) × (List ((List UInt8 × (Int × (Int × (Int × List UInt8))))) × (List ((List UInt8 × (Int × (Int × (Int × List UInt8))))) × List ((List UInt8 × (Int × (Int × (Int × List UInt8))))))))))) : Option (Bool) :=
  bnd (loopS (step_ref08_Check_0 m_1) 0) fun o8 =>
  match o8 with
  | .inl s2_9 =>
    some s2_9
  | .inr _ =>
    bnd (F_ref08_small m_1.fst) fun v10 =>
    if v10 = true then
      bnd (F_ref08_small m_1.snd.fst) fun v11 =>
      if v11 = true then
        bnd (F_ref08_small (↑(List.length m_1.snd.snd.fst) : Int)) fun v12 =>
        if v12 = true then
          bnd (F_ref08_records m_1.snd.snd.snd.fst) fun v13 =>
          if v13 = true then
            bnd (F_ref08_records m_1.snd.snd.snd.snd.fst) fun v14 =>
            if v14 = true then
              bnd (F_ref08_records m_1.snd.snd.snd.snd.snd) fun v15 =>
              some v15
            else
              some false
          else
            some false
        else
          some false
      else
        some false
    else
      some false
def ann_ref08_Check : List (List Nat × Ann) := [([6], ⟨some ⟨(anyN 1 (.cons (.ptr 0 0) (anyN 1 (.cons (.ty (.int .i64)) (anyN 58 .nil))))), [.cells 43 true (.cons (.keep (.int .i64)) (.cons (.keep (.int .i64)) (.cons (.keep (.list tQ)) (.cons (.keep (.list tRR)) (.cons (.keep (.list tRR)) (.cons (.keep (.list tRR)) .nil))))))], [], []⟩, [(.ret, ⟨(anyN 2 (.cons (.ty .bool) (anyN 59 .nil))), [.cells 43 true (.cons (.keep (.int .i64)) (.cons (.keep (.int .i64)) (.cons (.keep (.list tQ)) (.cons (.keep (.list tRR)) (.cons (.keep (.list tRR)) (.cons (.keep (.list tRR)) .nil))))))], [], []⟩), (.exit 0, ⟨(anyN 1 (.cons (.ptr 0 0) (anyN 60 .nil))), [.cells 43 true (.cons (.keep (.int .i64)) (.cons (.keep (.int .i64)) (.cons (.keep (.list tQ)) (.cons (.keep (.list tRR)) (.cons (.keep (.list tRR)) (.cons (.keep (.list tRR)) .nil))))))], [], []⟩)]⟩)]
@[reducible] def fs_ref08_Check : List (Nat × SFn) := [(23, .pure [.str] [.bool] (fun x => F_ref02_Check x)), (71, .pure [(.int .i64)] [.bool] (fun x => F_ref08_small x)), (72, .pure [(.list tRR)] [.bool] (fun x => F_ref08_records x))]
def cfg_ref08_Check : SCfg := SCfg.of (fs_ref08_Check ++ inlL) ann_ref08_Check keepL
theorem eq_ref08_Check (x : HL [tM]) : fnK cfg_ref08_Check Try.prog 100000 37 [tM] [.bool] x = (fun x => F_ref08_Check x) x := by kernel_rfl
theorem told_ref08_Check : Told CC Try.prog 37 [tM] [.bool] (fun x => F_ref08_Check x) := told_of (gok (an := ann_ref08_Check) (fs := fs_ref08_Check) ⟨told_ref02_Check, told_ref08_small, told_ref08_records, trivial⟩) rfl rfl eq_ref08_Check

/-! wellspring/wellspringref08.Encode -/
def step_ref08_Encode_0 (m_1 : Int × Int × List (List UInt8 × Int × Int) × List (List UInt8 × Int × Int × Int × List UInt8) × List (List UInt8 × Int × Int × Int × List UInt8) × List (List UInt8 × Int × Int × Int × List UInt8)) : (List UInt8 × Int) → Option ((List UInt8 × Int) ⊕ List UInt8) := fun (s_9, i_10) =>
  if decide (i_10 < (↑(List.length m_1.snd.snd.fst) : Int)) = true then
    natOf i_10 fun n11 =>
    bnd (m_1.snd.snd.fst[n11]?) fun x12 =>
    grd (s_9.length + List.length x12.fst ≤ maxStr) <|
    natOf i_10 fun n13 =>
    bnd (m_1.snd.snd.fst[n13]?) fun x14 =>
    bnd (F_ref01_Put x14.snd.fst 2) fun v15 =>
    grd ((s_9 ++ x12.fst).length + v15.length ≤ maxStr) <|
    natOf i_10 fun n16 =>
    bnd (m_1.snd.snd.fst[n16]?) fun x17 =>
    bnd (F_ref01_Put x17.snd.snd 2) fun v18 =>
    grd ((s_9 ++ x12.fst ++ v15).length + v18.length ≤ maxStr) <|
    grdEq m_1.fst m_1.fst <|
    grdEq m_1.snd.fst m_1.snd.fst <|
    grdEq m_1.snd.snd.fst m_1.snd.snd.fst <|
    grdEq m_1.snd.snd.snd.fst m_1.snd.snd.snd.fst <|
    grdEq m_1.snd.snd.snd.snd.fst m_1.snd.snd.snd.snd.fst <|
    grdEq m_1.snd.snd.snd.snd.snd m_1.snd.snd.snd.snd.snd <|
    some (.inl ((s_9 ++ x12.fst ++ v15 ++ v18, Go.IntKind.i64.wrap (i_10 + 1))))
  else
    grdEq m_1.fst m_1.fst <|
    grdEq m_1.snd.fst m_1.snd.fst <|
    grdEq m_1.snd.snd.fst m_1.snd.snd.fst <|
    grdEq m_1.snd.snd.snd.fst m_1.snd.snd.snd.fst <|
    grdEq m_1.snd.snd.snd.snd.fst m_1.snd.snd.snd.snd.fst <|
    grdEq m_1.snd.snd.snd.snd.snd m_1.snd.snd.snd.snd.snd <|
    some (.inr s_9)

def step_ref08_Encode_1 (m_1 : Int × Int × List (List UInt8 × Int × Int) × List (List UInt8 × Int × Int × Int × List UInt8) × List (List UInt8 × Int × Int × Int × List UInt8) × List (List UInt8 × Int × Int × Int × List UInt8)) : (List UInt8 × (List ((List UInt8 × (Int × (Int × (Int × List UInt8))))) × Int)) → Option ((List UInt8 × (List ((List UInt8 × (Int × (Int × (Int × List UInt8))))) × Int)) ⊕ List UInt8) := fun (s_20, all_21, i_22) =>
  bnd (α := (List ((List UInt8 × (Int × (Int × (Int × List UInt8))))) ⊕ Unit)) (if decide (i_22 < (↑all_21.length : Int)) = true then
      if decide ((↑s_20.length : Int) ≤ 65535) = true then
        grdEq s_20 s_20 <|
        grdEq i_22 i_22 <|
        grdEq m_1.fst m_1.fst <|
        grdEq m_1.snd.fst m_1.snd.fst <|
        grdEq m_1.snd.snd.fst m_1.snd.snd.fst <|
        grdEq m_1.snd.snd.snd.fst m_1.snd.snd.snd.fst <|
        grdEq m_1.snd.snd.snd.snd.fst m_1.snd.snd.snd.snd.fst <|
        grdEq m_1.snd.snd.snd.snd.snd m_1.snd.snd.snd.snd.snd <|
        some (.inl all_21)
      else
        grdEq s_20 s_20 <|
        grdEq m_1.fst m_1.fst <|
        grdEq m_1.snd.fst m_1.snd.fst <|
        grdEq m_1.snd.snd.fst m_1.snd.snd.fst <|
        grdEq m_1.snd.snd.snd.fst m_1.snd.snd.snd.fst <|
        grdEq m_1.snd.snd.snd.snd.fst m_1.snd.snd.snd.snd.fst <|
        grdEq m_1.snd.snd.snd.snd.snd m_1.snd.snd.snd.snd.snd <|
        some (.inr (()))
    else
      grdEq s_20 s_20 <|
      grdEq m_1.fst m_1.fst <|
      grdEq m_1.snd.fst m_1.snd.fst <|
      grdEq m_1.snd.snd.fst m_1.snd.snd.fst <|
      grdEq m_1.snd.snd.snd.fst m_1.snd.snd.snd.fst <|
      grdEq m_1.snd.snd.snd.snd.fst m_1.snd.snd.snd.snd.fst <|
      grdEq m_1.snd.snd.snd.snd.snd m_1.snd.snd.snd.snd.snd <|
      some (.inr (()))) fun o23 =>
  match o23 with
  | .inl all_24 =>
    bnd (F_ref08_Base (m_1.fst, m_1.snd.fst, m_1.snd.snd.fst, m_1.snd.snd.snd.fst, m_1.snd.snd.snd.snd.fst, m_1.snd.snd.snd.snd.snd)) fun v25 =>
    natOf i_22 fun n26 =>
    bnd (all_24[n26]?) fun x27 =>
    bnd (F_ref06_Encode v25 12 (x27.fst, x27.snd.fst, x27.snd.snd.fst, x27.snd.snd.snd.fst, x27.snd.snd.snd.snd)) fun v28 =>
    grd (s_20.length + v28.length ≤ maxStr) <|
    grdEq m_1.fst m_1.fst <|
    grdEq m_1.snd.fst m_1.snd.fst <|
    grdEq m_1.snd.snd.fst m_1.snd.snd.fst <|
    grdEq m_1.snd.snd.snd.fst m_1.snd.snd.snd.fst <|
    grdEq m_1.snd.snd.snd.snd.fst m_1.snd.snd.snd.snd.fst <|
    grdEq m_1.snd.snd.snd.snd.snd m_1.snd.snd.snd.snd.snd <|
    some (.inl ((s_20 ++ v28, (all_24, Go.IntKind.i64.wrap (i_22 + 1)))))
  | .inr _ =>
    grdEq m_1.fst m_1.fst <|
    grdEq m_1.snd.fst m_1.snd.fst <|
    grdEq m_1.snd.snd.fst m_1.snd.snd.fst <|
    grdEq m_1.snd.snd.snd.fst m_1.snd.snd.snd.fst <|
    grdEq m_1.snd.snd.snd.snd.fst m_1.snd.snd.snd.snd.fst <|
    grdEq m_1.snd.snd.snd.snd.snd m_1.snd.snd.snd.snd.snd <|
    some (.inr s_20)

def F_ref08_Encode (m_1 : (Int × (Int × (List ((List UInt8 × (Int × Int))) × (List ((List UInt8 × (Int × (Int × (Int × List UInt8))))) × (List ((List UInt8 × (Int × (Int × (Int × List UInt8))))) × List ((List UInt8 × (Int × (Int × (Int × List UInt8))))))))))) : Option ((List UInt8 × Int)) :=
  bnd (F_ref08_Check (m_1.fst, m_1.snd.fst, m_1.snd.snd.fst, m_1.snd.snd.snd.fst, m_1.snd.snd.snd.snd.fst, m_1.snd.snd.snd.snd.snd)) fun v2 =>
  if (!v2) = true then
    some (([], 1))
  else
    bnd (F_ref01_Put m_1.fst 2) fun v3 =>
    bnd (F_ref01_Put m_1.snd.fst 2) fun v4 =>
    grd (v3.length + v4.length ≤ maxStr) <|
    bnd (F_ref01_Put (↑(List.length m_1.snd.snd.fst) : Int) 2) fun v5 =>
    grd ((v3 ++ v4).length + v5.length ≤ maxStr) <|
    bnd (F_ref01_Put (↑(List.length m_1.snd.snd.snd.fst) : Int) 2) fun v6 =>
    grd ((v3 ++ v4 ++ v5).length + v6.length ≤ maxStr) <|
    bnd (F_ref01_Put (↑(List.length m_1.snd.snd.snd.snd.fst) : Int) 2) fun v7 =>
    grd ((v3 ++ v4 ++ v5 ++ v6).length + v7.length ≤ maxStr) <|
    bnd (F_ref01_Put (↑(List.length m_1.snd.snd.snd.snd.snd) : Int) 2) fun v8 =>
    grd ((v3 ++ v4 ++ v5 ++ v6 ++ v7).length + v8.length ≤ maxStr) <|
    bnd (loopS (step_ref08_Encode_0 m_1) ((v3 ++ v4 ++ v5 ++ v6 ++ v7 ++ v8, 0))) fun s_19 =>
    grd (List.length m_1.snd.snd.snd.fst * 56 ≤ roomLim) <|
    grd ((List.length m_1.snd.snd.snd.fst + List.length m_1.snd.snd.snd.snd.fst) * 56 ≤ roomLim) <|
    grd (((m_1.snd.snd.snd.fst ++ m_1.snd.snd.snd.snd.fst).length + List.length m_1.snd.snd.snd.snd.snd) * 56 ≤ roomLim) <|
    bnd (loopS (step_ref08_Encode_1 m_1) ((s_19, (m_1.snd.snd.snd.fst ++ m_1.snd.snd.snd.snd.fst ++ m_1.snd.snd.snd.snd.snd, 0)))) fun s_29 =>
    if decide (65535 < (↑s_29.length : Int)) = true then
      some (([], 6))
    else
      some ((s_29, 0))
def ann_ref08_Encode : List (List Nat × Ann) := [([40], ⟨none, [(.normal, ⟨(anyN 1 (.cons (.ptr 0 0) (anyN 2 (.cons (.keep .str) (anyN 1 (.cons (.own tRR 0 true) (.cons (.keep (.int .i64)) (anyN 97 .nil)))))))), [.cells 43 true (.cons (.keep (.int .i64)) (.cons (.keep (.int .i64)) (.cons (.keep (.list tQ)) (.cons (.keep (.list tRR)) (.cons (.keep (.list tRR)) (.cons (.keep (.list tRR)) .nil))))))], [⟨⟨2, tRR, 24, false, false⟩, false⟩], []⟩), (.exit 2, ⟨(anyN 4 (.cons (.keep .str) (anyN 100 .nil))), [.cells 43 true (.cons (.keep (.int .i64)) (.cons (.keep (.int .i64)) (.cons (.keep (.list tQ)) (.cons (.keep (.list tRR)) (.cons (.keep (.list tRR)) (.cons (.keep (.list tRR)) .nil))))))], [⟨⟨2, tRR, 24, false, false⟩, false⟩], []⟩)]⟩), ([16], ⟨some ⟨(anyN 1 (.cons (.ptr 0 0) (anyN 2 (.cons (.ty .str) (.cons (.ty (.int .i64)) (anyN 99 .nil)))))), [.cells 43 true (.cons (.keep (.int .i64)) (.cons (.keep (.int .i64)) (.cons (.keep (.list tQ)) (.cons (.keep (.list tRR)) (.cons (.keep (.list tRR)) (.cons (.keep (.list tRR)) .nil))))))], [], []⟩, [(.exit 0, ⟨(anyN 1 (.cons (.ptr 0 0) (anyN 2 (.cons (.ty .str) (anyN 100 .nil))))), [.cells 43 true (.cons (.keep (.int .i64)) (.cons (.keep (.int .i64)) (.cons (.keep (.list tQ)) (.cons (.keep (.list tRR)) (.cons (.keep (.list tRR)) (.cons (.keep (.list tRR)) .nil))))))], [], []⟩)]⟩), ([39], ⟨some ⟨(anyN 1 (.cons (.ptr 0 0) (anyN 2 (.cons (.ty .str) (anyN 1 (.cons (.own tRR 0 true) (.cons (.ty (.int .i64)) (anyN 97 .nil)))))))), [.cells 43 true (.cons (.keep (.int .i64)) (.cons (.keep (.int .i64)) (.cons (.keep (.list tQ)) (.cons (.keep (.list tRR)) (.cons (.keep (.list tRR)) (.cons (.keep (.list tRR)) .nil))))))], [⟨⟨2, tRR, 24, false, false⟩, false⟩], []⟩, [(.exit 2, ⟨(anyN 4 (.cons (.ty .str) (anyN 100 .nil))), [.cells 43 true (.cons (.keep (.int .i64)) (.cons (.keep (.int .i64)) (.cons (.keep (.list tQ)) (.cons (.keep (.list tRR)) (.cons (.keep (.list tRR)) (.cons (.keep (.list tRR)) .nil))))))], [⟨⟨2, tRR, 24, false, false⟩, false⟩], []⟩)]⟩)]
@[reducible] def fs_ref08_Encode : List (Nat × SFn) := [(26, .pure [(.int .i64), (.int .i64)] [.str] (fun x => F_ref01_Put x.1 x.2)), (65, .pure [tM] [.str] (fun x => F_ref08_Base x)), (20, .pure [.str, (.int .i64), tRR] [.str] (fun x => F_ref06_Encode x.1 x.2.1 x.2.2)), (37, .pure [tM] [.bool] (fun x => F_ref08_Check x))]
def cfg_ref08_Encode : SCfg := SCfg.of (fs_ref08_Encode ++ inlL) ann_ref08_Encode keepL
theorem eq_ref08_Encode (x : HL [tM]) : fnK cfg_ref08_Encode Try.prog 100000 35 [tM] [.str, (.int .i64)] x = (fun x => F_ref08_Encode x) x := by kernel_rfl
theorem told_ref08_Encode : Told CC Try.prog 35 [tM] [.str, (.int .i64)] (fun x => F_ref08_Encode x) := told_of (gok (an := ann_ref08_Encode) (fs := fs_ref08_Encode) ⟨told_ref01_Put, told_ref08_Base, told_ref06_Encode, told_ref08_Check, trivial⟩) rfl rfl eq_ref08_Encode

/-! wellspring/msg.Check$1 -/
def F_msg_Check_1 (r_1 : (List UInt8 × (Int × (Int × (Int × List UInt8))))) : Option (Bool) :=
  bnd (F_record_Check (r_1.fst, r_1.snd.fst, r_1.snd.snd.fst, r_1.snd.snd.snd.fst, r_1.snd.snd.snd.snd)) fun v2 =>
  some (!v2)
def ann_msg_Check_1 : List (List Nat × Ann) := []
@[reducible] def fs_msg_Check_1 : List (Nat × SFn) := [(17, .pure [tRR] [.bool] (fun x => F_record_Check x))]
def cfg_msg_Check_1 : SCfg := SCfg.of (fs_msg_Check_1 ++ inlL) ann_msg_Check_1 keepL
theorem eq_msg_Check_1 (x : HL [tRR]) : fnK cfg_msg_Check_1 Try.prog 100000 68 [tRR] [.bool] x = (fun x => F_msg_Check_1 x) x := by kernel_rfl
theorem told_msg_Check_1 : Told CC Try.prog 68 [tRR] [.bool] (fun x => F_msg_Check_1 x) := told_of (gok (an := ann_msg_Check_1) (fs := fs_msg_Check_1) ⟨told_record_Check, trivial⟩) rfl rfl eq_msg_Check_1

/-! wellspring/wellspringlaw06.RecordRow -/
def step_law06_RecordRow_0 (base_1 : List UInt8) (l_2 : List (List UInt8 × Int × Int × Int × List UInt8)) : (List UInt8 × Int) → Option ((List UInt8 × Int) ⊕ (List UInt8 ⊕ Bool)) := fun (msg_8, i_9) =>
  if decide (i_9 < (↑l_2.length : Int)) = true then
    bnd (α := (Bool ⊕ Unit)) (bnd (α := Bool) (natOf i_9 fun n10 =>
        bnd (l_2[n10]?) fun x11 =>
        if decide (300 < (↑(List.length x11.fst) : Int)) = false then
          natOf i_9 fun n12 =>
          bnd (l_2[n12]?) fun x13 =>
          if decide (2000 < (↑(List.length x13.snd.snd.snd.snd) : Int)) = false then
            natOf i_9 fun n14 =>
            bnd (l_2[n14]?) fun x15 =>
            bnd (F_record_Check (x15.fst, x15.snd.fst, x15.snd.snd.fst, x15.snd.snd.snd.fst, x15.snd.snd.snd.snd)) fun v16 =>
            grdEq base_1 base_1 <|
            grdEq l_2 l_2 <|
            grdEq msg_8 msg_8 <|
            grdEq i_9 i_9 <|
            some (!v16)
          else
            grdEq base_1 base_1 <|
            grdEq l_2 l_2 <|
            grdEq msg_8 msg_8 <|
            grdEq i_9 i_9 <|
            some true
        else
          grdEq base_1 base_1 <|
          grdEq l_2 l_2 <|
          grdEq msg_8 msg_8 <|
          grdEq i_9 i_9 <|
          some true) fun s57_17 =>
      if s57_17 = true then
        bnd F_law06_live fun v18 =>
        some (.inl v18)
      else
        grdEq base_1 base_1 <|
        grdEq l_2 l_2 <|
        grdEq msg_8 msg_8 <|
        grdEq i_9 i_9 <|
        some (.inr (()))) fun o19 =>
    match o19 with
    | .inl s4_20 =>
      some (.inr (.inr s4_20))
    | .inr _ =>
      natOf i_9 fun n21 =>
      bnd (l_2[n21]?) fun x22 =>
      bnd (F_record_Encode base_1 12 (x22.fst, x22.snd.fst, x22.snd.snd.fst, x22.snd.snd.snd.fst, x22.snd.snd.snd.snd)) fun v23 =>
      grd (msg_8.length + v23.length ≤ maxStr) <|
      grdEq base_1 base_1 <|
      grdEq l_2 l_2 <|
      some (.inl ((msg_8 ++ v23, Go.IntKind.i64.wrap (i_9 + 1))))
  else
    grdEq base_1 base_1 <|
    grdEq l_2 l_2 <|
    some (.inr (.inl msg_8))

def step_law06_RecordRow_1 (l_2 : List (List UInt8 × Int × Int × Int × List UInt8)) (msg_25 : List UInt8) : (Int × Int) → Option ((Int × Int) ⊕ (Bool ⊕ Int)) := fun (at_26, i_27) =>
  if decide (i_27 < (↑l_2.length : Int)) = true then
    bnd (F_record_Decode msg_25 at_26) fun (v28, v29, v30) =>
    if (v30 != 0) = false then
      natOf i_27 fun n31 =>
      bnd (l_2[n31]?) fun x32 =>
      bnd (F_ref02_Same v28.fst x32.fst) fun v33 =>
      if (!v33) = false then
        natOf i_27 fun n34 =>
        bnd (l_2[n34]?) fun x35 =>
        if (!v28.snd.snd.snd.snd == x35.snd.snd.snd.snd) = false then
          natOf i_27 fun n36 =>
          bnd (l_2[n36]?) fun x37 =>
          if (v28.snd.snd.snd.fst != x37.snd.snd.snd.fst) = false then
            natOf i_27 fun n38 =>
            bnd (l_2[n38]?) fun x39 =>
            if (v28.snd.fst != x39.snd.fst) = false then
              natOf i_27 fun n40 =>
              bnd (l_2[n40]?) fun x41 =>
              if (v28.snd.snd.fst != x41.snd.snd.fst) = true then
                some (.inr (.inl false))
              else
                grdEq l_2 l_2 <|
                grdEq msg_25 msg_25 <|
                some (.inl ((v29, Go.IntKind.i64.wrap (i_27 + 1))))
            else
              some (.inr (.inl false))
          else
            some (.inr (.inl false))
        else
          some (.inr (.inl false))
      else
        some (.inr (.inl false))
    else
      some (.inr (.inl false))
  else
    grdEq msg_25 msg_25 <|
    some (.inr (.inr at_26))

def F_law06_RecordRow (base_1 : List UInt8) (l_2 : List ((List UInt8 × (Int × (Int × (Int × List UInt8)))))) : Option (Bool) :=
  bnd (α := (Bool ⊕ Unit)) (bnd (α := Bool) (if decide (300 < (↑base_1.length : Int)) = false then
        if decide (20 < (↑l_2.length : Int)) = false then
          bnd (F_ref02_Check base_1) fun v3 =>
          grdEq base_1 base_1 <|
          grdEq l_2 l_2 <|
          some (!v3)
        else
          grdEq base_1 base_1 <|
          grdEq l_2 l_2 <|
          some true
      else
        grdEq base_1 base_1 <|
        grdEq l_2 l_2 <|
        some true) fun s24_4 =>
    if s24_4 = true then
      bnd F_law06_live fun v5 =>
      some (.inl v5)
    else
      grdEq base_1 base_1 <|
      grdEq l_2 l_2 <|
      some (.inr (()))) fun o6 =>
  match o6 with
  | .inl s4_7 =>
    some s4_7
  | .inr _ =>
    grd (12 + base_1.length ≤ maxStr) <|
    bnd (loopS (step_law06_RecordRow_0 base_1 l_2) (([49, 50, 51, 52, 53, 54, 55, 56, 57, 97, 98, 99] ++ base_1, 0))) fun o24 =>
    match o24 with
    | .inl msg_25 =>
      bnd (loopS (step_law06_RecordRow_1 l_2 msg_25) ((Go.IntKind.i64.wrap (12 + (↑base_1.length : Int)), 0))) fun o42 =>
      match o42 with
      | .inl s4_43 =>
        some s4_43
      | .inr at_44 =>
        if (at_44 == (↑msg_25.length : Int)) = true then
          bnd F_law06_live fun v45 =>
          some v45
        else
          some false
    | .inr s4_46 =>
      some s4_46
def ann_law06_RecordRow : List (List Nat × Ann) := [([2], ⟨none, [(.ret, ⟨(anyN 4 (.cons (.ty .bool) (anyN 139 .nil))), [], [], []⟩), (.normal, ⟨(.cons (.keep .str) (.cons (.keep (.list tRR)) (anyN 142 .nil))), [], [], []⟩)]⟩), ([3], ⟨none, [(.normal, ⟨(.cons (.keep .str) (.cons (.keep (.list tRR)) (anyN 22 (.cons (.ty .bool) (anyN 119 .nil))))), [], [], []⟩)]⟩), ([25], ⟨none, [(.ret, ⟨(anyN 4 (.cons (.ty .bool) (anyN 139 .nil))), [], [], []⟩), (.normal, ⟨(.cons (.keep .str) (.cons (.keep (.list tRR)) (anyN 3 (.cons (.keep .str) (.cons (.keep (.int .i64)) (anyN 137 .nil)))))), [], [], []⟩)]⟩), ([26], ⟨none, [(.normal, ⟨(.cons (.keep .str) (.cons (.keep (.list tRR)) (anyN 3 (.cons (.keep .str) (.cons (.keep (.int .i64)) (anyN 50 (.cons (.ty .bool) (anyN 86 .nil)))))))), [], [], []⟩)]⟩), ([16], ⟨some ⟨(.cons (.keep .str) (.cons (.keep (.list tRR)) (anyN 3 (.cons (.ty .str) (.cons (.ty (.int .i64)) (anyN 137 .nil)))))), [], [], []⟩, [(.exit 0, ⟨(.cons (.keep .str) (.cons (.keep (.list tRR)) (anyN 3 (.cons (.ty .str) (anyN 138 .nil))))), [], [], []⟩), (.ret, ⟨(anyN 4 (.cons (.ty .bool) (anyN 139 .nil))), [], [], []⟩)]⟩), ([41], ⟨some ⟨(anyN 1 (.cons (.keep (.list tRR)) (anyN 3 (.cons (.keep .str) (anyN 1 (.cons (.ty (.int .i64)) (.cons (.ty (.int .i64)) (anyN 135 .nil)))))))), [], [], []⟩, [(.ret, ⟨(anyN 4 (.cons (.ty .bool) (anyN 139 .nil))), [], [], []⟩), (.exit 2, ⟨(anyN 5 (.cons (.keep .str) (anyN 1 (.cons (.ty (.int .i64)) (anyN 136 .nil))))), [], [], []⟩)]⟩)]
@[reducible] def fs_law06_RecordRow : List (Nat × SFn) := [(17, .pure [tRR] [.bool] (fun x => F_record_Check x)), (14, .pure [] [.bool] (fun x => F_law06_live)), (19, .pure [.str, (.int .i64), tRR] [.str] (fun x => F_record_Encode x.1 x.2.1 x.2.2)), (15, .pure [.str, (.int .i64)] [tRR, (.int .i64), (.int .i64)] (fun x => F_record_Decode x.1 x.2)), (24, .pure [.str, .str] [.bool] (fun x => F_ref02_Same x.1 x.2)), (23, .pure [.str] [.bool] (fun x => F_ref02_Check x))]
def cfg_law06_RecordRow : SCfg := SCfg.of (fs_law06_RecordRow ++ inlL) ann_law06_RecordRow keepL
theorem eq_law06_RecordRow (x : HL [.str, (.list tRR)]) : fnK cfg_law06_RecordRow Try.prog 100000 6 [.str, (.list tRR)] [.bool] x = (fun x => F_law06_RecordRow x.1 x.2) x := by kernel_rfl
theorem told_law06_RecordRow : Told CC Try.prog 6 [.str, (.list tRR)] [.bool] (fun x => F_law06_RecordRow x.1 x.2) := told_of (gok (an := ann_law06_RecordRow) (fs := fs_law06_RecordRow) ⟨told_record_Check, told_law06_live, told_record_Encode, told_record_Decode, told_ref02_Same, told_ref02_Check, trivial⟩) rfl rfl eq_law06_RecordRow

/-! wellspring/msg.Decode -/
def step_msg_Decode_0 (s_1 : List UInt8) (v2 : Int) (v3 : Int) (v5 : Int) : (Int × (Int × List ((List UInt8 × (Int × Int))))) → Option ((Int × (Int × List ((List UInt8 × (Int × Int))))) ⊕ ((Int × List ((List UInt8 × (Int × Int)))) ⊕ (Int × List ((List UInt8 × (Int × Int)))))) := fun (at_6, s37_7, b1c_8) =>
  if decide (s37_7 < v5) = true then
    bnd (F_msg_question s_1 at_6) fun (v9, v10, v11) =>
    if (v11 != 0) = true then
      grdEq (α := Int) 0 0 <|
      grdEq (α := Int) 0 0 <|
      grdEq v2 v2 <|
      grdEq v3 v3 <|
      some (.inr (.inl ((v11, b1c_8))))
    else
      grd ((b1c_8.length + [(v9.fst, v9.snd.fst, v9.snd.snd)].length) * 32 ≤ roomLim) <|
      grdEq s_1 s_1 <|
      grdEq v5 v5 <|
      grdEq (α := Int) 0 0 <|
      grdEq (α := Int) 0 0 <|
      grdEq v2 v2 <|
      grdEq v3 v3 <|
      some (.inl ((v10, (Go.IntKind.i64.wrap (s37_7 + 1), b1c_8 ++ [(v9.fst, v9.snd.fst, v9.snd.snd)]))))
  else
    grdEq s_1 s_1 <|
    grdEq (α := Int) 0 0 <|
    grdEq (α := Int) 0 0 <|
    grdEq v2 v2 <|
    grdEq v3 v3 <|
    some (.inr (.inr ((at_6, b1c_8))))

def step_msg_Decode_1 (s_1 : List UInt8) (v2 : Int) (v3 : Int) (v17 : Int) : (Int × (Int × (List ((List UInt8 × (Int × Int))) × List ((List UInt8 × (Int × (Int × (Int × List UInt8)))))))) → Option ((Int × (Int × (List ((List UInt8 × (Int × Int))) × List ((List UInt8 × (Int × (Int × (Int × List UInt8)))))))) ⊕ ((Int × (List ((List UInt8 × (Int × Int))) × List ((List UInt8 × (Int × (Int × (Int × List UInt8))))))) ⊕ (Int × (List ((List UInt8 × (Int × Int))) × List ((List UInt8 × (Int × (Int × (Int × List UInt8))))))))) := fun (at_18, s67_19, b1c_20, b1d_21) =>
  if decide (s67_19 < v17) = true then
    bnd (F_record_Decode s_1 at_18) fun (v22, v23, v24) =>
    if (v24 != 0) = true then
      grdEq (α := Int) 0 0 <|
      grdEq (α := Int) 0 0 <|
      grdEq v2 v2 <|
      grdEq v3 v3 <|
      some (.inr (.inl ((v24, (b1c_20, b1d_21)))))
    else
      grd ((b1d_21.length + [(v22.fst, v22.snd.fst, v22.snd.snd.fst, v22.snd.snd.snd.fst, v22.snd.snd.snd.snd)].length) * 56 ≤ roomLim) <|
      grdEq s_1 s_1 <|
      grdEq (α := Int) 0 0 <|
      grdEq v17 v17 <|
      grdEq (α := Int) 0 0 <|
      grdEq (α := Int) 0 0 <|
      grdEq v2 v2 <|
      grdEq v3 v3 <|
      some (.inl ((v23, (Go.IntKind.i64.wrap (s67_19 + 1), (b1c_20, b1d_21 ++ [(v22.fst, v22.snd.fst, v22.snd.snd.fst, v22.snd.snd.snd.fst, v22.snd.snd.snd.snd)])))))
  else
    grdEq s_1 s_1 <|
    grdEq (α := Int) 0 0 <|
    grdEq (α := Int) 0 0 <|
    grdEq (α := Int) 0 0 <|
    grdEq v2 v2 <|
    grdEq v3 v3 <|
    some (.inr (.inr ((at_18, (b1c_20, b1d_21)))))

def step_msg_Decode_2 (s_1 : List UInt8) (v2 : Int) (v3 : Int) (v32 : Int) : (Int × (Int × (List ((List UInt8 × (Int × Int))) × (List ((List UInt8 × (Int × (Int × (Int × List UInt8))))) × List ((List UInt8 × (Int × (Int × (Int × List UInt8))))))))) → Option ((Int × (Int × (List ((List UInt8 × (Int × Int))) × (List ((List UInt8 × (Int × (Int × (Int × List UInt8))))) × List ((List UInt8 × (Int × (Int × (Int × List UInt8))))))))) ⊕ ((Int × (List ((List UInt8 × (Int × Int))) × (List ((List UInt8 × (Int × (Int × (Int × List UInt8))))) × List ((List UInt8 × (Int × (Int × (Int × List UInt8)))))))) ⊕ (Int × (List ((List UInt8 × (Int × Int))) × (List ((List UInt8 × (Int × (Int × (Int × List UInt8))))) × List ((List UInt8 × (Int × (Int × (Int × List UInt8)))))))))) := fun (at_33, s67_34, b1c_35, b1d_36, b1e_37) =>
  if decide (s67_34 < v32) = true then
    bnd (F_record_Decode s_1 at_33) fun (v38, v39, v40) =>
    if (v40 != 0) = true then
      grdEq (α := Int) 0 0 <|
      grdEq (α := Int) 0 0 <|
      grdEq v2 v2 <|
      grdEq v3 v3 <|
      some (.inr (.inl ((v40, (b1c_35, (b1d_36, b1e_37))))))
    else
      grd ((b1e_37.length + [(v38.fst, v38.snd.fst, v38.snd.snd.fst, v38.snd.snd.snd.fst, v38.snd.snd.snd.snd)].length) * 56 ≤ roomLim) <|
      grdEq s_1 s_1 <|
      grdEq (α := Int) 1 1 <|
      grdEq v32 v32 <|
      grdEq (α := Int) 0 0 <|
      grdEq (α := Int) 0 0 <|
      grdEq v2 v2 <|
      grdEq v3 v3 <|
      some (.inl ((v39, (Go.IntKind.i64.wrap (s67_34 + 1), (b1c_35, (b1d_36, b1e_37 ++ [(v38.fst, v38.snd.fst, v38.snd.snd.fst, v38.snd.snd.snd.fst, v38.snd.snd.snd.snd)]))))))
  else
    grdEq s_1 s_1 <|
    grdEq (α := Int) 1 1 <|
    grdEq (α := Int) 0 0 <|
    grdEq (α := Int) 0 0 <|
    grdEq v2 v2 <|
    grdEq v3 v3 <|
    some (.inr (.inr ((at_33, (b1c_35, (b1d_36, b1e_37))))))

def step_msg_Decode_3 (s_1 : List UInt8) (v2 : Int) (v3 : Int) (v50 : Int) : (Int × (Int × (List ((List UInt8 × (Int × Int))) × (List ((List UInt8 × (Int × (Int × (Int × List UInt8))))) × (List ((List UInt8 × (Int × (Int × (Int × List UInt8))))) × List ((List UInt8 × (Int × (Int × (Int × List UInt8)))))))))) → Option ((Int × (Int × (List ((List UInt8 × (Int × Int))) × (List ((List UInt8 × (Int × (Int × (Int × List UInt8))))) × (List ((List UInt8 × (Int × (Int × (Int × List UInt8))))) × List ((List UInt8 × (Int × (Int × (Int × List UInt8)))))))))) ⊕ ((Int × (List ((List UInt8 × (Int × Int))) × (List ((List UInt8 × (Int × (Int × (Int × List UInt8))))) × (List ((List UInt8 × (Int × (Int × (Int × List UInt8))))) × List ((List UInt8 × (Int × (Int × (Int × List UInt8))))))))) ⊕ (Int × (List ((List UInt8 × (Int × Int))) × (List ((List UInt8 × (Int × (Int × (Int × List UInt8))))) × (List ((List UInt8 × (Int × (Int × (Int × List UInt8))))) × List ((List UInt8 × (Int × (Int × (Int × List UInt8))))))))))) := fun (at_51, s67_52, b1c_53, b1d_54, b1e_55, b1f_56) =>
  if decide (s67_52 < v50) = true then
    bnd (F_record_Decode s_1 at_51) fun (v57, v58, v59) =>
    if (v59 != 0) = true then
      grdEq (α := Int) 0 0 <|
      grdEq (α := Int) 0 0 <|
      grdEq v2 v2 <|
      grdEq v3 v3 <|
      some (.inr (.inl ((v59, (b1c_53, (b1d_54, (b1e_55, b1f_56)))))))
    else
      grd ((b1f_56.length + [(v57.fst, v57.snd.fst, v57.snd.snd.fst, v57.snd.snd.snd.fst, v57.snd.snd.snd.snd)].length) * 56 ≤ roomLim) <|
      grdEq s_1 s_1 <|
      grdEq (α := Int) 2 2 <|
      grdEq v50 v50 <|
      grdEq (α := Int) 0 0 <|
      grdEq (α := Int) 0 0 <|
      grdEq v2 v2 <|
      grdEq v3 v3 <|
      some (.inl ((v58, (Go.IntKind.i64.wrap (s67_52 + 1), (b1c_53, (b1d_54, (b1e_55, b1f_56 ++ [(v57.fst, v57.snd.fst, v57.snd.snd.fst, v57.snd.snd.snd.fst, v57.snd.snd.snd.snd)])))))))
  else
    grdEq s_1 s_1 <|
    grdEq (α := Int) 2 2 <|
    grdEq (α := Int) 0 0 <|
    grdEq (α := Int) 0 0 <|
    grdEq v2 v2 <|
    grdEq v3 v3 <|
    some (.inr (.inr ((at_51, (b1c_53, (b1d_54, (b1e_55, b1f_56)))))))

def F_msg_Decode (s_1 : List UInt8) : Option (((Int × (Int × (List ((List UInt8 × (Int × Int))) × (List ((List UInt8 × (Int × (Int × (Int × List UInt8))))) × (List ((List UInt8 × (Int × (Int × (Int × List UInt8))))) × List ((List UInt8 × (Int × (Int × (Int × List UInt8)))))))))) × Int)) :=
  bnd (F_msg_Head s_1) fun (v2, v3, v4) =>
  if decide (65535 < (↑s_1.length : Int)) = true then
    some (((0, (0, ([], ([], ([], []))))), 6))
  else
    if (!v4) = true then
      some (((0, (0, ([], ([], ([], []))))), 2))
    else
      bnd (F_msg_many s_1 0) fun v5 =>
      bnd (loopS (step_msg_Decode_0 s_1 v2 v3 v5) ((12, (0, [])))) fun o12 =>
      match o12 with
      | .inl (s3_13, b1c_14) =>
        some (((0, (0, ([], ([], ([], []))))), s3_13))
      | .inr (at_15, b1c_16) =>
        bnd (F_msg_many s_1 1) fun v17 =>
        bnd (loopS (step_msg_Decode_1 s_1 v2 v3 v17) ((at_15, (0, (b1c_16, []))))) fun o25 =>
        match o25 with
        | .inl (s3_26, b1c_27, b1d_28) =>
          some (((0, (0, ([], ([], ([], []))))), s3_26))
        | .inr (at_29, b1c_30, b1d_31) =>
          bnd (F_msg_many s_1 2) fun v32 =>
          bnd (loopS (step_msg_Decode_2 s_1 v2 v3 v32) ((at_29, (0, (b1c_30, (b1d_31, [])))))) fun o41 =>
          match o41 with
          | .inl (s3_42, b1c_43, b1d_44, b1e_45) =>
            some (((0, (0, ([], ([], ([], []))))), s3_42))
          | .inr (at_46, b1c_47, b1d_48, b1e_49) =>
            bnd (F_msg_many s_1 3) fun v50 =>
            bnd (loopS (step_msg_Decode_3 s_1 v2 v3 v50) ((at_46, (0, (b1c_47, (b1d_48, (b1e_49, []))))))) fun o60 =>
            match o60 with
            | .inl (s3_61, b1c_62, b1d_63, b1e_64, b1f_65) =>
              some (((0, (0, ([], ([], ([], []))))), s3_61))
            | .inr (at_66, b1c_67, b1d_68, b1e_69, b1f_70) =>
              if (at_66 != (↑s_1.length : Int)) = true then
                some (((0, (0, ([], ([], ([], []))))), 5))
              else
                some (((v2, (v3, (b1c_67, (b1d_68, (b1e_69, b1f_70))))), 0))
def ann_msg_Decode : List (List Nat × Ann) := [([52], ⟨none, []⟩), ([52, 1000000], ⟨none, []⟩), ([52, 1000000, 1000000], ⟨none, []⟩), ([52, 1000000, 1000000, 1000000], ⟨none, []⟩), ([52, 1000000, 1000000, 1000000, 1000000], ⟨none, []⟩), ([27], ⟨some ⟨(.cons (.keep .str) (anyN 1 (.cons (.ptr 0 0) (anyN 4 (.cons (.ptr 1 0) (.cons (.ty (.int .i64)) (anyN 27 (.cons (.keep (.int .i64)) (.cons (.ty (.int .i64)) (anyN 59 .nil)))))))))), [.cells 43 true (.cons (.keep (.int .i64)) (.cons (.keep (.int .i64)) (.cons .nill (.cons .nill (.cons .nill (.cons .nill .nil)))))), .cells 43 true (.cons (.keep (.int .i64)) (.cons (.keep (.int .i64)) (.cons (.own tQ 0 true) (.cons .nill (.cons .nill (.cons .nill .nil))))))], [⟨⟨0, tQ, 74, false, false⟩, true⟩], []⟩, [(.ret, ⟨(anyN 2 (.cons (.ptr 0 0) (.cons (.ty (.int .i64)) (anyN 93 .nil)))), [.cells 43 true (.cons (.keep (.int .i64)) (.cons (.keep (.int .i64)) (.cons .nill (.cons .nill (.cons .nill (.cons .nill .nil)))))), .cells 43 true (.cons (.keep (.int .i64)) (.cons (.keep (.int .i64)) (.cons (.own tQ 0 true) (.cons .nill (.cons .nill (.cons .nill .nil))))))], [⟨⟨0, tQ, 74, false, false⟩, false⟩], []⟩), (.exit 1, ⟨(.cons (.keep .str) (anyN 1 (.cons (.ptr 0 0) (anyN 4 (.cons (.ptr 1 0) (.cons (.ty (.int .i64)) (anyN 88 .nil))))))), [.cells 43 true (.cons (.keep (.int .i64)) (.cons (.keep (.int .i64)) (.cons .nill (.cons .nill (.cons .nill (.cons .nill .nil)))))), .cells 43 true (.cons (.keep (.int .i64)) (.cons (.keep (.int .i64)) (.cons (.own tQ 0 true) (.cons .nill (.cons .nill (.cons .nill .nil))))))], [⟨⟨0, tQ, 74, false, false⟩, false⟩], []⟩)]⟩), ([66], ⟨some ⟨(.cons (.keep .str) (anyN 1 (.cons (.ptr 0 0) (anyN 4 (.cons (.ptr 1 0) (.cons (.ty (.int .i64)) (anyN 4 (.cons (.ptr 1 3) (anyN 44 (.cons (.agg (.cons (.ptr 1 3) (.cons (.ptr 1 4) (.cons (.ptr 1 5) .nil)))) (.cons (.keep (.int .i64)) (anyN 6 (.cons (.keep (.int .i64)) (.cons (.ty (.int .i64)) (anyN 29 .nil))))))))))))))), [.cells 43 true (.cons (.keep (.int .i64)) (.cons (.keep (.int .i64)) (.cons .nill (.cons .nill (.cons .nill (.cons .nill .nil)))))), .cells 43 true (.cons (.keep (.int .i64)) (.cons (.keep (.int .i64)) (.cons (.own tQ 0 true) (.cons (.own tRR 1 true) (.cons .nill (.cons .nill .nil)))))), .cells 79 true (.cons (.ptr 1 3) (.cons (.ptr 1 4) (.cons (.ptr 1 5) .nil)))], [⟨⟨0, tQ, 74, false, false⟩, false⟩, ⟨⟨0, tRR, 24, false, false⟩, true⟩], []⟩, [(.ret, ⟨(anyN 2 (.cons (.ptr 0 0) (.cons (.ty (.int .i64)) (anyN 93 .nil)))), [.cells 43 true (.cons (.keep (.int .i64)) (.cons (.keep (.int .i64)) (.cons .nill (.cons .nill (.cons .nill (.cons .nill .nil)))))), .cells 43 true (.cons (.keep (.int .i64)) (.cons (.keep (.int .i64)) (.cons (.own tQ 0 true) (.cons (.own tRR 1 true) (.cons .nill (.cons .nill .nil)))))), .cells 79 true (.cons (.ptr 1 3) (.cons (.ptr 1 4) (.cons (.ptr 1 5) .nil)))], [⟨⟨0, tQ, 74, false, false⟩, false⟩, ⟨⟨0, tRR, 24, false, false⟩, false⟩], []⟩), (.exit 5, ⟨(.cons (.keep .str) (anyN 1 (.cons (.ptr 0 0) (anyN 4 (.cons (.ptr 1 0) (.cons (.ty (.int .i64)) (anyN 49 (.cons (.agg (.cons (.ptr 1 3) (.cons (.ptr 1 4) (.cons (.ptr 1 5) .nil)))) (.cons (.keep (.int .i64)) (anyN 37 .nil)))))))))), [.cells 43 true (.cons (.keep (.int .i64)) (.cons (.keep (.int .i64)) (.cons .nill (.cons .nill (.cons .nill (.cons .nill .nil)))))), .cells 43 true (.cons (.keep (.int .i64)) (.cons (.keep (.int .i64)) (.cons (.own tQ 0 true) (.cons (.own tRR 1 true) (.cons .nill (.cons .nill .nil)))))), .cells 79 true (.cons (.ptr 1 3) (.cons (.ptr 1 4) (.cons (.ptr 1 5) .nil)))], [⟨⟨0, tQ, 74, false, false⟩, false⟩, ⟨⟨0, tRR, 24, false, false⟩, false⟩], []⟩)]⟩), ([66, 1000000], ⟨some ⟨(.cons (.keep .str) (anyN 1 (.cons (.ptr 0 0) (anyN 4 (.cons (.ptr 1 0) (.cons (.ty (.int .i64)) (anyN 4 (.cons (.ptr 1 4) (anyN 44 (.cons (.agg (.cons (.ptr 1 3) (.cons (.ptr 1 4) (.cons (.ptr 1 5) .nil)))) (.cons (.keep (.int .i64)) (anyN 6 (.cons (.keep (.int .i64)) (.cons (.ty (.int .i64)) (anyN 29 .nil))))))))))))))), [.cells 43 true (.cons (.keep (.int .i64)) (.cons (.keep (.int .i64)) (.cons .nill (.cons .nill (.cons .nill (.cons .nill .nil)))))), .cells 43 true (.cons (.keep (.int .i64)) (.cons (.keep (.int .i64)) (.cons (.own tQ 0 true) (.cons (.own tRR 1 true) (.cons (.own tRR 2 true) (.cons .nill .nil)))))), .cells 79 true (.cons (.ptr 1 3) (.cons (.ptr 1 4) (.cons (.ptr 1 5) .nil)))], [⟨⟨0, tQ, 74, false, false⟩, false⟩, ⟨⟨0, tRR, 24, false, false⟩, false⟩, ⟨⟨0, tRR, 24, false, false⟩, true⟩], []⟩, [(.ret, ⟨(anyN 2 (.cons (.ptr 0 0) (.cons (.ty (.int .i64)) (anyN 93 .nil)))), [.cells 43 true (.cons (.keep (.int .i64)) (.cons (.keep (.int .i64)) (.cons .nill (.cons .nill (.cons .nill (.cons .nill .nil)))))), .cells 43 true (.cons (.keep (.int .i64)) (.cons (.keep (.int .i64)) (.cons (.own tQ 0 true) (.cons (.own tRR 1 true) (.cons (.own tRR 2 true) (.cons .nill .nil)))))), .cells 79 true (.cons (.ptr 1 3) (.cons (.ptr 1 4) (.cons (.ptr 1 5) .nil)))], [⟨⟨0, tQ, 74, false, false⟩, false⟩, ⟨⟨0, tRR, 24, false, false⟩, false⟩, ⟨⟨0, tRR, 24, false, false⟩, false⟩], []⟩), (.exit 5, ⟨(.cons (.keep .str) (anyN 1 (.cons (.ptr 0 0) (anyN 4 (.cons (.ptr 1 0) (.cons (.ty (.int .i64)) (anyN 49 (.cons (.agg (.cons (.ptr 1 3) (.cons (.ptr 1 4) (.cons (.ptr 1 5) .nil)))) (.cons (.keep (.int .i64)) (anyN 37 .nil)))))))))), [.cells 43 true (.cons (.keep (.int .i64)) (.cons (.keep (.int .i64)) (.cons .nill (.cons .nill (.cons .nill (.cons .nill .nil)))))), .cells 43 true (.cons (.keep (.int .i64)) (.cons (.keep (.int .i64)) (.cons (.own tQ 0 true) (.cons (.own tRR 1 true) (.cons (.own tRR 2 true) (.cons .nill .nil)))))), .cells 79 true (.cons (.ptr 1 3) (.cons (.ptr 1 4) (.cons (.ptr 1 5) .nil)))], [⟨⟨0, tQ, 74, false, false⟩, false⟩, ⟨⟨0, tRR, 24, false, false⟩, false⟩, ⟨⟨0, tRR, 24, false, false⟩, false⟩], []⟩)]⟩), ([66, 1000000, 1000000], ⟨some ⟨(.cons (.keep .str) (anyN 1 (.cons (.ptr 0 0) (anyN 4 (.cons (.ptr 1 0) (.cons (.ty (.int .i64)) (anyN 4 (.cons (.ptr 1 5) (anyN 44 (.cons (.agg (.cons (.ptr 1 3) (.cons (.ptr 1 4) (.cons (.ptr 1 5) .nil)))) (.cons (.keep (.int .i64)) (anyN 6 (.cons (.keep (.int .i64)) (.cons (.ty (.int .i64)) (anyN 29 .nil))))))))))))))), [.cells 43 true (.cons (.keep (.int .i64)) (.cons (.keep (.int .i64)) (.cons .nill (.cons .nill (.cons .nill (.cons .nill .nil)))))), .cells 43 true (.cons (.keep (.int .i64)) (.cons (.keep (.int .i64)) (.cons (.own tQ 0 true) (.cons (.own tRR 1 true) (.cons (.own tRR 2 true) (.cons (.own tRR 3 true) .nil)))))), .cells 79 true (.cons (.ptr 1 3) (.cons (.ptr 1 4) (.cons (.ptr 1 5) .nil)))], [⟨⟨0, tQ, 74, false, false⟩, false⟩, ⟨⟨0, tRR, 24, false, false⟩, false⟩, ⟨⟨0, tRR, 24, false, false⟩, false⟩, ⟨⟨0, tRR, 24, false, false⟩, true⟩], []⟩, [(.ret, ⟨(anyN 2 (.cons (.ptr 0 0) (.cons (.ty (.int .i64)) (anyN 93 .nil)))), [.cells 43 true (.cons (.keep (.int .i64)) (.cons (.keep (.int .i64)) (.cons .nill (.cons .nill (.cons .nill (.cons .nill .nil)))))), .cells 43 true (.cons (.keep (.int .i64)) (.cons (.keep (.int .i64)) (.cons (.own tQ 0 true) (.cons (.own tRR 1 true) (.cons (.own tRR 2 true) (.cons (.own tRR 3 true) .nil)))))), .cells 79 true (.cons (.ptr 1 3) (.cons (.ptr 1 4) (.cons (.ptr 1 5) .nil)))], [⟨⟨0, tQ, 74, false, false⟩, false⟩, ⟨⟨0, tRR, 24, false, false⟩, false⟩, ⟨⟨0, tRR, 24, false, false⟩, false⟩, ⟨⟨0, tRR, 24, false, false⟩, false⟩], []⟩), (.exit 5, ⟨(.cons (.keep .str) (anyN 1 (.cons (.ptr 0 0) (anyN 4 (.cons (.ptr 1 0) (.cons (.ty (.int .i64)) (anyN 49 (.cons (.agg (.cons (.ptr 1 3) (.cons (.ptr 1 4) (.cons (.ptr 1 5) .nil)))) (.cons (.keep (.int .i64)) (anyN 37 .nil)))))))))), [.cells 43 true (.cons (.keep (.int .i64)) (.cons (.keep (.int .i64)) (.cons .nill (.cons .nill (.cons .nill (.cons .nill .nil)))))), .cells 43 true (.cons (.keep (.int .i64)) (.cons (.keep (.int .i64)) (.cons (.own tQ 0 true) (.cons (.own tRR 1 true) (.cons (.own tRR 2 true) (.cons (.own tRR 3 true) .nil)))))), .cells 79 true (.cons (.ptr 1 3) (.cons (.ptr 1 4) (.cons (.ptr 1 5) .nil)))], [⟨⟨0, tQ, 74, false, false⟩, false⟩, ⟨⟨0, tRR, 24, false, false⟩, false⟩, ⟨⟨0, tRR, 24, false, false⟩, false⟩, ⟨⟨0, tRR, 24, false, false⟩, false⟩], []⟩)]⟩)]
@[reducible] def fs_msg_Decode : List (Nat × SFn) := [(58, .pure [.str, (.int .i64)] [tQ, (.int .i64), (.int .i64)] (fun x => F_msg_question x.1 x.2)), (15, .pure [.str, (.int .i64)] [tRR, (.int .i64), (.int .i64)] (fun x => F_record_Decode x.1 x.2)), (30, .pure [.str] [(.int .i64), (.int .i64), .bool] (fun x => F_msg_Head x)), (57, .pure [.str, (.int .i64)] [(.int .i64)] (fun x => F_msg_many x.1 x.2))]
def cfg_msg_Decode : SCfg := SCfg.of (fs_msg_Decode ++ inlL) ann_msg_Decode keepL
theorem eq_msg_Decode (x : HL [.str]) : fnK cfg_msg_Decode Try.prog 100000 28 [.str] [tM, (.int .i64)] x = (fun x => F_msg_Decode x) x := by kernel_rfl
theorem told_msg_Decode : Told CC Try.prog 28 [.str] [tM, (.int .i64)] (fun x => F_msg_Decode x) := told_of (gok (an := ann_msg_Decode) (fs := fs_msg_Decode) ⟨told_msg_question, told_record_Decode, told_msg_Head, told_msg_many, trivial⟩) rfl rfl eq_msg_Decode

end
end Go.Abs

set_option maxRecDepth 100000
namespace Go.Abs
open Go Go.Proofs
noncomputable section

/-! wellspring/msg.Check -/
def step_msg_Check_0 (m_1 : Int × Int × List (List UInt8 × Int × Int) × List (List UInt8 × Int × Int × Int × List UInt8) × List (List UInt8 × Int × Int × Int × List UInt8) × List (List UInt8 × Int × Int × Int × List UInt8)) : Int → Option (Int ⊕ (Int ⊕ Unit)) := fun s8_3 =>
  if decide (s8_3 < (↑(List.length m_1.snd.snd.snd.fst) : Int)) = true then
    natOf s8_3 fun n4 =>
    bnd (m_1.snd.snd.snd.fst[n4]?) fun x5 =>
    bnd (F_msg_Check_1 (x5.fst, x5.snd.fst, x5.snd.snd.fst, x5.snd.snd.snd.fst, x5.snd.snd.snd.snd)) fun v6 =>
    if v6 = true then
      grdEq m_1.fst m_1.fst <|
      grdEq m_1.snd.fst m_1.snd.fst <|
      grdEq m_1.snd.snd.fst m_1.snd.snd.fst <|
      grdEq m_1.snd.snd.snd.fst m_1.snd.snd.snd.fst <|
      grdEq m_1.snd.snd.snd.snd.fst m_1.snd.snd.snd.snd.fst <|
      grdEq m_1.snd.snd.snd.snd.snd m_1.snd.snd.snd.snd.snd <|
      some (.inr (.inl s8_3))
    else
      grdEq m_1.snd.snd.snd.fst m_1.snd.snd.snd.fst <|
      grdEq ((↑(List.length m_1.snd.snd.snd.fst) : Int)) ((↑(List.length m_1.snd.snd.snd.fst) : Int)) <|
      grdEq m_1.fst m_1.fst <|
      grdEq m_1.snd.fst m_1.snd.fst <|
      grdEq m_1.snd.snd.fst m_1.snd.snd.fst <|
      grdEq m_1.snd.snd.snd.fst m_1.snd.snd.snd.fst <|
      grdEq m_1.snd.snd.snd.snd.fst m_1.snd.snd.snd.snd.fst <|
      grdEq m_1.snd.snd.snd.snd.snd m_1.snd.snd.snd.snd.snd <|
      some (.inl (Go.IntKind.i64.wrap (s8_3 + 1)))
  else
    grdEq m_1.fst m_1.fst <|
    grdEq m_1.snd.fst m_1.snd.fst <|
    grdEq m_1.snd.snd.fst m_1.snd.snd.fst <|
    grdEq m_1.snd.snd.snd.fst m_1.snd.snd.snd.fst <|
    grdEq m_1.snd.snd.snd.snd.fst m_1.snd.snd.snd.snd.fst <|
    grdEq m_1.snd.snd.snd.snd.snd m_1.snd.snd.snd.snd.snd <|
    some (.inr (.inr (())))

def step_msg_Check_1 (m_1 : Int × Int × List (List UInt8 × Int × Int) × List (List UInt8 × Int × Int × Int × List UInt8) × List (List UInt8 × Int × Int × Int × List UInt8) × List (List UInt8 × Int × Int × Int × List UInt8)) : Int → Option (Int ⊕ (Int ⊕ Unit)) := fun s8_10 =>
  if decide (s8_10 < (↑(List.length m_1.snd.snd.snd.snd.fst) : Int)) = true then
    natOf s8_10 fun n11 =>
    bnd (m_1.snd.snd.snd.snd.fst[n11]?) fun x12 =>
    bnd (F_msg_Check_1 (x12.fst, x12.snd.fst, x12.snd.snd.fst, x12.snd.snd.snd.fst, x12.snd.snd.snd.snd)) fun v13 =>
    if v13 = true then
      grdEq m_1.fst m_1.fst <|
      grdEq m_1.snd.fst m_1.snd.fst <|
      grdEq m_1.snd.snd.fst m_1.snd.snd.fst <|
      grdEq m_1.snd.snd.snd.fst m_1.snd.snd.snd.fst <|
      grdEq m_1.snd.snd.snd.snd.fst m_1.snd.snd.snd.snd.fst <|
      grdEq m_1.snd.snd.snd.snd.snd m_1.snd.snd.snd.snd.snd <|
      some (.inr (.inl s8_10))
    else
      grdEq m_1.snd.snd.snd.snd.fst m_1.snd.snd.snd.snd.fst <|
      grdEq ((↑(List.length m_1.snd.snd.snd.snd.fst) : Int)) ((↑(List.length m_1.snd.snd.snd.snd.fst) : Int)) <|
      grdEq m_1.fst m_1.fst <|
      grdEq m_1.snd.fst m_1.snd.fst <|
      grdEq m_1.snd.snd.fst m_1.snd.snd.fst <|
      grdEq m_1.snd.snd.snd.fst m_1.snd.snd.snd.fst <|
      grdEq m_1.snd.snd.snd.snd.fst m_1.snd.snd.snd.snd.fst <|
      grdEq m_1.snd.snd.snd.snd.snd m_1.snd.snd.snd.snd.snd <|
      some (.inl (Go.IntKind.i64.wrap (s8_10 + 1)))
  else
    grdEq m_1.fst m_1.fst <|
    grdEq m_1.snd.fst m_1.snd.fst <|
    grdEq m_1.snd.snd.fst m_1.snd.snd.fst <|
    grdEq m_1.snd.snd.snd.fst m_1.snd.snd.snd.fst <|
    grdEq m_1.snd.snd.snd.snd.fst m_1.snd.snd.snd.snd.fst <|
    grdEq m_1.snd.snd.snd.snd.snd m_1.snd.snd.snd.snd.snd <|
    some (.inr (.inr (())))

def step_msg_Check_2 (m_1 : Int × Int × List (List UInt8 × Int × Int) × List (List UInt8 × Int × Int × Int × List UInt8) × List (List UInt8 × Int × Int × Int × List UInt8) × List (List UInt8 × Int × Int × Int × List UInt8)) : Int → Option (Int ⊕ (Int ⊕ Unit)) := fun s8_17 =>
  if decide (s8_17 < (↑(List.length m_1.snd.snd.snd.snd.snd) : Int)) = true then
    natOf s8_17 fun n18 =>
    bnd (m_1.snd.snd.snd.snd.snd[n18]?) fun x19 =>
    bnd (F_msg_Check_1 (x19.fst, x19.snd.fst, x19.snd.snd.fst, x19.snd.snd.snd.fst, x19.snd.snd.snd.snd)) fun v20 =>
    if v20 = true then
      grdEq m_1.fst m_1.fst <|
      grdEq m_1.snd.fst m_1.snd.fst <|
      grdEq m_1.snd.snd.fst m_1.snd.snd.fst <|
      grdEq m_1.snd.snd.snd.fst m_1.snd.snd.snd.fst <|
      grdEq m_1.snd.snd.snd.snd.fst m_1.snd.snd.snd.snd.fst <|
      grdEq m_1.snd.snd.snd.snd.snd m_1.snd.snd.snd.snd.snd <|
      some (.inr (.inl s8_17))
    else
      grdEq m_1.snd.snd.snd.snd.snd m_1.snd.snd.snd.snd.snd <|
      grdEq ((↑(List.length m_1.snd.snd.snd.snd.snd) : Int)) ((↑(List.length m_1.snd.snd.snd.snd.snd) : Int)) <|
      grdEq m_1.fst m_1.fst <|
      grdEq m_1.snd.fst m_1.snd.fst <|
      grdEq m_1.snd.snd.fst m_1.snd.snd.fst <|
      grdEq m_1.snd.snd.snd.fst m_1.snd.snd.snd.fst <|
      grdEq m_1.snd.snd.snd.snd.fst m_1.snd.snd.snd.snd.fst <|
      grdEq m_1.snd.snd.snd.snd.snd m_1.snd.snd.snd.snd.snd <|
      some (.inl (Go.IntKind.i64.wrap (s8_17 + 1)))
  else
    grdEq m_1.fst m_1.fst <|
    grdEq m_1.snd.fst m_1.snd.fst <|
    grdEq m_1.snd.snd.fst m_1.snd.snd.fst <|
    grdEq m_1.snd.snd.snd.fst m_1.snd.snd.snd.fst <|
    grdEq m_1.snd.snd.snd.snd.fst m_1.snd.snd.snd.snd.fst <|
    grdEq m_1.snd.snd.snd.snd.snd m_1.snd.snd.snd.snd.snd <|
    some (.inr (.inr (())))

def step_msg_Check_3 (m_1 : Int × Int × List (List UInt8 × Int × Int) × List (List UInt8 × Int × Int × Int × List UInt8) × List (List UInt8 × Int × Int × Int × List UInt8) × List (List UInt8 × Int × Int × Int × List UInt8)) : Int → Option (Int ⊕ (Int ⊕ Unit)) := fun s8_26 =>
  if decide (s8_26 < (↑(List.length m_1.snd.snd.fst) : Int)) = true then
    natOf s8_26 fun n27 =>
    bnd (m_1.snd.snd.fst[n27]?) fun x28 =>
    bnd (F_msg_Check_2 (x28.fst, x28.snd.fst, x28.snd.snd)) fun v29 =>
    if v29 = true then
      grdEq m_1.fst m_1.fst <|
      grdEq m_1.snd.fst m_1.snd.fst <|
      grdEq m_1.snd.snd.fst m_1.snd.snd.fst <|
      grdEq m_1.snd.snd.snd.fst m_1.snd.snd.snd.fst <|
      grdEq m_1.snd.snd.snd.snd.fst m_1.snd.snd.snd.snd.fst <|
      grdEq m_1.snd.snd.snd.snd.snd m_1.snd.snd.snd.snd.snd <|
      some (.inr (.inl s8_26))
    else
      grdEq m_1.snd.snd.fst m_1.snd.snd.fst <|
      grdEq ((↑(List.length m_1.snd.snd.fst) : Int)) ((↑(List.length m_1.snd.snd.fst) : Int)) <|
      grdEq m_1.fst m_1.fst <|
      grdEq m_1.snd.fst m_1.snd.fst <|
      grdEq m_1.snd.snd.fst m_1.snd.snd.fst <|
      grdEq m_1.snd.snd.snd.fst m_1.snd.snd.snd.fst <|
      grdEq m_1.snd.snd.snd.snd.fst m_1.snd.snd.snd.snd.fst <|
      grdEq m_1.snd.snd.snd.snd.snd m_1.snd.snd.snd.snd.snd <|
      some (.inl (Go.IntKind.i64.wrap (s8_26 + 1)))
  else
    grdEq m_1.fst m_1.fst <|
    grdEq m_1.snd.fst m_1.snd.fst <|
    grdEq m_1.snd.snd.fst m_1.snd.snd.fst <|
    grdEq m_1.snd.snd.snd.fst m_1.snd.snd.snd.fst <|
    grdEq m_1.snd.snd.snd.snd.fst m_1.snd.snd.snd.snd.fst <|
    grdEq m_1.snd.snd.snd.snd.snd m_1.snd.snd.snd.snd.snd <|
    some (.inr (.inr (())))

def step_msg_Check_4 (m_1 : Int × Int × List (List UInt8 × Int × Int) × List (List UInt8 × Int × Int × Int × List UInt8) × List (List UInt8 × Int × Int × Int × List UInt8) × List (List UInt8 × Int × Int × Int × List UInt8)) : Int → Option (Int ⊕ (Int ⊕ Unit)) := fun s8_35 =>
  if decide (s8_35 < (↑(List.length m_1.snd.snd.fst) : Int)) = true then
    natOf s8_35 fun n36 =>
    bnd (m_1.snd.snd.fst[n36]?) fun x37 =>
    bnd (F_msg_Check_2 (x37.fst, x37.snd.fst, x37.snd.snd)) fun v38 =>
    if v38 = true then
      grdEq m_1.fst m_1.fst <|
      grdEq m_1.snd.fst m_1.snd.fst <|
      grdEq m_1.snd.snd.fst m_1.snd.snd.fst <|
      grdEq m_1.snd.snd.snd.fst m_1.snd.snd.snd.fst <|
      grdEq m_1.snd.snd.snd.snd.fst m_1.snd.snd.snd.snd.fst <|
      grdEq m_1.snd.snd.snd.snd.snd m_1.snd.snd.snd.snd.snd <|
      some (.inr (.inl s8_35))
    else
      grdEq m_1.snd.snd.fst m_1.snd.snd.fst <|
      grdEq ((↑(List.length m_1.snd.snd.fst) : Int)) ((↑(List.length m_1.snd.snd.fst) : Int)) <|
      grdEq m_1.fst m_1.fst <|
      grdEq m_1.snd.fst m_1.snd.fst <|
      grdEq m_1.snd.snd.fst m_1.snd.snd.fst <|
      grdEq m_1.snd.snd.snd.fst m_1.snd.snd.snd.fst <|
      grdEq m_1.snd.snd.snd.snd.fst m_1.snd.snd.snd.snd.fst <|
      grdEq m_1.snd.snd.snd.snd.snd m_1.snd.snd.snd.snd.snd <|
      some (.inl (Go.IntKind.i64.wrap (s8_35 + 1)))
  else
    grdEq m_1.fst m_1.fst <|
    grdEq m_1.snd.fst m_1.snd.fst <|
    grdEq m_1.snd.snd.fst m_1.snd.snd.fst <|
    grdEq m_1.snd.snd.snd.fst m_1.snd.snd.snd.fst <|
    grdEq m_1.snd.snd.snd.snd.fst m_1.snd.snd.snd.snd.fst <|
    grdEq m_1.snd.snd.snd.snd.snd m_1.snd.snd.snd.snd.snd <|
    some (.inr (.inr (())))

def step_msg_Check_5 (m_1 : Int × Int × List (List UInt8 × Int × Int) × List (List UInt8 × Int × Int × Int × List UInt8) × List (List UInt8 × Int × Int × Int × List UInt8) × List (List UInt8 × Int × Int × Int × List UInt8)) : Int → Option (Int ⊕ (Int ⊕ Unit)) := fun s8_42 =>
  if decide (s8_42 < (↑(List.length m_1.snd.snd.snd.snd.snd) : Int)) = true then
    natOf s8_42 fun n43 =>
    bnd (m_1.snd.snd.snd.snd.snd[n43]?) fun x44 =>
    bnd (F_msg_Check_1 (x44.fst, x44.snd.fst, x44.snd.snd.fst, x44.snd.snd.snd.fst, x44.snd.snd.snd.snd)) fun v45 =>
    if v45 = true then
      grdEq m_1.fst m_1.fst <|
      grdEq m_1.snd.fst m_1.snd.fst <|
      grdEq m_1.snd.snd.fst m_1.snd.snd.fst <|
      grdEq m_1.snd.snd.snd.fst m_1.snd.snd.snd.fst <|
      grdEq m_1.snd.snd.snd.snd.fst m_1.snd.snd.snd.snd.fst <|
      grdEq m_1.snd.snd.snd.snd.snd m_1.snd.snd.snd.snd.snd <|
      some (.inr (.inl s8_42))
    else
      grdEq m_1.snd.snd.snd.snd.snd m_1.snd.snd.snd.snd.snd <|
      grdEq ((↑(List.length m_1.snd.snd.snd.snd.snd) : Int)) ((↑(List.length m_1.snd.snd.snd.snd.snd) : Int)) <|
      grdEq m_1.fst m_1.fst <|
      grdEq m_1.snd.fst m_1.snd.fst <|
      grdEq m_1.snd.snd.fst m_1.snd.snd.fst <|
      grdEq m_1.snd.snd.snd.fst m_1.snd.snd.snd.fst <|
      grdEq m_1.snd.snd.snd.snd.fst m_1.snd.snd.snd.snd.fst <|
      grdEq m_1.snd.snd.snd.snd.snd m_1.snd.snd.snd.snd.snd <|
      some (.inl (Go.IntKind.i64.wrap (s8_42 + 1)))
  else
    grdEq m_1.fst m_1.fst <|
    grdEq m_1.snd.fst m_1.snd.fst <|
    grdEq m_1.snd.snd.fst m_1.snd.snd.fst <|
    grdEq m_1.snd.snd.snd.fst m_1.snd.snd.snd.fst <|
    grdEq m_1.snd.snd.snd.snd.fst m_1.snd.snd.snd.snd.fst <|
    grdEq m_1.snd.snd.snd.snd.snd m_1.snd.snd.snd.snd.snd <|
    some (.inr (.inr (())))

def step_msg_Check_6 (m_1 : Int × Int × List (List UInt8 × Int × Int) × List (List UInt8 × Int × Int × Int × List UInt8) × List (List UInt8 × Int × Int × Int × List UInt8) × List (List UInt8 × Int × Int × Int × List UInt8)) : Int → Option (Int ⊕ (Int ⊕ Unit)) := fun s8_51 =>
  if decide (s8_51 < (↑(List.length m_1.snd.snd.fst) : Int)) = true then
    natOf s8_51 fun n52 =>
    bnd (m_1.snd.snd.fst[n52]?) fun x53 =>
    bnd (F_msg_Check_2 (x53.fst, x53.snd.fst, x53.snd.snd)) fun v54 =>
    if v54 = true then
      grdEq m_1.fst m_1.fst <|
      grdEq m_1.snd.fst m_1.snd.fst <|
      grdEq m_1.snd.snd.fst m_1.snd.snd.fst <|
      grdEq m_1.snd.snd.snd.fst m_1.snd.snd.snd.fst <|
      grdEq m_1.snd.snd.snd.snd.fst m_1.snd.snd.snd.snd.fst <|
      grdEq m_1.snd.snd.snd.snd.snd m_1.snd.snd.snd.snd.snd <|
      some (.inr (.inl s8_51))
    else
      grdEq m_1.snd.snd.fst m_1.snd.snd.fst <|
      grdEq ((↑(List.length m_1.snd.snd.fst) : Int)) ((↑(List.length m_1.snd.snd.fst) : Int)) <|
      grdEq m_1.fst m_1.fst <|
      grdEq m_1.snd.fst m_1.snd.fst <|
      grdEq m_1.snd.snd.fst m_1.snd.snd.fst <|
      grdEq m_1.snd.snd.snd.fst m_1.snd.snd.snd.fst <|
      grdEq m_1.snd.snd.snd.snd.fst m_1.snd.snd.snd.snd.fst <|
      grdEq m_1.snd.snd.snd.snd.snd m_1.snd.snd.snd.snd.snd <|
      some (.inl (Go.IntKind.i64.wrap (s8_51 + 1)))
  else
    grdEq m_1.fst m_1.fst <|
    grdEq m_1.snd.fst m_1.snd.fst <|
    grdEq m_1.snd.snd.fst m_1.snd.snd.fst <|
    grdEq m_1.snd.snd.snd.fst m_1.snd.snd.snd.fst <|
    grdEq m_1.snd.snd.snd.snd.fst m_1.snd.snd.snd.snd.fst <|
    grdEq m_1.snd.snd.snd.snd.snd m_1.snd.snd.snd.snd.snd <|
    some (.inr (.inr (())))

def step_msg_Check_7 (m_1 : Int × Int × List (List UInt8 × Int × Int) × List (List UInt8 × Int × Int × Int × List UInt8) × List (List UInt8 × Int × Int × Int × List UInt8) × List (List UInt8 × Int × Int × Int × List UInt8)) : Int → Option (Int ⊕ (Int ⊕ Unit)) := fun s8_60 =>
  if decide (s8_60 < (↑(List.length m_1.snd.snd.fst) : Int)) = true then
    natOf s8_60 fun n61 =>
    bnd (m_1.snd.snd.fst[n61]?) fun x62 =>
    bnd (F_msg_Check_2 (x62.fst, x62.snd.fst, x62.snd.snd)) fun v63 =>
    if v63 = true then
      grdEq m_1.fst m_1.fst <|
      grdEq m_1.snd.fst m_1.snd.fst <|
      grdEq m_1.snd.snd.fst m_1.snd.snd.fst <|
      grdEq m_1.snd.snd.snd.fst m_1.snd.snd.snd.fst <|
      grdEq m_1.snd.snd.snd.snd.fst m_1.snd.snd.snd.snd.fst <|
      grdEq m_1.snd.snd.snd.snd.snd m_1.snd.snd.snd.snd.snd <|
      some (.inr (.inl s8_60))
    else
      grdEq m_1.snd.snd.fst m_1.snd.snd.fst <|
      grdEq ((↑(List.length m_1.snd.snd.fst) : Int)) ((↑(List.length m_1.snd.snd.fst) : Int)) <|
      grdEq m_1.fst m_1.fst <|
      grdEq m_1.snd.fst m_1.snd.fst <|
      grdEq m_1.snd.snd.fst m_1.snd.snd.fst <|
      grdEq m_1.snd.snd.snd.fst m_1.snd.snd.snd.fst <|
      grdEq m_1.snd.snd.snd.snd.fst m_1.snd.snd.snd.snd.fst <|
      grdEq m_1.snd.snd.snd.snd.snd m_1.snd.snd.snd.snd.snd <|
      some (.inl (Go.IntKind.i64.wrap (s8_60 + 1)))
  else
    grdEq m_1.fst m_1.fst <|
    grdEq m_1.snd.fst m_1.snd.fst <|
    grdEq m_1.snd.snd.fst m_1.snd.snd.fst <|
    grdEq m_1.snd.snd.snd.fst m_1.snd.snd.snd.fst <|
    grdEq m_1.snd.snd.snd.snd.fst m_1.snd.snd.snd.snd.fst <|
    grdEq m_1.snd.snd.snd.snd.snd m_1.snd.snd.snd.snd.snd <|
    some (.inr (.inr (())))

def step_msg_Check_8 (m_1 : Int × Int × List (List UInt8 × Int × Int) × List (List UInt8 × Int × Int × Int × List UInt8) × List (List UInt8 × Int × Int × Int × List UInt8) × List (List UInt8 × Int × Int × Int × List UInt8)) : Int → Option (Int ⊕ (Int ⊕ Unit)) := fun s8_67 =>
  if decide (s8_67 < (↑(List.length m_1.snd.snd.snd.snd.fst) : Int)) = true then
    natOf s8_67 fun n68 =>
    bnd (m_1.snd.snd.snd.snd.fst[n68]?) fun x69 =>
    bnd (F_msg_Check_1 (x69.fst, x69.snd.fst, x69.snd.snd.fst, x69.snd.snd.snd.fst, x69.snd.snd.snd.snd)) fun v70 =>
    if v70 = true then
      grdEq m_1.fst m_1.fst <|
      grdEq m_1.snd.fst m_1.snd.fst <|
      grdEq m_1.snd.snd.fst m_1.snd.snd.fst <|
      grdEq m_1.snd.snd.snd.fst m_1.snd.snd.snd.fst <|
      grdEq m_1.snd.snd.snd.snd.fst m_1.snd.snd.snd.snd.fst <|
      grdEq m_1.snd.snd.snd.snd.snd m_1.snd.snd.snd.snd.snd <|
      some (.inr (.inl s8_67))
    else
      grdEq m_1.snd.snd.snd.snd.fst m_1.snd.snd.snd.snd.fst <|
      grdEq ((↑(List.length m_1.snd.snd.snd.snd.fst) : Int)) ((↑(List.length m_1.snd.snd.snd.snd.fst) : Int)) <|
      grdEq m_1.fst m_1.fst <|
      grdEq m_1.snd.fst m_1.snd.fst <|
      grdEq m_1.snd.snd.fst m_1.snd.snd.fst <|
      grdEq m_1.snd.snd.snd.fst m_1.snd.snd.snd.fst <|
      grdEq m_1.snd.snd.snd.snd.fst m_1.snd.snd.snd.snd.fst <|
      grdEq m_1.snd.snd.snd.snd.snd m_1.snd.snd.snd.snd.snd <|
      some (.inl (Go.IntKind.i64.wrap (s8_67 + 1)))
  else
    grdEq m_1.fst m_1.fst <|
    grdEq m_1.snd.fst m_1.snd.fst <|
    grdEq m_1.snd.snd.fst m_1.snd.snd.fst <|
    grdEq m_1.snd.snd.snd.fst m_1.snd.snd.snd.fst <|
    grdEq m_1.snd.snd.snd.snd.fst m_1.snd.snd.snd.snd.fst <|
    grdEq m_1.snd.snd.snd.snd.snd m_1.snd.snd.snd.snd.snd <|
    some (.inr (.inr (())))

def step_msg_Check_9 (m_1 : Int × Int × List (List UInt8 × Int × Int) × List (List UInt8 × Int × Int × Int × List UInt8) × List (List UInt8 × Int × Int × Int × List UInt8) × List (List UInt8 × Int × Int × Int × List UInt8)) : Int → Option (Int ⊕ (Int ⊕ Unit)) := fun s8_74 =>
  if decide (s8_74 < (↑(List.length m_1.snd.snd.snd.snd.snd) : Int)) = true then
    natOf s8_74 fun n75 =>
    bnd (m_1.snd.snd.snd.snd.snd[n75]?) fun x76 =>
    bnd (F_msg_Check_1 (x76.fst, x76.snd.fst, x76.snd.snd.fst, x76.snd.snd.snd.fst, x76.snd.snd.snd.snd)) fun v77 =>
    if v77 = true then
      grdEq m_1.fst m_1.fst <|
      grdEq m_1.snd.fst m_1.snd.fst <|
      grdEq m_1.snd.snd.fst m_1.snd.snd.fst <|
      grdEq m_1.snd.snd.snd.fst m_1.snd.snd.snd.fst <|
      grdEq m_1.snd.snd.snd.snd.fst m_1.snd.snd.snd.snd.fst <|
      grdEq m_1.snd.snd.snd.snd.snd m_1.snd.snd.snd.snd.snd <|
      some (.inr (.inl s8_74))
    else
      grdEq m_1.snd.snd.snd.snd.snd m_1.snd.snd.snd.snd.snd <|
      grdEq ((↑(List.length m_1.snd.snd.snd.snd.snd) : Int)) ((↑(List.length m_1.snd.snd.snd.snd.snd) : Int)) <|
      grdEq m_1.fst m_1.fst <|
      grdEq m_1.snd.fst m_1.snd.fst <|
      grdEq m_1.snd.snd.fst m_1.snd.snd.fst <|
      grdEq m_1.snd.snd.snd.fst m_1.snd.snd.snd.fst <|
      grdEq m_1.snd.snd.snd.snd.fst m_1.snd.snd.snd.snd.fst <|
      grdEq m_1.snd.snd.snd.snd.snd m_1.snd.snd.snd.snd.snd <|
      some (.inl (Go.IntKind.i64.wrap (s8_74 + 1)))
  else
    grdEq m_1.fst m_1.fst <|
    grdEq m_1.snd.fst m_1.snd.fst <|
    grdEq m_1.snd.snd.fst m_1.snd.snd.fst <|
    grdEq m_1.snd.snd.snd.fst m_1.snd.snd.snd.fst <|
    grdEq m_1.snd.snd.snd.snd.fst m_1.snd.snd.snd.snd.fst <|
    grdEq m_1.snd.snd.snd.snd.snd m_1.snd.snd.snd.snd.snd <|
    some (.inr (.inr (())))

def step_msg_Check_10 (m_1 : Int × Int × List (List UInt8 × Int × Int) × List (List UInt8 × Int × Int × Int × List UInt8) × List (List UInt8 × Int × Int × Int × List UInt8) × List (List UInt8 × Int × Int × Int × List UInt8)) : Int → Option (Int ⊕ (Int ⊕ Unit)) := fun s8_83 =>
  if decide (s8_83 < (↑(List.length m_1.snd.snd.fst) : Int)) = true then
    natOf s8_83 fun n84 =>
    bnd (m_1.snd.snd.fst[n84]?) fun x85 =>
    bnd (F_msg_Check_2 (x85.fst, x85.snd.fst, x85.snd.snd)) fun v86 =>
    if v86 = true then
      grdEq m_1.fst m_1.fst <|
      grdEq m_1.snd.fst m_1.snd.fst <|
      grdEq m_1.snd.snd.fst m_1.snd.snd.fst <|
      grdEq m_1.snd.snd.snd.fst m_1.snd.snd.snd.fst <|
      grdEq m_1.snd.snd.snd.snd.fst m_1.snd.snd.snd.snd.fst <|
      grdEq m_1.snd.snd.snd.snd.snd m_1.snd.snd.snd.snd.snd <|
      some (.inr (.inl s8_83))
    else
      grdEq m_1.snd.snd.fst m_1.snd.snd.fst <|
      grdEq ((↑(List.length m_1.snd.snd.fst) : Int)) ((↑(List.length m_1.snd.snd.fst) : Int)) <|
      grdEq m_1.fst m_1.fst <|
      grdEq m_1.snd.fst m_1.snd.fst <|
      grdEq m_1.snd.snd.fst m_1.snd.snd.fst <|
      grdEq m_1.snd.snd.snd.fst m_1.snd.snd.snd.fst <|
      grdEq m_1.snd.snd.snd.snd.fst m_1.snd.snd.snd.snd.fst <|
      grdEq m_1.snd.snd.snd.snd.snd m_1.snd.snd.snd.snd.snd <|
      some (.inl (Go.IntKind.i64.wrap (s8_83 + 1)))
  else
    grdEq m_1.fst m_1.fst <|
    grdEq m_1.snd.fst m_1.snd.fst <|
    grdEq m_1.snd.snd.fst m_1.snd.snd.fst <|
    grdEq m_1.snd.snd.snd.fst m_1.snd.snd.snd.fst <|
    grdEq m_1.snd.snd.snd.snd.fst m_1.snd.snd.snd.snd.fst <|
    grdEq m_1.snd.snd.snd.snd.snd m_1.snd.snd.snd.snd.snd <|
    some (.inr (.inr (())))

def step_msg_Check_11 (m_1 : Int × Int × List (List UInt8 × Int × Int) × List (List UInt8 × Int × Int × Int × List UInt8) × List (List UInt8 × Int × Int × Int × List UInt8) × List (List UInt8 × Int × Int × Int × List UInt8)) : Int → Option (Int ⊕ (Int ⊕ Unit)) := fun s8_92 =>
  if decide (s8_92 < (↑(List.length m_1.snd.snd.fst) : Int)) = true then
    natOf s8_92 fun n93 =>
    bnd (m_1.snd.snd.fst[n93]?) fun x94 =>
    bnd (F_msg_Check_2 (x94.fst, x94.snd.fst, x94.snd.snd)) fun v95 =>
    if v95 = true then
      grdEq m_1.fst m_1.fst <|
      grdEq m_1.snd.fst m_1.snd.fst <|
      grdEq m_1.snd.snd.fst m_1.snd.snd.fst <|
      grdEq m_1.snd.snd.snd.fst m_1.snd.snd.snd.fst <|
      grdEq m_1.snd.snd.snd.snd.fst m_1.snd.snd.snd.snd.fst <|
      grdEq m_1.snd.snd.snd.snd.snd m_1.snd.snd.snd.snd.snd <|
      some (.inr (.inl s8_92))
    else
      grdEq m_1.snd.snd.fst m_1.snd.snd.fst <|
      grdEq ((↑(List.length m_1.snd.snd.fst) : Int)) ((↑(List.length m_1.snd.snd.fst) : Int)) <|
      grdEq m_1.fst m_1.fst <|
      grdEq m_1.snd.fst m_1.snd.fst <|
      grdEq m_1.snd.snd.fst m_1.snd.snd.fst <|
      grdEq m_1.snd.snd.snd.fst m_1.snd.snd.snd.fst <|
      grdEq m_1.snd.snd.snd.snd.fst m_1.snd.snd.snd.snd.fst <|
      grdEq m_1.snd.snd.snd.snd.snd m_1.snd.snd.snd.snd.snd <|
      some (.inl (Go.IntKind.i64.wrap (s8_92 + 1)))
  else
    grdEq m_1.fst m_1.fst <|
    grdEq m_1.snd.fst m_1.snd.fst <|
    grdEq m_1.snd.snd.fst m_1.snd.snd.fst <|
    grdEq m_1.snd.snd.snd.fst m_1.snd.snd.snd.fst <|
    grdEq m_1.snd.snd.snd.snd.fst m_1.snd.snd.snd.snd.fst <|
    grdEq m_1.snd.snd.snd.snd.snd m_1.snd.snd.snd.snd.snd <|
    some (.inr (.inr (())))

def step_msg_Check_12 (m_1 : Int × Int × List (List UInt8 × Int × Int) × List (List UInt8 × Int × Int × Int × List UInt8) × List (List UInt8 × Int × Int × Int × List UInt8) × List (List UInt8 × Int × Int × Int × List UInt8)) : Int → Option (Int ⊕ (Int ⊕ Unit)) := fun s8_99 =>
  if decide (s8_99 < (↑(List.length m_1.snd.snd.snd.snd.snd) : Int)) = true then
    natOf s8_99 fun n100 =>
    bnd (m_1.snd.snd.snd.snd.snd[n100]?) fun x101 =>
    bnd (F_msg_Check_1 (x101.fst, x101.snd.fst, x101.snd.snd.fst, x101.snd.snd.snd.fst, x101.snd.snd.snd.snd)) fun v102 =>
    if v102 = true then
      grdEq m_1.fst m_1.fst <|
      grdEq m_1.snd.fst m_1.snd.fst <|
      grdEq m_1.snd.snd.fst m_1.snd.snd.fst <|
      grdEq m_1.snd.snd.snd.fst m_1.snd.snd.snd.fst <|
      grdEq m_1.snd.snd.snd.snd.fst m_1.snd.snd.snd.snd.fst <|
      grdEq m_1.snd.snd.snd.snd.snd m_1.snd.snd.snd.snd.snd <|
      some (.inr (.inl s8_99))
    else
      grdEq m_1.snd.snd.snd.snd.snd m_1.snd.snd.snd.snd.snd <|
      grdEq ((↑(List.length m_1.snd.snd.snd.snd.snd) : Int)) ((↑(List.length m_1.snd.snd.snd.snd.snd) : Int)) <|
      grdEq m_1.fst m_1.fst <|
      grdEq m_1.snd.fst m_1.snd.fst <|
      grdEq m_1.snd.snd.fst m_1.snd.snd.fst <|
      grdEq m_1.snd.snd.snd.fst m_1.snd.snd.snd.fst <|
      grdEq m_1.snd.snd.snd.snd.fst m_1.snd.snd.snd.snd.fst <|
      grdEq m_1.snd.snd.snd.snd.snd m_1.snd.snd.snd.snd.snd <|
      some (.inl (Go.IntKind.i64.wrap (s8_99 + 1)))
  else
    grdEq m_1.fst m_1.fst <|
    grdEq m_1.snd.fst m_1.snd.fst <|
    grdEq m_1.snd.snd.fst m_1.snd.snd.fst <|
    grdEq m_1.snd.snd.snd.fst m_1.snd.snd.snd.fst <|
    grdEq m_1.snd.snd.snd.snd.fst m_1.snd.snd.snd.snd.fst <|
    grdEq m_1.snd.snd.snd.snd.snd m_1.snd.snd.snd.snd.snd <|
    some (.inr (.inr (())))

def step_msg_Check_13 (m_1 : Int × Int × List (List UInt8 × Int × Int) × List (List UInt8 × Int × Int × Int × List UInt8) × List (List UInt8 × Int × Int × Int × List UInt8) × List (List UInt8 × Int × Int × Int × List UInt8)) : Int → Option (Int ⊕ (Int ⊕ Unit)) := fun s8_108 =>
  if decide (s8_108 < (↑(List.length m_1.snd.snd.fst) : Int)) = true then
    natOf s8_108 fun n109 =>
    bnd (m_1.snd.snd.fst[n109]?) fun x110 =>
    bnd (F_msg_Check_2 (x110.fst, x110.snd.fst, x110.snd.snd)) fun v111 =>
    if v111 = true then
      grdEq m_1.fst m_1.fst <|
      grdEq m_1.snd.fst m_1.snd.fst <|
      grdEq m_1.snd.snd.fst m_1.snd.snd.fst <|
      grdEq m_1.snd.snd.snd.fst m_1.snd.snd.snd.fst <|
      grdEq m_1.snd.snd.snd.snd.fst m_1.snd.snd.snd.snd.fst <|
      grdEq m_1.snd.snd.snd.snd.snd m_1.snd.snd.snd.snd.snd <|
      some (.inr (.inl s8_108))
    else
      grdEq m_1.snd.snd.fst m_1.snd.snd.fst <|
      grdEq ((↑(List.length m_1.snd.snd.fst) : Int)) ((↑(List.length m_1.snd.snd.fst) : Int)) <|
      grdEq m_1.fst m_1.fst <|
      grdEq m_1.snd.fst m_1.snd.fst <|
      grdEq m_1.snd.snd.fst m_1.snd.snd.fst <|
      grdEq m_1.snd.snd.snd.fst m_1.snd.snd.snd.fst <|
      grdEq m_1.snd.snd.snd.snd.fst m_1.snd.snd.snd.snd.fst <|
      grdEq m_1.snd.snd.snd.snd.snd m_1.snd.snd.snd.snd.snd <|
      some (.inl (Go.IntKind.i64.wrap (s8_108 + 1)))
  else
    grdEq m_1.fst m_1.fst <|
    grdEq m_1.snd.fst m_1.snd.fst <|
    grdEq m_1.snd.snd.fst m_1.snd.snd.fst <|
    grdEq m_1.snd.snd.snd.fst m_1.snd.snd.snd.fst <|
    grdEq m_1.snd.snd.snd.snd.fst m_1.snd.snd.snd.snd.fst <|
    grdEq m_1.snd.snd.snd.snd.snd m_1.snd.snd.snd.snd.snd <|
    some (.inr (.inr (())))

def step_msg_Check_14 (m_1 : Int × Int × List (List UInt8 × Int × Int) × List (List UInt8 × Int × Int × Int × List UInt8) × List (List UInt8 × Int × Int × Int × List UInt8) × List (List UInt8 × Int × Int × Int × List UInt8)) : Int → Option (Int ⊕ (Int ⊕ Unit)) := fun s8_117 =>
  if decide (s8_117 < (↑(List.length m_1.snd.snd.fst) : Int)) = true then
    natOf s8_117 fun n118 =>
    bnd (m_1.snd.snd.fst[n118]?) fun x119 =>
    bnd (F_msg_Check_2 (x119.fst, x119.snd.fst, x119.snd.snd)) fun v120 =>
    if v120 = true then
      grdEq m_1.fst m_1.fst <|
      grdEq m_1.snd.fst m_1.snd.fst <|
      grdEq m_1.snd.snd.fst m_1.snd.snd.fst <|
      grdEq m_1.snd.snd.snd.fst m_1.snd.snd.snd.fst <|
      grdEq m_1.snd.snd.snd.snd.fst m_1.snd.snd.snd.snd.fst <|
      grdEq m_1.snd.snd.snd.snd.snd m_1.snd.snd.snd.snd.snd <|
      some (.inr (.inl s8_117))
    else
      grdEq m_1.snd.snd.fst m_1.snd.snd.fst <|
      grdEq ((↑(List.length m_1.snd.snd.fst) : Int)) ((↑(List.length m_1.snd.snd.fst) : Int)) <|
      grdEq m_1.fst m_1.fst <|
      grdEq m_1.snd.fst m_1.snd.fst <|
      grdEq m_1.snd.snd.fst m_1.snd.snd.fst <|
      grdEq m_1.snd.snd.snd.fst m_1.snd.snd.snd.fst <|
      grdEq m_1.snd.snd.snd.snd.fst m_1.snd.snd.snd.snd.fst <|
      grdEq m_1.snd.snd.snd.snd.snd m_1.snd.snd.snd.snd.snd <|
      some (.inl (Go.IntKind.i64.wrap (s8_117 + 1)))
  else
    grdEq m_1.fst m_1.fst <|
    grdEq m_1.snd.fst m_1.snd.fst <|
    grdEq m_1.snd.snd.fst m_1.snd.snd.fst <|
    grdEq m_1.snd.snd.snd.fst m_1.snd.snd.snd.fst <|
    grdEq m_1.snd.snd.snd.snd.fst m_1.snd.snd.snd.snd.fst <|
    grdEq m_1.snd.snd.snd.snd.snd m_1.snd.snd.snd.snd.snd <|
    some (.inr (.inr (())))

def F_msg_Check (m_1 : (Int × (Int × (List ((List UInt8 × (Int × Int))) × (List ((List UInt8 × (Int × (Int × (Int × List UInt8))))) × (List ((List UInt8 × (Int × (Int × (Int × List UInt8))))) × List ((List UInt8 × (Int × (Int × (Int × List UInt8))))))))))) : Option (Bool) :=
  bnd (F_msg_small (↑(List.length m_1.snd.snd.snd.fst) : Int)) fun v2 =>
  if (!v2) = false then
    bnd (loopS (step_msg_Check_0 m_1) 0) fun o7 =>
    match o7 with
    | .inl s4_8 =>
      if decide (0 ≤ s4_8) = true then
        some false
      else
        bnd (F_msg_small (↑(List.length m_1.snd.snd.snd.snd.fst) : Int)) fun v9 =>
        if (!v9) = false then
          bnd (loopS (step_msg_Check_1 m_1) 0) fun o14 =>
          match o14 with
          | .inl s4_15 =>
            if decide (0 ≤ s4_15) = true then
              some false
            else
              bnd (F_msg_small (↑(List.length m_1.snd.snd.snd.snd.snd) : Int)) fun v16 =>
              if (!v16) = false then
                bnd (loopS (step_msg_Check_2 m_1) 0) fun o21 =>
                match o21 with
                | .inl s4_22 =>
                  if decide (0 ≤ s4_22) = true then
                    some false
                  else
                    bnd (F_msg_small m_1.fst) fun v23 =>
                    if v23 = true then
                      bnd (F_msg_small m_1.snd.fst) fun v24 =>
                      if v24 = true then
                        bnd (F_msg_small (↑(List.length m_1.snd.snd.fst) : Int)) fun v25 =>
                        if v25 = true then
                          bnd (loopS (step_msg_Check_3 m_1) 0) fun o30 =>
                          match o30 with
                          | .inl s4_31 =>
                            some (!decide (0 ≤ s4_31))
                          | .inr _ =>
                            some true
                        else
                          some false
                      else
                        some false
                    else
                      some false
                | .inr _ =>
                  bnd (F_msg_small m_1.fst) fun v32 =>
                  if v32 = true then
                    bnd (F_msg_small m_1.snd.fst) fun v33 =>
                    if v33 = true then
                      bnd (F_msg_small (↑(List.length m_1.snd.snd.fst) : Int)) fun v34 =>
                      if v34 = true then
                        bnd (loopS (step_msg_Check_4 m_1) 0) fun o39 =>
                        match o39 with
                        | .inl s4_40 =>
                          some (!decide (0 ≤ s4_40))
                        | .inr _ =>
                          some true
                      else
                        some false
                    else
                      some false
                  else
                    some false
              else
                some false
          | .inr _ =>
            bnd (F_msg_small (↑(List.length m_1.snd.snd.snd.snd.snd) : Int)) fun v41 =>
            if (!v41) = false then
              bnd (loopS (step_msg_Check_5 m_1) 0) fun o46 =>
              match o46 with
              | .inl s4_47 =>
                if decide (0 ≤ s4_47) = true then
                  some false
                else
                  bnd (F_msg_small m_1.fst) fun v48 =>
                  if v48 = true then
                    bnd (F_msg_small m_1.snd.fst) fun v49 =>
                    if v49 = true then
                      bnd (F_msg_small (↑(List.length m_1.snd.snd.fst) : Int)) fun v50 =>
                      if v50 = true then
                        bnd (loopS (step_msg_Check_6 m_1) 0) fun o55 =>
                        match o55 with
                        | .inl s4_56 =>
                          some (!decide (0 ≤ s4_56))
                        | .inr _ =>
                          some true
                      else
                        some false
                    else
                      some false
                  else
                    some false
              | .inr _ =>
                bnd (F_msg_small m_1.fst) fun v57 =>
                if v57 = true then
                  bnd (F_msg_small m_1.snd.fst) fun v58 =>
                  if v58 = true then
                    bnd (F_msg_small (↑(List.length m_1.snd.snd.fst) : Int)) fun v59 =>
                    if v59 = true then
                      bnd (loopS (step_msg_Check_7 m_1) 0) fun o64 =>
                      match o64 with
                      | .inl s4_65 =>
                        some (!decide (0 ≤ s4_65))
                      | .inr _ =>
                        some true
                    else
                      some false
                  else
                    some false
                else
                  some false
            else
              some false
        else
          some false
    | .inr _ =>
      bnd (F_msg_small (↑(List.length m_1.snd.snd.snd.snd.fst) : Int)) fun v66 =>
      if (!v66) = false then
        bnd (loopS (step_msg_Check_8 m_1) 0) fun o71 =>
        match o71 with
        | .inl s4_72 =>
          if decide (0 ≤ s4_72) = true then
            some false
          else
            bnd (F_msg_small (↑(List.length m_1.snd.snd.snd.snd.snd) : Int)) fun v73 =>
            if (!v73) = false then
              bnd (loopS (step_msg_Check_9 m_1) 0) fun o78 =>
              match o78 with
              | .inl s4_79 =>
                if decide (0 ≤ s4_79) = true then
                  some false
                else
                  bnd (F_msg_small m_1.fst) fun v80 =>
                  if v80 = true then
                    bnd (F_msg_small m_1.snd.fst) fun v81 =>
                    if v81 = true then
                      bnd (F_msg_small (↑(List.length m_1.snd.snd.fst) : Int)) fun v82 =>
                      if v82 = true then
                        bnd (loopS (step_msg_Check_10 m_1) 0) fun o87 =>
                        match o87 with
                        | .inl s4_88 =>
                          some (!decide (0 ≤ s4_88))
                        | .inr _ =>
                          some true
                      else
                        some false
                    else
                      some false
                  else
                    some false
              | .inr _ =>
                bnd (F_msg_small m_1.fst) fun v89 =>
                if v89 = true then
                  bnd (F_msg_small m_1.snd.fst) fun v90 =>
                  if v90 = true then
                    bnd (F_msg_small (↑(List.length m_1.snd.snd.fst) : Int)) fun v91 =>
                    if v91 = true then
                      bnd (loopS (step_msg_Check_11 m_1) 0) fun o96 =>
                      match o96 with
                      | .inl s4_97 =>
                        some (!decide (0 ≤ s4_97))
                      | .inr _ =>
                        some true
                    else
                      some false
                  else
                    some false
                else
                  some false
            else
              some false
        | .inr _ =>
          bnd (F_msg_small (↑(List.length m_1.snd.snd.snd.snd.snd) : Int)) fun v98 =>
          if (!v98) = false then
            bnd (loopS (step_msg_Check_12 m_1) 0) fun o103 =>
            match o103 with
            | .inl s4_104 =>
              if decide (0 ≤ s4_104) = true then
                some false
              else
                bnd (F_msg_small m_1.fst) fun v105 =>
                if v105 = true then
                  bnd (F_msg_small m_1.snd.fst) fun v106 =>
                  if v106 = true then
                    bnd (F_msg_small (↑(List.length m_1.snd.snd.fst) : Int)) fun v107 =>
                    if v107 = true then
                      bnd (loopS (step_msg_Check_13 m_1) 0) fun o112 =>
                      match o112 with
                      | .inl s4_113 =>
                        some (!decide (0 ≤ s4_113))
                      | .inr _ =>
                        some true
                    else
                      some false
                  else
                    some false
                else
                  some false
            | .inr _ =>
              bnd (F_msg_small m_1.fst) fun v114 =>
              if v114 = true then
                bnd (F_msg_small m_1.snd.fst) fun v115 =>
                if v115 = true then
                  bnd (F_msg_small (↑(List.length m_1.snd.snd.fst) : Int)) fun v116 =>
                  if v116 = true then
                    bnd (loopS (step_msg_Check_14 m_1) 0) fun o121 =>
                    match o121 with
                    | .inl s4_122 =>
                      some (!decide (0 ≤ s4_122))
                    | .inr _ =>
                      some true
                  else
                    some false
                else
                  some false
              else
                some false
          else
            some false
      else
        some false
  else
    some false
def ann_msg_Check : List (List Nat × Ann) := [([6], ⟨none, []⟩), ([6, 1000000], ⟨none, []⟩), ([6, 1000000, 1000000], ⟨none, []⟩), ([6, 1000000, 1000000, 1000000], ⟨none, []⟩), ([6, 1000000, 1000000, 1000000, 1000000], ⟨none, []⟩), ([6, 93, 2, 3, 67, 10, 18], ⟨some ⟨(.cons (.keep (.list tRR)) (.cons (.func 68 .nil .nil) (anyN 5 (.cons (.keep (.int .i64)) (.cons (.ty (.int .i64)) (anyN 10 .nil)))))), [.cells 43 true (.cons (.keep (.int .i64)) (.cons (.keep (.int .i64)) (.cons (.keep (.list tQ)) (.cons (.keep (.list tRR)) (.cons (.keep (.list tRR)) (.cons (.keep (.list tRR)) .nil)))))), .cells 79 true (.cons (.ptr 0 3) (.cons (.ptr 0 4) (.cons (.ptr 0 5) .nil)))], [], []⟩, [(.ret, ⟨(anyN 4 (.cons (.ty (.int .i64)) (anyN 14 .nil))), [.cells 43 true (.cons (.keep (.int .i64)) (.cons (.keep (.int .i64)) (.cons (.keep (.list tQ)) (.cons (.keep (.list tRR)) (.cons (.keep (.list tRR)) (.cons (.keep (.list tRR)) .nil)))))), .cells 79 true (.cons (.ptr 0 3) (.cons (.ptr 0 4) (.cons (.ptr 0 5) .nil)))], [], []⟩), (.exit 0, ⟨(anyN 19 .nil), [.cells 43 true (.cons (.keep (.int .i64)) (.cons (.keep (.int .i64)) (.cons (.keep (.list tQ)) (.cons (.keep (.list tRR)) (.cons (.keep (.list tRR)) (.cons (.keep (.list tRR)) .nil)))))), .cells 79 true (.cons (.ptr 0 3) (.cons (.ptr 0 4) (.cons (.ptr 0 5) .nil)))], [], []⟩)]⟩), ([6, 93, 2, 3, 67, 10, 18, 1000000], ⟨some ⟨(.cons (.keep (.list tRR)) (.cons (.func 68 .nil .nil) (anyN 5 (.cons (.keep (.int .i64)) (.cons (.ty (.int .i64)) (anyN 10 .nil)))))), [.cells 43 true (.cons (.keep (.int .i64)) (.cons (.keep (.int .i64)) (.cons (.keep (.list tQ)) (.cons (.keep (.list tRR)) (.cons (.keep (.list tRR)) (.cons (.keep (.list tRR)) .nil)))))), .cells 79 true (.cons (.ptr 0 3) (.cons (.ptr 0 4) (.cons (.ptr 0 5) .nil)))], [], []⟩, [(.ret, ⟨(anyN 4 (.cons (.ty (.int .i64)) (anyN 14 .nil))), [.cells 43 true (.cons (.keep (.int .i64)) (.cons (.keep (.int .i64)) (.cons (.keep (.list tQ)) (.cons (.keep (.list tRR)) (.cons (.keep (.list tRR)) (.cons (.keep (.list tRR)) .nil)))))), .cells 79 true (.cons (.ptr 0 3) (.cons (.ptr 0 4) (.cons (.ptr 0 5) .nil)))], [], []⟩), (.exit 0, ⟨(anyN 19 .nil), [.cells 43 true (.cons (.keep (.int .i64)) (.cons (.keep (.int .i64)) (.cons (.keep (.list tQ)) (.cons (.keep (.list tRR)) (.cons (.keep (.list tRR)) (.cons (.keep (.list tRR)) .nil)))))), .cells 79 true (.cons (.ptr 0 3) (.cons (.ptr 0 4) (.cons (.ptr 0 5) .nil)))], [], []⟩)]⟩), ([6, 93, 2, 3, 67, 10, 18, 1000000, 1000000], ⟨some ⟨(.cons (.keep (.list tRR)) (.cons (.func 68 .nil .nil) (anyN 5 (.cons (.keep (.int .i64)) (.cons (.ty (.int .i64)) (anyN 10 .nil)))))), [.cells 43 true (.cons (.keep (.int .i64)) (.cons (.keep (.int .i64)) (.cons (.keep (.list tQ)) (.cons (.keep (.list tRR)) (.cons (.keep (.list tRR)) (.cons (.keep (.list tRR)) .nil)))))), .cells 79 true (.cons (.ptr 0 3) (.cons (.ptr 0 4) (.cons (.ptr 0 5) .nil)))], [], []⟩, [(.ret, ⟨(anyN 4 (.cons (.ty (.int .i64)) (anyN 14 .nil))), [.cells 43 true (.cons (.keep (.int .i64)) (.cons (.keep (.int .i64)) (.cons (.keep (.list tQ)) (.cons (.keep (.list tRR)) (.cons (.keep (.list tRR)) (.cons (.keep (.list tRR)) .nil)))))), .cells 79 true (.cons (.ptr 0 3) (.cons (.ptr 0 4) (.cons (.ptr 0 5) .nil)))], [], []⟩), (.exit 0, ⟨(anyN 19 .nil), [.cells 43 true (.cons (.keep (.int .i64)) (.cons (.keep (.int .i64)) (.cons (.keep (.list tQ)) (.cons (.keep (.list tRR)) (.cons (.keep (.list tRR)) (.cons (.keep (.list tRR)) .nil)))))), .cells 79 true (.cons (.ptr 0 3) (.cons (.ptr 0 4) (.cons (.ptr 0 5) .nil)))], [], []⟩)]⟩), ([6, 94, 2, 3, 70, 18, 28], ⟨some ⟨(.cons (.keep (.list tQ)) (.cons (.func 69 .nil .nil) (anyN 5 (.cons (.keep (.int .i64)) (.cons (.ty (.int .i64)) (anyN 10 .nil)))))), [.cells 43 true (.cons (.keep (.int .i64)) (.cons (.keep (.int .i64)) (.cons (.keep (.list tQ)) (.cons (.keep (.list tRR)) (.cons (.keep (.list tRR)) (.cons (.keep (.list tRR)) .nil)))))), .cells 79 true (.cons (.ptr 0 3) (.cons (.ptr 0 4) (.cons (.ptr 0 5) .nil)))], [], []⟩, [(.ret, ⟨(anyN 4 (.cons (.ty (.int .i64)) (anyN 14 .nil))), [.cells 43 true (.cons (.keep (.int .i64)) (.cons (.keep (.int .i64)) (.cons (.keep (.list tQ)) (.cons (.keep (.list tRR)) (.cons (.keep (.list tRR)) (.cons (.keep (.list tRR)) .nil)))))), .cells 79 true (.cons (.ptr 0 3) (.cons (.ptr 0 4) (.cons (.ptr 0 5) .nil)))], [], []⟩), (.exit 0, ⟨(anyN 19 .nil), [.cells 43 true (.cons (.keep (.int .i64)) (.cons (.keep (.int .i64)) (.cons (.keep (.list tQ)) (.cons (.keep (.list tRR)) (.cons (.keep (.list tRR)) (.cons (.keep (.list tRR)) .nil)))))), .cells 79 true (.cons (.ptr 0 3) (.cons (.ptr 0 4) (.cons (.ptr 0 5) .nil)))], [], []⟩)]⟩)]
@[reducible] def fs_msg_Check : List (Nat × SFn) := [(68, .pure [tRR] [.bool] (fun x => F_msg_Check_1 x)), (69, .pure [tQ] [.bool] (fun x => F_msg_Check_2 x)), (66, .pure [(.int .i64)] [.bool] (fun x => F_msg_small x))]
def cfg_msg_Check : SCfg := SCfg.of (fs_msg_Check ++ inlL) ann_msg_Check keepL
theorem eq_msg_Check (x : HL [tM]) : fnK cfg_msg_Check Try.prog 100000 36 [tM] [.bool] x = (fun x => F_msg_Check x) x := by kernel_rfl
theorem told_msg_Check : Told CC Try.prog 36 [tM] [.bool] (fun x => F_msg_Check x) := told_of (gok (an := ann_msg_Check) (fs := fs_msg_Check) ⟨told_msg_Check_1, told_msg_Check_2, told_msg_small, trivial⟩) rfl rfl eq_msg_Check

/-! wellspring/wellspringlaw08.alike -/
def step_law08_alike_0 (a_1 : List (List UInt8 × Int × Int × Int × List UInt8)) (b_2 : List (List UInt8 × Int × Int × Int × List UInt8)) : Int → Option (Int ⊕ (Bool ⊕ Unit)) := fun i_3 =>
  if decide (i_3 < (↑a_1.length : Int)) = true then
    natOf i_3 fun n4 =>
    bnd (a_1[n4]?) fun x5 =>
    natOf i_3 fun n6 =>
    bnd (b_2[n6]?) fun x7 =>
    natOf i_3 fun n8 =>
    bnd (b_2[n8]?) fun x9 =>
    if (!(x7.fst == x9.fst && (x5.snd.fst == x9.snd.fst && (x5.snd.snd.fst == x9.snd.snd.fst && (x5.snd.snd.snd.fst == x9.snd.snd.snd.fst && (x5.snd.snd.snd.snd == x9.snd.snd.snd.snd && true)))))) = false then
      natOf i_3 fun n10 =>
      bnd (a_1[n10]?) fun x11 =>
      natOf i_3 fun n12 =>
      bnd (b_2[n12]?) fun x13 =>
      bnd (F_ref02_Same x11.fst x13.fst) fun v14 =>
      if (!v14) = true then
        some (.inr (.inl false))
      else
        grdEq a_1 a_1 <|
        grdEq b_2 b_2 <|
        some (.inl (Go.IntKind.i64.wrap (i_3 + 1)))
    else
      some (.inr (.inl false))
  else
    some (.inr (.inr (())))

def F_law08_alike (a_1 : List ((List UInt8 × (Int × (Int × (Int × List UInt8)))))) (b_2 : List ((List UInt8 × (Int × (Int × (Int × List UInt8)))))) : Option (Bool) :=
  if ((↑a_1.length : Int) != (↑b_2.length : Int)) = true then
    some false
  else
    bnd (loopS (step_law08_alike_0 a_1 b_2) 0) fun o15 =>
    match o15 with
    | .inl s4_16 =>
      some s4_16
    | .inr _ =>
      some true
def ann_law08_alike : List (List Nat × Ann) := [([14], ⟨some ⟨(.cons (.keep (.list tRR)) (.cons (.keep (.list tRR)) (anyN 3 (.cons (.ty (.int .i64)) (anyN 42 .nil))))), [], [], []⟩, [(.ret, ⟨(anyN 4 (.cons (.ty .bool) (anyN 43 .nil))), [], [], []⟩), (.exit 0, ⟨(anyN 48 .nil), [], [], []⟩)]⟩)]
@[reducible] def fs_law08_alike : List (Nat × SFn) := [(24, .pure [.str, .str] [.bool] (fun x => F_ref02_Same x.1 x.2))]
def cfg_law08_alike : SCfg := SCfg.of (fs_law08_alike ++ inlL) ann_law08_alike keepL
theorem eq_law08_alike (x : HL [(.list tRR), (.list tRR)]) : fnK cfg_law08_alike Try.prog 100000 39 [(.list tRR), (.list tRR)] [.bool] x = (fun x => F_law08_alike x.1 x.2) x := by kernel_rfl
theorem told_law08_alike : Told CC Try.prog 39 [(.list tRR), (.list tRR)] [.bool] (fun x => F_law08_alike x.1 x.2) := told_of (gok (an := ann_law08_alike) (fs := fs_law08_alike) ⟨told_ref02_Same, trivial⟩) rfl rfl eq_law08_alike

/-! wellspring/msg.Encode -/
def step_msg_Encode_0 (m_1 : Int × Int × List (List UInt8 × Int × Int) × List (List UInt8 × Int × Int × Int × List UInt8) × List (List UInt8 × Int × Int × Int × List UInt8) × List (List UInt8 × Int × Int × Int × List UInt8)) : (List UInt8 × (List UInt8 × Int)) → Option ((List UInt8 × (List UInt8 × Int)) ⊕ (List UInt8 × List UInt8)) := fun (s_9, base_10, s44_11) =>
  if decide (s44_11 < (↑(List.length m_1.snd.snd.fst) : Int)) = true then
    natOf s44_11 fun n12 =>
    bnd (m_1.snd.snd.fst[n12]?) fun x13 =>
    bnd (α := List UInt8) (if (s44_11 == 0) = true then
        grdEq s_9 s_9 <|
        grdEq m_1.snd.snd.fst m_1.snd.snd.fst <|
        grdEq ((↑(List.length m_1.snd.snd.fst) : Int)) ((↑(List.length m_1.snd.snd.fst) : Int)) <|
        grdEq s44_11 s44_11 <|
        grdEq m_1.fst m_1.fst <|
        grdEq m_1.snd.fst m_1.snd.fst <|
        grdEq m_1.snd.snd.fst m_1.snd.snd.fst <|
        grdEq m_1.snd.snd.snd.fst m_1.snd.snd.snd.fst <|
        grdEq m_1.snd.snd.snd.snd.fst m_1.snd.snd.snd.snd.fst <|
        grdEq m_1.snd.snd.snd.snd.snd m_1.snd.snd.snd.snd.snd <|
        grdEq x13.fst x13.fst <|
        grdEq x13.snd.fst x13.snd.fst <|
        grdEq x13.snd.snd x13.snd.snd <|
        some x13.fst
      else
        grdEq s_9 s_9 <|
        grdEq m_1.snd.snd.fst m_1.snd.snd.fst <|
        grdEq ((↑(List.length m_1.snd.snd.fst) : Int)) ((↑(List.length m_1.snd.snd.fst) : Int)) <|
        grdEq s44_11 s44_11 <|
        grdEq m_1.fst m_1.fst <|
        grdEq m_1.snd.fst m_1.snd.fst <|
        grdEq m_1.snd.snd.fst m_1.snd.snd.fst <|
        grdEq m_1.snd.snd.snd.fst m_1.snd.snd.snd.fst <|
        grdEq m_1.snd.snd.snd.snd.fst m_1.snd.snd.snd.snd.fst <|
        grdEq m_1.snd.snd.snd.snd.snd m_1.snd.snd.snd.snd.snd <|
        grdEq x13.fst x13.fst <|
        grdEq x13.snd.fst x13.snd.fst <|
        grdEq x13.snd.snd x13.snd.snd <|
        some base_10) fun base_14 =>
    bnd (F_octet_Put x13.snd.fst 2) fun v15 =>
    grd (List.length x13.fst + v15.length ≤ maxStr) <|
    bnd (F_octet_Put x13.snd.snd 2) fun v16 =>
    grd ((x13.fst ++ v15).length + v16.length ≤ maxStr) <|
    grd (s_9.length + (x13.fst ++ v15 ++ v16).length ≤ maxStr) <|
    grdEq m_1.snd.snd.fst m_1.snd.snd.fst <|
    grdEq ((↑(List.length m_1.snd.snd.fst) : Int)) ((↑(List.length m_1.snd.snd.fst) : Int)) <|
    grdEq m_1.fst m_1.fst <|
    grdEq m_1.snd.fst m_1.snd.fst <|
    grdEq m_1.snd.snd.fst m_1.snd.snd.fst <|
    grdEq m_1.snd.snd.snd.fst m_1.snd.snd.snd.fst <|
    grdEq m_1.snd.snd.snd.snd.fst m_1.snd.snd.snd.snd.fst <|
    grdEq m_1.snd.snd.snd.snd.snd m_1.snd.snd.snd.snd.snd <|
    some (.inl ((s_9 ++ (x13.fst ++ v15 ++ v16), (base_14, Go.IntKind.i64.wrap (s44_11 + 1)))))
  else
    grdEq m_1.fst m_1.fst <|
    grdEq m_1.snd.fst m_1.snd.fst <|
    grdEq m_1.snd.snd.fst m_1.snd.snd.fst <|
    grdEq m_1.snd.snd.snd.fst m_1.snd.snd.snd.fst <|
    grdEq m_1.snd.snd.snd.snd.fst m_1.snd.snd.snd.snd.fst <|
    grdEq m_1.snd.snd.snd.snd.snd m_1.snd.snd.snd.snd.snd <|
    some (.inr ((s_9, base_10)))

def step_msg_Encode_1 (m_1 : Int × Int × List (List UInt8 × Int × Int) × List (List UInt8 × Int × Int × Int × List UInt8) × List (List UInt8 × Int × Int × Int × List UInt8) × List (List UInt8 × Int × Int × Int × List UInt8)) (base_18 : List UInt8) : (List UInt8 × Int) → Option ((List UInt8 × Int) ⊕ List UInt8) := fun (s_19, s74_20) =>
  if decide (s74_20 < (↑(List.length m_1.snd.snd.snd.fst) : Int)) = true then
    natOf s74_20 fun n21 =>
    bnd (m_1.snd.snd.snd.fst[n21]?) fun x22 =>
    if decide (65535 < (↑s_19.length : Int)) = true then
      grdEq base_18 base_18 <|
      grdEq (α := Int) 0 0 <|
      grdEq m_1.fst m_1.fst <|
      grdEq m_1.snd.fst m_1.snd.fst <|
      grdEq m_1.snd.snd.fst m_1.snd.snd.fst <|
      grdEq m_1.snd.snd.snd.fst m_1.snd.snd.snd.fst <|
      grdEq m_1.snd.snd.snd.snd.fst m_1.snd.snd.snd.snd.fst <|
      grdEq m_1.snd.snd.snd.snd.snd m_1.snd.snd.snd.snd.snd <|
      some (.inr s_19)
    else
      bnd (F_record_Encode base_18 12 (x22.fst, x22.snd.fst, x22.snd.snd.fst, x22.snd.snd.snd.fst, x22.snd.snd.snd.snd)) fun v23 =>
      grd (s_19.length + v23.length ≤ maxStr) <|
      grdEq base_18 base_18 <|
      grdEq (α := Int) 0 0 <|
      grdEq m_1.snd.snd.snd.fst m_1.snd.snd.snd.fst <|
      grdEq ((↑(List.length m_1.snd.snd.snd.fst) : Int)) ((↑(List.length m_1.snd.snd.snd.fst) : Int)) <|
      grdEq m_1.fst m_1.fst <|
      grdEq m_1.snd.fst m_1.snd.fst <|
      grdEq m_1.snd.snd.fst m_1.snd.snd.fst <|
      grdEq m_1.snd.snd.snd.fst m_1.snd.snd.snd.fst <|
      grdEq m_1.snd.snd.snd.snd.fst m_1.snd.snd.snd.snd.fst <|
      grdEq m_1.snd.snd.snd.snd.snd m_1.snd.snd.snd.snd.snd <|
      some (.inl ((s_19 ++ v23, Go.IntKind.i64.wrap (s74_20 + 1))))
  else
    grdEq base_18 base_18 <|
    grdEq (α := Int) 0 0 <|
    grdEq m_1.fst m_1.fst <|
    grdEq m_1.snd.fst m_1.snd.fst <|
    grdEq m_1.snd.snd.fst m_1.snd.snd.fst <|
    grdEq m_1.snd.snd.snd.fst m_1.snd.snd.snd.fst <|
    grdEq m_1.snd.snd.snd.snd.fst m_1.snd.snd.snd.snd.fst <|
    grdEq m_1.snd.snd.snd.snd.snd m_1.snd.snd.snd.snd.snd <|
    some (.inr s_19)

def step_msg_Encode_2 (m_1 : Int × Int × List (List UInt8 × Int × Int) × List (List UInt8 × Int × Int × Int × List UInt8) × List (List UInt8 × Int × Int × Int × List UInt8) × List (List UInt8 × Int × Int × Int × List UInt8)) (base_18 : List UInt8) : (List UInt8 × Int) → Option ((List UInt8 × Int) ⊕ List UInt8) := fun (s_25, s74_26) =>
  if decide (s74_26 < (↑(List.length m_1.snd.snd.snd.snd.fst) : Int)) = true then
    natOf s74_26 fun n27 =>
    bnd (m_1.snd.snd.snd.snd.fst[n27]?) fun x28 =>
    if decide (65535 < (↑s_25.length : Int)) = true then
      grdEq base_18 base_18 <|
      grdEq (α := Int) 1 1 <|
      grdEq m_1.fst m_1.fst <|
      grdEq m_1.snd.fst m_1.snd.fst <|
      grdEq m_1.snd.snd.fst m_1.snd.snd.fst <|
      grdEq m_1.snd.snd.snd.fst m_1.snd.snd.snd.fst <|
      grdEq m_1.snd.snd.snd.snd.fst m_1.snd.snd.snd.snd.fst <|
      grdEq m_1.snd.snd.snd.snd.snd m_1.snd.snd.snd.snd.snd <|
      some (.inr s_25)
    else
      bnd (F_record_Encode base_18 12 (x28.fst, x28.snd.fst, x28.snd.snd.fst, x28.snd.snd.snd.fst, x28.snd.snd.snd.snd)) fun v29 =>
      grd (s_25.length + v29.length ≤ maxStr) <|
      grdEq base_18 base_18 <|
      grdEq (α := Int) 1 1 <|
      grdEq m_1.snd.snd.snd.snd.fst m_1.snd.snd.snd.snd.fst <|
      grdEq ((↑(List.length m_1.snd.snd.snd.snd.fst) : Int)) ((↑(List.length m_1.snd.snd.snd.snd.fst) : Int)) <|
      grdEq m_1.fst m_1.fst <|
      grdEq m_1.snd.fst m_1.snd.fst <|
      grdEq m_1.snd.snd.fst m_1.snd.snd.fst <|
      grdEq m_1.snd.snd.snd.fst m_1.snd.snd.snd.fst <|
      grdEq m_1.snd.snd.snd.snd.fst m_1.snd.snd.snd.snd.fst <|
      grdEq m_1.snd.snd.snd.snd.snd m_1.snd.snd.snd.snd.snd <|
      some (.inl ((s_25 ++ v29, Go.IntKind.i64.wrap (s74_26 + 1))))
  else
    grdEq base_18 base_18 <|
    grdEq (α := Int) 1 1 <|
    grdEq m_1.fst m_1.fst <|
    grdEq m_1.snd.fst m_1.snd.fst <|
    grdEq m_1.snd.snd.fst m_1.snd.snd.fst <|
    grdEq m_1.snd.snd.snd.fst m_1.snd.snd.snd.fst <|
    grdEq m_1.snd.snd.snd.snd.fst m_1.snd.snd.snd.snd.fst <|
    grdEq m_1.snd.snd.snd.snd.snd m_1.snd.snd.snd.snd.snd <|
    some (.inr s_25)

def step_msg_Encode_3 (m_1 : Int × Int × List (List UInt8 × Int × Int) × List (List UInt8 × Int × Int × Int × List UInt8) × List (List UInt8 × Int × Int × Int × List UInt8) × List (List UInt8 × Int × Int × Int × List UInt8)) (base_18 : List UInt8) : (List UInt8 × Int) → Option ((List UInt8 × Int) ⊕ List UInt8) := fun (s_31, s74_32) =>
  if decide (s74_32 < (↑(List.length m_1.snd.snd.snd.snd.snd) : Int)) = true then
    natOf s74_32 fun n33 =>
    bnd (m_1.snd.snd.snd.snd.snd[n33]?) fun x34 =>
    if decide (65535 < (↑s_31.length : Int)) = true then
      grdEq base_18 base_18 <|
      grdEq (α := Int) 2 2 <|
      grdEq m_1.fst m_1.fst <|
      grdEq m_1.snd.fst m_1.snd.fst <|
      grdEq m_1.snd.snd.fst m_1.snd.snd.fst <|
      grdEq m_1.snd.snd.snd.fst m_1.snd.snd.snd.fst <|
      grdEq m_1.snd.snd.snd.snd.fst m_1.snd.snd.snd.snd.fst <|
      grdEq m_1.snd.snd.snd.snd.snd m_1.snd.snd.snd.snd.snd <|
      some (.inr s_31)
    else
      bnd (F_record_Encode base_18 12 (x34.fst, x34.snd.fst, x34.snd.snd.fst, x34.snd.snd.snd.fst, x34.snd.snd.snd.snd)) fun v35 =>
      grd (s_31.length + v35.length ≤ maxStr) <|
      grdEq base_18 base_18 <|
      grdEq (α := Int) 2 2 <|
      grdEq m_1.snd.snd.snd.snd.snd m_1.snd.snd.snd.snd.snd <|
      grdEq ((↑(List.length m_1.snd.snd.snd.snd.snd) : Int)) ((↑(List.length m_1.snd.snd.snd.snd.snd) : Int)) <|
      grdEq m_1.fst m_1.fst <|
      grdEq m_1.snd.fst m_1.snd.fst <|
      grdEq m_1.snd.snd.fst m_1.snd.snd.fst <|
      grdEq m_1.snd.snd.snd.fst m_1.snd.snd.snd.fst <|
      grdEq m_1.snd.snd.snd.snd.fst m_1.snd.snd.snd.snd.fst <|
      grdEq m_1.snd.snd.snd.snd.snd m_1.snd.snd.snd.snd.snd <|
      some (.inl ((s_31 ++ v35, Go.IntKind.i64.wrap (s74_32 + 1))))
  else
    grdEq base_18 base_18 <|
    grdEq (α := Int) 2 2 <|
    grdEq m_1.fst m_1.fst <|
    grdEq m_1.snd.fst m_1.snd.fst <|
    grdEq m_1.snd.snd.fst m_1.snd.snd.fst <|
    grdEq m_1.snd.snd.snd.fst m_1.snd.snd.snd.fst <|
    grdEq m_1.snd.snd.snd.snd.fst m_1.snd.snd.snd.snd.fst <|
    grdEq m_1.snd.snd.snd.snd.snd m_1.snd.snd.snd.snd.snd <|
    some (.inr s_31)

def F_msg_Encode (m_1 : (Int × (Int × (List ((List UInt8 × (Int × Int))) × (List ((List UInt8 × (Int × (Int × (Int × List UInt8))))) × (List ((List UInt8 × (Int × (Int × (Int × List UInt8))))) × List ((List UInt8 × (Int × (Int × (Int × List UInt8))))))))))) : Option ((List UInt8 × Int)) :=
  bnd (F_msg_Check (m_1.fst, m_1.snd.fst, m_1.snd.snd.fst, m_1.snd.snd.snd.fst, m_1.snd.snd.snd.snd.fst, m_1.snd.snd.snd.snd.snd)) fun v2 =>
  if (!v2) = true then
    some (([], 1))
  else
    bnd (F_octet_Put m_1.fst 2) fun v3 =>
    bnd (F_octet_Put m_1.snd.fst 2) fun v4 =>
    grd (v3.length + v4.length ≤ maxStr) <|
    bnd (F_octet_Put (↑(List.length m_1.snd.snd.fst) : Int) 2) fun v5 =>
    grd ((v3 ++ v4).length + v5.length ≤ maxStr) <|
    bnd (F_octet_Put (↑(List.length m_1.snd.snd.snd.fst) : Int) 2) fun v6 =>
    grd ((v3 ++ v4 ++ v5).length + v6.length ≤ maxStr) <|
    bnd (F_octet_Put (↑(List.length m_1.snd.snd.snd.snd.fst) : Int) 2) fun v7 =>
    grd ((v3 ++ v4 ++ v5 ++ v6).length + v7.length ≤ maxStr) <|
    bnd (F_octet_Put (↑(List.length m_1.snd.snd.snd.snd.snd) : Int) 2) fun v8 =>
    grd ((v3 ++ v4 ++ v5 ++ v6 ++ v7).length + v8.length ≤ maxStr) <|
    bnd (loopS (step_msg_Encode_0 m_1) ((v3 ++ v4 ++ v5 ++ v6 ++ v7 ++ v8, ([0], 0)))) fun (s_17, base_18) =>
    bnd (loopS (step_msg_Encode_1 m_1 base_18) ((s_17, 0))) fun s_24 =>
    bnd (loopS (step_msg_Encode_2 m_1 base_18) ((s_24, 0))) fun s_30 =>
    bnd (loopS (step_msg_Encode_3 m_1 base_18) ((s_30, 0))) fun s_36 =>
    if decide (65535 < (↑s_36.length : Int)) = true then
      some (([], 6))
    else
      some ((s_36, 0))
def ann_msg_Encode : List (List Nat × Ann) := [([46], ⟨none, [(.normal, ⟨(anyN 1 (.cons (.ptr 0 0) (anyN 2 (.cons (.keep .str) (anyN 2 (.cons (.ty .str) (anyN 1 (.cons (.ptr 2 0) (anyN 32 (.cons (.keep (.list tQ)) (.cons (.keep (.int .i64)) (.cons (.keep (.int .i64)) (anyN 47 .nil))))))))))))), [.cells 43 true (.cons (.keep (.int .i64)) (.cons (.keep (.int .i64)) (.cons (.keep (.list tQ)) (.cons (.keep (.list tRR)) (.cons (.keep (.list tRR)) (.cons (.keep (.list tRR)) .nil)))))), .cells 79 true (.cons (.ptr 0 3) (.cons (.ptr 0 4) (.cons (.ptr 0 5) .nil))), .cells 74 true (.cons (.keep .str) (.cons (.keep (.int .i64)) (.cons (.keep (.int .i64)) .nil)))], [], []⟩)]⟩), ([16], ⟨none, []⟩), ([58], ⟨none, []⟩), ([16, 1000000], ⟨none, []⟩), ([16, 1000000, 1000000], ⟨none, []⟩), ([16, 1000000, 1000000, 1000000], ⟨none, []⟩), ([16, 1000000, 1000000, 1000000, 1000000], ⟨none, []⟩), ([58, 1000000], ⟨none, []⟩), ([58, 1000000, 1000000], ⟨none, []⟩), ([58, 1000000, 1000000, 1000000], ⟨none, []⟩), ([58, 1000000, 1000000, 1000000, 1000000], ⟨none, []⟩), ([35], ⟨some ⟨(anyN 1 (.cons (.ptr 0 0) (anyN 2 (.cons (.ty .str) (anyN 2 (.cons (.ty .str) (anyN 34 (.cons (.keep (.list tQ)) (.cons (.keep (.int .i64)) (.cons (.ty (.int .i64)) (anyN 47 .nil))))))))))), [.cells 43 true (.cons (.keep (.int .i64)) (.cons (.keep (.int .i64)) (.cons (.keep (.list tQ)) (.cons (.keep (.list tRR)) (.cons (.keep (.list tRR)) (.cons (.keep (.list tRR)) .nil)))))), .cells 79 true (.cons (.ptr 0 3) (.cons (.ptr 0 4) (.cons (.ptr 0 5) .nil)))], [], []⟩, [(.exit 2, ⟨(anyN 1 (.cons (.ptr 0 0) (anyN 2 (.cons (.ty .str) (anyN 2 (.cons (.ty .str) (anyN 84 .nil))))))), [.cells 43 true (.cons (.keep (.int .i64)) (.cons (.keep (.int .i64)) (.cons (.keep (.list tQ)) (.cons (.keep (.list tRR)) (.cons (.keep (.list tRR)) (.cons (.keep (.list tRR)) .nil)))))), .cells 79 true (.cons (.ptr 0 3) (.cons (.ptr 0 4) (.cons (.ptr 0 5) .nil)))], [], []⟩)]⟩), ([72], ⟨some ⟨(anyN 4 (.cons (.ty .str) (anyN 2 (.cons (.keep .str) (anyN 58 (.cons (.agg (.cons (.ptr 0 3) (.cons (.ptr 0 4) (.cons (.ptr 0 5) .nil)))) (.cons (.keep (.int .i64)) (anyN 4 (.cons (.keep (.list tRR)) (.cons (.keep (.int .i64)) (.cons (.ty (.int .i64)) (anyN 17 .nil)))))))))))), [.cells 43 true (.cons (.keep (.int .i64)) (.cons (.keep (.int .i64)) (.cons (.keep (.list tQ)) (.cons (.keep (.list tRR)) (.cons (.keep (.list tRR)) (.cons (.keep (.list tRR)) .nil)))))), .cells 79 true (.cons (.ptr 0 3) (.cons (.ptr 0 4) (.cons (.ptr 0 5) .nil))), .cells 79 true (.cons (.ptr 0 3) (.cons (.ptr 0 4) (.cons (.ptr 0 5) .nil)))], [], []⟩, [(.exit 6, ⟨(anyN 4 (.cons (.ty .str) (anyN 2 (.cons (.keep .str) (anyN 58 (.cons (.agg (.cons (.ptr 0 3) (.cons (.ptr 0 4) (.cons (.ptr 0 5) .nil)))) (.cons (.keep (.int .i64)) (anyN 24 .nil)))))))), [.cells 43 true (.cons (.keep (.int .i64)) (.cons (.keep (.int .i64)) (.cons (.keep (.list tQ)) (.cons (.keep (.list tRR)) (.cons (.keep (.list tRR)) (.cons (.keep (.list tRR)) .nil)))))), .cells 79 true (.cons (.ptr 0 3) (.cons (.ptr 0 4) (.cons (.ptr 0 5) .nil))), .cells 79 true (.cons (.ptr 0 3) (.cons (.ptr 0 4) (.cons (.ptr 0 5) .nil)))], [], []⟩)]⟩), ([72, 1000000], ⟨some ⟨(anyN 4 (.cons (.ty .str) (anyN 2 (.cons (.keep .str) (anyN 58 (.cons (.agg (.cons (.ptr 0 3) (.cons (.ptr 0 4) (.cons (.ptr 0 5) .nil)))) (.cons (.keep (.int .i64)) (anyN 4 (.cons (.keep (.list tRR)) (.cons (.keep (.int .i64)) (.cons (.ty (.int .i64)) (anyN 17 .nil)))))))))))), [.cells 43 true (.cons (.keep (.int .i64)) (.cons (.keep (.int .i64)) (.cons (.keep (.list tQ)) (.cons (.keep (.list tRR)) (.cons (.keep (.list tRR)) (.cons (.keep (.list tRR)) .nil)))))), .cells 79 true (.cons (.ptr 0 3) (.cons (.ptr 0 4) (.cons (.ptr 0 5) .nil))), .cells 79 true (.cons (.ptr 0 3) (.cons (.ptr 0 4) (.cons (.ptr 0 5) .nil)))], [], []⟩, [(.exit 6, ⟨(anyN 4 (.cons (.ty .str) (anyN 2 (.cons (.keep .str) (anyN 58 (.cons (.agg (.cons (.ptr 0 3) (.cons (.ptr 0 4) (.cons (.ptr 0 5) .nil)))) (.cons (.keep (.int .i64)) (anyN 24 .nil)))))))), [.cells 43 true (.cons (.keep (.int .i64)) (.cons (.keep (.int .i64)) (.cons (.keep (.list tQ)) (.cons (.keep (.list tRR)) (.cons (.keep (.list tRR)) (.cons (.keep (.list tRR)) .nil)))))), .cells 79 true (.cons (.ptr 0 3) (.cons (.ptr 0 4) (.cons (.ptr 0 5) .nil))), .cells 79 true (.cons (.ptr 0 3) (.cons (.ptr 0 4) (.cons (.ptr 0 5) .nil)))], [], []⟩)]⟩), ([72, 1000000, 1000000], ⟨some ⟨(anyN 4 (.cons (.ty .str) (anyN 2 (.cons (.keep .str) (anyN 58 (.cons (.agg (.cons (.ptr 0 3) (.cons (.ptr 0 4) (.cons (.ptr 0 5) .nil)))) (.cons (.keep (.int .i64)) (anyN 4 (.cons (.keep (.list tRR)) (.cons (.keep (.int .i64)) (.cons (.ty (.int .i64)) (anyN 17 .nil)))))))))))), [.cells 43 true (.cons (.keep (.int .i64)) (.cons (.keep (.int .i64)) (.cons (.keep (.list tQ)) (.cons (.keep (.list tRR)) (.cons (.keep (.list tRR)) (.cons (.keep (.list tRR)) .nil)))))), .cells 79 true (.cons (.ptr 0 3) (.cons (.ptr 0 4) (.cons (.ptr 0 5) .nil))), .cells 79 true (.cons (.ptr 0 3) (.cons (.ptr 0 4) (.cons (.ptr 0 5) .nil)))], [], []⟩, [(.exit 6, ⟨(anyN 4 (.cons (.ty .str) (anyN 2 (.cons (.keep .str) (anyN 58 (.cons (.agg (.cons (.ptr 0 3) (.cons (.ptr 0 4) (.cons (.ptr 0 5) .nil)))) (.cons (.keep (.int .i64)) (anyN 24 .nil)))))))), [.cells 43 true (.cons (.keep (.int .i64)) (.cons (.keep (.int .i64)) (.cons (.keep (.list tQ)) (.cons (.keep (.list tRR)) (.cons (.keep (.list tRR)) (.cons (.keep (.list tRR)) .nil)))))), .cells 79 true (.cons (.ptr 0 3) (.cons (.ptr 0 4) (.cons (.ptr 0 5) .nil))), .cells 79 true (.cons (.ptr 0 3) (.cons (.ptr 0 4) (.cons (.ptr 0 5) .nil)))], [], []⟩)]⟩)]
@[reducible] def fs_msg_Encode : List (Nat × SFn) := [(53, .pure [(.int .i64), (.int .i64)] [.str] (fun x => F_octet_Put x.1 x.2)), (19, .pure [.str, (.int .i64), tRR] [.str] (fun x => F_record_Encode x.1 x.2.1 x.2.2)), (36, .pure [tM] [.bool] (fun x => F_msg_Check x))]
def cfg_msg_Encode : SCfg := SCfg.of (fs_msg_Encode ++ inlL) ann_msg_Encode keepL
theorem eq_msg_Encode (x : HL [tM]) : fnK cfg_msg_Encode Try.prog 100000 34 [tM] [.str, (.int .i64)] x = (fun x => F_msg_Encode x) x := by kernel_rfl
theorem told_msg_Encode : Told CC Try.prog 34 [tM] [.str, (.int .i64)] (fun x => F_msg_Encode x) := told_of (gok (an := ann_msg_Encode) (fs := fs_msg_Encode) ⟨told_octet_Put, told_record_Encode, told_msg_Check, trivial⟩) rfl rfl eq_msg_Encode

end
end Go.Abs

set_option maxRecDepth 100000
namespace Go.Abs
open Go Go.Proofs
noncomputable section

/-! wellspring/wellspringlaw08.live -/
def F_law08_live : Option (Bool) :=
  bnd (F_msg_Encode (7, 33152, [([1, 97, 0], 1, 1)], [([1, 97, 0], 1, 1, 5, [97, 98, 99, 100])], [], [])) fun (v1, v2) =>
  bnd (F_msg_Decode v1) fun (v3, v4) =>
  grd (v1.length + 1 ≤ maxStr) <|
  bnd (F_msg_Decode (v1 ++ [122])) fun (v5, v6) =>
  bnd (F_msg_Decode [115, 104, 111, 114, 116]) fun (v7, v8) =>
  bnd (F_msg_Head v1) fun (v9, v10, v11) =>
  bnd (F_msg_Decode [0, 0, 0, 0, 0, 0, 0, 0, 0, 0, 0, 0]) fun (v12, v13) =>
  if ((↑v1.length : Int) == 35) = true then
    if (v2 == 0) = true then
      if (v4 == 0) = true then
        bnd (F_msg_Same (v3.fst, v3.snd.fst, v3.snd.snd.fst, v3.snd.snd.snd.fst, v3.snd.snd.snd.snd.fst, v3.snd.snd.snd.snd.snd) (7, 33152, [([1, 97, 0], 1, 1)], [([1, 97, 0], 1, 1, 5, [97, 98, 99, 100])], [], [])) fun v14 =>
        if v14 = true then
          if (v6 == 5) = true then
            if (v8 == 2) = true then
              if (v9 == 7) = true then
                if (v10 == 33152) = true then
                  if v11 = true then
                    if (v13 == 0) = true then
                      bnd (F_msg_Same (v12.fst, v12.snd.fst, v12.snd.snd.fst, v12.snd.snd.snd.fst, v12.snd.snd.snd.snd.fst, v12.snd.snd.snd.snd.snd) (0, 0, [], [], [], [])) fun v15 =>
                      if v15 = true then
                        bnd (F_msg_Check (7, 33152, [([1, 97, 0], 1, 1)], [([1, 97, 0], 1, 1, 5, [97, 98, 99, 100])], [], [])) fun v16 =>
                        if v16 = true then
                          bnd (F_msg_Check (-1, 0, [], [], [], [])) fun v17 =>
                          if (!v17) = true then
                            bnd (F_msg_Same (7, 33152, [([1, 97, 0], 1, 1)], [([1, 97, 0], 1, 1, 5, [97, 98, 99, 100])], [], []) (v12.fst, v12.snd.fst, v12.snd.snd.fst, v12.snd.snd.snd.fst, v12.snd.snd.snd.snd.fst, v12.snd.snd.snd.snd.snd)) fun v18 =>
                            some (!v18)
                          else
                            some false
                        else
                          some false
                      else
                        some false
                    else
                      some false
                  else
                    some false
                else
                  some false
              else
                some false
            else
              some false
          else
            some false
        else
          some false
      else
        some false
    else
      some false
  else
    some false
def ann_law08_live : List (List Nat × Ann) := []
@[reducible] def fs_law08_live : List (Nat × SFn) := [(34, .pure [tM] [.str, (.int .i64)] (fun x => F_msg_Encode x)), (28, .pure [.str] [tM, (.int .i64)] (fun x => F_msg_Decode x)), (30, .pure [.str] [(.int .i64), (.int .i64), .bool] (fun x => F_msg_Head x)), (38, .pure [tM, tM] [.bool] (fun x => F_msg_Same x.1 x.2)), (36, .pure [tM] [.bool] (fun x => F_msg_Check x))]
def cfg_law08_live : SCfg := SCfg.of (fs_law08_live ++ inlL) ann_law08_live keepL
theorem eq_law08_live (x : HL []) : fnK cfg_law08_live Try.prog 100000 27 [] [.bool] x = (fun x => F_law08_live) x := by kernel_rfl
theorem told_law08_live : Told CC Try.prog 27 [] [.bool] (fun x => F_law08_live) := told_of (gok (an := ann_law08_live) (fs := fs_law08_live) ⟨told_msg_Encode, told_msg_Decode, told_msg_Head, told_msg_Same, told_msg_Check, trivial⟩) rfl rfl eq_law08_live

/-! wellspring/wellspringlaw08.MsgDecodes -/
def F_law08_MsgDecodes (s_1 : List UInt8) : Option (Bool) :=
  if decide (70000 < (↑s_1.length : Int)) = true then
    bnd F_law08_live fun v2 =>
    some v2
  else
    bnd (F_msg_Decode s_1) fun (v3, v4) =>
    bnd (F_ref08_Decode s_1) fun (v5, v6) =>
    bnd (F_msg_Head s_1) fun (v7, v8, v9) =>
    bnd (F_ref08_Head s_1) fun (v10, v11, v12) =>
    bnd (F_ref08_Same (v3.fst, v3.snd.fst, v3.snd.snd.fst, v3.snd.snd.snd.fst, v3.snd.snd.snd.snd.fst, v3.snd.snd.snd.snd.snd) (v5.fst, v5.snd.fst, v5.snd.snd.fst, v5.snd.snd.snd.fst, v5.snd.snd.snd.snd.fst, v5.snd.snd.snd.snd.snd)) fun v13 =>
    if v13 = true then
      if (v4 == v6) = true then
        if (v7 == v10) = true then
          if (v8 == v11) = true then
            if (v9 == v12) = true then
              bnd F_law08_live fun v14 =>
              some v14
            else
              some false
          else
            some false
        else
          some false
      else
        some false
    else
      some false
def ann_law08_MsgDecodes : List (List Nat × Ann) := []
@[reducible] def fs_law08_MsgDecodes : List (Nat × SFn) := [(27, .pure [] [.bool] (fun x => F_law08_live)), (28, .pure [.str] [tM, (.int .i64)] (fun x => F_msg_Decode x)), (29, .pure [.str] [tM, (.int .i64)] (fun x => F_ref08_Decode x)), (30, .pure [.str] [(.int .i64), (.int .i64), .bool] (fun x => F_msg_Head x)), (31, .pure [.str] [(.int .i64), (.int .i64), .bool] (fun x => F_ref08_Head x)), (32, .pure [tM, tM] [.bool] (fun x => F_ref08_Same x.1 x.2))]
def cfg_law08_MsgDecodes : SCfg := SCfg.of (fs_law08_MsgDecodes ++ inlL) ann_law08_MsgDecodes keepL
theorem eq_law08_MsgDecodes (x : HL [.str]) : fnK cfg_law08_MsgDecodes Try.prog 100000 8 [.str] [.bool] x = (fun x => F_law08_MsgDecodes x) x := by kernel_rfl
theorem told_law08_MsgDecodes : Told CC Try.prog 8 [.str] [.bool] (fun x => F_law08_MsgDecodes x) := told_of (gok (an := ann_law08_MsgDecodes) (fs := fs_law08_MsgDecodes) ⟨told_law08_live, told_msg_Decode, told_ref08_Decode, told_msg_Head, told_ref08_Head, told_ref08_Same, trivial⟩) rfl rfl eq_law08_MsgDecodes

/-! wellspring/wellspringlaw08.MsgEncodes -/
def F_law08_MsgEncodes (m_1 : (Int × (Int × (List ((List UInt8 × (Int × Int))) × (List ((List UInt8 × (Int × (Int × (Int × List UInt8))))) × (List ((List UInt8 × (Int × (Int × (Int × List UInt8))))) × List ((List UInt8 × (Int × (Int × (Int × List UInt8))))))))))) (k_2 : (Int × (Int × (List ((List UInt8 × (Int × Int))) × (List ((List UInt8 × (Int × (Int × (Int × List UInt8))))) × (List ((List UInt8 × (Int × (Int × (Int × List UInt8))))) × List ((List UInt8 × (Int × (Int × (Int × List UInt8))))))))))) : Option (Bool) :=
  bnd (α := (Bool ⊕ Unit)) (bnd (α := Bool) (bnd (F_ref08_Small (m_1.fst, m_1.snd.fst, m_1.snd.snd.fst, m_1.snd.snd.snd.fst, m_1.snd.snd.snd.snd.fst, m_1.snd.snd.snd.snd.snd)) fun v3 =>
      if (!v3) = false then
        bnd (F_ref08_Small (k_2.fst, k_2.snd.fst, k_2.snd.snd.fst, k_2.snd.snd.snd.fst, k_2.snd.snd.snd.snd.fst, k_2.snd.snd.snd.snd.snd)) fun v4 =>
        grdEq m_1.fst m_1.fst <|
        grdEq m_1.snd.fst m_1.snd.fst <|
        grdEq m_1.snd.snd.fst m_1.snd.snd.fst <|
        grdEq m_1.snd.snd.snd.fst m_1.snd.snd.snd.fst <|
        grdEq m_1.snd.snd.snd.snd.fst m_1.snd.snd.snd.snd.fst <|
        grdEq m_1.snd.snd.snd.snd.snd m_1.snd.snd.snd.snd.snd <|
        grdEq k_2.fst k_2.fst <|
        grdEq k_2.snd.fst k_2.snd.fst <|
        grdEq k_2.snd.snd.fst k_2.snd.snd.fst <|
        grdEq k_2.snd.snd.snd.fst k_2.snd.snd.snd.fst <|
        grdEq k_2.snd.snd.snd.snd.fst k_2.snd.snd.snd.snd.fst <|
        grdEq k_2.snd.snd.snd.snd.snd k_2.snd.snd.snd.snd.snd <|
        some (!v4)
      else
        grdEq m_1.fst m_1.fst <|
        grdEq m_1.snd.fst m_1.snd.fst <|
        grdEq m_1.snd.snd.fst m_1.snd.snd.fst <|
        grdEq m_1.snd.snd.snd.fst m_1.snd.snd.snd.fst <|
        grdEq m_1.snd.snd.snd.snd.fst m_1.snd.snd.snd.snd.fst <|
        grdEq m_1.snd.snd.snd.snd.snd m_1.snd.snd.snd.snd.snd <|
        grdEq k_2.fst k_2.fst <|
        grdEq k_2.snd.fst k_2.snd.fst <|
        grdEq k_2.snd.snd.fst k_2.snd.snd.fst <|
        grdEq k_2.snd.snd.snd.fst k_2.snd.snd.snd.fst <|
        grdEq k_2.snd.snd.snd.snd.fst k_2.snd.snd.snd.snd.fst <|
        grdEq k_2.snd.snd.snd.snd.snd k_2.snd.snd.snd.snd.snd <|
        some true) fun s16_5 =>
    if s16_5 = true then
      bnd F_law08_live fun v6 =>
      grdEq m_1.fst m_1.fst <|
      grdEq m_1.snd.fst m_1.snd.fst <|
      grdEq m_1.snd.snd.fst m_1.snd.snd.fst <|
      grdEq m_1.snd.snd.snd.fst m_1.snd.snd.snd.fst <|
      grdEq m_1.snd.snd.snd.snd.fst m_1.snd.snd.snd.snd.fst <|
      grdEq m_1.snd.snd.snd.snd.snd m_1.snd.snd.snd.snd.snd <|
      grdEq k_2.fst k_2.fst <|
      grdEq k_2.snd.fst k_2.snd.fst <|
      grdEq k_2.snd.snd.fst k_2.snd.snd.fst <|
      grdEq k_2.snd.snd.snd.fst k_2.snd.snd.snd.fst <|
      grdEq k_2.snd.snd.snd.snd.fst k_2.snd.snd.snd.snd.fst <|
      grdEq k_2.snd.snd.snd.snd.snd k_2.snd.snd.snd.snd.snd <|
      some (.inl v6)
    else
      grdEq m_1.fst m_1.fst <|
      grdEq m_1.snd.fst m_1.snd.fst <|
      grdEq m_1.snd.snd.fst m_1.snd.snd.fst <|
      grdEq m_1.snd.snd.snd.fst m_1.snd.snd.snd.fst <|
      grdEq m_1.snd.snd.snd.snd.fst m_1.snd.snd.snd.snd.fst <|
      grdEq m_1.snd.snd.snd.snd.snd m_1.snd.snd.snd.snd.snd <|
      grdEq k_2.fst k_2.fst <|
      grdEq k_2.snd.fst k_2.snd.fst <|
      grdEq k_2.snd.snd.fst k_2.snd.snd.fst <|
      grdEq k_2.snd.snd.snd.fst k_2.snd.snd.snd.fst <|
      grdEq k_2.snd.snd.snd.snd.fst k_2.snd.snd.snd.snd.fst <|
      grdEq k_2.snd.snd.snd.snd.snd k_2.snd.snd.snd.snd.snd <|
      some (.inr (()))) fun o7 =>
  match o7 with
  | .inl s4_8 =>
    some s4_8
  | .inr _ =>
    bnd (F_msg_Encode (m_1.fst, m_1.snd.fst, m_1.snd.snd.fst, m_1.snd.snd.snd.fst, m_1.snd.snd.snd.snd.fst, m_1.snd.snd.snd.snd.snd)) fun (v9, v10) =>
    bnd (F_ref08_Encode (m_1.fst, m_1.snd.fst, m_1.snd.snd.fst, m_1.snd.snd.snd.fst, m_1.snd.snd.snd.snd.fst, m_1.snd.snd.snd.snd.snd)) fun (v11, v12) =>
    if (v9 == v11) = true then
      if (v10 == v12) = true then
        bnd (F_msg_Check (m_1.fst, m_1.snd.fst, m_1.snd.snd.fst, m_1.snd.snd.snd.fst, m_1.snd.snd.snd.snd.fst, m_1.snd.snd.snd.snd.snd)) fun v13 =>
        bnd (F_ref08_Check (m_1.fst, m_1.snd.fst, m_1.snd.snd.fst, m_1.snd.snd.snd.fst, m_1.snd.snd.snd.snd.fst, m_1.snd.snd.snd.snd.snd)) fun v14 =>
        if (v13 == v14) = true then
          bnd (F_msg_Same (m_1.fst, m_1.snd.fst, m_1.snd.snd.fst, m_1.snd.snd.snd.fst, m_1.snd.snd.snd.snd.fst, m_1.snd.snd.snd.snd.snd) (k_2.fst, k_2.snd.fst, k_2.snd.snd.fst, k_2.snd.snd.snd.fst, k_2.snd.snd.snd.snd.fst, k_2.snd.snd.snd.snd.snd)) fun v15 =>
          bnd (F_ref08_Same (m_1.fst, m_1.snd.fst, m_1.snd.snd.fst, m_1.snd.snd.snd.fst, m_1.snd.snd.snd.snd.fst, m_1.snd.snd.snd.snd.snd) (k_2.fst, k_2.snd.fst, k_2.snd.snd.fst, k_2.snd.snd.snd.fst, k_2.snd.snd.snd.snd.fst, k_2.snd.snd.snd.snd.snd)) fun v16 =>
          if (v15 == v16) = true then
            bnd F_law08_live fun v17 =>
            some v17
          else
            some false
        else
          some false
      else
        some false
    else
      some false
def ann_law08_MsgEncodes : List (List Nat × Ann) := [([2], ⟨none, [(.ret, ⟨(anyN 4 (.cons (.ty .bool) (anyN 50 .nil))), [.cells 43 true (.cons (.keep (.int .i64)) (.cons (.keep (.int .i64)) (.cons (.keep (.list tQ)) (.cons (.keep (.list tRR)) (.cons (.keep (.list tRR)) (.cons (.keep (.list tRR)) .nil)))))), .cells 43 true (.cons (.keep (.int .i64)) (.cons (.keep (.int .i64)) (.cons (.keep (.list tQ)) (.cons (.keep (.list tRR)) (.cons (.keep (.list tRR)) (.cons (.keep (.list tRR)) .nil))))))], [], []⟩), (.normal, ⟨(anyN 2 (.cons (.ptr 0 0) (.cons (.ptr 1 0) (anyN 51 .nil)))), [.cells 43 true (.cons (.keep (.int .i64)) (.cons (.keep (.int .i64)) (.cons (.keep (.list tQ)) (.cons (.keep (.list tRR)) (.cons (.keep (.list tRR)) (.cons (.keep (.list tRR)) .nil)))))), .cells 43 true (.cons (.keep (.int .i64)) (.cons (.keep (.int .i64)) (.cons (.keep (.list tQ)) (.cons (.keep (.list tRR)) (.cons (.keep (.list tRR)) (.cons (.keep (.list tRR)) .nil))))))], [], []⟩)]⟩), ([3], ⟨none, [(.normal, ⟨(anyN 2 (.cons (.ptr 0 0) (.cons (.ptr 1 0) (anyN 12 (.cons (.ty .bool) (anyN 38 .nil)))))), [.cells 43 true (.cons (.keep (.int .i64)) (.cons (.keep (.int .i64)) (.cons (.keep (.list tQ)) (.cons (.keep (.list tRR)) (.cons (.keep (.list tRR)) (.cons (.keep (.list tRR)) .nil)))))), .cells 43 true (.cons (.keep (.int .i64)) (.cons (.keep (.int .i64)) (.cons (.keep (.list tQ)) (.cons (.keep (.list tRR)) (.cons (.keep (.list tRR)) (.cons (.keep (.list tRR)) .nil))))))], [], []⟩)]⟩)]
@[reducible] def fs_law08_MsgEncodes : List (Nat × SFn) := [(33, .pure [tM] [.bool] (fun x => F_ref08_Small x)), (27, .pure [] [.bool] (fun x => F_law08_live)), (34, .pure [tM] [.str, (.int .i64)] (fun x => F_msg_Encode x)), (35, .pure [tM] [.str, (.int .i64)] (fun x => F_ref08_Encode x)), (36, .pure [tM] [.bool] (fun x => F_msg_Check x)), (37, .pure [tM] [.bool] (fun x => F_ref08_Check x)), (38, .pure [tM, tM] [.bool] (fun x => F_msg_Same x.1 x.2)), (32, .pure [tM, tM] [.bool] (fun x => F_ref08_Same x.1 x.2))]
def cfg_law08_MsgEncodes : SCfg := SCfg.of (fs_law08_MsgEncodes ++ inlL) ann_law08_MsgEncodes keepL
theorem eq_law08_MsgEncodes (x : HL [tM, tM]) : fnK cfg_law08_MsgEncodes Try.prog 100000 9 [tM, tM] [.bool] x = (fun x => F_law08_MsgEncodes x.1 x.2) x := by kernel_rfl
theorem told_law08_MsgEncodes : Told CC Try.prog 9 [tM, tM] [.bool] (fun x => F_law08_MsgEncodes x.1 x.2) := told_of (gok (an := ann_law08_MsgEncodes) (fs := fs_law08_MsgEncodes) ⟨told_ref08_Small, told_law08_live, told_msg_Encode, told_ref08_Encode, told_msg_Check, told_ref08_Check, told_msg_Same, told_ref08_Same, trivial⟩) rfl rfl eq_law08_MsgEncodes

/-! wellspring/wellspringlaw08.MsgBack -/
def F_law08_MsgBack (m_1 : (Int × (Int × (List ((List UInt8 × (Int × Int))) × (List ((List UInt8 × (Int × (Int × (Int × List UInt8))))) × (List ((List UInt8 × (Int × (Int × (Int × List UInt8))))) × List ((List UInt8 × (Int × (Int × (Int × List UInt8))))))))))) : Option (Bool) :=
  bnd (F_ref08_Small (m_1.fst, m_1.snd.fst, m_1.snd.snd.fst, m_1.snd.snd.snd.fst, m_1.snd.snd.snd.snd.fst, m_1.snd.snd.snd.snd.snd)) fun v2 =>
  if (!v2) = true then
    bnd F_law08_live fun v3 =>
    some v3
  else
    bnd (F_msg_Encode (m_1.fst, m_1.snd.fst, m_1.snd.snd.fst, m_1.snd.snd.snd.fst, m_1.snd.snd.snd.snd.fst, m_1.snd.snd.snd.snd.snd)) fun (v4, v5) =>
    if (v5 != 0) = true then
      if (v4 == []) = true then
        if (v5 == 6) = false then
          if (v5 == 1) = true then
            bnd (F_msg_Check (m_1.fst, m_1.snd.fst, m_1.snd.snd.fst, m_1.snd.snd.snd.fst, m_1.snd.snd.snd.snd.fst, m_1.snd.snd.snd.snd.snd)) fun v6 =>
            if (!v6) = true then
              bnd F_law08_live fun v7 =>
              some v7
            else
              some false
          else
            some false
        else
          bnd F_law08_live fun v8 =>
          some v8
      else
        some false
    else
      bnd (F_msg_Decode v4) fun (v9, v10) =>
      if (v10 == 0) = true then
        bnd (F_msg_Same (v9.fst, v9.snd.fst, v9.snd.snd.fst, m_1.snd.snd.snd.fst, m_1.snd.snd.snd.snd.fst, m_1.snd.snd.snd.snd.snd) (m_1.fst, m_1.snd.fst, m_1.snd.snd.fst, m_1.snd.snd.snd.fst, m_1.snd.snd.snd.snd.fst, m_1.snd.snd.snd.snd.snd)) fun v11 =>
        if v11 = true then
          bnd (F_law08_alike v9.snd.snd.snd.fst m_1.snd.snd.snd.fst) fun v12 =>
          if v12 = true then
            bnd (F_law08_alike v9.snd.snd.snd.snd.fst m_1.snd.snd.snd.snd.fst) fun v13 =>
            if v13 = true then
              bnd (F_law08_alike v9.snd.snd.snd.snd.snd m_1.snd.snd.snd.snd.snd) fun v14 =>
              if v14 = true then
                bnd F_law08_live fun v15 =>
                some v15
              else
                some false
            else
              some false
          else
            some false
        else
          some false
      else
        some false
def ann_law08_MsgBack : List (List Nat × Ann) := []
@[reducible] def fs_law08_MsgBack : List (Nat × SFn) := [(33, .pure [tM] [.bool] (fun x => F_ref08_Small x)), (27, .pure [] [.bool] (fun x => F_law08_live)), (34, .pure [tM] [.str, (.int .i64)] (fun x => F_msg_Encode x)), (36, .pure [tM] [.bool] (fun x => F_msg_Check x)), (28, .pure [.str] [tM, (.int .i64)] (fun x => F_msg_Decode x)), (38, .pure [tM, tM] [.bool] (fun x => F_msg_Same x.1 x.2)), (39, .pure [(.list tRR), (.list tRR)] [.bool] (fun x => F_law08_alike x.1 x.2))]
def cfg_law08_MsgBack : SCfg := SCfg.of (fs_law08_MsgBack ++ inlL) ann_law08_MsgBack keepL
theorem eq_law08_MsgBack (x : HL [tM]) : fnK cfg_law08_MsgBack Try.prog 100000 10 [tM] [.bool] x = (fun x => F_law08_MsgBack x) x := by kernel_rfl
theorem told_law08_MsgBack : Told CC Try.prog 10 [tM] [.bool] (fun x => F_law08_MsgBack x) := told_of (gok (an := ann_law08_MsgBack) (fs := fs_law08_MsgBack) ⟨told_ref08_Small, told_law08_live, told_msg_Encode, told_msg_Check, told_msg_Decode, told_msg_Same, told_law08_alike, trivial⟩) rfl rfl eq_law08_MsgBack

/-! wellspring/wellspringlaw08.MsgAgain -/
def F_law08_MsgAgain (s_1 : List UInt8) : Option (Bool) :=
  if decide (2000 < (↑s_1.length : Int)) = true then
    bnd F_law08_live fun v2 =>
    some v2
  else
    bnd (F_msg_Decode s_1) fun (v3, v4) =>
    if (v4 != 0) = true then
      bnd (F_msg_Same (v3.fst, v3.snd.fst, v3.snd.snd.fst, v3.snd.snd.snd.fst, v3.snd.snd.snd.snd.fst, v3.snd.snd.snd.snd.snd) (0, 0, [], [], [], [])) fun v5 =>
      if v5 = true then
        bnd F_law08_live fun v6 =>
        some v6
      else
        some false
    else
      bnd (F_msg_Encode (v3.fst, v3.snd.fst, v3.snd.snd.fst, v3.snd.snd.snd.fst, v3.snd.snd.snd.snd.fst, v3.snd.snd.snd.snd.snd)) fun (v7, v8) =>
      bnd (α := (Bool ⊕ Unit)) (bnd (α := Bool) (bnd (F_msg_Check (v3.fst, v3.snd.fst, v3.snd.snd.fst, v3.snd.snd.snd.fst, v3.snd.snd.snd.snd.fst, v3.snd.snd.snd.snd.snd)) fun v9 =>
          if (!v9) = false then
            grdEq v7 v7 <|
            grdEq v8 v8 <|
            grdEq v3.fst v3.fst <|
            grdEq v3.snd.fst v3.snd.fst <|
            grdEq v3.snd.snd.fst v3.snd.snd.fst <|
            grdEq v3.snd.snd.snd.fst v3.snd.snd.snd.fst <|
            grdEq v3.snd.snd.snd.snd.fst v3.snd.snd.snd.snd.fst <|
            grdEq v3.snd.snd.snd.snd.snd v3.snd.snd.snd.snd.snd <|
            some (v8 == 6)
          else
            grdEq v7 v7 <|
            grdEq v8 v8 <|
            grdEq v3.fst v3.fst <|
            grdEq v3.snd.fst v3.snd.fst <|
            grdEq v3.snd.snd.fst v3.snd.snd.fst <|
            grdEq v3.snd.snd.snd.fst v3.snd.snd.snd.fst <|
            grdEq v3.snd.snd.snd.snd.fst v3.snd.snd.snd.snd.fst <|
            grdEq v3.snd.snd.snd.snd.snd v3.snd.snd.snd.snd.snd <|
            some true) fun s37_10 =>
        if s37_10 = true then
          bnd (F_msg_Check (v3.fst, v3.snd.fst, v3.snd.snd.fst, v3.snd.snd.snd.fst, v3.snd.snd.snd.snd.fst, v3.snd.snd.snd.snd.snd)) fun v11 =>
          if v11 = true then
            bnd F_law08_live fun v12 =>
            grdEq v3.fst v3.fst <|
            grdEq v3.snd.fst v3.snd.fst <|
            grdEq v3.snd.snd.fst v3.snd.snd.fst <|
            grdEq v3.snd.snd.snd.fst v3.snd.snd.snd.fst <|
            grdEq v3.snd.snd.snd.snd.fst v3.snd.snd.snd.snd.fst <|
            grdEq v3.snd.snd.snd.snd.snd v3.snd.snd.snd.snd.snd <|
            some (.inl v12)
          else
            grdEq v3.fst v3.fst <|
            grdEq v3.snd.fst v3.snd.fst <|
            grdEq v3.snd.snd.fst v3.snd.snd.fst <|
            grdEq v3.snd.snd.snd.fst v3.snd.snd.snd.fst <|
            grdEq v3.snd.snd.snd.snd.fst v3.snd.snd.snd.snd.fst <|
            grdEq v3.snd.snd.snd.snd.snd v3.snd.snd.snd.snd.snd <|
            some (.inl false)
        else
          grdEq v7 v7 <|
          grdEq v8 v8 <|
          grdEq v3.fst v3.fst <|
          grdEq v3.snd.fst v3.snd.fst <|
          grdEq v3.snd.snd.fst v3.snd.snd.fst <|
          grdEq v3.snd.snd.snd.fst v3.snd.snd.snd.fst <|
          grdEq v3.snd.snd.snd.snd.fst v3.snd.snd.snd.snd.fst <|
          grdEq v3.snd.snd.snd.snd.snd v3.snd.snd.snd.snd.snd <|
          some (.inr (()))) fun o13 =>
      match o13 with
      | .inl s2_14 =>
        some s2_14
      | .inr _ =>
        bnd (F_msg_Decode v7) fun (v15, v16) =>
        if (v8 == 0) = true then
          if (v16 == 0) = true then
            bnd (F_law08_again (v3.fst, v3.snd.fst, v3.snd.snd.fst, v3.snd.snd.snd.fst, v3.snd.snd.snd.snd.fst, v3.snd.snd.snd.snd.snd)) fun v17 =>
            bnd (F_msg_Same (v15.fst, v15.snd.fst, v15.snd.snd.fst, v15.snd.snd.snd.fst, v15.snd.snd.snd.snd.fst, v15.snd.snd.snd.snd.snd) (v17.fst, v17.snd.fst, v17.snd.snd.fst, v17.snd.snd.snd.fst, v17.snd.snd.snd.snd.fst, v17.snd.snd.snd.snd.snd)) fun v18 =>
            if v18 = true then
              bnd F_law08_live fun v19 =>
              some v19
            else
              some false
          else
            some false
        else
          some false
def ann_law08_MsgAgain : List (List Nat × Ann) := [([22], ⟨none, [(.ret, ⟨(anyN 2 (.cons (.ty .bool) (anyN 60 .nil))), [.cells 43 true (.cons (.keep (.int .i64)) (.cons (.keep (.int .i64)) (.cons (.keep (.list tQ)) (.cons (.keep (.list tRR)) (.cons (.keep (.list tRR)) (.cons (.keep (.list tRR)) .nil))))))], [], []⟩), (.normal, ⟨(anyN 3 (.cons (.ptr 0 0) (anyN 1 (.cons (.keep .str) (.cons (.keep (.int .i64)) (anyN 56 .nil)))))), [.cells 43 true (.cons (.keep (.int .i64)) (.cons (.keep (.int .i64)) (.cons (.keep (.list tQ)) (.cons (.keep (.list tRR)) (.cons (.keep (.list tRR)) (.cons (.keep (.list tRR)) .nil))))))], [], []⟩)]⟩), ([23], ⟨none, [(.normal, ⟨(anyN 3 (.cons (.ptr 0 0) (anyN 1 (.cons (.keep .str) (.cons (.keep (.int .i64)) (anyN 30 (.cons (.ty .bool) (anyN 25 .nil)))))))), [.cells 43 true (.cons (.keep (.int .i64)) (.cons (.keep (.int .i64)) (.cons (.keep (.list tQ)) (.cons (.keep (.list tRR)) (.cons (.keep (.list tRR)) (.cons (.keep (.list tRR)) .nil))))))], [], []⟩)]⟩)]
@[reducible] def fs_law08_MsgAgain : List (Nat × SFn) := [(27, .pure [] [.bool] (fun x => F_law08_live)), (28, .pure [.str] [tM, (.int .i64)] (fun x => F_msg_Decode x)), (38, .pure [tM, tM] [.bool] (fun x => F_msg_Same x.1 x.2)), (34, .pure [tM] [.str, (.int .i64)] (fun x => F_msg_Encode x)), (36, .pure [tM] [.bool] (fun x => F_msg_Check x)), (40, .pure [tM] [tM] (fun x => F_law08_again x))]
def cfg_law08_MsgAgain : SCfg := SCfg.of (fs_law08_MsgAgain ++ inlL) ann_law08_MsgAgain keepL
theorem eq_law08_MsgAgain (x : HL [.str]) : fnK cfg_law08_MsgAgain Try.prog 100000 11 [.str] [.bool] x = (fun x => F_law08_MsgAgain x) x := by kernel_rfl
theorem told_law08_MsgAgain : Told CC Try.prog 11 [.str] [.bool] (fun x => F_law08_MsgAgain x) := told_of (gok (an := ann_law08_MsgAgain) (fs := fs_law08_MsgAgain) ⟨told_law08_live, told_msg_Decode, told_msg_Same, told_msg_Encode, told_msg_Check, told_law08_again, trivial⟩) rfl rfl eq_law08_MsgAgain

/-! wellspring/wellspringlaw08.MsgCut -/
def F_law08_MsgCut (m_1 : (Int × (Int × (List ((List UInt8 × (Int × Int))) × (List ((List UInt8 × (Int × (Int × (Int × List UInt8))))) × (List ((List UInt8 × (Int × (Int × (Int × List UInt8))))) × List ((List UInt8 × (Int × (Int × (Int × List UInt8))))))))))) (cut_2 : Int) : Option (Bool) :=
  bnd (F_ref08_Small (m_1.fst, m_1.snd.fst, m_1.snd.snd.fst, m_1.snd.snd.snd.fst, m_1.snd.snd.snd.snd.fst, m_1.snd.snd.snd.snd.snd)) fun v3 =>
  if (!v3) = true then
    bnd F_law08_live fun v4 =>
    some v4
  else
    bnd (F_msg_Encode (m_1.fst, m_1.snd.fst, m_1.snd.snd.fst, m_1.snd.snd.snd.fst, m_1.snd.snd.snd.snd.fst, m_1.snd.snd.snd.snd.snd)) fun (v5, v6) =>
    bnd (α := (Bool ⊕ Unit)) (bnd (α := Bool) (if (v6 != 0) = false then
          grdEq cut_2 cut_2 <|
          grdEq v5 v5 <|
          grdEq m_1.fst m_1.fst <|
          grdEq m_1.snd.fst m_1.snd.fst <|
          grdEq m_1.snd.snd.fst m_1.snd.snd.fst <|
          grdEq m_1.snd.snd.snd.fst m_1.snd.snd.snd.fst <|
          grdEq m_1.snd.snd.snd.snd.fst m_1.snd.snd.snd.snd.fst <|
          grdEq m_1.snd.snd.snd.snd.snd m_1.snd.snd.snd.snd.snd <|
          some (decide (2000 < (↑v5.length : Int)))
        else
          grdEq cut_2 cut_2 <|
          grdEq v5 v5 <|
          grdEq m_1.fst m_1.fst <|
          grdEq m_1.snd.fst m_1.snd.fst <|
          grdEq m_1.snd.snd.fst m_1.snd.snd.fst <|
          grdEq m_1.snd.snd.snd.fst m_1.snd.snd.snd.fst <|
          grdEq m_1.snd.snd.snd.snd.fst m_1.snd.snd.snd.snd.fst <|
          grdEq m_1.snd.snd.snd.snd.snd m_1.snd.snd.snd.snd.snd <|
          some true) fun s26_7 =>
      if s26_7 = true then
        bnd F_law08_live fun v8 =>
        grdEq m_1.fst m_1.fst <|
        grdEq m_1.snd.fst m_1.snd.fst <|
        grdEq m_1.snd.snd.fst m_1.snd.snd.fst <|
        grdEq m_1.snd.snd.snd.fst m_1.snd.snd.snd.fst <|
        grdEq m_1.snd.snd.snd.snd.fst m_1.snd.snd.snd.snd.fst <|
        grdEq m_1.snd.snd.snd.snd.snd m_1.snd.snd.snd.snd.snd <|
        some (.inl v8)
      else
        grdEq cut_2 cut_2 <|
        grdEq v5 v5 <|
        grdEq m_1.fst m_1.fst <|
        grdEq m_1.snd.fst m_1.snd.fst <|
        grdEq m_1.snd.snd.fst m_1.snd.snd.fst <|
        grdEq m_1.snd.snd.snd.fst m_1.snd.snd.snd.fst <|
        grdEq m_1.snd.snd.snd.snd.fst m_1.snd.snd.snd.snd.fst <|
        grdEq m_1.snd.snd.snd.snd.snd m_1.snd.snd.snd.snd.snd <|
        some (.inr (()))) fun o9 =>
    match o9 with
    | .inl s4_10 =>
      some s4_10
    | .inr _ =>
      grd (v5.length + 1 ≤ maxStr) <|
      bnd (F_msg_Decode (v5 ++ [0])) fun (v11, v12) =>
      if (v12 != 5) = true then
        some false
      else
        bnd (α := (Bool ⊕ Unit)) (bnd (α := Bool) (if decide (cut_2 < 0) = false then
              grdEq cut_2 cut_2 <|
              grdEq v5 v5 <|
              grdEq m_1.fst m_1.fst <|
              grdEq m_1.snd.fst m_1.snd.fst <|
              grdEq m_1.snd.snd.fst m_1.snd.snd.fst <|
              grdEq m_1.snd.snd.snd.fst m_1.snd.snd.snd.fst <|
              grdEq m_1.snd.snd.snd.snd.fst m_1.snd.snd.snd.snd.fst <|
              grdEq m_1.snd.snd.snd.snd.snd m_1.snd.snd.snd.snd.snd <|
              grdEq v11.fst v11.fst <|
              grdEq v11.snd.fst v11.snd.fst <|
              grdEq v11.snd.snd.fst v11.snd.snd.fst <|
              grdEq v11.snd.snd.snd.fst v11.snd.snd.snd.fst <|
              grdEq v11.snd.snd.snd.snd.fst v11.snd.snd.snd.snd.fst <|
              grdEq v11.snd.snd.snd.snd.snd v11.snd.snd.snd.snd.snd <|
              some (decide ((↑v5.length : Int) ≤ cut_2))
            else
              grdEq cut_2 cut_2 <|
              grdEq v5 v5 <|
              grdEq m_1.fst m_1.fst <|
              grdEq m_1.snd.fst m_1.snd.fst <|
              grdEq m_1.snd.snd.fst m_1.snd.snd.fst <|
              grdEq m_1.snd.snd.snd.fst m_1.snd.snd.snd.fst <|
              grdEq m_1.snd.snd.snd.snd.fst m_1.snd.snd.snd.snd.fst <|
              grdEq m_1.snd.snd.snd.snd.snd m_1.snd.snd.snd.snd.snd <|
              grdEq v11.fst v11.fst <|
              grdEq v11.snd.fst v11.snd.fst <|
              grdEq v11.snd.snd.fst v11.snd.snd.fst <|
              grdEq v11.snd.snd.snd.fst v11.snd.snd.snd.fst <|
              grdEq v11.snd.snd.snd.snd.fst v11.snd.snd.snd.snd.fst <|
              grdEq v11.snd.snd.snd.snd.snd v11.snd.snd.snd.snd.snd <|
              some true) fun s43_13 =>
          if s43_13 = true then
            bnd F_law08_live fun v14 =>
            grdEq m_1.fst m_1.fst <|
            grdEq m_1.snd.fst m_1.snd.fst <|
            grdEq m_1.snd.snd.fst m_1.snd.snd.fst <|
            grdEq m_1.snd.snd.snd.fst m_1.snd.snd.snd.fst <|
            grdEq m_1.snd.snd.snd.snd.fst m_1.snd.snd.snd.snd.fst <|
            grdEq m_1.snd.snd.snd.snd.snd m_1.snd.snd.snd.snd.snd <|
            grdEq v11.fst v11.fst <|
            grdEq v11.snd.fst v11.snd.fst <|
            grdEq v11.snd.snd.fst v11.snd.snd.fst <|
            grdEq v11.snd.snd.snd.fst v11.snd.snd.snd.fst <|
            grdEq v11.snd.snd.snd.snd.fst v11.snd.snd.snd.snd.fst <|
            grdEq v11.snd.snd.snd.snd.snd v11.snd.snd.snd.snd.snd <|
            some (.inl v14)
          else
            grdEq cut_2 cut_2 <|
            grdEq v5 v5 <|
            grdEq m_1.fst m_1.fst <|
            grdEq m_1.snd.fst m_1.snd.fst <|
            grdEq m_1.snd.snd.fst m_1.snd.snd.fst <|
            grdEq m_1.snd.snd.snd.fst m_1.snd.snd.snd.fst <|
            grdEq m_1.snd.snd.snd.snd.fst m_1.snd.snd.snd.snd.fst <|
            grdEq m_1.snd.snd.snd.snd.snd m_1.snd.snd.snd.snd.snd <|
            grdEq v11.fst v11.fst <|
            grdEq v11.snd.fst v11.snd.fst <|
            grdEq v11.snd.snd.fst v11.snd.snd.fst <|
            grdEq v11.snd.snd.snd.fst v11.snd.snd.snd.fst <|
            grdEq v11.snd.snd.snd.snd.fst v11.snd.snd.snd.snd.fst <|
            grdEq v11.snd.snd.snd.snd.snd v11.snd.snd.snd.snd.snd <|
            some (.inr (()))) fun o15 =>
        match o15 with
        | .inl s4_16 =>
          some s4_16
        | .inr _ =>
          natOf cut_2 fun n17 =>
          grd (n17 ≤ v5.length) <|
          bnd (F_msg_Decode (List.take n17 v5)) fun (v18, v19) =>
          if (v19 != 0) = true then
            bnd (F_msg_Same (v18.fst, v18.snd.fst, v18.snd.snd.fst, v18.snd.snd.snd.fst, v18.snd.snd.snd.snd.fst, v18.snd.snd.snd.snd.snd) (0, 0, [], [], [], [])) fun v20 =>
            if v20 = true then
              bnd F_law08_live fun v21 =>
              some v21
            else
              some false
          else
            some false
def ann_law08_MsgCut : List (List Nat × Ann) := [([12], ⟨none, [(.ret, ⟨(anyN 4 (.cons (.ty .bool) (anyN 57 .nil))), [.cells 43 true (.cons (.keep (.int .i64)) (.cons (.keep (.int .i64)) (.cons (.keep (.list tQ)) (.cons (.keep (.list tRR)) (.cons (.keep (.list tRR)) (.cons (.keep (.list tRR)) .nil))))))], [], []⟩), (.normal, ⟨(anyN 1 (.cons (.keep (.int .i64)) (anyN 3 (.cons (.keep .str) (anyN 56 .nil))))), [.cells 43 true (.cons (.keep (.int .i64)) (.cons (.keep (.int .i64)) (.cons (.keep (.list tQ)) (.cons (.keep (.list tRR)) (.cons (.keep (.list tRR)) (.cons (.keep (.list tRR)) .nil))))))], [], []⟩)]⟩), ([13], ⟨none, [(.normal, ⟨(anyN 1 (.cons (.keep (.int .i64)) (anyN 3 (.cons (.keep .str) (anyN 20 (.cons (.ty .bool) (anyN 35 .nil))))))), [.cells 43 true (.cons (.keep (.int .i64)) (.cons (.keep (.int .i64)) (.cons (.keep (.list tQ)) (.cons (.keep (.list tRR)) (.cons (.keep (.list tRR)) (.cons (.keep (.list tRR)) .nil))))))], [], []⟩)]⟩), ([30], ⟨none, [(.ret, ⟨(anyN 4 (.cons (.ty .bool) (anyN 57 .nil))), [.cells 43 true (.cons (.keep (.int .i64)) (.cons (.keep (.int .i64)) (.cons (.keep (.list tQ)) (.cons (.keep (.list tRR)) (.cons (.keep (.list tRR)) (.cons (.keep (.list tRR)) .nil)))))), .cells 43 true (.cons (.keep (.int .i64)) (.cons (.keep (.int .i64)) (.cons (.keep (.list tQ)) (.cons (.keep (.list tRR)) (.cons (.keep (.list tRR)) (.cons (.keep (.list tRR)) .nil))))))], [], []⟩), (.normal, ⟨(anyN 1 (.cons (.keep (.int .i64)) (anyN 3 (.cons (.keep .str) (anyN 56 .nil))))), [.cells 43 true (.cons (.keep (.int .i64)) (.cons (.keep (.int .i64)) (.cons (.keep (.list tQ)) (.cons (.keep (.list tRR)) (.cons (.keep (.list tRR)) (.cons (.keep (.list tRR)) .nil)))))), .cells 43 true (.cons (.keep (.int .i64)) (.cons (.keep (.int .i64)) (.cons (.keep (.list tQ)) (.cons (.keep (.list tRR)) (.cons (.keep (.list tRR)) (.cons (.keep (.list tRR)) .nil))))))], [], []⟩)]⟩), ([31], ⟨none, [(.normal, ⟨(anyN 1 (.cons (.keep (.int .i64)) (anyN 3 (.cons (.keep .str) (anyN 37 (.cons (.ty .bool) (anyN 18 .nil))))))), [.cells 43 true (.cons (.keep (.int .i64)) (.cons (.keep (.int .i64)) (.cons (.keep (.list tQ)) (.cons (.keep (.list tRR)) (.cons (.keep (.list tRR)) (.cons (.keep (.list tRR)) .nil)))))), .cells 43 true (.cons (.keep (.int .i64)) (.cons (.keep (.int .i64)) (.cons (.keep (.list tQ)) (.cons (.keep (.list tRR)) (.cons (.keep (.list tRR)) (.cons (.keep (.list tRR)) .nil))))))], [], []⟩)]⟩)]
@[reducible] def fs_law08_MsgCut : List (Nat × SFn) := [(33, .pure [tM] [.bool] (fun x => F_ref08_Small x)), (27, .pure [] [.bool] (fun x => F_law08_live)), (34, .pure [tM] [.str, (.int .i64)] (fun x => F_msg_Encode x)), (28, .pure [.str] [tM, (.int .i64)] (fun x => F_msg_Decode x)), (38, .pure [tM, tM] [.bool] (fun x => F_msg_Same x.1 x.2))]
def cfg_law08_MsgCut : SCfg := SCfg.of (fs_law08_MsgCut ++ inlL) ann_law08_MsgCut keepL
theorem eq_law08_MsgCut (x : HL [tM, (.int .i64)]) : fnK cfg_law08_MsgCut Try.prog 100000 12 [tM, (.int .i64)] [.bool] x = (fun x => F_law08_MsgCut x.1 x.2) x := by kernel_rfl
theorem told_law08_MsgCut : Told CC Try.prog 12 [tM, (.int .i64)] [.bool] (fun x => F_law08_MsgCut x.1 x.2) := told_of (gok (an := ann_law08_MsgCut) (fs := fs_law08_MsgCut) ⟨told_ref08_Small, told_law08_live, told_msg_Encode, told_msg_Decode, told_msg_Same, trivial⟩) rfl rfl eq_law08_MsgCut

end
end Go.Abs
