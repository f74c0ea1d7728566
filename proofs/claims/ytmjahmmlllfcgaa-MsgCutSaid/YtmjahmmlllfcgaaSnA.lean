/- Part of a proof: a machine of plain data, and what the functions come to on it. -/
import Derived.Test.YtmjahmmlllfcgaaSm
set_option linter.unusedSimpArgs false
set_option linter.unusedVariables false
set_option linter.unusedSectionVars false
set_option maxRecDepth 100000
namespace Go.Abs
open Go Go.Proofs
noncomputable section

@[reducible] def tRR : Ty := (.agg (.cons .str (.cons (.int .i64) (.cons (.int .i64) (.cons (.int .i64) .str)))))
@[reducible] def tQ : Ty := (.agg (.cons .str (.cons (.int .i64) (.int .i64))))
@[reducible] def tM : Ty := (.agg (.cons (.int .i64) (.cons (.int .i64) (.cons (.list tQ) (.cons (.list tRR) (.cons (.list tRR) (.list tRR)))))))

/-! wellspring/wellspringref01.Put -/
def step_ref01_Put_0 (n_1 : Int) (size_2 : Int) : (List (Int) × Int) → Option ((List (Int) × Int) ⊕ List (Int)) := fun (b_5, i_6) =>
  if decide (0 ≤ i_6) = true then
    natOf (Go.IntKind.i64.wrap (8 * i_6)) fun n7 =>
    grd ((b_5.length + [Go.IntKind.u8.wrap (Go.bits Go.BinOp.and Go.IntKind.i64 (n_1.fdiv (2 ^ min n7 64)) 255)].length) * 1 ≤ roomLim) <|
    grdEq n_1 n_1 <|
    grdEq size_2 size_2 <|
    some (.inl ((b_5 ++ [Go.IntKind.u8.wrap (Go.bits Go.BinOp.and Go.IntKind.i64 (n_1.fdiv (2 ^ min n7 64)) 255)], Go.IntKind.i64.wrap (i_6 - 1))))
  else
    grdEq n_1 n_1 <|
    grdEq size_2 size_2 <|
    some (.inr b_5)

def F_ref01_Put (n_1 : Int) (size_2 : Int) : Option (List UInt8) :=
  bnd (α := (List UInt8 ⊕ Unit)) (if decide (size_2 < 1) = false then
      if decide (4 < size_2) = false then
        if decide (n_1 < 0) = true then
          some (.inl ([]))
        else
          grdEq n_1 n_1 <|
          grdEq size_2 size_2 <|
          some (.inr (()))
      else
        some (.inl ([]))
    else
      some (.inl ([]))) fun o3 =>
  match o3 with
  | .inl s4_4 =>
    some s4_4
  | .inr _ =>
    bnd (loopS (step_ref01_Put_0 n_1 size_2) (([], Go.IntKind.i64.wrap (size_2 - 1)))) fun b_8 =>
    natOf (Go.IntKind.i64.wrap (8 * size_2)) fun n9 =>
    if decide (0 < n_1.fdiv (2 ^ min n9 64)) = true then
      some ([])
    else
      some (List.map (fun n => UInt8.ofNat (Int.toNat n)) b_8)
def ann_ref01_Put : List (List Nat × Ann) := [([2], ⟨none, [(.ret, ⟨(anyN 4 (.cons (.ty .str) (anyN 34 .nil))), [], [], []⟩), (.normal, ⟨(.cons (.keep (.int .i64)) (.cons (.keep (.int .i64)) (anyN 37 .nil))), [], [], []⟩)]⟩), ([16], ⟨some ⟨(.cons (.keep (.int .i64)) (.cons (.keep (.int .i64)) (anyN 3 (.cons (.own (.int .u8) 0 true) (.cons (.ty (.int .i64)) (anyN 32 .nil)))))), [], [⟨⟨0, (.int .u8), 5, false, false⟩, true⟩], []⟩, [(.exit 0, ⟨(.cons (.keep (.int .i64)) (.cons (.keep (.int .i64)) (anyN 3 (.cons (.own (.int .u8) 0 true) (anyN 33 .nil))))), [], [⟨⟨1, (.int .u8), 5, false, false⟩, true⟩], []⟩)]⟩)]
def cfg_ref01_Put : SCfg := SCfg.of ([] ++ inlL) ann_ref01_Put keepL
theorem eq_ref01_Put (x : HL [(.int .i64), (.int .i64)]) : fnK cfg_ref01_Put Try.prog 100000 26 [(.int .i64), (.int .i64)] [.str] x = (fun x => F_ref01_Put x.1 x.2) x := by kernel_rfl
theorem told_ref01_Put : Told CC Try.prog 26 [(.int .i64), (.int .i64)] [.str] (fun x => F_ref01_Put x.1 x.2) := told_of (gok (an := ann_ref01_Put) (fs := []) trivial) rfl rfl eq_ref01_Put

/-! wellspring/wellspringref01.Take -/
def F_ref01_Take (s_1 : List UInt8) (at_2 : Int) (size_3 : Int) : Option ((List UInt8 × Bool)) :=
  if decide (at_2 < 0) = false then
    if decide (size_3 < 0) = false then
      if decide ((↑s_1.length : Int) < at_2) = false then
        if decide (Go.IntKind.i64.wrap ((↑s_1.length : Int) - at_2) < size_3) = true then
          some (([], false))
        else
          natOf (Go.IntKind.i64.wrap (at_2 + size_3)) fun n4 =>
          grd (n4 ≤ s_1.length) <|
          natOf at_2 fun n5 =>
          grd (n5 ≤ n4) <|
          some ((List.drop n5 (List.take n4 s_1), true))
      else
        some (([], false))
    else
      some (([], false))
  else
    some (([], false))
def ann_ref01_Take : List (List Nat × Ann) := []
def cfg_ref01_Take : SCfg := SCfg.of ([] ++ inlL) ann_ref01_Take keepL
theorem eq_ref01_Take (x : HL [.str, (.int .i64), (.int .i64)]) : fnK cfg_ref01_Take Try.prog 100000 45 [.str, (.int .i64), (.int .i64)] [.str, .bool] x = (fun x => F_ref01_Take x.1 x.2.1 x.2.2) x := by kernel_rfl
theorem told_ref01_Take : Told CC Try.prog 45 [.str, (.int .i64), (.int .i64)] [.str, .bool] (fun x => F_ref01_Take x.1 x.2.1 x.2.2) := told_of (gok (an := ann_ref01_Take) (fs := []) trivial) rfl rfl eq_ref01_Take

/-! wellspring/wellspringref01.Lay -/
def F_ref01_Lay (s_1 : List UInt8) (at_2 : Int) (part_3 : List UInt8) : Option ((List UInt8 × Bool)) :=
  bnd (F_ref01_Take s_1 at_2 (↑part_3.length : Int)) fun (v4, v5) =>
  if (!v5) = true then
    some (([], false))
  else
    natOf at_2 fun n6 =>
    grd (n6 ≤ s_1.length) <|
    grd ((List.take n6 s_1).length + part_3.length ≤ maxStr) <|
    natOf (Go.IntKind.i64.wrap (at_2 + (↑part_3.length : Int))) fun n7 =>
    grd (n7 ≤ s_1.length) <|
    grd ((List.take n6 s_1 ++ part_3).length + (List.drop n7 s_1).length ≤ maxStr) <|
    some ((List.take n6 s_1 ++ part_3 ++ List.drop n7 s_1, true))
def ann_ref01_Lay : List (List Nat × Ann) := []
@[reducible] def fs_ref01_Lay : List (Nat × SFn) := [(45, .pure [.str, (.int .i64), (.int .i64)] [.str, .bool] (fun x => F_ref01_Take x.1 x.2.1 x.2.2))]
def cfg_ref01_Lay : SCfg := SCfg.of (fs_ref01_Lay ++ inlL) ann_ref01_Lay keepL
theorem eq_ref01_Lay (x : HL [.str, (.int .i64), .str]) : fnK cfg_ref01_Lay Try.prog 100000 25 [.str, (.int .i64), .str] [.str, .bool] x = (fun x => F_ref01_Lay x.1 x.2.1 x.2.2) x := by kernel_rfl
theorem told_ref01_Lay : Told CC Try.prog 25 [.str, (.int .i64), .str] [.str, .bool] (fun x => F_ref01_Lay x.1 x.2.1 x.2.2) := told_of (gok (an := ann_ref01_Lay) (fs := fs_ref01_Lay) ⟨told_ref01_Take, trivial⟩) rfl rfl eq_ref01_Lay

/-! wellspring/wellspringref01.Get -/
def step_ref01_Get_0 (size_3 : Int) (v4 : List UInt8) : (Int × Int) → Option ((Int × Int) ⊕ Int) := fun (n_9, i_10) =>
  if decide (i_10 < size_3) = true then
    natOf i_10 fun n11 =>
    bnd (v4[n11]?) fun x12 =>
    grdEq size_3 size_3 <|
    grdEq v4 v4 <|
    some (.inl ((Go.IntKind.i64.wrap (Go.IntKind.i64.wrap (256 * n_9) + Go.IntKind.i64.wrap (↑x12.toNat : Int)), Go.IntKind.i64.wrap (i_10 + 1))))
  else
    some (.inr n_9)

def F_ref01_Get (s_1 : List UInt8) (at_2 : Int) (size_3 : Int) : Option ((Int × Bool)) :=
  bnd (F_ref01_Take s_1 at_2 size_3) fun (v4, v5) =>
  bnd (α := ((Int × Bool) ⊕ Unit)) (if (!v5) = false then
      if decide (size_3 < 1) = false then
        if decide (4 < size_3) = true then
          some (.inl ((0, false)))
        else
          grdEq size_3 size_3 <|
          grdEq v4 v4 <|
          some (.inr (()))
      else
        some (.inl ((0, false)))
    else
      some (.inl ((0, false)))) fun o6 =>
  match o6 with
  | .inl (s6_7, s7_8) =>
    some ((s6_7, s7_8))
  | .inr _ =>
    bnd (loopS (step_ref01_Get_0 size_3 v4) ((0, 0))) fun n_13 =>
    some ((n_13, true))
def ann_ref01_Get : List (List Nat × Ann) := [([4], ⟨none, [(.ret, ⟨(anyN 6 (.cons (.ty (.int .i64)) (.cons (.ty .bool) (anyN 34 .nil)))), [], [], []⟩), (.normal, ⟨(anyN 2 (.cons (.keep (.int .i64)) (anyN 5 (.cons (.keep .str) (anyN 33 .nil))))), [], [], []⟩)]⟩), ([18], ⟨some ⟨(anyN 2 (.cons (.keep (.int .i64)) (anyN 5 (.cons (.keep .str) (anyN 1 (.cons (.ty (.int .i64)) (.cons (.ty (.int .i64)) (anyN 30 .nil)))))))), [], [], []⟩, [(.exit 0, ⟨(anyN 10 (.cons (.ty (.int .i64)) (anyN 31 .nil))), [], [], []⟩)]⟩)]
@[reducible] def fs_ref01_Get : List (Nat × SFn) := [(45, .pure [.str, (.int .i64), (.int .i64)] [.str, .bool] (fun x => F_ref01_Take x.1 x.2.1 x.2.2))]
def cfg_ref01_Get : SCfg := SCfg.of (fs_ref01_Get ++ inlL) ann_ref01_Get keepL
theorem eq_ref01_Get (x : HL [.str, (.int .i64), (.int .i64)]) : fnK cfg_ref01_Get Try.prog 100000 46 [.str, (.int .i64), (.int .i64)] [(.int .i64), .bool] x = (fun x => F_ref01_Get x.1 x.2.1 x.2.2) x := by kernel_rfl
theorem told_ref01_Get : Told CC Try.prog 46 [.str, (.int .i64), (.int .i64)] [(.int .i64), .bool] (fun x => F_ref01_Get x.1 x.2.1 x.2.2) := told_of (gok (an := ann_ref01_Get) (fs := fs_ref01_Get) ⟨told_ref01_Take, trivial⟩) rfl rfl eq_ref01_Get

/-! wellspring/wellspringref08.Head -/
def F_ref08_Head (s_1 : List UInt8) : Option ((Int × (Int × Bool))) :=
  if decide ((↑s_1.length : Int) < 12) = true then
    some ((0, (0, false)))
  else
    bnd (F_ref01_Get s_1 0 2) fun (v2, v3) =>
    bnd (F_ref01_Get s_1 2 2) fun (v4, v5) =>
    some ((v2, (v4, true)))
def ann_ref08_Head : List (List Nat × Ann) := []
@[reducible] def fs_ref08_Head : List (Nat × SFn) := [(46, .pure [.str, (.int .i64), (.int .i64)] [(.int .i64), .bool] (fun x => F_ref01_Get x.1 x.2.1 x.2.2))]
def cfg_ref08_Head : SCfg := SCfg.of (fs_ref08_Head ++ inlL) ann_ref08_Head keepL
theorem eq_ref08_Head (x : HL [.str]) : fnK cfg_ref08_Head Try.prog 100000 31 [.str] [(.int .i64), (.int .i64), .bool] x = (fun x => F_ref08_Head x) x := by kernel_rfl
theorem told_ref08_Head : Told CC Try.prog 31 [.str] [(.int .i64), (.int .i64), .bool] (fun x => F_ref08_Head x) := told_of (gok (an := ann_ref08_Head) (fs := fs_ref08_Head) ⟨told_ref01_Get, trivial⟩) rfl rfl eq_ref08_Head

/-! wellspring/record.in -/
def F_record_in (n_1 : Int) (most_2 : Int) : Option (Bool) :=
  if decide (0 ≤ n_1) = true then
    some (decide (n_1 ≤ most_2))
  else
    some false
def ann_record_in : List (List Nat × Ann) := []
def cfg_record_in : SCfg := SCfg.of ([] ++ inlL) ann_record_in keepL
theorem eq_record_in (x : HL [(.int .i64), (.int .i64)]) : fnK cfg_record_in Try.prog 100000 49 [(.int .i64), (.int .i64)] [.bool] x = (fun x => F_record_in x.1 x.2) x := by kernel_rfl
theorem told_record_in : Told CC Try.prog 49 [(.int .i64), (.int .i64)] [.bool] (fun x => F_record_in x.1 x.2) := told_of (gok (an := ann_record_in) (fs := []) trivial) rfl rfl eq_record_in

/-! wellspring/wellspringref02.Labels -/
def step_ref02_Labels_0 (n_1 : List UInt8) : (List (List UInt8) × Int) → Option ((List (List UInt8) × Int) ⊕ ((List (List UInt8) × Bool) ⊕ Unit)) := fun (out_4, i_5) =>
  if decide (i_5 < (↑n_1.length : Int)) = true then
    natOf i_5 fun n6 =>
    bnd (n_1[n6]?) fun x7 =>
    if (Go.IntKind.i64.wrap (↑x7.toNat : Int) == 0) = true then
      some (.inr (.inl ((out_4, i_5 == Go.IntKind.i64.wrap ((↑n_1.length : Int) - 1)))))
    else
      bnd (α := (Bool ⊕ List (List UInt8))) (if decide (63 < Go.IntKind.i64.wrap (↑x7.toNat : Int)) = false then
          if decide (Go.IntKind.i64.wrap ((↑n_1.length : Int) - i_5) ≤ Go.IntKind.i64.wrap (↑x7.toNat : Int)) = true then
            some (.inl false)
          else
            grdEq n_1 n_1 <|
            grdEq i_5 i_5 <|
            grdEq (Go.IntKind.i64.wrap (↑x7.toNat : Int)) (Go.IntKind.i64.wrap (↑x7.toNat : Int)) <|
            some (.inr out_4)
        else
          some (.inl false)) fun o8 =>
      match o8 with
      | .inl s3_9 =>
        some (.inr (.inl (([], s3_9))))
      | .inr out_10 =>
        natOf (Go.IntKind.i64.wrap (Go.IntKind.i64.wrap (i_5 + 1) + Go.IntKind.i64.wrap (↑x7.toNat : Int))) fun n11 =>
        grd (n11 ≤ n_1.length) <|
        natOf (Go.IntKind.i64.wrap (i_5 + 1)) fun n12 =>
        grd (n12 ≤ n11) <|
        grd ((out_10.length + [List.drop n12 (List.take n11 n_1)].length) * 16 ≤ roomLim) <|
        grdEq n_1 n_1 <|
        some (.inl ((out_10 ++ [List.drop n12 (List.take n11 n_1)], Go.IntKind.i64.wrap (Go.IntKind.i64.wrap (i_5 + 1) + Go.IntKind.i64.wrap (↑x7.toNat : Int)))))
  else
    some (.inr (.inr (())))

def F_ref02_Labels (n_1 : List UInt8) : Option ((List (List UInt8) × Bool)) :=
  bnd (α := (Bool ⊕ Unit)) (if decide ((↑n_1.length : Int) < 1) = false then
      if decide (255 < (↑n_1.length : Int)) = true then
        some (.inl false)
      else
        grdEq n_1 n_1 <|
        some (.inr (()))
    else
      some (.inl false)) fun o2 =>
  match o2 with
  | .inl s3_3 =>
    some (([], s3_3))
  | .inr _ =>
    bnd (loopS (step_ref02_Labels_0 n_1) (([], 0))) fun o13 =>
    match o13 with
    | .inl (s2_14, s3_15) =>
      some ((s2_14, s3_15))
    | .inr _ =>
      some (([], false))
def ann_ref02_Labels : List (List Nat × Ann) := [([4], ⟨none, [(.ret, ⟨(anyN 2 (.cons .nill (.cons (.ty .bool) (anyN 52 .nil)))), [], [], []⟩), (.normal, ⟨(.cons (.keep .str) (anyN 3 (.cons .nill (anyN 51 .nil)))), [], [], []⟩)]⟩), ([34], ⟨none, [(.ret, ⟨(anyN 2 (.cons .nill (.cons (.ty .bool) (anyN 52 .nil)))), [], [⟨⟨0, .str, 9, false, false⟩, false⟩], []⟩), (.normal, ⟨(.cons (.keep .str) (anyN 3 (.cons (.own .str 0 true) (.cons (.keep (.int .i64)) (.cons (.keep (.int .i64)) (anyN 49 .nil)))))), [], [⟨⟨0, .str, 9, false, false⟩, false⟩], []⟩)]⟩), ([16], ⟨some ⟨(.cons (.keep .str) (anyN 3 (.cons (.own .str 0 true) (.cons (.ty (.int .i64)) (anyN 50 .nil))))), [], [⟨⟨0, .str, 9, false, false⟩, true⟩], []⟩, [(.ret, ⟨(anyN 2 (.cons (.own .str 0 true) (.cons (.ty .bool) (anyN 52 .nil)))), [], [⟨⟨0, .str, 9, false, false⟩, false⟩], []⟩), (.exit 0, ⟨(anyN 56 .nil), [], [⟨⟨0, .str, 9, false, false⟩, false⟩], []⟩)]⟩)]
def cfg_ref02_Labels : SCfg := SCfg.of ([] ++ inlL) ann_ref02_Labels keepL
theorem eq_ref02_Labels (x : HL [.str]) : fnK cfg_ref02_Labels Try.prog 100000 55 [.str] [(.list .str), .bool] x = (fun x => F_ref02_Labels x) x := by kernel_rfl
theorem told_ref02_Labels : Told CC Try.prog 55 [.str] [(.list .str), .bool] (fun x => F_ref02_Labels x) := told_of (gok (an := ann_ref02_Labels) (fs := []) trivial) rfl rfl eq_ref02_Labels

/-! wellspring/wellspringref02.Check -/
def F_ref02_Check (n_1 : List UInt8) : Option (Bool) :=
  bnd (F_ref02_Labels n_1) fun (v2, v3) =>
  some v3
def ann_ref02_Check : List (List Nat × Ann) := []
@[reducible] def fs_ref02_Check : List (Nat × SFn) := [(55, .pure [.str] [(.list .str), .bool] (fun x => F_ref02_Labels x))]
def cfg_ref02_Check : SCfg := SCfg.of (fs_ref02_Check ++ inlL) ann_ref02_Check keepL
theorem eq_ref02_Check (x : HL [.str]) : fnK cfg_ref02_Check Try.prog 100000 23 [.str] [.bool] x = (fun x => F_ref02_Check x) x := by kernel_rfl
theorem told_ref02_Check : Told CC Try.prog 23 [.str] [.bool] (fun x => F_ref02_Check x) := told_of (gok (an := ann_ref02_Check) (fs := fs_ref02_Check) ⟨told_ref02_Labels, trivial⟩) rfl rfl eq_ref02_Check

/-! wellspring/wellspringref02.Small -/
def step_ref02_Small_0 : (List (Int) × Int) → Option ((List (Int) × Int) ⊕ List (Int)) := fun (b_2, i_3) =>
  if decide (i_3 < (↑b_2.length : Int)) = true then
    bnd (α := (List (Int) × Bool)) (natOf i_3 fun n4 =>
      bnd (b_2[n4]?) fun x5 =>
      if decide (65 ≤ x5) = true then
        natOf i_3 fun n6 =>
        bnd (b_2[n6]?) fun x7 =>
        grdEq i_3 i_3 <|
        some ((b_2, decide (x7 ≤ 90)))
      else
        grdEq i_3 i_3 <|
        some ((b_2, false))) fun (b_8, s24_9) =>
    if s24_9 = true then
      natOf i_3 fun n10 =>
      bnd (b_8[n10]?) fun x11 =>
      natOf i_3 fun n12 =>
      bnd (b_8[n12]?) fun x13 =>
      some (.inl ((b_8.set n12 (Go.IntKind.u8.wrap (x11 + 32)), Go.IntKind.i64.wrap (i_3 + 1))))
    else
      some (.inl ((b_8, Go.IntKind.i64.wrap (i_3 + 1))))
  else
    some (.inr b_2)

def F_ref02_Small (s_1 : List UInt8) : Option (List UInt8) :=
  bnd (loopS step_ref02_Small_0 ((List.map (fun b => (↑b.toNat : Int)) s_1, 0))) fun b_14 =>
  some (List.map (fun n => UInt8.ofNat (Int.toNat n)) b_14)
def ann_ref02_Small : List (List Nat × Ann) := [([17], ⟨none, [(.normal, ⟨(anyN 3 (.cons (.own (.int .u8) 0 true) (.cons (.keep (.int .i64)) (anyN 19 (.cons (.ty .bool) (anyN 10 .nil)))))), [], [⟨⟨0, (.int .u8), 5, true, true⟩, false⟩], [0]⟩)]⟩), ([8], ⟨some ⟨(anyN 3 (.cons (.own (.int .u8) 0 true) (.cons (.ty (.int .i64)) (anyN 30 .nil)))), [], [⟨⟨0, (.int .u8), 5, true, true⟩, false⟩], [0]⟩, [(.exit 0, ⟨(anyN 3 (.cons (.own (.int .u8) 0 true) (anyN 31 .nil))), [], [⟨⟨0, (.int .u8), 5, true, true⟩, false⟩], [0]⟩)]⟩)]
def cfg_ref02_Small : SCfg := SCfg.of ([] ++ inlL) ann_ref02_Small keepL
theorem eq_ref02_Small (x : HL [.str]) : fnK cfg_ref02_Small Try.prog 100000 56 [.str] [.str] x = (fun x => F_ref02_Small x) x := by kernel_rfl
theorem told_ref02_Small : Told CC Try.prog 56 [.str] [.str] (fun x => F_ref02_Small x) := told_of (gok (an := ann_ref02_Small) (fs := []) trivial) rfl rfl eq_ref02_Small

/-! wellspring/wellspringref02.Same -/
def F_ref02_Same (a_1 : List UInt8) (b_2 : List UInt8) : Option (Bool) :=
  bnd (F_ref02_Check a_1) fun v3 =>
  if v3 = true then
    bnd (F_ref02_Check b_2) fun v4 =>
    if v4 = true then
      bnd (F_ref02_Small a_1) fun v5 =>
      bnd (F_ref02_Small b_2) fun v6 =>
      some (v5 == v6)
    else
      some false
  else
    some false
def ann_ref02_Same : List (List Nat × Ann) := []
@[reducible] def fs_ref02_Same : List (Nat × SFn) := [(23, .pure [.str] [.bool] (fun x => F_ref02_Check x)), (56, .pure [.str] [.str] (fun x => F_ref02_Small x))]
def cfg_ref02_Same : SCfg := SCfg.of (fs_ref02_Same ++ inlL) ann_ref02_Same keepL
theorem eq_ref02_Same (x : HL [.str, .str]) : fnK cfg_ref02_Same Try.prog 100000 24 [.str, .str] [.bool] x = (fun x => F_ref02_Same x.1 x.2) x := by kernel_rfl
theorem told_ref02_Same : Told CC Try.prog 24 [.str, .str] [.bool] (fun x => F_ref02_Same x.1 x.2) := told_of (gok (an := ann_ref02_Same) (fs := fs_ref02_Same) ⟨told_ref02_Check, told_ref02_Small, trivial⟩) rfl rfl eq_ref02_Same

/-! wellspring/wellspringref06.Same -/
def step_ref06_Same_0 (a_1 : List (List UInt8 × Int × Int × Int × List UInt8)) (b_2 : List (List UInt8 × Int × Int × Int × List UInt8)) : Int → Option (Int ⊕ (Bool ⊕ Unit)) := fun i_3 =>
  if decide (i_3 < (↑a_1.length : Int)) = true then
    natOf i_3 fun n4 =>
    bnd (a_1[n4]?) fun x5 =>
    natOf i_3 fun n6 =>
    bnd (b_2[n6]?) fun x7 =>
    if (!(x5.fst == x7.fst && (x5.snd.fst == x7.snd.fst && (x5.snd.snd.fst == x7.snd.snd.fst && (x5.snd.snd.snd.fst == x7.snd.snd.snd.fst && (x5.snd.snd.snd.snd == x7.snd.snd.snd.snd && true)))))) = true then
      some (.inr (.inl false))
    else
      grdEq a_1 a_1 <|
      grdEq b_2 b_2 <|
      some (.inl (Go.IntKind.i64.wrap (i_3 + 1)))
  else
    some (.inr (.inr (())))

def F_ref06_Same (a_1 : List ((List UInt8 × (Int × (Int × (Int × List UInt8)))))) (b_2 : List ((List UInt8 × (Int × (Int × (Int × List UInt8)))))) : Option (Bool) :=
  if ((↑a_1.length : Int) != (↑b_2.length : Int)) = true then
    some false
  else
    bnd (loopS (step_ref06_Same_0 a_1 b_2) 0) fun o8 =>
    match o8 with
    | .inl s4_9 =>
      some s4_9
    | .inr _ =>
      some true
def ann_ref06_Same : List (List Nat × Ann) := [([14], ⟨some ⟨(.cons (.keep (.list tRR)) (.cons (.keep (.list tRR)) (anyN 3 (.cons (.ty (.int .i64)) (anyN 20 .nil))))), [], [], []⟩, [(.ret, ⟨(anyN 4 (.cons (.ty .bool) (anyN 21 .nil))), [], [], []⟩), (.exit 0, ⟨(anyN 26 .nil), [], [], []⟩)]⟩)]
def cfg_ref06_Same : SCfg := SCfg.of ([] ++ inlL) ann_ref06_Same keepL
theorem eq_ref06_Same (x : HL [(.list tRR), (.list tRR)]) : fnK cfg_ref06_Same Try.prog 100000 63 [(.list tRR), (.list tRR)] [.bool] x = (fun x => F_ref06_Same x.1 x.2) x := by kernel_rfl
theorem told_ref06_Same : Told CC Try.prog 63 [(.list tRR), (.list tRR)] [.bool] (fun x => F_ref06_Same x.1 x.2) := told_of (gok (an := ann_ref06_Same) (fs := []) trivial) rfl rfl eq_ref06_Same

/-! wellspring/wellspringref08.Same -/
def step_ref08_Same_0 (a_1 : Int × Int × List (List UInt8 × Int × Int) × List (List UInt8 × Int × Int × Int × List UInt8) × List (List UInt8 × Int × Int × Int × List UInt8) × List (List UInt8 × Int × Int × Int × List UInt8)) (b_2 : Int × Int × List (List UInt8 × Int × Int) × List (List UInt8 × Int × Int × Int × List UInt8) × List (List UInt8 × Int × Int × Int × List UInt8) × List (List UInt8 × Int × Int × Int × List UInt8)) : Int → Option (Int ⊕ (Bool ⊕ Unit)) := fun i_5 =>
  if decide (i_5 < (↑a_1.snd.snd.fst.length : Int)) = true then
    natOf i_5 fun n6 =>
    bnd (a_1.snd.snd.fst[n6]?) fun x7 =>
    natOf i_5 fun n8 =>
    bnd (b_2.snd.snd.fst[n8]?) fun x9 =>
    if (!(x7.fst == x9.fst && (x7.snd.fst == x9.snd.fst && (x7.snd.snd == x9.snd.snd && true)))) = true then
      grdEq a_1.fst a_1.fst <|
      grdEq a_1.snd.fst a_1.snd.fst <|
      grdEq a_1.snd.snd.fst a_1.snd.snd.fst <|
      grdEq a_1.snd.snd.snd.fst a_1.snd.snd.snd.fst <|
      grdEq a_1.snd.snd.snd.snd.fst a_1.snd.snd.snd.snd.fst <|
      grdEq a_1.snd.snd.snd.snd.snd a_1.snd.snd.snd.snd.snd <|
      grdEq b_2.fst b_2.fst <|
      grdEq b_2.snd.fst b_2.snd.fst <|
      grdEq b_2.snd.snd.fst b_2.snd.snd.fst <|
      grdEq b_2.snd.snd.snd.fst b_2.snd.snd.snd.fst <|
      grdEq b_2.snd.snd.snd.snd.fst b_2.snd.snd.snd.snd.fst <|
      grdEq b_2.snd.snd.snd.snd.snd b_2.snd.snd.snd.snd.snd <|
      some (.inr (.inl false))
    else
      grdEq a_1.fst a_1.fst <|
      grdEq a_1.snd.fst a_1.snd.fst <|
      grdEq a_1.snd.snd.fst a_1.snd.snd.fst <|
      grdEq a_1.snd.snd.snd.fst a_1.snd.snd.snd.fst <|
      grdEq a_1.snd.snd.snd.snd.fst a_1.snd.snd.snd.snd.fst <|
      grdEq a_1.snd.snd.snd.snd.snd a_1.snd.snd.snd.snd.snd <|
      grdEq b_2.fst b_2.fst <|
      grdEq b_2.snd.fst b_2.snd.fst <|
      grdEq b_2.snd.snd.fst b_2.snd.snd.fst <|
      grdEq b_2.snd.snd.snd.fst b_2.snd.snd.snd.fst <|
      grdEq b_2.snd.snd.snd.snd.fst b_2.snd.snd.snd.snd.fst <|
      grdEq b_2.snd.snd.snd.snd.snd b_2.snd.snd.snd.snd.snd <|
      some (.inl (Go.IntKind.i64.wrap (i_5 + 1)))
  else
    grdEq a_1.fst a_1.fst <|
    grdEq a_1.snd.fst a_1.snd.fst <|
    grdEq a_1.snd.snd.fst a_1.snd.snd.fst <|
    grdEq a_1.snd.snd.snd.fst a_1.snd.snd.snd.fst <|
    grdEq a_1.snd.snd.snd.snd.fst a_1.snd.snd.snd.snd.fst <|
    grdEq a_1.snd.snd.snd.snd.snd a_1.snd.snd.snd.snd.snd <|
    grdEq b_2.fst b_2.fst <|
    grdEq b_2.snd.fst b_2.snd.fst <|
    grdEq b_2.snd.snd.fst b_2.snd.snd.fst <|
    grdEq b_2.snd.snd.snd.fst b_2.snd.snd.snd.fst <|
    grdEq b_2.snd.snd.snd.snd.fst b_2.snd.snd.snd.snd.fst <|
    grdEq b_2.snd.snd.snd.snd.snd b_2.snd.snd.snd.snd.snd <|
    some (.inr (.inr (())))

def F_ref08_Same (a_1 : (Int × (Int × (List ((List UInt8 × (Int × Int))) × (List ((List UInt8 × (Int × (Int × (Int × List UInt8))))) × (List ((List UInt8 × (Int × (Int × (Int × List UInt8))))) × List ((List UInt8 × (Int × (Int × (Int × List UInt8))))))))))) (b_2 : (Int × (Int × (List ((List UInt8 × (Int × Int))) × (List ((List UInt8 × (Int × (Int × (Int × List UInt8))))) × (List ((List UInt8 × (Int × (Int × (Int × List UInt8))))) × List ((List UInt8 × (Int × (Int × (Int × List UInt8))))))))))) : Option (Bool) :=
  bnd (α := (Bool ⊕ Unit)) (if (a_1.fst != b_2.fst) = false then
      if (a_1.snd.fst != b_2.snd.fst) = false then
        if ((↑a_1.snd.snd.fst.length : Int) != (↑b_2.snd.snd.fst.length : Int)) = true then
          grdEq a_1.fst a_1.fst <|
          grdEq a_1.snd.fst a_1.snd.fst <|
          grdEq a_1.snd.snd.fst a_1.snd.snd.fst <|
          grdEq a_1.snd.snd.snd.fst a_1.snd.snd.snd.fst <|
          grdEq a_1.snd.snd.snd.snd.fst a_1.snd.snd.snd.snd.fst <|
          grdEq a_1.snd.snd.snd.snd.snd a_1.snd.snd.snd.snd.snd <|
          grdEq b_2.fst b_2.fst <|
          grdEq b_2.snd.fst b_2.snd.fst <|
          grdEq b_2.snd.snd.fst b_2.snd.snd.fst <|
          grdEq b_2.snd.snd.snd.fst b_2.snd.snd.snd.fst <|
          grdEq b_2.snd.snd.snd.snd.fst b_2.snd.snd.snd.snd.fst <|
          grdEq b_2.snd.snd.snd.snd.snd b_2.snd.snd.snd.snd.snd <|
          some (.inl false)
        else
          grdEq a_1.fst a_1.fst <|
          grdEq a_1.snd.fst a_1.snd.fst <|
          grdEq a_1.snd.snd.fst a_1.snd.snd.fst <|
          grdEq a_1.snd.snd.snd.fst a_1.snd.snd.snd.fst <|
          grdEq a_1.snd.snd.snd.snd.fst a_1.snd.snd.snd.snd.fst <|
          grdEq a_1.snd.snd.snd.snd.snd a_1.snd.snd.snd.snd.snd <|
          grdEq b_2.fst b_2.fst <|
          grdEq b_2.snd.fst b_2.snd.fst <|
          grdEq b_2.snd.snd.fst b_2.snd.snd.fst <|
          grdEq b_2.snd.snd.snd.fst b_2.snd.snd.snd.fst <|
          grdEq b_2.snd.snd.snd.snd.fst b_2.snd.snd.snd.snd.fst <|
          grdEq b_2.snd.snd.snd.snd.snd b_2.snd.snd.snd.snd.snd <|
          some (.inr (()))
      else
        grdEq a_1.fst a_1.fst <|
        grdEq a_1.snd.fst a_1.snd.fst <|
        grdEq a_1.snd.snd.fst a_1.snd.snd.fst <|
        grdEq a_1.snd.snd.snd.fst a_1.snd.snd.snd.fst <|
        grdEq a_1.snd.snd.snd.snd.fst a_1.snd.snd.snd.snd.fst <|
        grdEq a_1.snd.snd.snd.snd.snd a_1.snd.snd.snd.snd.snd <|
        grdEq b_2.fst b_2.fst <|
        grdEq b_2.snd.fst b_2.snd.fst <|
        grdEq b_2.snd.snd.fst b_2.snd.snd.fst <|
        grdEq b_2.snd.snd.snd.fst b_2.snd.snd.snd.fst <|
        grdEq b_2.snd.snd.snd.snd.fst b_2.snd.snd.snd.snd.fst <|
        grdEq b_2.snd.snd.snd.snd.snd b_2.snd.snd.snd.snd.snd <|
        some (.inl false)
    else
      grdEq a_1.fst a_1.fst <|
      grdEq a_1.snd.fst a_1.snd.fst <|
      grdEq a_1.snd.snd.fst a_1.snd.snd.fst <|
      grdEq a_1.snd.snd.snd.fst a_1.snd.snd.snd.fst <|
      grdEq a_1.snd.snd.snd.snd.fst a_1.snd.snd.snd.snd.fst <|
      grdEq a_1.snd.snd.snd.snd.snd a_1.snd.snd.snd.snd.snd <|
      grdEq b_2.fst b_2.fst <|
      grdEq b_2.snd.fst b_2.snd.fst <|
      grdEq b_2.snd.snd.fst b_2.snd.snd.fst <|
      grdEq b_2.snd.snd.snd.fst b_2.snd.snd.snd.fst <|
      grdEq b_2.snd.snd.snd.snd.fst b_2.snd.snd.snd.snd.fst <|
      grdEq b_2.snd.snd.snd.snd.snd b_2.snd.snd.snd.snd.snd <|
      some (.inl false)) fun o3 =>
  match o3 with
  | .inl s4_4 =>
    some s4_4
  | .inr _ =>
    bnd (loopS (step_ref08_Same_0 a_1 b_2) 0) fun o10 =>
    match o10 with
    | .inl s4_11 =>
      some s4_11
    | .inr _ =>
      bnd (F_ref06_Same a_1.snd.snd.snd.fst b_2.snd.snd.snd.fst) fun v12 =>
      if v12 = true then
        bnd (F_ref06_Same a_1.snd.snd.snd.snd.fst b_2.snd.snd.snd.snd.fst) fun v13 =>
        if v13 = true then
          bnd (F_ref06_Same a_1.snd.snd.snd.snd.snd b_2.snd.snd.snd.snd.snd) fun v14 =>
          some v14
        else
          some false
      else
        some false
def ann_ref08_Same : List (List Nat × Ann) := [([2], ⟨none, [(.ret, ⟨(anyN 4 (.cons (.ty .bool) (anyN 59 .nil))), [.cells 43 true (.cons (.keep (.int .i64)) (.cons (.keep (.int .i64)) (.cons (.keep (.list tQ)) (.cons (.keep (.list tRR)) (.cons (.keep (.list tRR)) (.cons (.keep (.list tRR)) .nil)))))), .cells 43 true (.cons (.keep (.int .i64)) (.cons (.keep (.int .i64)) (.cons (.keep (.list tQ)) (.cons (.keep (.list tRR)) (.cons (.keep (.list tRR)) (.cons (.keep (.list tRR)) .nil))))))], [], []⟩), (.normal, ⟨(anyN 2 (.cons (.ptr 0 0) (.cons (.ptr 1 0) (anyN 60 .nil)))), [.cells 43 true (.cons (.keep (.int .i64)) (.cons (.keep (.int .i64)) (.cons (.keep (.list tQ)) (.cons (.keep (.list tRR)) (.cons (.keep (.list tRR)) (.cons (.keep (.list tRR)) .nil)))))), .cells 43 true (.cons (.keep (.int .i64)) (.cons (.keep (.int .i64)) (.cons (.keep (.list tQ)) (.cons (.keep (.list tRR)) (.cons (.keep (.list tRR)) (.cons (.keep (.list tRR)) .nil))))))], [], []⟩)]⟩), ([14], ⟨some ⟨(anyN 2 (.cons (.ptr 0 0) (.cons (.ptr 1 0) (anyN 1 (.cons (.ty (.int .i64)) (anyN 58 .nil)))))), [.cells 43 true (.cons (.keep (.int .i64)) (.cons (.keep (.int .i64)) (.cons (.keep (.list tQ)) (.cons (.keep (.list tRR)) (.cons (.keep (.list tRR)) (.cons (.keep (.list tRR)) .nil)))))), .cells 43 true (.cons (.keep (.int .i64)) (.cons (.keep (.int .i64)) (.cons (.keep (.list tQ)) (.cons (.keep (.list tRR)) (.cons (.keep (.list tRR)) (.cons (.keep (.list tRR)) .nil))))))], [], []⟩, [(.ret, ⟨(anyN 4 (.cons (.ty .bool) (anyN 59 .nil))), [.cells 43 true (.cons (.keep (.int .i64)) (.cons (.keep (.int .i64)) (.cons (.keep (.list tQ)) (.cons (.keep (.list tRR)) (.cons (.keep (.list tRR)) (.cons (.keep (.list tRR)) .nil)))))), .cells 43 true (.cons (.keep (.int .i64)) (.cons (.keep (.int .i64)) (.cons (.keep (.list tQ)) (.cons (.keep (.list tRR)) (.cons (.keep (.list tRR)) (.cons (.keep (.list tRR)) .nil))))))], [], []⟩), (.exit 0, ⟨(anyN 2 (.cons (.ptr 0 0) (.cons (.ptr 1 0) (anyN 60 .nil)))), [.cells 43 true (.cons (.keep (.int .i64)) (.cons (.keep (.int .i64)) (.cons (.keep (.list tQ)) (.cons (.keep (.list tRR)) (.cons (.keep (.list tRR)) (.cons (.keep (.list tRR)) .nil)))))), .cells 43 true (.cons (.keep (.int .i64)) (.cons (.keep (.int .i64)) (.cons (.keep (.list tQ)) (.cons (.keep (.list tRR)) (.cons (.keep (.list tRR)) (.cons (.keep (.list tRR)) .nil))))))], [], []⟩)]⟩)]
@[reducible] def fs_ref08_Same : List (Nat × SFn) := [(63, .pure [(.list tRR), (.list tRR)] [.bool] (fun x => F_ref06_Same x.1 x.2))]
def cfg_ref08_Same : SCfg := SCfg.of (fs_ref08_Same ++ inlL) ann_ref08_Same keepL
theorem eq_ref08_Same (x : HL [tM, tM]) : fnK cfg_ref08_Same Try.prog 100000 32 [tM, tM] [.bool] x = (fun x => F_ref08_Same x.1 x.2) x := by kernel_rfl
theorem told_ref08_Same : Told CC Try.prog 32 [tM, tM] [.bool] (fun x => F_ref08_Same x.1 x.2) := told_of (gok (an := ann_ref08_Same) (fs := fs_ref08_Same) ⟨told_ref06_Same, trivial⟩) rfl rfl eq_ref08_Same

/-! wellspring/wellspringref08.few -/
def step_ref08_few_0 (l_1 : List (List UInt8 × Int × Int × Int × List UInt8)) : Int → Option (Int ⊕ (Bool ⊕ Unit)) := fun i_2 =>
  if decide (i_2 < (↑l_1.length : Int)) = true then
    natOf i_2 fun n3 =>
    bnd (l_1[n3]?) fun x4 =>
    if decide (300 < (↑(List.length x4.fst) : Int)) = false then
      natOf i_2 fun n5 =>
      bnd (l_1[n5]?) fun x6 =>
      if decide (70000 < (↑(List.length x6.snd.snd.snd.snd) : Int)) = true then
        some (.inr (.inl false))
      else
        grdEq l_1 l_1 <|
        some (.inl (Go.IntKind.i64.wrap (i_2 + 1)))
    else
      some (.inr (.inl false))
  else
    some (.inr (.inr (())))

def F_ref08_few (l_1 : List ((List UInt8 × (Int × (Int × (Int × List UInt8)))))) : Option (Bool) :=
  bnd (loopS (step_ref08_few_0 l_1) 0) fun o7 =>
  match o7 with
  | .inl s2_8 =>
    some s2_8
  | .inr _ =>
    some true
def ann_ref08_few : List (List Nat × Ann) := [([6], ⟨some ⟨(.cons (.keep (.list tRR)) (anyN 2 (.cons (.ty (.int .i64)) (anyN 22 .nil)))), [], [], []⟩, [(.ret, ⟨(anyN 2 (.cons (.ty .bool) (anyN 23 .nil))), [], [], []⟩), (.exit 0, ⟨(anyN 26 .nil), [], [], []⟩)]⟩)]
def cfg_ref08_few : SCfg := SCfg.of ([] ++ inlL) ann_ref08_few keepL
theorem eq_ref08_few (x : HL [(.list tRR)]) : fnK cfg_ref08_few Try.prog 100000 64 [(.list tRR)] [.bool] x = (fun x => F_ref08_few x) x := by kernel_rfl
theorem told_ref08_few : Told CC Try.prog 64 [(.list tRR)] [.bool] (fun x => F_ref08_few x) := told_of (gok (an := ann_ref08_few) (fs := []) trivial) rfl rfl eq_ref08_few

/-! wellspring/wellspringref08.Small -/
def step_ref08_Small_0 (m_1 : Int × Int × List (List UInt8 × Int × Int) × List (List UInt8 × Int × Int × Int × List UInt8) × List (List UInt8 × Int × Int × Int × List UInt8) × List (List UInt8 × Int × Int × Int × List UInt8)) : Int → Option (Int ⊕ (Bool ⊕ Unit)) := fun i_2 =>
  if decide (i_2 < (↑m_1.snd.snd.fst.length : Int)) = true then
    natOf i_2 fun n3 =>
    bnd (m_1.snd.snd.fst[n3]?) fun x4 =>
    if decide (300 < (↑(List.length x4.fst) : Int)) = true then
      grdEq m_1.fst m_1.fst <|
      grdEq m_1.snd.fst m_1.snd.fst <|
      grdEq m_1.snd.snd.fst m_1.snd.snd.fst <|
      grdEq m_1.snd.snd.snd.fst m_1.snd.snd.snd.fst <|
      grdEq m_1.snd.snd.snd.snd.fst m_1.snd.snd.snd.snd.fst <|
      grdEq m_1.snd.snd.snd.snd.snd m_1.snd.snd.snd.snd.snd <|
      some (.inr (.inl false))
    else
      grdEq m_1.fst m_1.fst <|
      grdEq m_1.snd.fst m_1.snd.fst <|
      grdEq m_1.snd.snd.fst m_1.snd.snd.fst <|
      grdEq m_1.snd.snd.snd.fst m_1.snd.snd.snd.fst <|
      grdEq m_1.snd.snd.snd.snd.fst m_1.snd.snd.snd.snd.fst <|
      grdEq m_1.snd.snd.snd.snd.snd m_1.snd.snd.snd.snd.snd <|
      some (.inl (Go.IntKind.i64.wrap (i_2 + 1)))
  else
    grdEq m_1.fst m_1.fst <|
    grdEq m_1.snd.fst m_1.snd.fst <|
    grdEq m_1.snd.snd.fst m_1.snd.snd.fst <|
    grdEq m_1.snd.snd.snd.fst m_1.snd.snd.snd.fst <|
    grdEq m_1.snd.snd.snd.snd.fst m_1.snd.snd.snd.snd.fst <|
    grdEq m_1.snd.snd.snd.snd.snd m_1.snd.snd.snd.snd.snd <|
    some (.inr (.inr (())))

def F_ref08_Small (m_1 : (Int × (Int × (List ((List UInt8 × (Int × Int))) × (List ((List UInt8 × (Int × (Int × (Int × List UInt8))))) × (List ((List UInt8 × (Int × (Int × (Int × List UInt8))))) × List ((List UInt8 × (Int × (Int × (Int × List UInt8))))))))))) : Option (Bool) :=
  if decide (200 < Go.IntKind.i64.wrap (Go.IntKind.i64.wrap (Go.IntKind.i64.wrap ((↑m_1.snd.snd.fst.length : Int) + (↑m_1.snd.snd.snd.fst.length : Int)) + (↑m_1.snd.snd.snd.snd.fst.length : Int)) + (↑m_1.snd.snd.snd.snd.snd.length : Int))) = true then
    some false
  else
    bnd (loopS (step_ref08_Small_0 m_1) 0) fun o5 =>
    match o5 with
    | .inl s2_6 =>
      some s2_6
    | .inr _ =>
      bnd (F_ref08_few m_1.snd.snd.snd.fst) fun v7 =>
      if v7 = true then
        bnd (F_ref08_few m_1.snd.snd.snd.snd.fst) fun v8 =>
        if v8 = true then
          bnd (F_ref08_few m_1.snd.snd.snd.snd.snd) fun v9 =>
          some v9
        else
          some false
      else
        some false
def ann_ref08_Small : List (List Nat × Ann) := [([16], ⟨some ⟨(anyN 1 (.cons (.ptr 0 0) (anyN 2 (.cons (.ty (.int .i64)) (anyN 45 .nil))))), [.cells 43 true (.cons (.keep (.int .i64)) (.cons (.keep (.int .i64)) (.cons (.keep (.list tQ)) (.cons (.keep (.list tRR)) (.cons (.keep (.list tRR)) (.cons (.keep (.list tRR)) .nil))))))], [], []⟩, [(.ret, ⟨(anyN 2 (.cons (.ty .bool) (anyN 47 .nil))), [.cells 43 true (.cons (.keep (.int .i64)) (.cons (.keep (.int .i64)) (.cons (.keep (.list tQ)) (.cons (.keep (.list tRR)) (.cons (.keep (.list tRR)) (.cons (.keep (.list tRR)) .nil))))))], [], []⟩), (.exit 0, ⟨(anyN 1 (.cons (.ptr 0 0) (anyN 48 .nil))), [.cells 43 true (.cons (.keep (.int .i64)) (.cons (.keep (.int .i64)) (.cons (.keep (.list tQ)) (.cons (.keep (.list tRR)) (.cons (.keep (.list tRR)) (.cons (.keep (.list tRR)) .nil))))))], [], []⟩)]⟩)]
@[reducible] def fs_ref08_Small : List (Nat × SFn) := [(64, .pure [(.list tRR)] [.bool] (fun x => F_ref08_few x))]
def cfg_ref08_Small : SCfg := SCfg.of (fs_ref08_Small ++ inlL) ann_ref08_Small keepL
theorem eq_ref08_Small (x : HL [tM]) : fnK cfg_ref08_Small Try.prog 100000 33 [tM] [.bool] x = (fun x => F_ref08_Small x) x := by kernel_rfl
theorem told_ref08_Small : Told CC Try.prog 33 [tM] [.bool] (fun x => F_ref08_Small x) := told_of (gok (an := ann_ref08_Small) (fs := fs_ref08_Small) ⟨told_ref08_few, trivial⟩) rfl rfl eq_ref08_Small

/-! wellspring/wellspringref08.Base -/
def F_ref08_Base (m_1 : (Int × (Int × (List ((List UInt8 × (Int × Int))) × (List ((List UInt8 × (Int × (Int × (Int × List UInt8))))) × (List ((List UInt8 × (Int × (Int × (Int × List UInt8))))) × List ((List UInt8 × (Int × (Int × (Int × List UInt8))))))))))) : Option (List UInt8) :=
  if decide (0 < (↑m_1.snd.snd.fst.length : Int)) = true then
    bnd (m_1.snd.snd.fst[0]?) fun x2 =>
    some x2.fst
  else
    some ([0])
def ann_ref08_Base : List (List Nat × Ann) := []
def cfg_ref08_Base : SCfg := SCfg.of ([] ++ inlL) ann_ref08_Base keepL
theorem eq_ref08_Base (x : HL [tM]) : fnK cfg_ref08_Base Try.prog 100000 65 [tM] [.str] x = (fun x => F_ref08_Base x) x := by kernel_rfl
theorem told_ref08_Base : Told CC Try.prog 65 [tM] [.str] (fun x => F_ref08_Base x) := told_of (gok (an := ann_ref08_Base) (fs := []) trivial) rfl rfl eq_ref08_Base

/-! wellspring/msg.small -/
def F_msg_small (n_1 : Int) : Option (Bool) :=
  if decide (0 ≤ n_1) = true then
    some (decide (n_1 ≤ 65535))
  else
    some false
def ann_msg_small : List (List Nat × Ann) := []
def cfg_msg_small : SCfg := SCfg.of ([] ++ inlL) ann_msg_small keepL
theorem eq_msg_small (x : HL [(.int .i64)]) : fnK cfg_msg_small Try.prog 100000 66 [(.int .i64)] [.bool] x = (fun x => F_msg_small x) x := by kernel_rfl
theorem told_msg_small : Told CC Try.prog 66 [(.int .i64)] [.bool] (fun x => F_msg_small x) := told_of (gok (an := ann_msg_small) (fs := []) trivial) rfl rfl eq_msg_small

/-! wellspring/wellspringref08.small -/
def F_ref08_small (n_1 : Int) : Option (Bool) :=
  if decide (0 ≤ n_1) = true then
    some (decide (n_1 ≤ 65535))
  else
    some false
def ann_ref08_small : List (List Nat × Ann) := []
def cfg_ref08_small : SCfg := SCfg.of ([] ++ inlL) ann_ref08_small keepL
theorem eq_ref08_small (x : HL [(.int .i64)]) : fnK cfg_ref08_small Try.prog 100000 71 [(.int .i64)] [.bool] x = (fun x => F_ref08_small x) x := by kernel_rfl
theorem told_ref08_small : Told CC Try.prog 71 [(.int .i64)] [.bool] (fun x => F_ref08_small x) := told_of (gok (an := ann_ref08_small) (fs := []) trivial) rfl rfl eq_ref08_small

/-! slices.Equal[[]wellspring/api.RR,wellspring/api.RR] -/
def step_slices_Equal_api_RR_0 (s1_1 : List (List UInt8 × Int × Int × Int × List UInt8)) (s2_2 : List (List UInt8 × Int × Int × Int × List UInt8)) : Int → Option (Int ⊕ (Bool ⊕ Unit)) := fun s13_3 =>
  if decide (s13_3 < (↑s1_1.length : Int)) = true then
    natOf s13_3 fun n4 =>
    bnd (s1_1[n4]?) fun x5 =>
    natOf s13_3 fun n6 =>
    bnd (s2_2[n6]?) fun x7 =>
    if (!(x5.fst == x7.fst && (x5.snd.fst == x7.snd.fst && (x5.snd.snd.fst == x7.snd.snd.fst && (x5.snd.snd.snd.fst == x7.snd.snd.snd.fst && (x5.snd.snd.snd.snd == x7.snd.snd.snd.snd && true)))))) = true then
      some (.inr (.inl false))
    else
      grdEq s1_1 s1_1 <|
      grdEq s2_2 s2_2 <|
      grdEq ((↑s1_1.length : Int)) ((↑s1_1.length : Int)) <|
      some (.inl (Go.IntKind.i64.wrap (s13_3 + 1)))
  else
    some (.inr (.inr (())))

def F_slices_Equal_api_RR (s1_1 : List ((List UInt8 × (Int × (Int × (Int × List UInt8)))))) (s2_2 : List ((List UInt8 × (Int × (Int × (Int × List UInt8)))))) : Option (Bool) :=
  if ((↑s1_1.length : Int) != (↑s2_2.length : Int)) = true then
    some false
  else
    bnd (loopS (step_slices_Equal_api_RR_0 s1_1 s2_2) 0) fun o8 =>
    match o8 with
    | .inl s4_9 =>
      some s4_9
    | .inr _ =>
      some true
def ann_slices_Equal_api_RR : List (List Nat × Ann) := [([14], ⟨some ⟨(.cons (.keep (.list tRR)) (.cons (.keep (.list tRR)) (anyN 10 (.cons (.keep (.int .i64)) (.cons (.ty (.int .i64)) (anyN 12 .nil)))))), [], [], []⟩, [(.ret, ⟨(anyN 4 (.cons (.ty .bool) (anyN 21 .nil))), [], [], []⟩), (.exit 0, ⟨(anyN 26 .nil), [], [], []⟩)]⟩)]
def cfg_slices_Equal_api_RR : SCfg := SCfg.of ([] ++ inlL) ann_slices_Equal_api_RR keepL
theorem eq_slices_Equal_api_RR (x : HL [(.list tRR), (.list tRR)]) : fnK cfg_slices_Equal_api_RR Try.prog 100000 73 [(.list tRR), (.list tRR)] [.bool] x = (fun x => F_slices_Equal_api_RR x.1 x.2) x := by kernel_rfl
theorem told_slices_Equal_api_RR : Told CC Try.prog 73 [(.list tRR), (.list tRR)] [.bool] (fun x => F_slices_Equal_api_RR x.1 x.2) := told_of (gok (an := ann_slices_Equal_api_RR) (fs := []) trivial) rfl rfl eq_slices_Equal_api_RR

/-! slices.Equal[[]wellspring/api.Question,wellspring/api.Question] -/
def step_slices_Equal_api_Question_0 (s1_1 : List (List UInt8 × Int × Int)) (s2_2 : List (List UInt8 × Int × Int)) : Int → Option (Int ⊕ (Bool ⊕ Unit)) := fun s13_3 =>
  if decide (s13_3 < (↑s1_1.length : Int)) = true then
    natOf s13_3 fun n4 =>
    bnd (s1_1[n4]?) fun x5 =>
    natOf s13_3 fun n6 =>
    bnd (s2_2[n6]?) fun x7 =>
    if (!(x5.fst == x7.fst && (x5.snd.fst == x7.snd.fst && (x5.snd.snd == x7.snd.snd && true)))) = true then
      some (.inr (.inl false))
    else
      grdEq s1_1 s1_1 <|
      grdEq s2_2 s2_2 <|
      grdEq ((↑s1_1.length : Int)) ((↑s1_1.length : Int)) <|
      some (.inl (Go.IntKind.i64.wrap (s13_3 + 1)))
  else
    some (.inr (.inr (())))

def F_slices_Equal_api_Question (s1_1 : List ((List UInt8 × (Int × Int)))) (s2_2 : List ((List UInt8 × (Int × Int)))) : Option (Bool) :=
  if ((↑s1_1.length : Int) != (↑s2_2.length : Int)) = true then
    some false
  else
    bnd (loopS (step_slices_Equal_api_Question_0 s1_1 s2_2) 0) fun o8 =>
    match o8 with
    | .inl s4_9 =>
      some s4_9
    | .inr _ =>
      some true
def ann_slices_Equal_api_Question : List (List Nat × Ann) := [([14], ⟨some ⟨(.cons (.keep (.list tQ)) (.cons (.keep (.list tQ)) (anyN 10 (.cons (.keep (.int .i64)) (.cons (.ty (.int .i64)) (anyN 12 .nil)))))), [], [], []⟩, [(.ret, ⟨(anyN 4 (.cons (.ty .bool) (anyN 21 .nil))), [], [], []⟩), (.exit 0, ⟨(anyN 26 .nil), [], [], []⟩)]⟩)]
def cfg_slices_Equal_api_Question : SCfg := SCfg.of ([] ++ inlL) ann_slices_Equal_api_Question keepL
theorem eq_slices_Equal_api_Question (x : HL [(.list tQ), (.list tQ)]) : fnK cfg_slices_Equal_api_Question Try.prog 100000 74 [(.list tQ), (.list tQ)] [.bool] x = (fun x => F_slices_Equal_api_Question x.1 x.2) x := by kernel_rfl
theorem told_slices_Equal_api_Question : Told CC Try.prog 74 [(.list tQ), (.list tQ)] [.bool] (fun x => F_slices_Equal_api_Question x.1 x.2) := told_of (gok (an := ann_slices_Equal_api_Question) (fs := []) trivial) rfl rfl eq_slices_Equal_api_Question

/-! wellspring/octet.Take -/
def F_octet_Take (s_1 : List UInt8) (at_2 : Int) (size_3 : Int) : Option ((List UInt8 × Bool)) :=
  if decide (at_2 < 0) = false then
    if decide (size_3 < 0) = false then
      if decide ((↑s_1.length : Int) < at_2) = false then
        if decide (Go.IntKind.i64.wrap ((↑s_1.length : Int) - at_2) < size_3) = true then
          some (([], false))
        else
          natOf at_2 fun n4 =>
          grd (n4 ≤ s_1.length) <|
          natOf size_3 fun n5 =>
          grd (n5 ≤ (List.drop n4 s_1).length) <|
          some ((List.take n5 (List.drop n4 s_1), true))
      else
        some (([], false))
    else
      some (([], false))
  else
    some (([], false))
def ann_octet_Take : List (List Nat × Ann) := []
def cfg_octet_Take : SCfg := SCfg.of ([] ++ inlL) ann_octet_Take keepL
theorem eq_octet_Take (x : HL [.str, (.int .i64), (.int .i64)]) : fnK cfg_octet_Take Try.prog 100000 79 [.str, (.int .i64), (.int .i64)] [.str, .bool] x = (fun x => F_octet_Take x.1 x.2.1 x.2.2) x := by kernel_rfl
theorem told_octet_Take : Told CC Try.prog 79 [.str, (.int .i64), (.int .i64)] [.str, .bool] (fun x => F_octet_Take x.1 x.2.1 x.2.2) := told_of (gok (an := ann_octet_Take) (fs := []) trivial) rfl rfl eq_octet_Take

/-! (wellspring/data.parts).whole -/
def F_data_parts_whole (p_1 : (List UInt8 × (List UInt8 × List (List UInt8)))) : Option (List UInt8) :=
  bnd (F_strings_Join p_1.snd.snd []) fun v2 =>
  grd (p_1.fst.length + v2.length ≤ maxStr) <|
  grd ((p_1.fst ++ v2).length + p_1.snd.fst.length ≤ maxStr) <|
  some (p_1.fst ++ v2 ++ p_1.snd.fst)
def ann_data_parts_whole : List (List Nat × Ann) := []
@[reducible] def fs_data_parts_whole : List (Nat × SFn) := [(99, .pure [.list .str, .str] [.str] (fun x => F_strings_Join x.1 x.2))]
def cfg_data_parts_whole : SCfg := SCfg.of (fs_data_parts_whole ++ inlL) ann_data_parts_whole keepL
theorem eq_data_parts_whole (x : HL [(.agg (.cons .str (.cons .str (.list .str))))]) : fnK cfg_data_parts_whole Try.prog 100000 82 [(.agg (.cons .str (.cons .str (.list .str))))] [.str] x = (fun x => F_data_parts_whole x) x := by kernel_rfl
theorem told_data_parts_whole : Told CC Try.prog 82 [(.agg (.cons .str (.cons .str (.list .str))))] [.str] (fun x => F_data_parts_whole x) := told_of (gok (an := ann_data_parts_whole) (fs := fs_data_parts_whole) ⟨told_strings_Join, trivial⟩) rfl rfl eq_data_parts_whole

/-! wellspring/data.texts -/
def step_data_texts_0 : List UInt8 → Option (List UInt8 ⊕ (Bool ⊕ Unit)) := fun d_2 =>
  if (!d_2 == []) = true then
    bnd (d_2[0]?) fun x3 =>
    if decide ((↑d_2.length : Int) < Go.IntKind.i64.wrap (1 + Go.IntKind.i64.wrap (↑x3.toNat : Int))) = true then
      some (.inr (.inl false))
    else
      natOf (Go.IntKind.i64.wrap (1 + Go.IntKind.i64.wrap (↑x3.toNat : Int))) fun n4 =>
      grd (n4 ≤ d_2.length) <|
      some (.inl (List.drop n4 d_2))
  else
    some (.inr (.inr (())))

def F_data_texts (d_1 : List UInt8) : Option (Bool) :=
  if (d_1 == []) = true then
    some false
  else
    bnd (loopS step_data_texts_0 d_1) fun o5 =>
    match o5 with
    | .inl s2_6 =>
      some s2_6
    | .inr _ =>
      some true
def ann_data_texts : List (List Nat × Ann) := [([12], ⟨some ⟨(.cons (.ty .str) (anyN 18 .nil)), [], [], []⟩, [(.ret, ⟨(anyN 2 (.cons (.ty .bool) (anyN 16 .nil))), [], [], []⟩), (.exit 0, ⟨(anyN 19 .nil), [], [], []⟩)]⟩)]
def cfg_data_texts : SCfg := SCfg.of ([] ++ inlL) ann_data_texts keepL
theorem eq_data_texts (x : HL [.str]) : fnK cfg_data_texts Try.prog 100000 83 [.str] [.bool] x = (fun x => F_data_texts x) x := by kernel_rfl
theorem told_data_texts : Told CC Try.prog 83 [.str] [.bool] (fun x => F_data_texts x) := told_of (gok (an := ann_data_texts) (fs := []) trivial) rfl rfl eq_data_texts

/-! wellspring/wellspringref04.bad -/
def F_ref04_bad (e_1 : Int) : Option ((List UInt8 × (Int × Int))) :=
  some (([], (0, e_1)))
def ann_ref04_bad : List (List Nat × Ann) := []
def cfg_ref04_bad : SCfg := SCfg.of ([] ++ inlL) ann_ref04_bad keepL
theorem eq_ref04_bad (x : HL [(.int .i64)]) : fnK cfg_ref04_bad Try.prog 100000 84 [(.int .i64)] [.str, (.int .i64), (.int .i64)] x = (fun x => F_ref04_bad x) x := by kernel_rfl
theorem told_ref04_bad : Told CC Try.prog 84 [(.int .i64)] [.str, (.int .i64), (.int .i64)] (fun x => F_ref04_bad x) := told_of (gok (an := ann_ref04_bad) (fs := []) trivial) rfl rfl eq_ref04_bad

/-! wellspring/wellspringref04.Read -/
def step_ref04_Read_0 (msg_1 : List UInt8) : (Int × (List UInt8 × (Int × Int))) → Option ((Int × (List UInt8 × (Int × Int))) ⊕ (List UInt8 × (Int × Int))) := fun (at_3, out_4, next_5, least_6) =>
  bnd (F_ref01_Get msg_1 at_3 1) fun (v7, v8) =>
  if (!v8) = true then
    bnd (F_ref04_bad 2) fun (v9, v10, v11) =>
    some (.inr ((v9, (v10, v11))))
  else
    if (v7 == 0) = true then
      if decide (next_5 < 0) = true then
        grd (out_4.length + 1 ≤ maxStr) <|
        some (.inr ((out_4 ++ [0], (Go.IntKind.i64.wrap (at_3 + 1), 0))))
      else
        grd (out_4.length + 1 ≤ maxStr) <|
        some (.inr ((out_4 ++ [0], (next_5, 0))))
    else
      if decide (192 ≤ v7) = true then
        bnd (F_ref01_Get msg_1 at_3 2) fun (v12, v13) =>
        if (!v13) = true then
          bnd (F_ref04_bad 2) fun (v14, v15, v16) =>
          some (.inr ((v14, (v15, v16))))
        else
          if decide (least_6 ≤ Go.IntKind.i64.wrap (v12 - 49152)) = true then
            bnd (F_ref04_bad 3) fun (v17, v18, v19) =>
            some (.inr ((v17, (v18, v19))))
          else
            if decide (next_5 < 0) = true then
              grdEq msg_1 msg_1 <|
              some (.inl ((Go.IntKind.i64.wrap (v12 - 49152), (out_4, (Go.IntKind.i64.wrap (at_3 + 2), Go.IntKind.i64.wrap (v12 - 49152))))))
            else
              grdEq msg_1 msg_1 <|
              some (.inl ((Go.IntKind.i64.wrap (v12 - 49152), (out_4, (next_5, Go.IntKind.i64.wrap (v12 - 49152))))))
      else
        if decide (63 < v7) = true then
          bnd (F_ref04_bad 3) fun (v20, v21, v22) =>
          some (.inr ((v20, (v21, v22))))
        else
          bnd (F_ref01_Take msg_1 at_3 (Go.IntKind.i64.wrap (v7 + 1))) fun (v23, v24) =>
          if (!v24) = true then
            bnd (F_ref04_bad 2) fun (v25, v26, v27) =>
            some (.inr ((v25, (v26, v27))))
          else
            grd (out_4.length + v23.length ≤ maxStr) <|
            if decide (255 < Go.IntKind.i64.wrap ((↑(out_4 ++ v23).length : Int) + 1)) = true then
              bnd (F_ref04_bad 3) fun (v28, v29, v30) =>
              some (.inr ((v28, (v29, v30))))
            else
              grdEq msg_1 msg_1 <|
              some (.inl ((Go.IntKind.i64.wrap (Go.IntKind.i64.wrap (at_3 + v7) + 1), (out_4 ++ v23, (next_5, least_6)))))

def F_ref04_Read (msg_1 : List UInt8) (at_2 : Int) : Option ((List UInt8 × (Int × Int))) :=
  bnd (loopS (step_ref04_Read_0 msg_1) ((at_2, ([], (-1, at_2))))) fun (s4_31, s5_32, s6_33) =>
  some ((s4_31, (s5_32, s6_33)))
def ann_ref04_Read : List (List Nat × Ann) := [([9], ⟨some ⟨(.cons (.keep .str) (.cons (.ty (.int .i64)) (anyN 5 (.cons (.ty .str) (.cons (.ty (.int .i64)) (.cons (.ty (.int .i64)) (anyN 92 .nil))))))), [], [], []⟩, [(.ret, ⟨(anyN 4 (.cons (.ty .str) (.cons (.ty (.int .i64)) (.cons (.ty (.int .i64)) (anyN 95 .nil))))), [], [], []⟩)]⟩)]
@[reducible] def fs_ref04_Read : List (Nat × SFn) := [(46, .pure [.str, (.int .i64), (.int .i64)] [(.int .i64), .bool] (fun x => F_ref01_Get x.1 x.2.1 x.2.2)), (84, .pure [(.int .i64)] [.str, (.int .i64), (.int .i64)] (fun x => F_ref04_bad x)), (45, .pure [.str, (.int .i64), (.int .i64)] [.str, .bool] (fun x => F_ref01_Take x.1 x.2.1 x.2.2))]
def cfg_ref04_Read : SCfg := SCfg.of (fs_ref04_Read ++ inlL) ann_ref04_Read keepL
theorem eq_ref04_Read (x : HL [.str, (.int .i64)]) : fnK cfg_ref04_Read Try.prog 100000 44 [.str, (.int .i64)] [.str, (.int .i64), (.int .i64)] x = (fun x => F_ref04_Read x.1 x.2) x := by kernel_rfl
theorem told_ref04_Read : Told CC Try.prog 44 [.str, (.int .i64)] [.str, (.int .i64), (.int .i64)] (fun x => F_ref04_Read x.1 x.2) := told_of (gok (an := ann_ref04_Read) (fs := fs_ref04_Read) ⟨told_ref01_Get, told_ref04_bad, told_ref01_Take, trivial⟩) rfl rfl eq_ref04_Read

/-! wellspring/wellspringref08.questions -/
def step_ref08_questions_0 (s_1 : List UInt8) (many_3 : Int) : (Int × (List ((List UInt8 × (Int × Int))) × Int)) → Option ((Int × (List ((List UInt8 × (Int × Int))) × Int)) ⊕ ((Int × Int) ⊕ (Int × List ((List UInt8 × (Int × Int)))))) := fun (at_4, out_5, i_6) =>
  if decide (i_6 < many_3) = true then
    bnd (F_ref04_Read s_1 at_4) fun (v7, v8, v9) =>
    if (v9 != 0) = true then
      some (.inr (.inl ((0, v9))))
    else
      bnd (F_ref01_Take s_1 v8 4) fun (v10, v11) =>
      if (!v11) = true then
        some (.inr (.inl ((0, 2))))
      else
        bnd (F_ref01_Get s_1 v8 2) fun (v12, v13) =>
        bnd (F_ref01_Get s_1 (Go.IntKind.i64.wrap (v8 + 2)) 2) fun (v14, v15) =>
        grd ((out_5.length + [(v7, v12, v14)].length) * 32 ≤ roomLim) <|
        grdEq s_1 s_1 <|
        grdEq many_3 many_3 <|
        some (.inl ((Go.IntKind.i64.wrap (v8 + 4), (out_5 ++ [(v7, v12, v14)], Go.IntKind.i64.wrap (i_6 + 1)))))
  else
    some (.inr (.inr ((at_4, out_5))))

def F_ref08_questions (s_1 : List UInt8) (at_2 : Int) (many_3 : Int) : Option ((List ((List UInt8 × (Int × Int))) × (Int × Int))) :=
  bnd (loopS (step_ref08_questions_0 s_1 many_3) ((at_2, ([], 0)))) fun o16 =>
  match o16 with
  | .inl (s7_17, s8_18) =>
    some (([], (s7_17, s8_18)))
  | .inr (at_19, out_20) =>
    some ((out_20, (at_19, 0)))
def ann_ref08_questions : List (List Nat × Ann) := [([8], ⟨some ⟨(.cons (.keep .str) (.cons (.ty (.int .i64)) (.cons (.keep (.int .i64)) (anyN 6 (.cons (.own tQ 0 true) (.cons (.ty (.int .i64)) (anyN 56 .nil))))))), [], [⟨⟨0, tQ, 74, false, false⟩, true⟩], []⟩, [(.ret, ⟨(anyN 6 (.cons .nill (.cons (.ty (.int .i64)) (.cons (.ty (.int .i64)) (anyN 58 .nil))))), [], [⟨⟨0, tQ, 74, false, false⟩, false⟩], []⟩), (.exit 0, ⟨(anyN 1 (.cons (.ty (.int .i64)) (anyN 7 (.cons (.own tQ 0 true) (anyN 57 .nil))))), [], [⟨⟨0, tQ, 74, false, false⟩, false⟩], []⟩)]⟩)]
@[reducible] def fs_ref08_questions : List (Nat × SFn) := [(44, .pure [.str, (.int .i64)] [.str, (.int .i64), (.int .i64)] (fun x => F_ref04_Read x.1 x.2)), (45, .pure [.str, (.int .i64), (.int .i64)] [.str, .bool] (fun x => F_ref01_Take x.1 x.2.1 x.2.2)), (46, .pure [.str, (.int .i64), (.int .i64)] [(.int .i64), .bool] (fun x => F_ref01_Get x.1 x.2.1 x.2.2))]
def cfg_ref08_questions : SCfg := SCfg.of (fs_ref08_questions ++ inlL) ann_ref08_questions keepL
theorem eq_ref08_questions (x : HL [.str, (.int .i64), (.int .i64)]) : fnK cfg_ref08_questions Try.prog 100000 60 [.str, (.int .i64), (.int .i64)] [(.list tQ), (.int .i64), (.int .i64)] x = (fun x => F_ref08_questions x.1 x.2.1 x.2.2) x := by kernel_rfl
theorem told_ref08_questions : Told CC Try.prog 60 [.str, (.int .i64), (.int .i64)] [(.list tQ), (.int .i64), (.int .i64)] (fun x => F_ref08_questions x.1 x.2.1 x.2.2) := told_of (gok (an := ann_ref08_questions) (fs := fs_ref08_questions) ⟨told_ref04_Read, told_ref01_Take, told_ref01_Get, trivial⟩) rfl rfl eq_ref08_questions

/-! wellspring/wellspringref05.shape -/
def F_ref05_shape (kind_1 : Int) : Option ((Int × (Int × Int))) :=
  bnd (α := Bool) (if (kind_1 == 2) = true then
      grdEq kind_1 kind_1 <|
      grdEq (α := Int) 0 0 <|
      grdEq (α := Int) 0 0 <|
      grdEq (α := Int) 0 0 <|
      some (kind_1 == 2)
    else
      if (kind_1 == 5) = true then
        grdEq kind_1 kind_1 <|
        grdEq (α := Int) 0 0 <|
        grdEq (α := Int) 0 0 <|
        grdEq (α := Int) 0 0 <|
        some (kind_1 == 5)
      else
        grdEq kind_1 kind_1 <|
        grdEq (α := Int) 0 0 <|
        grdEq (α := Int) 0 0 <|
        grdEq (α := Int) 0 0 <|
        some (kind_1 == 12)) fun s4_2 =>
  if s4_2 = true then
    some ((0, (1, 0)))
  else
    if (kind_1 == 6) = true then
      some ((0, (2, 20)))
    else
      if (kind_1 == 15) = true then
        some ((2, (1, 0)))
      else
        if (kind_1 == 33) = true then
          some ((6, (1, 0)))
        else
          if (kind_1 == 1) = true then
            some ((4, (0, 0)))
          else
            if (kind_1 == 28) = true then
              some ((16, (0, 0)))
            else
              some ((0, (0, 0)))
def ann_ref05_shape : List (List Nat × Ann) := [([6], ⟨none, [(.normal, ⟨(anyN 2 (.cons (.ptr 0 0) (.cons (.keep (.int .i64)) (.cons (.ty .bool) (anyN 20 .nil))))), [.cells 115 true (.cons (.keep (.int .i64)) (.cons (.keep (.int .i64)) (.cons (.keep (.int .i64)) .nil)))], [], []⟩)]⟩)]
def cfg_ref05_shape : SCfg := SCfg.of ([] ++ inlL) ann_ref05_shape keepL
theorem eq_ref05_shape (x : HL [(.int .i64)]) : fnK cfg_ref05_shape Try.prog 100000 85 [(.int .i64)] [(.agg (.cons (.int .i64) (.cons (.int .i64) (.int .i64))))] x = (fun x => F_ref05_shape x) x := by kernel_rfl
theorem told_ref05_shape : Told CC Try.prog 85 [(.int .i64)] [(.agg (.cons (.int .i64) (.cons (.int .i64) (.int .i64))))] (fun x => F_ref05_shape x) := told_of (gok (an := ann_ref05_shape) (fs := []) trivial) rfl rfl eq_ref05_shape

/-! wellspring/wellspringref05.texts -/
def step_ref05_texts_0 (d_1 : List UInt8) : Int → Option (Int ⊕ Int) := fun i_2 =>
  if decide (i_2 < (↑d_1.length : Int)) = true then
    natOf i_2 fun n3 =>
    bnd (d_1[n3]?) fun x4 =>
    grdEq d_1 d_1 <|
    some (.inl (Go.IntKind.i64.wrap (Go.IntKind.i64.wrap (i_2 + 1) + Go.IntKind.i64.wrap (↑x4.toNat : Int))))
  else
    grdEq d_1 d_1 <|
    some (.inr i_2)

def F_ref05_texts (d_1 : List UInt8) : Option (Bool) :=
  bnd (loopS (step_ref05_texts_0 d_1) 0) fun i_5 =>
  if (i_5 == (↑d_1.length : Int)) = true then
    some (decide (0 < i_5))
  else
    some false
def ann_ref05_texts : List (List Nat × Ann) := [([6], ⟨some ⟨(.cons (.keep .str) (anyN 2 (.cons (.ty (.int .i64)) (anyN 19 .nil)))), [], [], []⟩, [(.exit 0, ⟨(.cons (.keep .str) (anyN 2 (.cons (.ty (.int .i64)) (anyN 19 .nil)))), [], [], []⟩)]⟩)]
def cfg_ref05_texts : SCfg := SCfg.of ([] ++ inlL) ann_ref05_texts keepL
theorem eq_ref05_texts (x : HL [.str]) : fnK cfg_ref05_texts Try.prog 100000 86 [.str] [.bool] x = (fun x => F_ref05_texts x) x := by kernel_rfl
theorem told_ref05_texts : Told CC Try.prog 86 [.str] [.bool] (fun x => F_ref05_texts x) := told_of (gok (an := ann_ref05_texts) (fs := []) trivial) rfl rfl eq_ref05_texts

/-! wellspring/wellspringref05.Expand -/
def step_ref05_Expand_0 (msg_1 : List UInt8) (at_2 : Int) (size_3 : Int) (v7 : Int × Int × Int) : (List UInt8 × (Int × Int)) → Option ((List UInt8 × (Int × Int)) ⊕ ((List UInt8 × Int) ⊕ (List UInt8 × Int))) := fun (out_10, i_11, k_12) =>
  if decide (k_12 < v7.snd.fst) = true then
    bnd (F_ref04_Read msg_1 i_11) fun (v13, v14, v15) =>
    if (v15 != 0) = true then
      grdEq v7.fst v7.fst <|
      grdEq v7.snd.fst v7.snd.fst <|
      grdEq v7.snd.snd v7.snd.snd <|
      some (.inr (.inl (([], 4))))
    else
      grd (out_10.length + v13.length ≤ maxStr) <|
      grdEq msg_1 msg_1 <|
      grdEq at_2 at_2 <|
      grdEq size_3 size_3 <|
      grdEq v7.fst v7.fst <|
      grdEq v7.snd.fst v7.snd.fst <|
      grdEq v7.snd.snd v7.snd.snd <|
      some (.inl ((out_10 ++ v13, (v14, Go.IntKind.i64.wrap (k_12 + 1)))))
  else
    grdEq msg_1 msg_1 <|
    grdEq at_2 at_2 <|
    grdEq size_3 size_3 <|
    grdEq v7.fst v7.fst <|
    grdEq v7.snd.fst v7.snd.fst <|
    grdEq v7.snd.snd v7.snd.snd <|
    some (.inr (.inr ((out_10, i_11))))

def F_ref05_Expand (msg_1 : List UInt8) (at_2 : Int) (size_3 : Int) (kind_4 : Int) : Option ((List UInt8 × Int)) :=
  bnd (F_ref01_Take msg_1 at_2 size_3) fun (v5, v6) =>
  if (!v6) = true then
    some (([], 2))
  else
    bnd (F_ref05_shape kind_4) fun v7 =>
    if (v7.fst == 0 && (v7.snd.fst == 0 && (v7.snd.snd == 0 && true))) = true then
      if (kind_4 == 16) = true then
        bnd (F_ref05_texts v5) fun v8 =>
        if (!v8) = false then
          if decide (65535 < (↑v5.length : Int)) = true then
            some (([], 4))
          else
            some ((v5, 0))
        else
          some (([], 4))
      else
        if decide (65535 < (↑v5.length : Int)) = true then
          some (([], 4))
        else
          some ((v5, 0))
    else
      if decide (size_3 < v7.fst) = true then
        some (([], 4))
      else
        natOf v7.fst fun n9 =>
        grd (n9 ≤ v5.length) <|
        bnd (loopS (step_ref05_Expand_0 msg_1 at_2 size_3 v7) ((List.take n9 v5, (Go.IntKind.i64.wrap (at_2 + v7.fst), 0)))) fun o16 =>
        match o16 with
        | .inl (s8_17, s9_18) =>
          some ((s8_17, s9_18))
        | .inr (out_19, i_20) =>
          if (Go.IntKind.i64.wrap (i_20 + v7.snd.snd) != Go.IntKind.i64.wrap (at_2 + size_3)) = true then
            some (([], 4))
          else
            natOf (Go.IntKind.i64.wrap (at_2 + size_3)) fun n21 =>
            grd (n21 ≤ msg_1.length) <|
            natOf i_20 fun n22 =>
            grd (n22 ≤ n21) <|
            grd (out_19.length + (List.drop n22 (List.take n21 msg_1)).length ≤ maxStr) <|
            if decide (65535 < (↑(out_19 ++ List.drop n22 (List.take n21 msg_1)).length : Int)) = true then
              some (([], 4))
            else
              some ((out_19 ++ List.drop n22 (List.take n21 msg_1), 0))
def ann_ref05_Expand : List (List Nat × Ann) := [([46], ⟨some ⟨(.cons (.keep .str) (.cons (.keep (.int .i64)) (.cons (.keep (.int .i64)) (anyN 9 (.cons (.ptr 0 0) (.cons (.ty .str) (.cons (.ty (.int .i64)) (.cons (.ty (.int .i64)) (anyN 81 .nil))))))))), [.cells 115 true (.cons (.keep (.int .i64)) (.cons (.keep (.int .i64)) (.cons (.keep (.int .i64)) .nil)))], [], []⟩, [(.ret, ⟨(anyN 8 (.cons (.ty .str) (.cons (.ty (.int .i64)) (anyN 87 .nil)))), [.cells 115 true (.cons (.keep (.int .i64)) (.cons (.keep (.int .i64)) (.cons (.keep (.int .i64)) .nil)))], [], []⟩), (.exit 0, ⟨(.cons (.keep .str) (.cons (.keep (.int .i64)) (.cons (.keep (.int .i64)) (anyN 9 (.cons (.ptr 0 0) (.cons (.ty .str) (.cons (.ty (.int .i64)) (anyN 82 .nil)))))))), [.cells 115 true (.cons (.keep (.int .i64)) (.cons (.keep (.int .i64)) (.cons (.keep (.int .i64)) .nil)))], [], []⟩)]⟩)]
@[reducible] def fs_ref05_Expand : List (Nat × SFn) := [(44, .pure [.str, (.int .i64)] [.str, (.int .i64), (.int .i64)] (fun x => F_ref04_Read x.1 x.2)), (45, .pure [.str, (.int .i64), (.int .i64)] [.str, .bool] (fun x => F_ref01_Take x.1 x.2.1 x.2.2)), (85, .pure [(.int .i64)] [(.agg (.cons (.int .i64) (.cons (.int .i64) (.int .i64))))] (fun x => F_ref05_shape x)), (86, .pure [.str] [.bool] (fun x => F_ref05_texts x))]
def cfg_ref05_Expand : SCfg := SCfg.of (fs_ref05_Expand ++ inlL) ann_ref05_Expand keepL
theorem eq_ref05_Expand (x : HL [.str, (.int .i64), (.int .i64), (.int .i64)]) : fnK cfg_ref05_Expand Try.prog 100000 47 [.str, (.int .i64), (.int .i64), (.int .i64)] [.str, (.int .i64)] x = (fun x => F_ref05_Expand x.1 x.2.1 x.2.2.1 x.2.2.2) x := by kernel_rfl
theorem told_ref05_Expand : Told CC Try.prog 47 [.str, (.int .i64), (.int .i64), (.int .i64)] [.str, (.int .i64)] (fun x => F_ref05_Expand x.1 x.2.1 x.2.2.1 x.2.2.2) := told_of (gok (an := ann_ref05_Expand) (fs := fs_ref05_Expand) ⟨told_ref04_Read, told_ref01_Take, told_ref05_shape, told_ref05_texts, trivial⟩) rfl rfl eq_ref05_Expand

end
end Go.Abs

set_option maxRecDepth 100000
namespace Go.Abs
open Go Go.Proofs
noncomputable section

/-! wellspring/wellspringref06.Decode -/
def F_ref06_Decode (msg_1 : List UInt8) (at_2 : Int) : Option (((List UInt8 × (Int × (Int × (Int × List UInt8)))) × (Int × Int))) :=
  bnd (F_ref04_Read msg_1 at_2) fun (v3, v4, v5) =>
  if (v5 != 0) = true then
    some ((([], (0, (0, (0, [])))), (0, v5)))
  else
    bnd (F_ref01_Take msg_1 v4 10) fun (v6, v7) =>
    if (!v7) = true then
      some ((([], (0, (0, (0, [])))), (0, 2)))
    else
      bnd (F_ref01_Get msg_1 v4 2) fun (v8, v9) =>
      bnd (F_ref01_Get msg_1 (Go.IntKind.i64.wrap (v4 + 2)) 2) fun (v10, v11) =>
      bnd (F_ref01_Get msg_1 (Go.IntKind.i64.wrap (v4 + 4)) 4) fun (v12, v13) =>
      bnd (F_ref01_Get msg_1 (Go.IntKind.i64.wrap (v4 + 8)) 2) fun (v14, v15) =>
      bnd (α := Int) (if decide (2147483648 ≤ v12) = true then
          grdEq msg_1 msg_1 <|
          grdEq v3 v3 <|
          grdEq v4 v4 <|
          grdEq v8 v8 <|
          grdEq v10 v10 <|
          grdEq v14 v14 <|
          grdEq (α := List UInt8) [] [] <|
          grdEq (α := Int) 0 0 <|
          grdEq (α := Int) 0 0 <|
          grdEq (α := Int) 0 0 <|
          grdEq (α := List UInt8) [] [] <|
          some 0
        else
          grdEq msg_1 msg_1 <|
          grdEq v3 v3 <|
          grdEq v4 v4 <|
          grdEq v8 v8 <|
          grdEq v10 v10 <|
          grdEq v14 v14 <|
          grdEq (α := List UInt8) [] [] <|
          grdEq (α := Int) 0 0 <|
          grdEq (α := Int) 0 0 <|
          grdEq (α := Int) 0 0 <|
          grdEq (α := List UInt8) [] [] <|
          some v12) fun ttl_16 =>
      bnd (F_ref05_Expand msg_1 (Go.IntKind.i64.wrap (v4 + 10)) v14 v8) fun (v17, v18) =>
      if (v18 != 0) = true then
        some ((([], (0, (0, (0, [])))), (0, v18)))
      else
        some (((v3, (v8, (v10, (ttl_16, v17)))), (Go.IntKind.i64.wrap (Go.IntKind.i64.wrap (v4 + 10) + v14), 0)))
def ann_ref06_Decode : List (List Nat × Ann) := [([30], ⟨none, [(.normal, ⟨(.cons (.keep .str) (anyN 3 (.cons (.ptr 0 0) (anyN 2 (.cons (.keep .str) (.cons (.keep (.int .i64)) (anyN 3 (.cons (.keep (.int .i64)) (anyN 1 (.cons (.keep (.int .i64)) (anyN 1 (.cons (.ty (.int .i64)) (anyN 1 (.cons (.keep (.int .i64)) (anyN 75 .nil))))))))))))))), [.cells 24 true (.cons (.keep .str) (.cons (.keep (.int .i64)) (.cons (.keep (.int .i64)) (.cons (.keep (.int .i64)) (.cons (.keep .str) .nil)))))], [], []⟩)]⟩)]
@[reducible] def fs_ref06_Decode : List (Nat × SFn) := [(44, .pure [.str, (.int .i64)] [.str, (.int .i64), (.int .i64)] (fun x => F_ref04_Read x.1 x.2)), (45, .pure [.str, (.int .i64), (.int .i64)] [.str, .bool] (fun x => F_ref01_Take x.1 x.2.1 x.2.2)), (46, .pure [.str, (.int .i64), (.int .i64)] [(.int .i64), .bool] (fun x => F_ref01_Get x.1 x.2.1 x.2.2)), (47, .pure [.str, (.int .i64), (.int .i64), (.int .i64)] [.str, (.int .i64)] (fun x => F_ref05_Expand x.1 x.2.1 x.2.2.1 x.2.2.2))]
def cfg_ref06_Decode : SCfg := SCfg.of (fs_ref06_Decode ++ inlL) ann_ref06_Decode keepL
theorem eq_ref06_Decode (x : HL [.str, (.int .i64)]) : fnK cfg_ref06_Decode Try.prog 100000 16 [.str, (.int .i64)] [tRR, (.int .i64), (.int .i64)] x = (fun x => F_ref06_Decode x.1 x.2) x := by kernel_rfl
theorem told_ref06_Decode : Told CC Try.prog 16 [.str, (.int .i64)] [tRR, (.int .i64), (.int .i64)] (fun x => F_ref06_Decode x.1 x.2) := told_of (gok (an := ann_ref06_Decode) (fs := fs_ref06_Decode) ⟨told_ref04_Read, told_ref01_Take, told_ref01_Get, told_ref05_Expand, trivial⟩) rfl rfl eq_ref06_Decode

/-! wellspring/wellspringref05.Check -/
def F_ref05_Check (kind_1 : Int) (d_2 : List UInt8) : Option (Bool) :=
  if decide (65535 < (↑d_2.length : Int)) = true then
    some false
  else
    bnd (F_ref05_Expand d_2 0 (↑d_2.length : Int) kind_1) fun (v3, v4) =>
    if (v4 == 0) = true then
      some (v3 == d_2)
    else
      some false
def ann_ref05_Check : List (List Nat × Ann) := []
@[reducible] def fs_ref05_Check : List (Nat × SFn) := [(47, .pure [.str, (.int .i64), (.int .i64), (.int .i64)] [.str, (.int .i64)] (fun x => F_ref05_Expand x.1 x.2.1 x.2.2.1 x.2.2.2))]
def cfg_ref05_Check : SCfg := SCfg.of (fs_ref05_Check ++ inlL) ann_ref05_Check keepL
theorem eq_ref05_Check (x : HL [(.int .i64), .str]) : fnK cfg_ref05_Check Try.prog 100000 51 [(.int .i64), .str] [.bool] x = (fun x => F_ref05_Check x.1 x.2) x := by kernel_rfl
theorem told_ref05_Check : Told CC Try.prog 51 [(.int .i64), .str] [.bool] (fun x => F_ref05_Check x.1 x.2) := told_of (gok (an := ann_ref05_Check) (fs := fs_ref05_Check) ⟨told_ref05_Expand, trivial⟩) rfl rfl eq_ref05_Check

/-! wellspring/wellspringref06.Check -/
def F_ref06_Check (r_1 : (List UInt8 × (Int × (Int × (Int × List UInt8))))) : Option (Bool) :=
  bnd (F_ref02_Check r_1.fst) fun v2 =>
  if v2 = true then
    if decide (0 ≤ r_1.snd.fst) = true then
      if decide (r_1.snd.fst ≤ 65535) = true then
        if decide (0 ≤ r_1.snd.snd.fst) = true then
          if decide (r_1.snd.snd.fst ≤ 65535) = true then
            if decide (0 ≤ r_1.snd.snd.snd.fst) = true then
              if decide (r_1.snd.snd.snd.fst < 2147483648) = true then
                bnd (F_ref05_Check r_1.snd.fst r_1.snd.snd.snd.snd) fun v3 =>
                some v3
              else
                some false
            else
              some false
          else
            some false
        else
          some false
      else
        some false
    else
      some false
  else
    some false
def ann_ref06_Check : List (List Nat × Ann) := []
@[reducible] def fs_ref06_Check : List (Nat × SFn) := [(23, .pure [.str] [.bool] (fun x => F_ref02_Check x)), (51, .pure [(.int .i64), .str] [.bool] (fun x => F_ref05_Check x.1 x.2))]
def cfg_ref06_Check : SCfg := SCfg.of (fs_ref06_Check ++ inlL) ann_ref06_Check keepL
theorem eq_ref06_Check (x : HL [tRR]) : fnK cfg_ref06_Check Try.prog 100000 18 [tRR] [.bool] x = (fun x => F_ref06_Check x) x := by kernel_rfl
theorem told_ref06_Check : Told CC Try.prog 18 [tRR] [.bool] (fun x => F_ref06_Check x) := told_of (gok (an := ann_ref06_Check) (fs := fs_ref06_Check) ⟨told_ref02_Check, told_ref05_Check, trivial⟩) rfl rfl eq_ref06_Check

/-! wellspring/wellspringref08.records -/
def step_ref08_records_0 (l_1 : List (List UInt8 × Int × Int × Int × List UInt8)) : Int → Option (Int ⊕ (Bool ⊕ Unit)) := fun i_2 =>
  if decide (i_2 < (↑l_1.length : Int)) = true then
    natOf i_2 fun n3 =>
    bnd (l_1[n3]?) fun x4 =>
    bnd (F_ref06_Check (x4.fst, x4.snd.fst, x4.snd.snd.fst, x4.snd.snd.snd.fst, x4.snd.snd.snd.snd)) fun v5 =>
    if (!v5) = true then
      some (.inr (.inl false))
    else
      grdEq l_1 l_1 <|
      some (.inl (Go.IntKind.i64.wrap (i_2 + 1)))
  else
    grdEq l_1 l_1 <|
    some (.inr (.inr (())))

def F_ref08_records (l_1 : List ((List UInt8 × (Int × (Int × (Int × List UInt8)))))) : Option (Bool) :=
  bnd (loopS (step_ref08_records_0 l_1) 0) fun o6 =>
  match o6 with
  | .inl s2_7 =>
    some s2_7
  | .inr _ =>
    bnd (F_ref08_small (↑l_1.length : Int)) fun v8 =>
    some v8
def ann_ref08_records : List (List Nat × Ann) := [([6], ⟨some ⟨(.cons (.keep (.list tRR)) (anyN 2 (.cons (.ty (.int .i64)) (anyN 15 .nil)))), [], [], []⟩, [(.ret, ⟨(anyN 2 (.cons (.ty .bool) (anyN 16 .nil))), [], [], []⟩), (.exit 0, ⟨(.cons (.keep (.list tRR)) (anyN 18 .nil)), [], [], []⟩)]⟩)]
@[reducible] def fs_ref08_records : List (Nat × SFn) := [(18, .pure [tRR] [.bool] (fun x => F_ref06_Check x)), (71, .pure [(.int .i64)] [.bool] (fun x => F_ref08_small x))]
def cfg_ref08_records : SCfg := SCfg.of (fs_ref08_records ++ inlL) ann_ref08_records keepL
theorem eq_ref08_records (x : HL [(.list tRR)]) : fnK cfg_ref08_records Try.prog 100000 72 [(.list tRR)] [.bool] x = (fun x => F_ref08_records x) x := by kernel_rfl
theorem told_ref08_records : Told CC Try.prog 72 [(.list tRR)] [.bool] (fun x => F_ref08_records x) := told_of (gok (an := ann_ref08_records) (fs := fs_ref08_records) ⟨told_ref06_Check, told_ref08_small, trivial⟩) rfl rfl eq_ref08_records

/-! wellspring/name.split -/
def step_name_split_0 : (List UInt8 × List (List UInt8)) → Option ((List UInt8 × List (List UInt8)) ⊕ (Bool ⊕ (List UInt8 × List (List UInt8)))) := fun (n_2, l_3) =>
  bnd (α := (List (List UInt8) ⊕ List (List UInt8))) (if decide (0 < (↑n_2.length : Int)) = true then
      if (!n_2 == [0]) = true then
        grdEq n_2 n_2 <|
        some (.inl l_3)
      else
        grdEq n_2 n_2 <|
        some (.inr l_3)
    else
      grdEq n_2 n_2 <|
      some (.inr l_3)) fun o4 =>
  match o4 with
  | .inl l_5 =>
    bnd (n_2[0]?) fun x6 =>
    bnd (α := (Bool ⊕ List (List UInt8))) (if decide (Go.IntKind.i64.wrap (↑x6.toNat : Int) < 1) = false then
        if decide (63 < Go.IntKind.i64.wrap (↑x6.toNat : Int)) = false then
          if decide ((↑n_2.length : Int) ≤ Go.IntKind.i64.wrap (Go.IntKind.i64.wrap (↑x6.toNat : Int) + 1)) = true then
            some (.inl false)
          else
            grdEq n_2 n_2 <|
            grdEq (Go.IntKind.i64.wrap (↑x6.toNat : Int)) (Go.IntKind.i64.wrap (↑x6.toNat : Int)) <|
            some (.inr l_5)
        else
          some (.inl false)
      else
        some (.inl false)) fun o7 =>
    match o7 with
    | .inl s3_8 =>
      some (.inr (.inl s3_8))
    | .inr l_9 =>
      natOf (Go.IntKind.i64.wrap (1 + Go.IntKind.i64.wrap (↑x6.toNat : Int))) fun n10 =>
      grd (n10 ≤ n_2.length) <|
      grd (1 ≤ n10) <|
      grd ((l_9.length + [List.drop 1 (List.take n10 n_2)].length) * 16 ≤ roomLim) <|
      natOf (Go.IntKind.i64.wrap (1 + Go.IntKind.i64.wrap (↑x6.toNat : Int))) fun n11 =>
      grd (n11 ≤ n_2.length) <|
      some (.inl ((List.drop n11 n_2, l_9 ++ [List.drop 1 (List.take n10 n_2)])))
  | .inr l_12 =>
    some (.inr (.inr ((n_2, l_12))))

def F_name_split (n_1 : List UInt8) : Option ((List (List UInt8) × Bool)) :=
  if decide (255 < (↑n_1.length : Int)) = true then
    some (([], false))
  else
    bnd (loopS step_name_split_0 ((n_1, []))) fun o13 =>
    match o13 with
    | .inl s3_14 =>
      some (([], s3_14))
    | .inr (n_15, l_16) =>
      some ((l_16, n_15 == [0]))
def ann_name_split : List (List Nat × Ann) := [([15], ⟨none, [(.normal, ⟨(.cons (.keep .str) (anyN 3 (.cons (.own .str 0 true) (anyN 41 .nil)))), [], [⟨⟨0, .str, 9, false, false⟩, false⟩], []⟩), (.exit 0, ⟨(.cons (.keep .str) (anyN 3 (.cons (.own .str 0 true) (anyN 41 .nil)))), [], [⟨⟨0, .str, 9, false, false⟩, false⟩], []⟩)]⟩), ([24], ⟨none, [(.ret, ⟨(anyN 2 (.cons .nill (.cons (.ty .bool) (anyN 42 .nil)))), [], [⟨⟨0, .str, 9, false, false⟩, false⟩], []⟩), (.normal, ⟨(.cons (.keep .str) (anyN 3 (.cons (.own .str 0 true) (.cons (.keep (.int .i64)) (anyN 40 .nil))))), [], [⟨⟨0, .str, 9, false, false⟩, false⟩], []⟩)]⟩), ([14], ⟨some ⟨(.cons (.ty .str) (anyN 3 (.cons (.own .str 0 true) (anyN 41 .nil)))), [], [⟨⟨0, .str, 9, false, false⟩, true⟩], []⟩, [(.ret, ⟨(anyN 2 (.cons .nill (.cons (.ty .bool) (anyN 42 .nil)))), [], [⟨⟨0, .str, 9, false, false⟩, false⟩], []⟩), (.exit 0, ⟨(.cons (.ty .str) (anyN 3 (.cons (.own .str 0 true) (anyN 41 .nil)))), [], [⟨⟨0, .str, 9, false, false⟩, false⟩], []⟩)]⟩)]
def cfg_name_split : SCfg := SCfg.of ([] ++ inlL) ann_name_split keepL
theorem eq_name_split (x : HL [.str]) : fnK cfg_name_split Try.prog 100000 87 [.str] [(.list .str), .bool] x = (fun x => F_name_split x) x := by kernel_rfl
theorem told_name_split : Told CC Try.prog 87 [.str] [(.list .str), .bool] (fun x => F_name_split x) := told_of (gok (an := ann_name_split) (fs := []) trivial) rfl rfl eq_name_split

/-! wellspring/name.Check -/
def F_name_Check (n_1 : List UInt8) : Option (Bool) :=
  bnd (F_name_split n_1) fun (v2, v3) =>
  some v3
def ann_name_Check : List (List Nat × Ann) := []
@[reducible] def fs_name_Check : List (Nat × SFn) := [(87, .pure [.str] [(.list .str), .bool] (fun x => F_name_split x))]
def cfg_name_Check : SCfg := SCfg.of (fs_name_Check ++ inlL) ann_name_Check keepL
theorem eq_name_Check (x : HL [.str]) : fnK cfg_name_Check Try.prog 100000 48 [.str] [.bool] x = (fun x => F_name_Check x) x := by kernel_rfl
theorem told_name_Check : Told CC Try.prog 48 [.str] [.bool] (fun x => F_name_Check x) := told_of (gok (an := ann_name_Check) (fs := fs_name_Check) ⟨told_name_split, trivial⟩) rfl rfl eq_name_Check

/-! wellspring/msg.Check$2 -/
def F_msg_Check_2 (q_1 : (List UInt8 × (Int × Int))) : Option (Bool) :=
  bnd (F_name_Check q_1.fst) fun v2 =>
  if (!v2) = false then
    bnd (F_msg_small q_1.snd.fst) fun v3 =>
    if (!v3) = false then
      bnd (F_msg_small q_1.snd.snd) fun v4 =>
      some (!v4)
    else
      some true
  else
    some true
def ann_msg_Check_2 : List (List Nat × Ann) := []
@[reducible] def fs_msg_Check_2 : List (Nat × SFn) := [(48, .pure [.str] [.bool] (fun x => F_name_Check x)), (66, .pure [(.int .i64)] [.bool] (fun x => F_msg_small x))]
def cfg_msg_Check_2 : SCfg := SCfg.of (fs_msg_Check_2 ++ inlL) ann_msg_Check_2 keepL
theorem eq_msg_Check_2 (x : HL [tQ]) : fnK cfg_msg_Check_2 Try.prog 100000 69 [tQ] [.bool] x = (fun x => F_msg_Check_2 x) x := by kernel_rfl
theorem told_msg_Check_2 : Told CC Try.prog 69 [tQ] [.bool] (fun x => F_msg_Check_2 x) := told_of (gok (an := ann_msg_Check_2) (fs := fs_msg_Check_2) ⟨told_name_Check, told_msg_small, trivial⟩) rfl rfl eq_msg_Check_2

/-! wellspring/name.Up -/
def F_name_Up (n_1 : List UInt8) : Option ((List UInt8 × Bool)) :=
  bnd (F_name_Check n_1) fun v2 =>
  if (!v2) = false then
    if (n_1 == [0]) = true then
      some (([], false))
    else
      bnd (n_1[0]?) fun x3 =>
      natOf (Go.IntKind.i64.wrap (1 + Go.IntKind.i64.wrap (↑x3.toNat : Int))) fun n4 =>
      grd (n4 ≤ n_1.length) <|
      some ((List.drop n4 n_1, true))
  else
    some (([], false))
def ann_name_Up : List (List Nat × Ann) := []
@[reducible] def fs_name_Up : List (Nat × SFn) := [(48, .pure [.str] [.bool] (fun x => F_name_Check x))]
def cfg_name_Up : SCfg := SCfg.of (fs_name_Up ++ inlL) ann_name_Up keepL
theorem eq_name_Up (x : HL [.str]) : fnK cfg_name_Up Try.prog 100000 88 [.str] [.str, .bool] x = (fun x => F_name_Up x) x := by kernel_rfl
theorem told_name_Up : Told CC Try.prog 88 [.str] [.str, .bool] (fun x => F_name_Up x) := told_of (gok (an := ann_name_Up) (fs := fs_name_Up) ⟨told_name_Check, trivial⟩) rfl rfl eq_name_Up

/-! wellspring/octet.sized -/
def F_octet_sized (size_1 : Int) : Option (Bool) :=
  if decide (1 ≤ size_1) = true then
    some (decide (size_1 ≤ 4))
  else
    some false
def ann_octet_sized : List (List Nat × Ann) := []
def cfg_octet_sized : SCfg := SCfg.of ([] ++ inlL) ann_octet_sized keepL
theorem eq_octet_sized (x : HL [(.int .i64)]) : fnK cfg_octet_sized Try.prog 100000 91 [(.int .i64)] [.bool] x = (fun x => F_octet_sized x) x := by kernel_rfl
theorem told_octet_sized : Told CC Try.prog 91 [(.int .i64)] [.bool] (fun x => F_octet_sized x) := told_of (gok (an := ann_octet_sized) (fs := []) trivial) rfl rfl eq_octet_sized

/-! wellspring/octet.Put -/
def step_octet_Put_0 (n_1 : Int) (size_2 : Int) : (List (Int) × Int) → Option ((List (Int) × Int) ⊕ List (Int)) := fun (b_7, s24_8) =>
  if decide (s24_8 < size_2) = true then
    natOf (Go.IntKind.i64.wrap (8 * s24_8)) fun n9 =>
    natOf (Go.IntKind.i64.wrap (Go.IntKind.i64.wrap (size_2 - 1) - s24_8)) fun n10 =>
    bnd (b_7[n10]?) fun x11 =>
    grdEq n_1 n_1 <|
    grdEq size_2 size_2 <|
    grdEq size_2 size_2 <|
    some (.inl ((b_7.set n10 (Go.IntKind.u8.wrap (n_1.fdiv (2 ^ min n9 64))), Go.IntKind.i64.wrap (s24_8 + 1))))
  else
    some (.inr b_7)

def F_octet_Put (n_1 : Int) (size_2 : Int) : Option (List UInt8) :=
  bnd (α := (List UInt8 ⊕ Unit)) (bnd (F_octet_sized size_2) fun v3 =>
    if (!v3) = false then
      if decide (n_1 < 0) = false then
        natOf (Go.IntKind.i64.wrap (8 * size_2)) fun n4 =>
        if (n_1.fdiv (2 ^ min n4 64) != 0) = true then
          some (.inl ([]))
        else
          grdEq n_1 n_1 <|
          grdEq size_2 size_2 <|
          some (.inr (()))
      else
        some (.inl ([]))
    else
      some (.inl ([]))) fun o5 =>
  match o5 with
  | .inl s4_6 =>
    some s4_6
  | .inr _ =>
    grd (0 ≤ size_2 ∧ size_2 ≤ size_2 ∧ size_2 ≤ 9223372036854775807 ∧ 1 * size_2 ≤ 281474976710656) <|
    bnd (loopS (step_octet_Put_0 n_1 size_2) ((List.replicate size_2.toNat 0, 0))) fun b_12 =>
    some (List.map (fun n => UInt8.ofNat (Int.toNat n)) b_12)
def ann_octet_Put : List (List Nat × Ann) := [([2], ⟨none, [(.ret, ⟨(anyN 4 (.cons (.ty .str) (anyN 36 .nil))), [], [], []⟩), (.normal, ⟨(.cons (.keep (.int .i64)) (.cons (.keep (.int .i64)) (anyN 39 .nil))), [], [], []⟩)]⟩), ([16], ⟨some ⟨(.cons (.keep (.int .i64)) (.cons (.keep (.int .i64)) (anyN 3 (.cons (.own (.int .u8) 0 true) (anyN 17 (.cons (.keep (.int .i64)) (.cons (.ty (.int .i64)) (anyN 16 .nil)))))))), [], [⟨⟨0, (.int .u8), 5, true, true⟩, false⟩], [0]⟩, [(.exit 0, ⟨(anyN 5 (.cons (.own (.int .u8) 0 true) (anyN 35 .nil))), [], [⟨⟨0, (.int .u8), 5, true, true⟩, false⟩], [0]⟩)]⟩)]
@[reducible] def fs_octet_Put : List (Nat × SFn) := [(91, .pure [(.int .i64)] [.bool] (fun x => F_octet_sized x))]
def cfg_octet_Put : SCfg := SCfg.of (fs_octet_Put ++ inlL) ann_octet_Put keepL
theorem eq_octet_Put (x : HL [(.int .i64), (.int .i64)]) : fnK cfg_octet_Put Try.prog 100000 53 [(.int .i64), (.int .i64)] [.str] x = (fun x => F_octet_Put x.1 x.2) x := by kernel_rfl
theorem told_octet_Put : Told CC Try.prog 53 [(.int .i64), (.int .i64)] [.str] (fun x => F_octet_Put x.1 x.2) := told_of (gok (an := ann_octet_Put) (fs := fs_octet_Put) ⟨told_octet_sized, trivial⟩) rfl rfl eq_octet_Put

/-! wellspring/octet.Get -/
def step_octet_Get_0 (size_3 : Int) (v4 : List UInt8) : (Int × Int) → Option ((Int × Int) ⊕ Int) := fun (n_10, s27_11) =>
  if decide (s27_11 < size_3) = true then
    natOf s27_11 fun n12 =>
    bnd (v4[n12]?) fun x13 =>
    grdEq v4 v4 <|
    grdEq size_3 size_3 <|
    some (.inl ((Go.bits Go.BinOp.or Go.IntKind.i64 (Go.IntKind.i64.wrap (n_10 * 256)) (Go.IntKind.i64.wrap (↑x13.toNat : Int)), Go.IntKind.i64.wrap (s27_11 + 1))))
  else
    some (.inr n_10)

def F_octet_Get (s_1 : List UInt8) (at_2 : Int) (size_3 : Int) : Option ((Int × Bool)) :=
  bnd (F_octet_Take s_1 at_2 size_3) fun (v4, v5) =>
  bnd (α := ((Int × Bool) ⊕ Unit)) (if (!v5) = false then
      bnd (F_octet_sized size_3) fun v6 =>
      if (!v6) = true then
        some (.inl ((0, false)))
      else
        grdEq size_3 size_3 <|
        grdEq v4 v4 <|
        some (.inr (()))
    else
      some (.inl ((0, false)))) fun o7 =>
  match o7 with
  | .inl (s6_8, s7_9) =>
    some ((s6_8, s7_9))
  | .inr _ =>
    bnd (loopS (step_octet_Get_0 size_3 v4) ((0, 0))) fun n_14 =>
    some ((n_14, true))
def ann_octet_Get : List (List Nat × Ann) := [([4], ⟨none, [(.ret, ⟨(anyN 6 (.cons (.ty (.int .i64)) (.cons (.ty .bool) (anyN 31 .nil)))), [], [], []⟩), (.normal, ⟨(anyN 2 (.cons (.keep (.int .i64)) (anyN 5 (.cons (.keep .str) (anyN 30 .nil))))), [], [], []⟩)]⟩), ([18], ⟨some ⟨(anyN 8 (.cons (.keep .str) (anyN 1 (.cons (.ty (.int .i64)) (anyN 15 (.cons (.keep (.int .i64)) (.cons (.ty (.int .i64)) (anyN 11 .nil)))))))), [], [], []⟩, [(.exit 0, ⟨(anyN 10 (.cons (.ty (.int .i64)) (anyN 28 .nil))), [], [], []⟩)]⟩)]
@[reducible] def fs_octet_Get : List (Nat × SFn) := [(79, .pure [.str, (.int .i64), (.int .i64)] [.str, .bool] (fun x => F_octet_Take x.1 x.2.1 x.2.2)), (91, .pure [(.int .i64)] [.bool] (fun x => F_octet_sized x))]
def cfg_octet_Get : SCfg := SCfg.of (fs_octet_Get ++ inlL) ann_octet_Get keepL
theorem eq_octet_Get (x : HL [.str, (.int .i64), (.int .i64)]) : fnK cfg_octet_Get Try.prog 100000 62 [.str, (.int .i64), (.int .i64)] [(.int .i64), .bool] x = (fun x => F_octet_Get x.1 x.2.1 x.2.2) x := by kernel_rfl
theorem told_octet_Get : Told CC Try.prog 62 [.str, (.int .i64), (.int .i64)] [(.int .i64), .bool] (fun x => F_octet_Get x.1 x.2.1 x.2.2) := told_of (gok (an := ann_octet_Get) (fs := fs_octet_Get) ⟨told_octet_Take, told_octet_sized, trivial⟩) rfl rfl eq_octet_Get

/-! wellspring/msg.Head -/
def F_msg_Head (s_1 : List UInt8) : Option ((Int × (Int × Bool))) :=
  if decide ((↑s_1.length : Int) < 12) = true then
    some ((0, (0, false)))
  else
    bnd (F_octet_Get s_1 0 2) fun (v2, v3) =>
    bnd (F_octet_Get s_1 2 2) fun (v4, v5) =>
    some ((v2, (v4, true)))
def ann_msg_Head : List (List Nat × Ann) := []
@[reducible] def fs_msg_Head : List (Nat × SFn) := [(62, .pure [.str, (.int .i64), (.int .i64)] [(.int .i64), .bool] (fun x => F_octet_Get x.1 x.2.1 x.2.2))]
def cfg_msg_Head : SCfg := SCfg.of (fs_msg_Head ++ inlL) ann_msg_Head keepL
theorem eq_msg_Head (x : HL [.str]) : fnK cfg_msg_Head Try.prog 100000 30 [.str] [(.int .i64), (.int .i64), .bool] x = (fun x => F_msg_Head x) x := by kernel_rfl
theorem told_msg_Head : Told CC Try.prog 30 [.str] [(.int .i64), (.int .i64), .bool] (fun x => F_msg_Head x) := told_of (gok (an := ann_msg_Head) (fs := fs_msg_Head) ⟨told_octet_Get, trivial⟩) rfl rfl eq_msg_Head

/-! wellspring/comp.Read -/
def step_comp_Read_0 (msg_1 : List UInt8) : (Int × (Int × (Int × (Int × List (Int))))) → Option ((Int × (Int × (Int × (Int × List (Int))))) ⊕ ((Int × (Int × (Int × (Int × List (Int))))) ⊕ (List UInt8 × (Int × (Int × (Int × (Int × (Int × List (Int))))))))) := fun (e_3, b0b_4, b0c_5, b0d_6, b0f_7) =>
  if (e_3 == 0) = true then
    bnd (F_octet_Get msg_1 b0b_4 1) fun (v8, v9) =>
    if (!v9) = true then
      grdEq msg_1 msg_1 <|
      some (.inr (.inl ((2, (b0b_4, (b0c_5, (b0d_6, b0f_7)))))))
    else
      if (v8 == 0) = true then
        bnd (α := (Int × List (Int))) (if (b0d_6 == -1) = true then
            grdEq msg_1 msg_1 <|
            grdEq b0b_4 b0b_4 <|
            grdEq b0c_5 b0c_5 <|
            some ((Go.IntKind.i64.wrap (b0b_4 + 1), b0f_7))
          else
            grdEq msg_1 msg_1 <|
            grdEq b0b_4 b0b_4 <|
            grdEq b0c_5 b0c_5 <|
            some ((b0d_6, b0f_7))) fun (b0d_10, b0f_11) =>
        grd (b0f_11.length ≤ 9223372036854775807) <|
        grd (∀ (n : (Ty.int Go.IntKind.u8).den), n ∈ b0f_11 → 0 ≤ n ∧ n < 256) <|
        grd ((List.map (fun n => UInt8.ofNat (Int.toNat n)) b0f_11).length + 1 ≤ maxStr) <|
        grdEq msg_1 msg_1 <|
        some (.inr (.inr ((List.map (fun n => UInt8.ofNat (Int.toNat n)) b0f_11 ++ [0], (b0d_10, (0, (b0b_4, (b0c_5, (b0d_10, b0f_11)))))))))
      else
        if decide (192 ≤ v8) = true then
          bnd (F_octet_Get msg_1 b0b_4 2) fun (v12, v13) =>
          if (!v13) = true then
            grdEq msg_1 msg_1 <|
            some (.inl ((2, (b0b_4, (b0c_5, (b0d_6, b0f_7))))))
          else
            if decide (b0c_5 ≤ Go.IntKind.i64.wrap (v12 - 49152)) = true then
              grdEq msg_1 msg_1 <|
              some (.inl ((3, (b0b_4, (b0c_5, (b0d_6, b0f_7))))))
            else
              bnd (α := (Int × List (Int))) (if (b0d_6 == -1) = true then
                  grdEq v12 v12 <|
                  grdEq msg_1 msg_1 <|
                  grdEq b0b_4 b0b_4 <|
                  grdEq b0c_5 b0c_5 <|
                  some ((Go.IntKind.i64.wrap (b0b_4 + 2), b0f_7))
                else
                  grdEq v12 v12 <|
                  grdEq msg_1 msg_1 <|
                  grdEq b0b_4 b0b_4 <|
                  grdEq b0c_5 b0c_5 <|
                  some ((b0d_6, b0f_7))) fun (b0d_14, b0f_15) =>
              grdEq msg_1 msg_1 <|
              some (.inl ((0, (Go.IntKind.i64.wrap (v12 - 49152), (Go.IntKind.i64.wrap (v12 - 49152), (b0d_14, b0f_15))))))
        else
          if decide (63 < v8) = true then
            grdEq msg_1 msg_1 <|
            some (.inl ((3, (b0b_4, (b0c_5, (b0d_6, b0f_7))))))
          else
            bnd (F_octet_Take msg_1 b0b_4 (Go.IntKind.i64.wrap (1 + v8))) fun (v16, v17) =>
            if (!v17) = true then
              grdEq msg_1 msg_1 <|
              some (.inl ((2, (b0b_4, (b0c_5, (b0d_6, b0f_7))))))
            else
              if decide (255 ≤ Go.IntKind.i64.wrap ((↑b0f_7.length : Int) + (↑v16.length : Int))) = true then
                grdEq msg_1 msg_1 <|
                some (.inl ((3, (b0b_4, (b0c_5, (b0d_6, b0f_7))))))
              else
                grd ((b0f_7.length + (List.map (fun b => (↑b.toNat : Int)) v16).length) * 1 ≤ roomLim) <|
                grdEq msg_1 msg_1 <|
                some (.inl ((0, (Go.IntKind.i64.wrap (b0b_4 + (↑v16.length : Int)), (b0c_5, (b0d_6, b0f_7 ++ List.map (fun b => (↑b.toNat : Int)) v16))))))
  else
    grdEq msg_1 msg_1 <|
    some (.inr (.inl ((e_3, (b0b_4, (b0c_5, (b0d_6, b0f_7)))))))

def F_comp_Read (msg_1 : List UInt8) (at_2 : Int) : Option ((List UInt8 × (Int × Int))) :=
  bnd (loopS (step_comp_Read_0 msg_1) ((0, (at_2, (at_2, (-1, [])))))) fun o18 =>
  match o18 with
  | .inl (e_19, b0b_20, b0c_21, b0d_22, b0f_23) =>
    some (([], (0, e_19)))
  | .inr (s4_24, s5_25, s6_26, b0b_27, b0c_28, b0d_29, b0f_30) =>
    some ((s4_24, (s5_25, s6_26)))
def ann_comp_Read : List (List Nat × Ann) := [([2, 76, 1, 32], ⟨none, [(.normal, ⟨(.cons (.ptr 0 0) (anyN 26 .nil)), [.cells 100 true (.cons (.keep .str) (.cons (.keep (.int .i64)) (.cons (.keep (.int .i64)) (.cons (.ty (.int .i64)) (.cons (.adr 0 4) (.cons (.own (.int .u8) 0 true) .nil))))))], [⟨⟨0, (.int .u8), 5, false, false⟩, false⟩], []⟩)]⟩), ([19, 77, 1, 37], ⟨none, [(.normal, ⟨(.cons (.ptr 0 0) (anyN 2 (.cons (.keep (.int .i64)) (anyN 47 .nil)))), [.cells 100 true (.cons (.keep .str) (.cons (.keep (.int .i64)) (.cons (.keep (.int .i64)) (.cons (.ty (.int .i64)) (.cons (.adr 0 4) (.cons (.own (.int .u8) 0 true) .nil))))))], [⟨⟨0, (.int .u8), 5, false, false⟩, false⟩], []⟩)]⟩), ([11], ⟨some ⟨(anyN 7 (.cons (.ptr 0 0) (.cons (.ty (.int .i64)) (anyN 44 .nil)))), [.cells 100 true (.cons (.keep .str) (.cons (.ty (.int .i64)) (.cons (.ty (.int .i64)) (.cons (.ty (.int .i64)) (.cons (.adr 0 4) (.cons (.own (.int .u8) 0 true) .nil))))))], [⟨⟨0, (.int .u8), 5, false, false⟩, true⟩], []⟩, [(.exit 0, ⟨(anyN 8 (.cons (.ty (.int .i64)) (anyN 44 .nil))), [.cells 100 true (.cons (.keep .str) (.cons (.ty (.int .i64)) (.cons (.ty (.int .i64)) (.cons (.ty (.int .i64)) (.cons (.adr 0 4) (.cons (.own (.int .u8) 0 true) .nil))))))], [⟨⟨0, (.int .u8), 5, false, false⟩, false⟩], []⟩), (.ret, ⟨(anyN 4 (.cons (.ty .str) (.cons (.ty (.int .i64)) (.cons (.ty (.int .i64)) (anyN 46 .nil))))), [.cells 100 true (.cons (.keep .str) (.cons (.ty (.int .i64)) (.cons (.ty (.int .i64)) (.cons (.ty (.int .i64)) (.cons (.adr 0 4) (.cons (.own (.int .u8) 0 true) .nil))))))], [⟨⟨0, (.int .u8), 5, false, false⟩, false⟩], []⟩)]⟩)]
@[reducible] def fs_comp_Read : List (Nat × SFn) := [(62, .pure [.str, (.int .i64), (.int .i64)] [(.int .i64), .bool] (fun x => F_octet_Get x.1 x.2.1 x.2.2)), (79, .pure [.str, (.int .i64), (.int .i64)] [.str, .bool] (fun x => F_octet_Take x.1 x.2.1 x.2.2))]
def cfg_comp_Read : SCfg := SCfg.of (fs_comp_Read ++ inlL) ann_comp_Read keepL
theorem eq_comp_Read (x : HL [.str, (.int .i64)]) : fnK cfg_comp_Read Try.prog 100000 41 [.str, (.int .i64)] [.str, (.int .i64), (.int .i64)] x = (fun x => F_comp_Read x.1 x.2) x := by kernel_rfl
theorem told_comp_Read : Told CC Try.prog 41 [.str, (.int .i64)] [.str, (.int .i64), (.int .i64)] (fun x => F_comp_Read x.1 x.2) := told_of (gok (an := ann_comp_Read) (fs := fs_comp_Read) ⟨told_octet_Get, told_octet_Take, trivial⟩) rfl rfl eq_comp_Read

/-! wellspring/msg.many -/
def F_msg_many (s_1 : List UInt8) (list_2 : Int) : Option (Int) :=
  bnd (F_octet_Get s_1 (Go.IntKind.i64.wrap (4 + Go.IntKind.i64.wrap (2 * list_2))) 2) fun (v3, v4) =>
  some v3
def ann_msg_many : List (List Nat × Ann) := []
@[reducible] def fs_msg_many : List (Nat × SFn) := [(62, .pure [.str, (.int .i64), (.int .i64)] [(.int .i64), .bool] (fun x => F_octet_Get x.1 x.2.1 x.2.2))]
def cfg_msg_many : SCfg := SCfg.of (fs_msg_many ++ inlL) ann_msg_many keepL
theorem eq_msg_many (x : HL [.str, (.int .i64)]) : fnK cfg_msg_many Try.prog 100000 57 [.str, (.int .i64)] [(.int .i64)] x = (fun x => F_msg_many x.1 x.2) x := by kernel_rfl
theorem told_msg_many : Told CC Try.prog 57 [.str, (.int .i64)] [(.int .i64)] (fun x => F_msg_many x.1 x.2) := told_of (gok (an := ann_msg_many) (fs := fs_msg_many) ⟨told_octet_Get, trivial⟩) rfl rfl eq_msg_many

/-! wellspring/msg.question -/
def F_msg_question (s_1 : List UInt8) (at_2 : Int) : Option (((List UInt8 × (Int × Int)) × (Int × Int))) :=
  bnd (F_comp_Read s_1 at_2) fun (v3, v4, v5) =>
  if (v5 != 0) = true then
    some ((([], (0, 0)), (0, v5)))
  else
    bnd (F_octet_Get s_1 v4 2) fun (v6, v7) =>
    bnd (F_octet_Get s_1 (Go.IntKind.i64.wrap (v4 + 2)) 2) fun (v8, v9) =>
    if (!v9) = true then
      some ((([], (0, 0)), (0, 2)))
    else
      some (((v3, (v6, v8)), (Go.IntKind.i64.wrap (v4 + 4), 0)))
def ann_msg_question : List (List Nat × Ann) := []
@[reducible] def fs_msg_question : List (Nat × SFn) := [(41, .pure [.str, (.int .i64)] [.str, (.int .i64), (.int .i64)] (fun x => F_comp_Read x.1 x.2)), (62, .pure [.str, (.int .i64), (.int .i64)] [(.int .i64), .bool] (fun x => F_octet_Get x.1 x.2.1 x.2.2))]
def cfg_msg_question : SCfg := SCfg.of (fs_msg_question ++ inlL) ann_msg_question keepL
theorem eq_msg_question (x : HL [.str, (.int .i64)]) : fnK cfg_msg_question Try.prog 100000 58 [.str, (.int .i64)] [tQ, (.int .i64), (.int .i64)] x = (fun x => F_msg_question x.1 x.2) x := by kernel_rfl
theorem told_msg_question : Told CC Try.prog 58 [.str, (.int .i64)] [tQ, (.int .i64), (.int .i64)] (fun x => F_msg_question x.1 x.2) := told_of (gok (an := ann_msg_question) (fs := fs_msg_question) ⟨told_comp_Read, told_octet_Get, trivial⟩) rfl rfl eq_msg_question

/-! wellspring/data.read -/
def step_data_read_0 (msg_1 : List UInt8) (end_3 : Int) (s_4 : Int × Int × Int) (n5 : Nat) (n6 : Nat) : (Int × (Int × List (List UInt8))) → Option ((Int × (Int × List (List UInt8))) ⊕ ((Int × List (List UInt8)) ⊕ (Bool × List (List UInt8)))) := fun (at_7, s38_8, b2c_9) =>
  if decide (s38_8 < s_4.snd.fst) = true then
    bnd (F_comp_Read msg_1 at_7) fun (v10, v11, v12) =>
    bnd (α := ((Bool × List (List UInt8)) ⊕ List (List UInt8))) (if (v12 != 0) = false then
        if decide (end_3 < v11) = true then
          grdEq s_4.fst s_4.fst <|
          grdEq s_4.snd.fst s_4.snd.fst <|
          grdEq s_4.snd.snd s_4.snd.snd <|
          grdEq (α := List UInt8) [] [] <|
          grdEq (α := List UInt8) [] [] <|
          grdEq (List.drop n6 (List.take n5 msg_1)) (List.drop n6 (List.take n5 msg_1)) <|
          grdEq (α := List UInt8) [] [] <|
          some (.inl ((false, b2c_9)))
        else
          grdEq msg_1 msg_1 <|
          grdEq end_3 end_3 <|
          grdEq v10 v10 <|
          grdEq v11 v11 <|
          grdEq s_4.snd.fst s_4.snd.fst <|
          grdEq s38_8 s38_8 <|
          grdEq s_4.fst s_4.fst <|
          grdEq s_4.snd.fst s_4.snd.fst <|
          grdEq s_4.snd.snd s_4.snd.snd <|
          grdEq (α := List UInt8) [] [] <|
          grdEq (α := List UInt8) [] [] <|
          grdEq (List.drop n6 (List.take n5 msg_1)) (List.drop n6 (List.take n5 msg_1)) <|
          grdEq (α := List UInt8) [] [] <|
          some (.inr b2c_9)
      else
        grdEq s_4.fst s_4.fst <|
        grdEq s_4.snd.fst s_4.snd.fst <|
        grdEq s_4.snd.snd s_4.snd.snd <|
        grdEq (α := List UInt8) [] [] <|
        grdEq (α := List UInt8) [] [] <|
        grdEq (List.drop n6 (List.take n5 msg_1)) (List.drop n6 (List.take n5 msg_1)) <|
        grdEq (α := List UInt8) [] [] <|
        some (.inl ((false, b2c_9)))) fun o13 =>
    match o13 with
    | .inl (s9_14, b2c_15) =>
      grdEq s_4.fst s_4.fst <|
      grdEq s_4.snd.fst s_4.snd.fst <|
      grdEq s_4.snd.snd s_4.snd.snd <|
      grdEq (α := List UInt8) [] [] <|
      grdEq (α := List UInt8) [] [] <|
      grdEq (List.drop n6 (List.take n5 msg_1)) (List.drop n6 (List.take n5 msg_1)) <|
      grdEq (α := List UInt8) [] [] <|
      some (.inr (.inr ((s9_14, b2c_15))))
    | .inr b2c_16 =>
      grd ((b2c_16.length + [v10].length) * 16 ≤ roomLim) <|
      grdEq msg_1 msg_1 <|
      grdEq end_3 end_3 <|
      grdEq s_4.snd.fst s_4.snd.fst <|
      grdEq s_4.fst s_4.fst <|
      grdEq s_4.snd.fst s_4.snd.fst <|
      grdEq s_4.snd.snd s_4.snd.snd <|
      grdEq (α := List UInt8) [] [] <|
      grdEq (α := List UInt8) [] [] <|
      grdEq (List.drop n6 (List.take n5 msg_1)) (List.drop n6 (List.take n5 msg_1)) <|
      grdEq (α := List UInt8) [] [] <|
      some (.inl ((v11, (Go.IntKind.i64.wrap (s38_8 + 1), b2c_16 ++ [v10]))))
  else
    grdEq msg_1 msg_1 <|
    grdEq end_3 end_3 <|
    grdEq s_4.fst s_4.fst <|
    grdEq s_4.snd.fst s_4.snd.fst <|
    grdEq s_4.snd.snd s_4.snd.snd <|
    grdEq (α := List UInt8) [] [] <|
    grdEq (α := List UInt8) [] [] <|
    grdEq (List.drop n6 (List.take n5 msg_1)) (List.drop n6 (List.take n5 msg_1)) <|
    grdEq (α := List UInt8) [] [] <|
    some (.inr (.inl ((at_7, b2c_9))))

def F_data_read (msg_1 : List UInt8) (at_2 : Int) (end_3 : Int) (s_4 : (Int × (Int × Int))) : Option (((List UInt8 × (List UInt8 × List (List UInt8))) × Bool)) :=
  if (!decide (s_4.fst ≤ Go.IntKind.i64.wrap (end_3 - at_2))) = true then
    some ((([], ([], [])), false))
  else
    natOf (Go.IntKind.i64.wrap (at_2 + s_4.fst)) fun n5 =>
    grd (n5 ≤ msg_1.length) <|
    natOf at_2 fun n6 =>
    grd (n6 ≤ n5) <|
    bnd (loopS (step_data_read_0 msg_1 end_3 s_4 n5 n6) ((Go.IntKind.i64.wrap (at_2 + s_4.fst), (0, [])))) fun o17 =>
    match o17 with
    | .inl (at_18, b2c_19) =>
      natOf end_3 fun n20 =>
      grd (n20 ≤ msg_1.length) <|
      natOf at_18 fun n21 =>
      grd (n21 ≤ n20) <|
      some (((List.drop n6 (List.take n5 msg_1), (List.drop n21 (List.take n20 msg_1), b2c_19)), (↑(List.drop n21 (List.take n20 msg_1)).length : Int) == s_4.snd.snd))
    | .inr (s9_22, b2c_23) =>
      some ((([], ([], [])), s9_22))
def ann_data_read : List (List Nat × Ann) := [([33], ⟨none, [(.ret, ⟨(anyN 8 (.cons (.ptr 1 0) (.cons (.ty .bool) (anyN 65 .nil)))), [.cells 105 true (.cons (.keep (.int .i64)) (.cons (.keep (.int .i64)) (.cons (.keep (.int .i64)) .nil))), .cells 110 true (.cons (.keep .str) (.cons (.keep .str) (.cons .nill .nil))), .cells 110 true (.cons (.keep .str) (.cons (.keep .str) (.cons (.own .str 0 true) .nil)))], [⟨⟨0, .str, 9, false, false⟩, false⟩], []⟩), (.normal, ⟨(.cons (.keep .str) (anyN 1 (.cons (.keep (.int .i64)) (anyN 4 (.cons (.ptr 0 0) (.cons (.ptr 1 0) (anyN 1 (.cons (.ptr 2 0) (anyN 1 (.cons (.keep .str) (.cons (.keep (.int .i64)) (anyN 23 (.cons (.keep (.int .i64)) (.cons (.keep (.int .i64)) (anyN 36 .nil))))))))))))))), [.cells 105 true (.cons (.keep (.int .i64)) (.cons (.keep (.int .i64)) (.cons (.keep (.int .i64)) .nil))), .cells 110 true (.cons (.keep .str) (.cons (.keep .str) (.cons .nill .nil))), .cells 110 true (.cons (.keep .str) (.cons (.keep .str) (.cons (.own .str 0 true) .nil)))], [⟨⟨0, .str, 9, false, false⟩, false⟩], []⟩)]⟩), ([22], ⟨some ⟨(.cons (.keep .str) (.cons (.ty (.int .i64)) (.cons (.keep (.int .i64)) (anyN 4 (.cons (.ptr 0 0) (.cons (.ptr 1 0) (anyN 1 (.cons (.ptr 2 0) (anyN 26 (.cons (.keep (.int .i64)) (.cons (.ty (.int .i64)) (anyN 36 .nil)))))))))))), [.cells 105 true (.cons (.keep (.int .i64)) (.cons (.keep (.int .i64)) (.cons (.keep (.int .i64)) .nil))), .cells 110 true (.cons (.keep .str) (.cons (.keep .str) (.cons .nill .nil))), .cells 110 true (.cons (.keep .str) (.cons (.keep .str) (.cons (.own .str 0 true) .nil)))], [⟨⟨0, .str, 9, false, false⟩, true⟩], []⟩, [(.exit 0, ⟨(.cons (.keep .str) (.cons (.ty (.int .i64)) (.cons (.keep (.int .i64)) (anyN 4 (.cons (.ptr 0 0) (.cons (.ptr 1 0) (anyN 1 (.cons (.ptr 2 0) (anyN 64 .nil))))))))), [.cells 105 true (.cons (.keep (.int .i64)) (.cons (.keep (.int .i64)) (.cons (.keep (.int .i64)) .nil))), .cells 110 true (.cons (.keep .str) (.cons (.keep .str) (.cons .nill .nil))), .cells 110 true (.cons (.keep .str) (.cons (.keep .str) (.cons (.own .str 0 true) .nil)))], [⟨⟨0, .str, 9, false, false⟩, false⟩], []⟩), (.ret, ⟨(anyN 8 (.cons (.ptr 1 0) (.cons (.ty .bool) (anyN 65 .nil)))), [.cells 105 true (.cons (.keep (.int .i64)) (.cons (.keep (.int .i64)) (.cons (.keep (.int .i64)) .nil))), .cells 110 true (.cons (.keep .str) (.cons (.keep .str) (.cons .nill .nil))), .cells 110 true (.cons (.keep .str) (.cons (.keep .str) (.cons (.own .str 0 true) .nil)))], [⟨⟨0, .str, 9, false, false⟩, false⟩], []⟩)]⟩)]
@[reducible] def fs_data_read : List (Nat × SFn) := [(41, .pure [.str, (.int .i64)] [.str, (.int .i64), (.int .i64)] (fun x => F_comp_Read x.1 x.2))]
def cfg_data_read : SCfg := SCfg.of (fs_data_read ++ inlL) ann_data_read keepL
theorem eq_data_read (x : HL [.str, (.int .i64), (.int .i64), (.agg (.cons (.int .i64) (.cons (.int .i64) (.int .i64))))]) : fnK cfg_data_read Try.prog 100000 81 [.str, (.int .i64), (.int .i64), (.agg (.cons (.int .i64) (.cons (.int .i64) (.int .i64))))] [(.agg (.cons .str (.cons .str (.list .str)))), .bool] x = (fun x => F_data_read x.1 x.2.1 x.2.2.1 x.2.2.2) x := by kernel_rfl
theorem told_data_read : Told CC Try.prog 81 [.str, (.int .i64), (.int .i64), (.agg (.cons (.int .i64) (.cons (.int .i64) (.int .i64))))] [(.agg (.cons .str (.cons .str (.list .str)))), .bool] (fun x => F_data_read x.1 x.2.1 x.2.2.1 x.2.2.2) := told_of (gok (an := ann_data_read) (fs := fs_data_read) ⟨told_comp_Read, trivial⟩) rfl rfl eq_data_read

/-! wellspring/wellspringref02.Join -/
def step_ref02_Join_0 (l_1 : List (List UInt8)) : (List UInt8 × Int) → Option ((List UInt8 × Int) ⊕ (List UInt8 ⊕ (List UInt8 × Bool))) := fun (s_2, i_3) =>
  if decide (i_3 < (↑l_1.length : Int)) = true then
    bnd (α := ((List UInt8 × Bool) ⊕ Unit)) (natOf i_3 fun n4 =>
      bnd (l_1[n4]?) fun x5 =>
      if decide ((↑(List.length x5) : Int) < 1) = false then
        natOf i_3 fun n6 =>
        bnd (l_1[n6]?) fun x7 =>
        if decide (63 < (↑(List.length x7) : Int)) = false then
          if decide (255 < (↑s_2.length : Int)) = true then
            some (.inl (([], false)))
          else
            grdEq l_1 l_1 <|
            grdEq s_2 s_2 <|
            grdEq i_3 i_3 <|
            some (.inr (()))
        else
          some (.inl (([], false)))
      else
        some (.inl (([], false)))) fun o8 =>
    match o8 with
    | .inl (s2_9, s3_10) =>
      some (.inr (.inr ((s2_9, s3_10))))
    | .inr _ =>
      natOf i_3 fun n11 =>
      bnd (l_1[n11]?) fun x12 =>
      grd (s_2.length + (List.map (fun n => UInt8.ofNat (Int.toNat n)) [Go.IntKind.u8.wrap (↑(List.length x12) : Int)]).length ≤ maxStr) <|
      natOf i_3 fun n13 =>
      bnd (l_1[n13]?) fun x14 =>
      grd ((s_2 ++ List.map (fun n => UInt8.ofNat (Int.toNat n)) [Go.IntKind.u8.wrap (↑(List.length x12) : Int)]).length + List.length x14 ≤ maxStr) <|
      grdEq l_1 l_1 <|
      some (.inl ((s_2 ++ List.map (fun n => UInt8.ofNat (Int.toNat n)) [Go.IntKind.u8.wrap (↑(List.length x12) : Int)] ++ x14, Go.IntKind.i64.wrap (i_3 + 1))))
  else
    some (.inr (.inl s_2))

def F_ref02_Join (l_1 : List (List UInt8)) : Option ((List UInt8 × Bool)) :=
  bnd (loopS (step_ref02_Join_0 l_1) (([], 0))) fun o15 =>
  match o15 with
  | .inl s_16 =>
    grd (s_16.length + 1 ≤ maxStr) <|
    if decide (255 < (↑(s_16 ++ [0]).length : Int)) = true then
      some (([], false))
    else
      some ((s_16 ++ [0], true))
  | .inr (s2_17, s3_18) =>
    some ((s2_17, s3_18))
def ann_ref02_Join : List (List Nat × Ann) := [([17], ⟨none, [(.ret, ⟨(anyN 2 (.cons (.ty .str) (.cons (.ty .bool) (anyN 48 .nil)))), [], [], []⟩), (.normal, ⟨(.cons (.keep (.list .str)) (anyN 3 (.cons (.keep .str) (.cons (.keep (.int .i64)) (anyN 46 .nil))))), [], [], []⟩)]⟩), ([8], ⟨some ⟨(.cons (.keep (.list .str)) (anyN 3 (.cons (.ty .str) (.cons (.ty (.int .i64)) (anyN 46 .nil))))), [], [], []⟩, [(.exit 0, ⟨(anyN 4 (.cons (.ty .str) (anyN 47 .nil))), [], [], []⟩), (.ret, ⟨(anyN 2 (.cons (.ty .str) (.cons (.ty .bool) (anyN 48 .nil)))), [], [], []⟩)]⟩)]
def cfg_ref02_Join : SCfg := SCfg.of ([] ++ inlL) ann_ref02_Join keepL
theorem eq_ref02_Join (x : HL [(.list .str)]) : fnK cfg_ref02_Join Try.prog 100000 102 [(.list .str)] [.str, .bool] x = (fun x => F_ref02_Join x) x := by kernel_rfl
theorem told_ref02_Join : Told CC Try.prog 102 [(.list .str)] [.str, .bool] (fun x => F_ref02_Join x) := told_of (gok (an := ann_ref02_Join) (fs := []) trivial) rfl rfl eq_ref02_Join

/-! wellspring/wellspringref02.Up -/
def F_ref02_Up (n_1 : List UInt8) : Option ((List UInt8 × Bool)) :=
  bnd (F_ref02_Labels n_1) fun (v2, v3) =>
  bnd (α := ((List UInt8 × Bool) ⊕ Unit)) (if (!v3) = false then
      if ((↑v2.length : Int) == 0) = true then
        some (.inl (([], false)))
      else
        grdEq v2 v2 <|
        some (.inr (()))
    else
      some (.inl (([], false)))) fun o4 =>
  match o4 with
  | .inl (s2_5, s3_6) =>
    some ((s2_5, s3_6))
  | .inr _ =>
    grd (1 ≤ v2.length) <|
    bnd (F_ref02_Join (List.drop 1 v2)) fun (v7, v8) =>
    some ((v7, v8))
def ann_ref02_Up : List (List Nat × Ann) := [([4], ⟨none, [(.ret, ⟨(anyN 2 (.cons (.ty .str) (.cons (.ty .bool) (anyN 19 .nil)))), [], [], []⟩), (.normal, ⟨(anyN 4 (.cons (.keep (.list .str)) (anyN 18 .nil))), [], [], []⟩)]⟩)]
@[reducible] def fs_ref02_Up : List (Nat × SFn) := [(55, .pure [.str] [(.list .str), .bool] (fun x => F_ref02_Labels x)), (102, .pure [(.list .str)] [.str, .bool] (fun x => F_ref02_Join x))]
def cfg_ref02_Up : SCfg := SCfg.of (fs_ref02_Up ++ inlL) ann_ref02_Up keepL
theorem eq_ref02_Up (x : HL [.str]) : fnK cfg_ref02_Up Try.prog 100000 92 [.str] [.str, .bool] x = (fun x => F_ref02_Up x) x := by kernel_rfl
theorem told_ref02_Up : Told CC Try.prog 92 [.str] [.str, .bool] (fun x => F_ref02_Up x) := told_of (gok (an := ann_ref02_Up) (fs := fs_ref02_Up) ⟨told_ref02_Labels, told_ref02_Join, trivial⟩) rfl rfl eq_ref02_Up

/-! wellspring/wellspringlaw08.up -/
def F_law08_up (n_1 : List UInt8) : Option (List UInt8) :=
  bnd (F_ref02_Up n_1) fun (v2, v3) =>
  some v2
def ann_law08_up : List (List Nat × Ann) := []
@[reducible] def fs_law08_up : List (Nat × SFn) := [(92, .pure [.str] [.str, .bool] (fun x => F_ref02_Up x))]
def cfg_law08_up : SCfg := SCfg.of (fs_law08_up ++ inlL) ann_law08_up keepL
theorem eq_law08_up (x : HL [.str]) : fnK cfg_law08_up Try.prog 100000 103 [.str] [.str] x = (fun x => F_law08_up x) x := by kernel_rfl
theorem told_law08_up : Told CC Try.prog 103 [.str] [.str] (fun x => F_law08_up x) := told_of (gok (an := ann_law08_up) (fs := fs_law08_up) ⟨told_ref02_Up, trivial⟩) rfl rfl eq_law08_up

/-! wellspring/wellspringlaw08.ending -/
def step_law08_ending_1 (n_1 : List UInt8) (base_2 : List UInt8) (rest_3 : List UInt8) : List UInt8 → Option (List UInt8 ⊕ (List UInt8 ⊕ Unit)) := fun end_4 =>
  if decide (1 < (↑end_4.length : Int)) = true then
    bnd (F_ref02_Same rest_3 end_4) fun v5 =>
    if v5 = true then
      natOf (Go.IntKind.i64.wrap ((↑n_1.length : Int) - (↑rest_3.length : Int))) fun n6 =>
      grd (n6 ≤ n_1.length) <|
      grd ((List.take n6 n_1).length + end_4.length ≤ maxStr) <|
      some (.inr (.inl (List.take n6 n_1 ++ end_4)))
    else
      bnd (F_law08_up end_4) fun v7 =>
      grdEq n_1 n_1 <|
      grdEq base_2 base_2 <|
      grdEq rest_3 rest_3 <|
      some (.inl v7)
  else
    grdEq n_1 n_1 <|
    grdEq base_2 base_2 <|
    grdEq rest_3 rest_3 <|
    some (.inr (.inr (())))

def step_law08_ending_0 (n_1 : List UInt8) (base_2 : List UInt8) : List UInt8 → Option (List UInt8 ⊕ (Unit ⊕ List UInt8)) := fun rest_3 =>
  if decide (1 < (↑rest_3.length : Int)) = true then
    bnd (loopS (step_law08_ending_1 n_1 base_2 rest_3) base_2) fun o8 =>
    match o8 with
    | .inl s4_9 =>
      some (.inr (.inr s4_9))
    | .inr _ =>
      bnd (F_law08_up rest_3) fun v10 =>
      grdEq n_1 n_1 <|
      grdEq base_2 base_2 <|
      some (.inl v10)
  else
    grdEq n_1 n_1 <|
    some (.inr (.inl (())))

def F_law08_ending (n_1 : List UInt8) (base_2 : List UInt8) : Option (List UInt8) :=
  bnd (loopS (step_law08_ending_0 n_1 base_2) n_1) fun o11 =>
  match o11 with
  | .inl _ =>
    some n_1
  | .inr s4_12 =>
    some s4_12
def ann_law08_ending : List (List Nat × Ann) := [([6], ⟨some ⟨(.cons (.keep .str) (.cons (.keep .str) (anyN 3 (.cons (.ty .str) (anyN 26 .nil))))), [], [], []⟩, [(.exit 0, ⟨(.cons (.keep .str) (anyN 31 .nil)), [], [], []⟩), (.ret, ⟨(anyN 4 (.cons (.ty .str) (anyN 27 .nil))), [], [], []⟩)]⟩), ([18], ⟨some ⟨(.cons (.keep .str) (.cons (.keep .str) (anyN 3 (.cons (.keep .str) (.cons (.ty .str) (anyN 25 .nil)))))), [], [], []⟩, [(.ret, ⟨(anyN 4 (.cons (.ty .str) (anyN 27 .nil))), [], [], []⟩), (.exit 2, ⟨(.cons (.keep .str) (.cons (.keep .str) (anyN 3 (.cons (.keep .str) (anyN 26 .nil))))), [], [], []⟩)]⟩)]
@[reducible] def fs_law08_ending : List (Nat × SFn) := [(24, .pure [.str, .str] [.bool] (fun x => F_ref02_Same x.1 x.2)), (103, .pure [.str] [.str] (fun x => F_law08_up x))]
def cfg_law08_ending : SCfg := SCfg.of (fs_law08_ending ++ inlL) ann_law08_ending keepL
theorem eq_law08_ending (x : HL [.str, .str]) : fnK cfg_law08_ending Try.prog 100000 95 [.str, .str] [.str] x = (fun x => F_law08_ending x.1 x.2) x := by kernel_rfl
theorem told_law08_ending : Told CC Try.prog 95 [.str, .str] [.str] (fun x => F_law08_ending x.1 x.2) := told_of (gok (an := ann_law08_ending) (fs := fs_law08_ending) ⟨told_ref02_Same, told_law08_up, trivial⟩) rfl rfl eq_law08_ending

/-! wellspring/wellspringlaw08.letters -/
def step_law08_letters_0 (l_1 : List (List UInt8 × Int × Int × Int × List UInt8)) (base_2 : List UInt8) : (List ((List UInt8 × (Int × (Int × (Int × List UInt8))))) × Int) → Option ((List ((List UInt8 × (Int × (Int × (Int × List UInt8))))) × Int) ⊕ List ((List UInt8 × (Int × (Int × (Int × List UInt8)))))) := fun (out_3, i_4) =>
  if decide (i_4 < (↑l_1.length : Int)) = true then
    natOf i_4 fun n5 =>
    bnd (l_1[n5]?) fun x6 =>
    bnd (F_law08_ending x6.fst base_2) fun v7 =>
    grd ((out_3.length + [(v7, x6.snd.fst, x6.snd.snd.fst, x6.snd.snd.snd.fst, x6.snd.snd.snd.snd)].length) * 56 ≤ roomLim) <|
    grdEq l_1 l_1 <|
    grdEq base_2 base_2 <|
    some (.inl ((out_3 ++ [(v7, x6.snd.fst, x6.snd.snd.fst, x6.snd.snd.snd.fst, x6.snd.snd.snd.snd)], Go.IntKind.i64.wrap (i_4 + 1))))
  else
    some (.inr out_3)

def F_law08_letters (l_1 : List ((List UInt8 × (Int × (Int × (Int × List UInt8)))))) (base_2 : List UInt8) : Option (List ((List UInt8 × (Int × (Int × (Int × List UInt8)))))) :=
  bnd (loopS (step_law08_letters_0 l_1 base_2) (([], 0))) fun out_8 =>
  some out_8
def ann_law08_letters : List (List Nat × Ann) := [([8], ⟨some ⟨(.cons (.keep (.list tRR)) (.cons (.keep .str) (anyN 3 (.cons (.own tRR 0 true) (.cons (.ty (.int .i64)) (anyN 21 .nil)))))), [], [⟨⟨0, tRR, 24, false, false⟩, true⟩], []⟩, [(.exit 0, ⟨(anyN 5 (.cons (.own tRR 0 true) (anyN 22 .nil))), [], [⟨⟨1, tRR, 24, false, false⟩, true⟩], []⟩)]⟩)]
@[reducible] def fs_law08_letters : List (Nat × SFn) := [(95, .pure [.str, .str] [.str] (fun x => F_law08_ending x.1 x.2))]
def cfg_law08_letters : SCfg := SCfg.of (fs_law08_letters ++ inlL) ann_law08_letters keepL
theorem eq_law08_letters (x : HL [(.list tRR), .str]) : fnK cfg_law08_letters Try.prog 100000 75 [(.list tRR), .str] [(.list tRR)] x = (fun x => F_law08_letters x.1 x.2) x := by kernel_rfl
theorem told_law08_letters : Told CC Try.prog 75 [(.list tRR), .str] [(.list tRR)] (fun x => F_law08_letters x.1 x.2) := told_of (gok (an := ann_law08_letters) (fs := fs_law08_letters) ⟨told_law08_ending, trivial⟩) rfl rfl eq_law08_letters

/-! wellspring/wellspringlaw08.again -/
def F_law08_again (m_1 : (Int × (Int × (List ((List UInt8 × (Int × Int))) × (List ((List UInt8 × (Int × (Int × (Int × List UInt8))))) × (List ((List UInt8 × (Int × (Int × (Int × List UInt8))))) × List ((List UInt8 × (Int × (Int × (Int × List UInt8))))))))))) : Option ((Int × (Int × (List ((List UInt8 × (Int × Int))) × (List ((List UInt8 × (Int × (Int × (Int × List UInt8))))) × (List ((List UInt8 × (Int × (Int × (Int × List UInt8))))) × List ((List UInt8 × (Int × (Int × (Int × List UInt8))))))))))) :=
  bnd (F_ref08_Base (m_1.fst, m_1.snd.fst, m_1.snd.snd.fst, m_1.snd.snd.snd.fst, m_1.snd.snd.snd.snd.fst, m_1.snd.snd.snd.snd.snd)) fun v2 =>
  bnd (F_law08_letters m_1.snd.snd.snd.fst v2) fun v3 =>
  bnd (F_ref08_Base (m_1.fst, m_1.snd.fst, m_1.snd.snd.fst, m_1.snd.snd.snd.fst, m_1.snd.snd.snd.snd.fst, m_1.snd.snd.snd.snd.snd)) fun v4 =>
  bnd (F_law08_letters m_1.snd.snd.snd.snd.fst v4) fun v5 =>
  bnd (F_ref08_Base (m_1.fst, m_1.snd.fst, m_1.snd.snd.fst, m_1.snd.snd.snd.fst, m_1.snd.snd.snd.snd.fst, m_1.snd.snd.snd.snd.snd)) fun v6 =>
  bnd (F_law08_letters m_1.snd.snd.snd.snd.snd v6) fun v7 =>
  some ((m_1.fst, (m_1.snd.fst, (m_1.snd.snd.fst, (v3, (v5, v7))))))
def ann_law08_again : List (List Nat × Ann) := []
@[reducible] def fs_law08_again : List (Nat × SFn) := [(65, .pure [tM] [.str] (fun x => F_ref08_Base x)), (75, .pure [(.list tRR), .str] [(.list tRR)] (fun x => F_law08_letters x.1 x.2))]
def cfg_law08_again : SCfg := SCfg.of (fs_law08_again ++ inlL) ann_law08_again keepL
theorem eq_law08_again (x : HL [tM]) : fnK cfg_law08_again Try.prog 100000 40 [tM] [tM] x = (fun x => F_law08_again x) x := by kernel_rfl
theorem told_law08_again : Told CC Try.prog 40 [tM] [tM] (fun x => F_law08_again x) := told_of (gok (an := ann_law08_again) (fs := fs_law08_again) ⟨told_ref08_Base, told_law08_letters, trivial⟩) rfl rfl eq_law08_again

/-! internal/stringslite.HasSuffix -/
def F_stringslite_HasSuffix (s_1 : List UInt8) (suffix_2 : List UInt8) : Option (Bool) :=
  if decide ((↑suffix_2.length : Int) ≤ (↑s_1.length : Int)) = true then
    natOf (Go.IntKind.i64.wrap ((↑s_1.length : Int) - (↑suffix_2.length : Int))) fun n3 =>
    grd (n3 ≤ s_1.length) <|
    some (List.drop n3 s_1 == suffix_2)
  else
    some false
def ann_stringslite_HasSuffix : List (List Nat × Ann) := []
def cfg_stringslite_HasSuffix : SCfg := SCfg.of ([] ++ inlL) ann_stringslite_HasSuffix keepL
theorem eq_stringslite_HasSuffix (x : HL [.str, .str]) : fnK cfg_stringslite_HasSuffix Try.prog 100000 107 [.str, .str] [.bool] x = (fun x => F_stringslite_HasSuffix x.1 x.2) x := by kernel_rfl
theorem told_stringslite_HasSuffix : Told CC Try.prog 107 [.str, .str] [.bool] (fun x => F_stringslite_HasSuffix x.1 x.2) := told_of (gok (an := ann_stringslite_HasSuffix) (fs := []) trivial) rfl rfl eq_stringslite_HasSuffix

/-! internal/stringslite.TrimSuffix -/
def F_stringslite_TrimSuffix (s_1 : List UInt8) (suffix_2 : List UInt8) : Option (List UInt8) :=
  bnd (F_stringslite_HasSuffix s_1 suffix_2) fun v3 =>
  if v3 = true then
    natOf (Go.IntKind.i64.wrap ((↑s_1.length : Int) - (↑suffix_2.length : Int))) fun n4 =>
    grd (n4 ≤ s_1.length) <|
    some (List.take n4 s_1)
  else
    some s_1
def ann_stringslite_TrimSuffix : List (List Nat × Ann) := []
@[reducible] def fs_stringslite_TrimSuffix : List (Nat × SFn) := [(107, .pure [.str, .str] [.bool] (fun x => F_stringslite_HasSuffix x.1 x.2))]
def cfg_stringslite_TrimSuffix : SCfg := SCfg.of (fs_stringslite_TrimSuffix ++ inlL) ann_stringslite_TrimSuffix keepL
theorem eq_stringslite_TrimSuffix (x : HL [.str, .str]) : fnK cfg_stringslite_TrimSuffix Try.prog 100000 101 [.str, .str] [.str] x = (fun x => F_stringslite_TrimSuffix x.1 x.2) x := by kernel_rfl
theorem told_stringslite_TrimSuffix : Told CC Try.prog 101 [.str, .str] [.str] (fun x => F_stringslite_TrimSuffix x.1 x.2) := told_of (gok (an := ann_stringslite_TrimSuffix) (fs := fs_stringslite_TrimSuffix) ⟨told_stringslite_HasSuffix, trivial⟩) rfl rfl eq_stringslite_TrimSuffix

/-! strings.TrimSuffix -/
def F_strings_TrimSuffix (s_1 : List UInt8) (suffix_2 : List UInt8) : Option (List UInt8) :=
  bnd (F_stringslite_TrimSuffix s_1 suffix_2) fun v3 =>
  some v3
def ann_strings_TrimSuffix : List (List Nat × Ann) := []
@[reducible] def fs_strings_TrimSuffix : List (Nat × SFn) := [(101, .pure [.str, .str] [.str] (fun x => F_stringslite_TrimSuffix x.1 x.2))]
def cfg_strings_TrimSuffix : SCfg := SCfg.of (fs_strings_TrimSuffix ++ inlL) ann_strings_TrimSuffix keepL
theorem eq_strings_TrimSuffix (x : HL [.str, .str]) : fnK cfg_strings_TrimSuffix Try.prog 100000 90 [.str, .str] [.str] x = (fun x => F_strings_TrimSuffix x.1 x.2) x := by kernel_rfl
theorem told_strings_TrimSuffix : Told CC Try.prog 90 [.str, .str] [.str] (fun x => F_strings_TrimSuffix x.1 x.2) := told_of (gok (an := ann_strings_TrimSuffix) (fs := fs_strings_TrimSuffix) ⟨told_stringslite_TrimSuffix, trivial⟩) rfl rfl eq_strings_TrimSuffix

/-! wellspring/name.small -/
def F_name_small (c_1 : Int) : Option (Int) :=
  if decide (65 ≤ c_1) = true then
    if decide (c_1 ≤ 90) = true then
      some (Go.IntKind.u8.wrap (c_1 + 32))
    else
      some c_1
  else
    some c_1
def ann_name_small : List (List Nat × Ann) := []
def cfg_name_small : SCfg := SCfg.of ([] ++ inlL) ann_name_small keepL
theorem eq_name_small (x : HL [(.int .u8)]) : fnK cfg_name_small Try.prog 100000 110 [(.int .u8)] [(.int .u8)] x = (fun x => F_name_small x) x := by kernel_rfl
theorem told_name_small : Told CC Try.prog 110 [(.int .u8)] [(.int .u8)] (fun x => F_name_small x) := told_of (gok (an := ann_name_small) (fs := []) trivial) rfl rfl eq_name_small

/-! wellspring/name.low -/
def step_name_low_0 (s_1 : List UInt8) : (List (Int) × (List (Int) × Int)) → Option ((List (Int) × (List (Int) × Int)) ⊕ List (Int)) := fun (b_2, s8_3, s10_4) =>
  if decide (s10_4 < (↑(List.map (fun b => (↑b.toNat : Int)) s_1).length : Int)) = true then
    natOf s10_4 fun n5 =>
    bnd (s8_3[n5]?) fun x6 =>
    bnd (F_name_small x6) fun v7 =>
    natOf s10_4 fun n8 =>
    bnd (b_2[n8]?) fun x9 =>
    grdEq ((↑(List.map (fun b => (↑b.toNat : Int)) s_1).length : Int)) ((↑(List.map (fun b => (↑b.toNat : Int)) s_1).length : Int)) <|
    some (.inl ((b_2.set n8 v7, (s8_3.set n8 v7, Go.IntKind.i64.wrap (s10_4 + 1)))))
  else
    some (.inr b_2)

def F_name_low (s_1 : List UInt8) : Option (List UInt8) :=
  bnd (loopS (step_name_low_0 s_1) ((List.map (fun b => (↑b.toNat : Int)) s_1, (List.map (fun b => (↑b.toNat : Int)) s_1, 0)))) fun b_10 =>
  some (List.map (fun n => UInt8.ofNat (Int.toNat n)) b_10)
def ann_name_low : List (List Nat × Ann) := [([8], ⟨some ⟨(anyN 3 (.cons (.own (.int .u8) 0 true) (anyN 4 (.cons (.own (.int .u8) 0 true) (.cons (.keep (.int .i64)) (.cons (.ty (.int .i64)) (anyN 12 .nil))))))), [], [⟨⟨0, (.int .u8), 5, true, true⟩, false⟩], [0]⟩, [(.exit 0, ⟨(anyN 3 (.cons (.own (.int .u8) 0 true) (anyN 19 .nil))), [], [⟨⟨0, (.int .u8), 5, true, true⟩, false⟩], [0]⟩)]⟩)]
@[reducible] def fs_name_low : List (Nat × SFn) := [(110, .pure [(.int .u8)] [(.int .u8)] (fun x => F_name_small x))]
def cfg_name_low : SCfg := SCfg.of (fs_name_low ++ inlL) ann_name_low keepL
theorem eq_name_low (x : HL [.str]) : fnK cfg_name_low Try.prog 100000 106 [.str] [.str] x = (fun x => F_name_low x) x := by kernel_rfl
theorem told_name_low : Told CC Try.prog 106 [.str] [.str] (fun x => F_name_low x) := told_of (gok (an := ann_name_low) (fs := fs_name_low) ⟨told_name_small, trivial⟩) rfl rfl eq_name_low

/-! wellspring/name.Same -/
def F_name_Same (a_1 : List UInt8) (b_2 : List UInt8) : Option (Bool) :=
  bnd (F_name_Check a_1) fun v3 =>
  if v3 = true then
    bnd (F_name_Check b_2) fun v4 =>
    if v4 = true then
      bnd (F_name_low a_1) fun v5 =>
      bnd (F_name_low b_2) fun v6 =>
      some (v5 == v6)
    else
      some false
  else
    some false
def ann_name_Same : List (List Nat × Ann) := []
@[reducible] def fs_name_Same : List (Nat × SFn) := [(48, .pure [.str] [.bool] (fun x => F_name_Check x)), (106, .pure [.str] [.str] (fun x => F_name_low x))]
def cfg_name_Same : SCfg := SCfg.of (fs_name_Same ++ inlL) ann_name_Same keepL
theorem eq_name_Same (x : HL [.str, .str]) : fnK cfg_name_Same Try.prog 100000 100 [.str, .str] [.bool] x = (fun x => F_name_Same x.1 x.2) x := by kernel_rfl
theorem told_name_Same : Told CC Try.prog 100 [.str, .str] [.bool] (fun x => F_name_Same x.1 x.2) := told_of (gok (an := ann_name_Same) (fs := fs_name_Same) ⟨told_name_Check, told_name_low, trivial⟩) rfl rfl eq_name_Same

/-! wellspring/comp.place -/
def step_comp_place_0 (base_1 : List UInt8) (n_2 : List UInt8) : (List UInt8 × Bool) → Option ((List UInt8 × Bool) ⊕ (Int ⊕ Unit)) := fun (end_3, is_4) =>
  bnd (α := (Unit ⊕ Unit)) (if is_4 = true then
      if decide (1 < (↑end_3.length : Int)) = true then
        grdEq base_1 base_1 <|
        grdEq n_2 n_2 <|
        grdEq end_3 end_3 <|
        some (.inl (()))
      else
        some (.inr (()))
    else
      some (.inr (()))) fun o5 =>
  match o5 with
  | .inl _ =>
    bnd (F_name_Same end_3 n_2) fun v6 =>
    if v6 = true then
      some (.inr (.inl (Go.IntKind.i64.wrap ((↑base_1.length : Int) - (↑end_3.length : Int)))))
    else
      bnd (F_name_Up end_3) fun (v7, v8) =>
      grdEq base_1 base_1 <|
      grdEq n_2 n_2 <|
      some (.inl ((v7, v8)))
  | .inr _ =>
    some (.inr (.inr (())))

def F_comp_place (base_1 : List UInt8) (n_2 : List UInt8) : Option (Int) :=
  bnd (loopS (step_comp_place_0 base_1 n_2) ((base_1, true))) fun o9 =>
  match o9 with
  | .inl s4_10 =>
    some s4_10
  | .inr _ =>
    some (-1)
def ann_comp_place : List (List Nat × Ann) := [([7], ⟨none, [(.normal, ⟨(.cons (.keep .str) (.cons (.keep .str) (anyN 3 (.cons (.keep .str) (anyN 21 .nil))))), [], [], []⟩), (.exit 0, ⟨(anyN 27 .nil), [], [], []⟩)]⟩), ([6], ⟨some ⟨(.cons (.keep .str) (.cons (.keep .str) (anyN 3 (.cons (.ty .str) (.cons (.ty .bool) (anyN 20 .nil)))))), [], [], []⟩, [(.ret, ⟨(anyN 4 (.cons (.ty (.int .i64)) (anyN 22 .nil))), [], [], []⟩), (.exit 0, ⟨(anyN 27 .nil), [], [], []⟩)]⟩)]
@[reducible] def fs_comp_place : List (Nat × SFn) := [(100, .pure [.str, .str] [.bool] (fun x => F_name_Same x.1 x.2)), (88, .pure [.str] [.str, .bool] (fun x => F_name_Up x))]
def cfg_comp_place : SCfg := SCfg.of (fs_comp_place ++ inlL) ann_comp_place keepL
theorem eq_comp_place (x : HL [.str, .str]) : fnK cfg_comp_place Try.prog 100000 89 [.str, .str] [(.int .i64)] x = (fun x => F_comp_place x.1 x.2) x := by kernel_rfl
theorem told_comp_place : Told CC Try.prog 89 [.str, .str] [(.int .i64)] (fun x => F_comp_place x.1 x.2) := told_of (gok (an := ann_comp_place) (fs := fs_comp_place) ⟨told_name_Same, told_name_Up, trivial⟩) rfl rfl eq_comp_place

end
end Go.Abs

set_option maxRecDepth 100000
namespace Go.Abs
open Go Go.Proofs
noncomputable section

/-! wellspring/comp.Write -/
def step_comp_Write_0 (base_1 : List UInt8) (at_2 : Int) (n_3 : List UInt8) : (List UInt8 × Bool) → Option ((List UInt8 × Bool) ⊕ (List UInt8 ⊕ Unit)) := fun (rest_8, is_9) =>
  bnd (α := (Unit ⊕ Unit)) (if is_9 = true then
      if decide (1 < (↑rest_8.length : Int)) = true then
        grdEq base_1 base_1 <|
        grdEq at_2 at_2 <|
        grdEq n_3 n_3 <|
        grdEq rest_8 rest_8 <|
        some (.inl (()))
      else
        grdEq n_3 n_3 <|
        some (.inr (()))
    else
      grdEq n_3 n_3 <|
      some (.inr (()))) fun o10 =>
  match o10 with
  | .inl _ =>
    bnd (F_comp_place base_1 rest_8) fun v11 =>
    if decide (0 ≤ v11) = true then
      bnd (F_strings_TrimSuffix n_3 rest_8) fun v12 =>
      bnd (F_octet_Put (Go.IntKind.i64.wrap (Go.IntKind.i64.wrap (49152 + at_2) + v11)) 2) fun v13 =>
      grd (v12.length + v13.length ≤ maxStr) <|
      some (.inr (.inl (v12 ++ v13)))
    else
      bnd (F_name_Up rest_8) fun (v14, v15) =>
      grdEq base_1 base_1 <|
      grdEq at_2 at_2 <|
      grdEq n_3 n_3 <|
      some (.inl ((v14, v15)))
  | .inr _ =>
    grdEq n_3 n_3 <|
    some (.inr (.inr (())))

def F_comp_Write (base_1 : List UInt8) (at_2 : Int) (n_3 : List UInt8) : Option (List UInt8) :=
  bnd (α := (List UInt8 ⊕ Unit)) (bnd (F_name_Check base_1) fun v4 =>
    if (!v4) = false then
      bnd (F_name_Check n_3) fun v5 =>
      if (!v5) = false then
        if decide (at_2 < 0) = false then
          if decide (16000 < at_2) = true then
            some (.inl ([]))
          else
            grdEq base_1 base_1 <|
            grdEq at_2 at_2 <|
            grdEq n_3 n_3 <|
            some (.inr (()))
        else
          some (.inl ([]))
      else
        some (.inl ([]))
    else
      some (.inl ([]))) fun o6 =>
  match o6 with
  | .inl s6_7 =>
    some s6_7
  | .inr _ =>
    bnd (loopS (step_comp_Write_0 base_1 at_2 n_3) ((n_3, true))) fun o16 =>
    match o16 with
    | .inl s6_17 =>
      some s6_17
    | .inr _ =>
      some n_3
def ann_comp_Write : List (List Nat × Ann) := [([2], ⟨none, [(.ret, ⟨(anyN 6 (.cons (.ty .str) (anyN 46 .nil))), [], [], []⟩), (.normal, ⟨(.cons (.keep .str) (.cons (.keep (.int .i64)) (.cons (.keep .str) (anyN 50 .nil)))), [], [], []⟩)]⟩), ([15], ⟨none, [(.normal, ⟨(.cons (.keep .str) (.cons (.keep (.int .i64)) (.cons (.keep .str) (anyN 4 (.cons (.keep .str) (anyN 45 .nil)))))), [], [], []⟩), (.exit 0, ⟨(anyN 2 (.cons (.keep .str) (anyN 50 .nil))), [], [], []⟩)]⟩), ([14], ⟨some ⟨(.cons (.keep .str) (.cons (.keep (.int .i64)) (.cons (.keep .str) (anyN 4 (.cons (.ty .str) (.cons (.ty .bool) (anyN 44 .nil))))))), [], [], []⟩, [(.ret, ⟨(anyN 6 (.cons (.ty .str) (anyN 46 .nil))), [], [], []⟩), (.exit 0, ⟨(anyN 2 (.cons (.keep .str) (anyN 50 .nil))), [], [], []⟩)]⟩)]
@[reducible] def fs_comp_Write : List (Nat × SFn) := [(89, .pure [.str, .str] [(.int .i64)] (fun x => F_comp_place x.1 x.2)), (90, .pure [.str, .str] [.str] (fun x => F_strings_TrimSuffix x.1 x.2)), (53, .pure [(.int .i64), (.int .i64)] [.str] (fun x => F_octet_Put x.1 x.2)), (88, .pure [.str] [.str, .bool] (fun x => F_name_Up x)), (48, .pure [.str] [.bool] (fun x => F_name_Check x))]
def cfg_comp_Write : SCfg := SCfg.of (fs_comp_Write ++ inlL) ann_comp_Write keepL
theorem eq_comp_Write (x : HL [.str, (.int .i64), .str]) : fnK cfg_comp_Write Try.prog 100000 52 [.str, (.int .i64), .str] [.str] x = (fun x => F_comp_Write x.1 x.2.1 x.2.2) x := by kernel_rfl
theorem told_comp_Write : Told CC Try.prog 52 [.str, (.int .i64), .str] [.str] (fun x => F_comp_Write x.1 x.2.1 x.2.2) := told_of (gok (an := ann_comp_Write) (fs := fs_comp_Write) ⟨told_comp_place, told_strings_TrimSuffix, told_octet_Put, told_name_Up, told_name_Check, trivial⟩) rfl rfl eq_comp_Write

/-! wellspring/data.Expand -/
def F_data_Expand (msg_1 : List UInt8) (at_2 : Int) (size_3 : Int) (kind_4 : Int) : Option ((List UInt8 × Int)) :=
  bnd (F_octet_Take msg_1 at_2 size_3) fun (v5, v6) =>
  if (!v6) = true then
    some (([], 2))
  else
    bnd (α := (List UInt8 × Bool)) (if (sfind (Ty.int Go.IntKind.i64) (.agg (.cons (.int .i64) (.cons (.int .i64) (.int .i64)))) kind_4 (sputM (Ty.int Go.IntKind.i64) (.agg (.cons (.int .i64) (.cons (.int .i64) (.int .i64)))) 33 (6, 1, 0) (sputM (Ty.int Go.IntKind.i64) (.agg (.cons (.int .i64) (.cons (.int .i64) (.int .i64)))) 15 (2, 1, 0) (sputM (Ty.int Go.IntKind.i64) (.agg (.cons (.int .i64) (.cons (.int .i64) (.int .i64)))) 6 (0, 2, 20) (sputM (Ty.int Go.IntKind.i64) (.agg (.cons (.int .i64) (.cons (.int .i64) (.int .i64)))) 12 (0, 1, 0) (sputM (Ty.int Go.IntKind.i64) (.agg (.cons (.int .i64) (.cons (.int .i64) (.int .i64)))) 5 (0, 1, 0) (sputM (Ty.int Go.IntKind.i64) (.agg (.cons (.int .i64) (.cons (.int .i64) (.int .i64)))) 2 (0, 1, 0) (sputM (Ty.int Go.IntKind.i64) (.agg (.cons (.int .i64) (.cons (.int .i64) (.int .i64)))) 28 (16, 0, 0) (sputM (Ty.int Go.IntKind.i64) (.agg (.cons (.int .i64) (.cons (.int .i64) (.int .i64)))) 1 (4, 0, 0) []))))))))).isSome = true then
        bnd (F_data_read msg_1 at_2 (Go.IntKind.i64.wrap (at_2 + size_3)) (((sfind (Ty.int Go.IntKind.i64) (.agg (.cons (.int .i64) (.cons (.int .i64) (.int .i64)))) kind_4 (sputM (Ty.int Go.IntKind.i64) (.agg (.cons (.int .i64) (.cons (.int .i64) (.int .i64)))) 33 (6, 1, 0) (sputM (Ty.int Go.IntKind.i64) (.agg (.cons (.int .i64) (.cons (.int .i64) (.int .i64)))) 15 (2, 1, 0) (sputM (Ty.int Go.IntKind.i64) (.agg (.cons (.int .i64) (.cons (.int .i64) (.int .i64)))) 6 (0, 2, 20) (sputM (Ty.int Go.IntKind.i64) (.agg (.cons (.int .i64) (.cons (.int .i64) (.int .i64)))) 12 (0, 1, 0) (sputM (Ty.int Go.IntKind.i64) (.agg (.cons (.int .i64) (.cons (.int .i64) (.int .i64)))) 5 (0, 1, 0) (sputM (Ty.int Go.IntKind.i64) (.agg (.cons (.int .i64) (.cons (.int .i64) (.int .i64)))) 2 (0, 1, 0) (sputM (Ty.int Go.IntKind.i64) (.agg (.cons (.int .i64) (.cons (.int .i64) (.int .i64)))) 28 (16, 0, 0) (sputM (Ty.int Go.IntKind.i64) (.agg (.cons (.int .i64) (.cons (.int .i64) (.int .i64)))) 1 (4, 0, 0) []))))))))).getD (0, 0, 0)).fst, ((sfind (Ty.int Go.IntKind.i64) (.agg (.cons (.int .i64) (.cons (.int .i64) (.int .i64)))) kind_4 (sputM (Ty.int Go.IntKind.i64) (.agg (.cons (.int .i64) (.cons (.int .i64) (.int .i64)))) 33 (6, 1, 0) (sputM (Ty.int Go.IntKind.i64) (.agg (.cons (.int .i64) (.cons (.int .i64) (.int .i64)))) 15 (2, 1, 0) (sputM (Ty.int Go.IntKind.i64) (.agg (.cons (.int .i64) (.cons (.int .i64) (.int .i64)))) 6 (0, 2, 20) (sputM (Ty.int Go.IntKind.i64) (.agg (.cons (.int .i64) (.cons (.int .i64) (.int .i64)))) 12 (0, 1, 0) (sputM (Ty.int Go.IntKind.i64) (.agg (.cons (.int .i64) (.cons (.int .i64) (.int .i64)))) 5 (0, 1, 0) (sputM (Ty.int Go.IntKind.i64) (.agg (.cons (.int .i64) (.cons (.int .i64) (.int .i64)))) 2 (0, 1, 0) (sputM (Ty.int Go.IntKind.i64) (.agg (.cons (.int .i64) (.cons (.int .i64) (.int .i64)))) 28 (16, 0, 0) (sputM (Ty.int Go.IntKind.i64) (.agg (.cons (.int .i64) (.cons (.int .i64) (.int .i64)))) 1 (4, 0, 0) []))))))))).getD (0, 0, 0)).snd.fst, ((sfind (Ty.int Go.IntKind.i64) (.agg (.cons (.int .i64) (.cons (.int .i64) (.int .i64)))) kind_4 (sputM (Ty.int Go.IntKind.i64) (.agg (.cons (.int .i64) (.cons (.int .i64) (.int .i64)))) 33 (6, 1, 0) (sputM (Ty.int Go.IntKind.i64) (.agg (.cons (.int .i64) (.cons (.int .i64) (.int .i64)))) 15 (2, 1, 0) (sputM (Ty.int Go.IntKind.i64) (.agg (.cons (.int .i64) (.cons (.int .i64) (.int .i64)))) 6 (0, 2, 20) (sputM (Ty.int Go.IntKind.i64) (.agg (.cons (.int .i64) (.cons (.int .i64) (.int .i64)))) 12 (0, 1, 0) (sputM (Ty.int Go.IntKind.i64) (.agg (.cons (.int .i64) (.cons (.int .i64) (.int .i64)))) 5 (0, 1, 0) (sputM (Ty.int Go.IntKind.i64) (.agg (.cons (.int .i64) (.cons (.int .i64) (.int .i64)))) 2 (0, 1, 0) (sputM (Ty.int Go.IntKind.i64) (.agg (.cons (.int .i64) (.cons (.int .i64) (.int .i64)))) 28 (16, 0, 0) (sputM (Ty.int Go.IntKind.i64) (.agg (.cons (.int .i64) (.cons (.int .i64) (.int .i64)))) 1 (4, 0, 0) []))))))))).getD (0, 0, 0)).snd.snd)) fun (v7, v8) =>
        bnd (F_data_parts_whole (v7.fst, v7.snd.fst, v7.snd.snd)) fun v9 =>
        grdEq kind_4 kind_4 <|
        some ((v9, v8))
      else
        grdEq kind_4 kind_4 <|
        some ((v5, v6))) fun (d_10, is_11) =>
    if (!is_11) = false then
      if (kind_4 == 16) = true then
        bnd (F_data_texts d_10) fun v12 =>
        if (!v12) = false then
          if decide (65535 < (↑d_10.length : Int)) = true then
            some (([], 4))
          else
            some ((d_10, 0))
        else
          some (([], 4))
      else
        if decide (65535 < (↑d_10.length : Int)) = true then
          some (([], 4))
        else
          some ((d_10, 0))
    else
      some (([], 4))
def ann_data_Expand : List (List Nat × Ann) := [([12], ⟨none, [(.normal, ⟨(anyN 3 (.cons (.keep (.int .i64)) (anyN 6 (.cons (.ty .str) (.cons (.ty .bool) (anyN 50 .nil)))))), [], [], []⟩)]⟩)]
@[reducible] def fs_data_Expand : List (Nat × SFn) := [(79, .pure [.str, (.int .i64), (.int .i64)] [.str, .bool] (fun x => F_octet_Take x.1 x.2.1 x.2.2)), (81, .pure [.str, (.int .i64), (.int .i64), (.agg (.cons (.int .i64) (.cons (.int .i64) (.int .i64))))] [(.agg (.cons .str (.cons .str (.list .str)))), .bool] (fun x => F_data_read x.1 x.2.1 x.2.2.1 x.2.2.2)), (82, .pure [(.agg (.cons .str (.cons .str (.list .str))))] [.str] (fun x => F_data_parts_whole x)), (83, .pure [.str] [.bool] (fun x => F_data_texts x))]
def cfg_data_Expand : SCfg := SCfg.of (fs_data_Expand ++ inlL) ann_data_Expand keepL
theorem eq_data_Expand (x : HL [.str, (.int .i64), (.int .i64), (.int .i64)]) : fnK cfg_data_Expand Try.prog 100000 43 [.str, (.int .i64), (.int .i64), (.int .i64)] [.str, (.int .i64)] x = (fun x => F_data_Expand x.1 x.2.1 x.2.2.1 x.2.2.2) x := by kernel_rfl
theorem told_data_Expand : Told CC Try.prog 43 [.str, (.int .i64), (.int .i64), (.int .i64)] [.str, (.int .i64)] (fun x => F_data_Expand x.1 x.2.1 x.2.2.1 x.2.2.2) := told_of (gok (an := ann_data_Expand) (fs := fs_data_Expand) ⟨told_octet_Take, told_data_read, told_data_parts_whole, told_data_texts, trivial⟩) rfl rfl eq_data_Expand

/-! wellspring/record.Decode -/
def F_record_Decode (msg_1 : List UInt8) (at_2 : Int) : Option (((List UInt8 × (Int × (Int × (Int × List UInt8)))) × (Int × Int))) :=
  bnd (F_comp_Read msg_1 at_2) fun (v3, v4, v5) =>
  if (v5 != 0) = true then
    some ((([], (0, (0, (0, [])))), (0, v5)))
  else
    bnd (F_octet_Get msg_1 v4 2) fun (v6, v7) =>
    bnd (F_octet_Get msg_1 (Go.IntKind.i64.wrap (v4 + 2)) 2) fun (v8, v9) =>
    if (!v7) = false then
      bnd (F_octet_Get msg_1 (Go.IntKind.i64.wrap (Go.IntKind.i64.wrap (v4 + 2) + 2)) 4) fun (v10, v11) =>
      if (!v9) = false then
        bnd (F_octet_Get msg_1 (Go.IntKind.i64.wrap (Go.IntKind.i64.wrap (Go.IntKind.i64.wrap (v4 + 2) + 2) + 4)) 2) fun (v12, v13) =>
        if (!v11) = false then
          if (!v13) = true then
            some ((([], (0, (0, (0, [])))), (0, 2)))
          else
            bnd (α := Int) (if decide (2147483647 < v10) = true then
                grdEq msg_1 msg_1 <|
                grdEq v12 v12 <|
                grdEq (α := List UInt8) [] [] <|
                grdEq (α := Int) 0 0 <|
                grdEq (α := Int) 0 0 <|
                grdEq (α := Int) 0 0 <|
                grdEq (α := List UInt8) [] [] <|
                grdEq msg_1 msg_1 <|
                grdEq (Go.IntKind.i64.wrap (Go.IntKind.i64.wrap (Go.IntKind.i64.wrap (Go.IntKind.i64.wrap (v4 + 2) + 2) + 4) + 2)) (Go.IntKind.i64.wrap (Go.IntKind.i64.wrap (Go.IntKind.i64.wrap (Go.IntKind.i64.wrap (v4 + 2) + 2) + 4) + 2)) <|
                grdEq (!v13) (!v13) <|
                grdEq v3 v3 <|
                grdEq v6 v6 <|
                grdEq v8 v8 <|
                grdEq (α := List UInt8) [] [] <|
                some 0
              else
                grdEq msg_1 msg_1 <|
                grdEq v12 v12 <|
                grdEq (α := List UInt8) [] [] <|
                grdEq (α := Int) 0 0 <|
                grdEq (α := Int) 0 0 <|
                grdEq (α := Int) 0 0 <|
                grdEq (α := List UInt8) [] [] <|
                grdEq msg_1 msg_1 <|
                grdEq (Go.IntKind.i64.wrap (Go.IntKind.i64.wrap (Go.IntKind.i64.wrap (Go.IntKind.i64.wrap (v4 + 2) + 2) + 4) + 2)) (Go.IntKind.i64.wrap (Go.IntKind.i64.wrap (Go.IntKind.i64.wrap (Go.IntKind.i64.wrap (v4 + 2) + 2) + 4) + 2)) <|
                grdEq (!v13) (!v13) <|
                grdEq v3 v3 <|
                grdEq v6 v6 <|
                grdEq v8 v8 <|
                grdEq (α := List UInt8) [] [] <|
                some v10) fun b2d_14 =>
            bnd (F_data_Expand msg_1 (Go.IntKind.i64.wrap (Go.IntKind.i64.wrap (Go.IntKind.i64.wrap (Go.IntKind.i64.wrap (v4 + 2) + 2) + 4) + 2)) v12 v6) fun (v15, v16) =>
            if (v16 != 0) = true then
              some ((([], (0, (0, (0, [])))), (0, v16)))
            else
              some (((v3, (v6, (v8, (b2d_14, v15)))), (Go.IntKind.i64.wrap (Go.IntKind.i64.wrap (Go.IntKind.i64.wrap (Go.IntKind.i64.wrap (Go.IntKind.i64.wrap (v4 + 2) + 2) + 4) + 2) + v12), 0)))
        else
          some ((([], (0, (0, (0, [])))), (0, 2)))
      else
        bnd (F_octet_Get msg_1 (Go.IntKind.i64.wrap (Go.IntKind.i64.wrap (Go.IntKind.i64.wrap (v4 + 2) + 2) + 4)) 2) fun (v17, v18) =>
        some ((([], (0, (0, (0, [])))), (0, 2)))
    else
      bnd (F_octet_Get msg_1 (Go.IntKind.i64.wrap (Go.IntKind.i64.wrap (v4 + 2) + 2)) 4) fun (v19, v20) =>
      bnd (F_octet_Get msg_1 (Go.IntKind.i64.wrap (Go.IntKind.i64.wrap (Go.IntKind.i64.wrap (v4 + 2) + 2) + 4)) 2) fun (v21, v22) =>
      some ((([], (0, (0, (0, [])))), (0, 2)))
def ann_record_Decode : List (List Nat × Ann) := [([28], ⟨none, [(.normal, ⟨(.cons (.keep .str) (anyN 3 (.cons (.ptr 0 0) (anyN 5 (.cons (.ptr 1 0) (anyN 1 (.cons (.ptr 2 0) (.cons (.keep (.int .i64)) (anyN 60 .nil))))))))), [.cells 24 true (.cons (.keep .str) (.cons (.keep (.int .i64)) (.cons (.keep (.int .i64)) (.cons (.keep (.int .i64)) (.cons (.keep .str) .nil))))), .cells 60 true (.cons (.keep .str) (.cons (.keep (.int .i64)) (.cons (.keep .bool) .nil))), .cells 24 true (.cons (.keep .str) (.cons (.keep (.int .i64)) (.cons (.keep (.int .i64)) (.cons (.ty (.int .i64)) (.cons (.keep .str) .nil)))))], [], []⟩)]⟩)]
@[reducible] def fs_record_Decode : List (Nat × SFn) := [(41, .pure [.str, (.int .i64)] [.str, (.int .i64), (.int .i64)] (fun x => F_comp_Read x.1 x.2)), (62, .pure [.str, (.int .i64), (.int .i64)] [(.int .i64), .bool] (fun x => F_octet_Get x.1 x.2.1 x.2.2)), (43, .pure [.str, (.int .i64), (.int .i64), (.int .i64)] [.str, (.int .i64)] (fun x => F_data_Expand x.1 x.2.1 x.2.2.1 x.2.2.2))]
def cfg_record_Decode : SCfg := SCfg.of (fs_record_Decode ++ inlL) ann_record_Decode keepL
theorem eq_record_Decode (x : HL [.str, (.int .i64)]) : fnK cfg_record_Decode Try.prog 100000 15 [.str, (.int .i64)] [tRR, (.int .i64), (.int .i64)] x = (fun x => F_record_Decode x.1 x.2) x := by kernel_rfl
theorem told_record_Decode : Told CC Try.prog 15 [.str, (.int .i64)] [tRR, (.int .i64), (.int .i64)] (fun x => F_record_Decode x.1 x.2) := told_of (gok (an := ann_record_Decode) (fs := fs_record_Decode) ⟨told_comp_Read, told_octet_Get, told_data_Expand, trivial⟩) rfl rfl eq_record_Decode

/-! wellspring/wellspringref08.section -/
def step_ref08_section_0 (s_1 : List UInt8) (many_3 : Int) : (Int × (List ((List UInt8 × (Int × (Int × (Int × List UInt8))))) × Int)) → Option ((Int × (List ((List UInt8 × (Int × (Int × (Int × List UInt8))))) × Int)) ⊕ ((Int × Int) ⊕ (Int × List ((List UInt8 × (Int × (Int × (Int × List UInt8)))))))) := fun (at_4, out_5, i_6) =>
  if decide (i_6 < many_3) = true then
    bnd (F_ref06_Decode s_1 at_4) fun (v7, v8, v9) =>
    if (v9 != 0) = true then
      some (.inr (.inl ((0, v9))))
    else
      grd ((out_5.length + [(v7.fst, v7.snd.fst, v7.snd.snd.fst, v7.snd.snd.snd.fst, v7.snd.snd.snd.snd)].length) * 56 ≤ roomLim) <|
      grdEq s_1 s_1 <|
      grdEq many_3 many_3 <|
      some (.inl ((v8, (out_5 ++ [(v7.fst, v7.snd.fst, v7.snd.snd.fst, v7.snd.snd.snd.fst, v7.snd.snd.snd.snd)], Go.IntKind.i64.wrap (i_6 + 1)))))
  else
    some (.inr (.inr ((at_4, out_5))))

def F_ref08_section (s_1 : List UInt8) (at_2 : Int) (many_3 : Int) : Option ((List ((List UInt8 × (Int × (Int × (Int × List UInt8))))) × (Int × Int))) :=
  bnd (loopS (step_ref08_section_0 s_1 many_3) ((at_2, ([], 0)))) fun o10 =>
  match o10 with
  | .inl (s7_11, s8_12) =>
    some (([], (s7_11, s8_12)))
  | .inr (at_13, out_14) =>
    some ((out_14, (at_13, 0)))
def ann_ref08_section : List (List Nat × Ann) := [([8], ⟨some ⟨(.cons (.keep .str) (.cons (.ty (.int .i64)) (.cons (.keep (.int .i64)) (anyN 6 (.cons (.own tRR 0 true) (.cons (.ty (.int .i64)) (anyN 25 .nil))))))), [], [⟨⟨0, tRR, 24, false, false⟩, true⟩], []⟩, [(.ret, ⟨(anyN 6 (.cons .nill (.cons (.ty (.int .i64)) (.cons (.ty (.int .i64)) (anyN 27 .nil))))), [], [⟨⟨0, tRR, 24, false, false⟩, false⟩], []⟩), (.exit 0, ⟨(anyN 1 (.cons (.ty (.int .i64)) (anyN 7 (.cons (.own tRR 0 true) (anyN 26 .nil))))), [], [⟨⟨0, tRR, 24, false, false⟩, false⟩], []⟩)]⟩)]
@[reducible] def fs_ref08_section : List (Nat × SFn) := [(16, .pure [.str, (.int .i64)] [tRR, (.int .i64), (.int .i64)] (fun x => F_ref06_Decode x.1 x.2))]
def cfg_ref08_section : SCfg := SCfg.of (fs_ref08_section ++ inlL) ann_ref08_section keepL
theorem eq_ref08_section (x : HL [.str, (.int .i64), (.int .i64)]) : fnK cfg_ref08_section Try.prog 100000 61 [.str, (.int .i64), (.int .i64)] [(.list tRR), (.int .i64), (.int .i64)] x = (fun x => F_ref08_section x.1 x.2.1 x.2.2) x := by kernel_rfl
theorem told_ref08_section : Told CC Try.prog 61 [.str, (.int .i64), (.int .i64)] [(.list tRR), (.int .i64), (.int .i64)] (fun x => F_ref08_section x.1 x.2.1 x.2.2) := told_of (gok (an := ann_ref08_section) (fs := fs_ref08_section) ⟨told_ref06_Decode, trivial⟩) rfl rfl eq_ref08_section

/-! wellspring/wellspringref08.Decode -/
def F_ref08_Decode (s_1 : List UInt8) : Option (((Int × (Int × (List ((List UInt8 × (Int × Int))) × (List ((List UInt8 × (Int × (Int × (Int × List UInt8))))) × (List ((List UInt8 × (Int × (Int × (Int × List UInt8))))) × List ((List UInt8 × (Int × (Int × (Int × List UInt8)))))))))) × Int)) :=
  if decide (65535 < (↑s_1.length : Int)) = true then
    some (((0, (0, ([], ([], ([], []))))), 6))
  else
    bnd (F_ref08_Head s_1) fun (v2, v3, v4) =>
    if (!v4) = true then
      some (((0, (0, ([], ([], ([], []))))), 2))
    else
      bnd (F_ref01_Get s_1 4 2) fun (v5, v6) =>
      bnd (F_ref01_Get s_1 6 2) fun (v7, v8) =>
      bnd (F_ref01_Get s_1 8 2) fun (v9, v10) =>
      bnd (F_ref01_Get s_1 10 2) fun (v11, v12) =>
      bnd (F_ref08_questions s_1 12 v5) fun (v13, v14, v15) =>
      if (v15 != 0) = true then
        some (((0, (0, ([], ([], ([], []))))), v15))
      else
        bnd (F_ref08_section s_1 v14 v7) fun (v16, v17, v18) =>
        if (v18 != 0) = true then
          some (((0, (0, ([], ([], ([], []))))), v18))
        else
          bnd (F_ref08_section s_1 v17 v9) fun (v19, v20, v21) =>
          if (v21 != 0) = true then
            some (((0, (0, ([], ([], ([], []))))), v21))
          else
            bnd (F_ref08_section s_1 v20 v11) fun (v22, v23, v24) =>
            if (v24 != 0) = true then
              some (((0, (0, ([], ([], ([], []))))), v24))
            else
              if (v23 != (↑s_1.length : Int)) = true then
                some (((0, (0, ([], ([], ([], []))))), 5))
              else
                some (((v2, (v3, (v13, (v16, (v19, v22))))), 0))
def ann_ref08_Decode : List (List Nat × Ann) := [([26], ⟨none, []⟩), ([26, 1000000], ⟨none, []⟩), ([26, 1000000, 1000000], ⟨none, []⟩), ([26, 1000000, 1000000, 1000000], ⟨none, []⟩), ([26, 1000000, 1000000, 1000000, 1000000], ⟨none, []⟩)]
@[reducible] def fs_ref08_Decode : List (Nat × SFn) := [(31, .pure [.str] [(.int .i64), (.int .i64), .bool] (fun x => F_ref08_Head x)), (46, .pure [.str, (.int .i64), (.int .i64)] [(.int .i64), .bool] (fun x => F_ref01_Get x.1 x.2.1 x.2.2)), (60, .pure [.str, (.int .i64), (.int .i64)] [(.list tQ), (.int .i64), (.int .i64)] (fun x => F_ref08_questions x.1 x.2.1 x.2.2)), (61, .pure [.str, (.int .i64), (.int .i64)] [(.list tRR), (.int .i64), (.int .i64)] (fun x => F_ref08_section x.1 x.2.1 x.2.2))]
def cfg_ref08_Decode : SCfg := SCfg.of (fs_ref08_Decode ++ inlL) ann_ref08_Decode keepL
theorem eq_ref08_Decode (x : HL [.str]) : fnK cfg_ref08_Decode Try.prog 100000 29 [.str] [tM, (.int .i64)] x = (fun x => F_ref08_Decode x) x := by kernel_rfl
theorem told_ref08_Decode : Told CC Try.prog 29 [.str] [tM, (.int .i64)] (fun x => F_ref08_Decode x) := told_of (gok (an := ann_ref08_Decode) (fs := fs_ref08_Decode) ⟨told_ref08_Head, told_ref01_Get, told_ref08_questions, told_ref08_section, trivial⟩) rfl rfl eq_ref08_Decode

/-! wellspring/msg.Same -/
def F_msg_Same (a_1 : (Int × (Int × (List ((List UInt8 × (Int × Int))) × (List ((List UInt8 × (Int × (Int × (Int × List UInt8))))) × (List ((List UInt8 × (Int × (Int × (Int × List UInt8))))) × List ((List UInt8 × (Int × (Int × (Int × List UInt8))))))))))) (b_2 : (Int × (Int × (List ((List UInt8 × (Int × Int))) × (List ((List UInt8 × (Int × (Int × (Int × List UInt8))))) × (List ((List UInt8 × (Int × (Int × (Int × List UInt8))))) × List ((List UInt8 × (Int × (Int × (Int × List UInt8))))))))))) : Option (Bool) :=
  bnd (F_slices_Equal_api_RR a_1.snd.snd.snd.fst b_2.snd.snd.snd.fst) fun v3 =>
  if (!v3) = true then
    some false
  else
    bnd (F_slices_Equal_api_RR a_1.snd.snd.snd.snd.fst b_2.snd.snd.snd.snd.fst) fun v4 =>
    if (!v4) = true then
      some false
    else
      bnd (F_slices_Equal_api_RR a_1.snd.snd.snd.snd.snd b_2.snd.snd.snd.snd.snd) fun v5 =>
      if (!v5) = true then
        some false
      else
        if (a_1.fst == b_2.fst) = true then
          if (a_1.snd.fst == b_2.snd.fst) = true then
            bnd (F_slices_Equal_api_Question a_1.snd.snd.fst b_2.snd.snd.fst) fun v6 =>
            some v6
          else
            some false
        else
          some false
def ann_msg_Same : List (List Nat × Ann) := [([8], ⟨none, []⟩), ([8, 1000000], ⟨none, []⟩), ([8, 1000000, 1000000], ⟨none, []⟩), ([8, 1000000, 1000000, 1000000], ⟨none, []⟩), ([8, 1000000, 1000000, 1000000, 1000000], ⟨none, []⟩)]
@[reducible] def fs_msg_Same : List (Nat × SFn) := [(73, .pure [(.list tRR), (.list tRR)] [.bool] (fun x => F_slices_Equal_api_RR x.1 x.2)), (74, .pure [(.list tQ), (.list tQ)] [.bool] (fun x => F_slices_Equal_api_Question x.1 x.2))]
def cfg_msg_Same : SCfg := SCfg.of (fs_msg_Same ++ inlL) ann_msg_Same keepL
theorem eq_msg_Same (x : HL [tM, tM]) : fnK cfg_msg_Same Try.prog 100000 38 [tM, tM] [.bool] x = (fun x => F_msg_Same x.1 x.2) x := by kernel_rfl
theorem told_msg_Same : Told CC Try.prog 38 [tM, tM] [.bool] (fun x => F_msg_Same x.1 x.2) := told_of (gok (an := ann_msg_Same) (fs := fs_msg_Same) ⟨told_slices_Equal_api_RR, told_slices_Equal_api_Question, trivial⟩) rfl rfl eq_msg_Same

/-! wellspring/data.Check -/
def F_data_Check (kind_1 : Int) (d_2 : List UInt8) : Option (Bool) :=
  if decide (65535 < (↑d_2.length : Int)) = true then
    some false
  else
    bnd (F_data_Expand d_2 0 (↑d_2.length : Int) kind_1) fun (v3, v4) =>
    if (v4 == 0) = true then
      some (v3 == d_2)
    else
      some false
def ann_data_Check : List (List Nat × Ann) := []
@[reducible] def fs_data_Check : List (Nat × SFn) := [(43, .pure [.str, (.int .i64), (.int .i64), (.int .i64)] [.str, (.int .i64)] (fun x => F_data_Expand x.1 x.2.1 x.2.2.1 x.2.2.2))]
def cfg_data_Check : SCfg := SCfg.of (fs_data_Check ++ inlL) ann_data_Check keepL
theorem eq_data_Check (x : HL [(.int .i64), .str]) : fnK cfg_data_Check Try.prog 100000 50 [(.int .i64), .str] [.bool] x = (fun x => F_data_Check x.1 x.2) x := by kernel_rfl
theorem told_data_Check : Told CC Try.prog 50 [(.int .i64), .str] [.bool] (fun x => F_data_Check x.1 x.2) := told_of (gok (an := ann_data_Check) (fs := fs_data_Check) ⟨told_data_Expand, trivial⟩) rfl rfl eq_data_Check

/-! wellspring/record.Check -/
def F_record_Check (r_1 : (List UInt8 × (Int × (Int × (Int × List UInt8))))) : Option (Bool) :=
  bnd (F_name_Check r_1.fst) fun v2 =>
  if v2 = true then
    bnd (F_record_in r_1.snd.fst 65535) fun v3 =>
    if v3 = true then
      bnd (F_record_in r_1.snd.snd.fst 65535) fun v4 =>
      if v4 = true then
        bnd (F_record_in r_1.snd.snd.snd.fst 2147483647) fun v5 =>
        if v5 = true then
          bnd (F_data_Check r_1.snd.fst r_1.snd.snd.snd.snd) fun v6 =>
          some v6
        else
          some false
      else
        some false
    else
      some false
  else
    some false
def ann_record_Check : List (List Nat × Ann) := []
@[reducible] def fs_record_Check : List (Nat × SFn) := [(48, .pure [.str] [.bool] (fun x => F_name_Check x)), (49, .pure [(.int .i64), (.int .i64)] [.bool] (fun x => F_record_in x.1 x.2)), (50, .pure [(.int .i64), .str] [.bool] (fun x => F_data_Check x.1 x.2))]
def cfg_record_Check : SCfg := SCfg.of (fs_record_Check ++ inlL) ann_record_Check keepL
theorem eq_record_Check (x : HL [tRR]) : fnK cfg_record_Check Try.prog 100000 17 [tRR] [.bool] x = (fun x => F_record_Check x) x := by kernel_rfl
theorem told_record_Check : Told CC Try.prog 17 [tRR] [.bool] (fun x => F_record_Check x) := told_of (gok (an := ann_record_Check) (fs := fs_record_Check) ⟨told_name_Check, told_record_in, told_data_Check, trivial⟩) rfl rfl eq_record_Check

/-! wellspring/record.Encode -/
def F_record_Encode (base_1 : List UInt8) (at_2 : Int) (r_3 : (List UInt8 × (Int × (Int × (Int × List UInt8))))) : Option (List UInt8) :=
  bnd (F_comp_Write base_1 at_2 r_3.fst) fun v4 =>
  bnd (α := (List UInt8 ⊕ Unit)) (if (v4 == []) = false then
      bnd (F_record_Check (r_3.fst, r_3.snd.fst, r_3.snd.snd.fst, r_3.snd.snd.snd.fst, r_3.snd.snd.snd.snd)) fun v5 =>
      if (!v5) = true then
        grdEq r_3.fst r_3.fst <|
        grdEq r_3.snd.fst r_3.snd.fst <|
        grdEq r_3.snd.snd.fst r_3.snd.snd.fst <|
        grdEq r_3.snd.snd.snd.fst r_3.snd.snd.snd.fst <|
        grdEq r_3.snd.snd.snd.snd r_3.snd.snd.snd.snd <|
        some (.inl ([]))
      else
        grdEq v4 v4 <|
        grdEq r_3.fst r_3.fst <|
        grdEq r_3.snd.fst r_3.snd.fst <|
        grdEq r_3.snd.snd.fst r_3.snd.snd.fst <|
        grdEq r_3.snd.snd.snd.fst r_3.snd.snd.snd.fst <|
        grdEq r_3.snd.snd.snd.snd r_3.snd.snd.snd.snd <|
        some (.inr (()))
    else
      grdEq r_3.fst r_3.fst <|
      grdEq r_3.snd.fst r_3.snd.fst <|
      grdEq r_3.snd.snd.fst r_3.snd.snd.fst <|
      grdEq r_3.snd.snd.snd.fst r_3.snd.snd.snd.fst <|
      grdEq r_3.snd.snd.snd.snd r_3.snd.snd.snd.snd <|
      some (.inl ([]))) fun o6 =>
  match o6 with
  | .inl s6_7 =>
    some s6_7
  | .inr _ =>
    bnd (F_octet_Put r_3.snd.fst 2) fun v8 =>
    grd (v4.length + v8.length ≤ maxStr) <|
    bnd (F_octet_Put r_3.snd.snd.fst 2) fun v9 =>
    grd ((v4 ++ v8).length + v9.length ≤ maxStr) <|
    bnd (F_octet_Put r_3.snd.snd.snd.fst 4) fun v10 =>
    grd ((v4 ++ v8 ++ v9).length + v10.length ≤ maxStr) <|
    bnd (F_octet_Put (↑(List.length r_3.snd.snd.snd.snd) : Int) 2) fun v11 =>
    grd ((v4 ++ v8 ++ v9 ++ v10).length + v11.length ≤ maxStr) <|
    grd ((v4 ++ v8 ++ v9 ++ v10 ++ v11).length + List.length r_3.snd.snd.snd.snd ≤ maxStr) <|
    some (v4 ++ v8 ++ v9 ++ v10 ++ v11 ++ r_3.snd.snd.snd.snd)
def ann_record_Encode : List (List Nat × Ann) := [([4], ⟨none, [(.ret, ⟨(anyN 6 (.cons (.ty .str) (anyN 34 .nil))), [.cells 24 true (.cons (.keep .str) (.cons (.keep (.int .i64)) (.cons (.keep (.int .i64)) (.cons (.keep (.int .i64)) (.cons (.keep .str) .nil)))))], [], []⟩), (.normal, ⟨(anyN 5 (.cons (.ptr 0 0) (anyN 1 (.cons (.keep .str) (anyN 33 .nil))))), [.cells 24 true (.cons (.keep .str) (.cons (.keep (.int .i64)) (.cons (.keep (.int .i64)) (.cons (.keep (.int .i64)) (.cons (.keep .str) .nil)))))], [], []⟩)]⟩)]
@[reducible] def fs_record_Encode : List (Nat × SFn) := [(52, .pure [.str, (.int .i64), .str] [.str] (fun x => F_comp_Write x.1 x.2.1 x.2.2)), (17, .pure [tRR] [.bool] (fun x => F_record_Check x)), (53, .pure [(.int .i64), (.int .i64)] [.str] (fun x => F_octet_Put x.1 x.2))]
def cfg_record_Encode : SCfg := SCfg.of (fs_record_Encode ++ inlL) ann_record_Encode keepL
theorem eq_record_Encode (x : HL [.str, (.int .i64), tRR]) : fnK cfg_record_Encode Try.prog 100000 19 [.str, (.int .i64), tRR] [.str] x = (fun x => F_record_Encode x.1 x.2.1 x.2.2) x := by kernel_rfl
theorem told_record_Encode : Told CC Try.prog 19 [.str, (.int .i64), tRR] [.str] (fun x => F_record_Encode x.1 x.2.1 x.2.2) := told_of (gok (an := ann_record_Encode) (fs := fs_record_Encode) ⟨told_comp_Write, told_record_Check, told_octet_Put, trivial⟩) rfl rfl eq_record_Encode

/-! wellspring/record.TTL -/
def F_record_TTL (base_1 : List UInt8) (at_2 : Int) (r_3 : (List UInt8 × (Int × (Int × (Int × List UInt8))))) : Option (Int) :=
  bnd (F_record_Encode base_1 at_2 (r_3.fst, r_3.snd.fst, r_3.snd.snd.fst, r_3.snd.snd.snd.fst, r_3.snd.snd.snd.snd)) fun v4 =>
  if (v4 == []) = true then
    some (-1)
  else
    bnd (F_comp_Write base_1 at_2 r_3.fst) fun v5 =>
    some (Go.IntKind.i64.wrap ((↑v5.length : Int) + 4))
def ann_record_TTL : List (List Nat × Ann) := []
@[reducible] def fs_record_TTL : List (Nat × SFn) := [(19, .pure [.str, (.int .i64), tRR] [.str] (fun x => F_record_Encode x.1 x.2.1 x.2.2)), (52, .pure [.str, (.int .i64), .str] [.str] (fun x => F_comp_Write x.1 x.2.1 x.2.2))]
def cfg_record_TTL : SCfg := SCfg.of (fs_record_TTL ++ inlL) ann_record_TTL keepL
theorem eq_record_TTL (x : HL [.str, (.int .i64), tRR]) : fnK cfg_record_TTL Try.prog 100000 21 [.str, (.int .i64), tRR] [(.int .i64)] x = (fun x => F_record_TTL x.1 x.2.1 x.2.2) x := by kernel_rfl
theorem told_record_TTL : Told CC Try.prog 21 [.str, (.int .i64), tRR] [(.int .i64)] (fun x => F_record_TTL x.1 x.2.1 x.2.2) := told_of (gok (an := ann_record_TTL) (fs := fs_record_TTL) ⟨told_record_Encode, told_comp_Write, trivial⟩) rfl rfl eq_record_TTL

/-! wellspring/wellspringlaw06.live -/
def F_law06_live : Option (Bool) :=
  bnd (F_record_Encode [1, 65, 0] 12 ([1, 88, 1, 97, 0], 1, 1, 300, [97, 98, 99, 100])) fun v1 =>
  grd (15 + v1.length ≤ maxStr) <|
  grd (([49, 50, 51, 52, 53, 54, 55, 56, 57, 97, 98, 99, 1, 65, 0] ++ v1).length + 1 ≤ maxStr) <|
  bnd (F_record_Decode ([49, 50, 51, 52, 53, 54, 55, 56, 57, 97, 98, 99, 1, 65, 0] ++ v1 ++ [122]) 15) fun (v2, v3, v4) =>
  bnd (F_record_Decode [0, 0, 1] 0) fun (v5, v6, v7) =>
  if (v1 == [1, 88, 192, 12, 0, 1, 0, 1, 0, 0, 1, 44, 0, 4, 97, 98, 99, 100]) = true then
    bnd (F_record_TTL [1, 65, 0] 12 ([1, 88, 1, 97, 0], 1, 1, 300, [97, 98, 99, 100])) fun v8 =>
    if (v8 == 8) = true then
      if (v2.fst == [1, 88, 1, 65, 0] && (v2.snd.fst == 1 && (v2.snd.snd.fst == 1 && (v2.snd.snd.snd.fst == 300 && (v2.snd.snd.snd.snd == [97, 98, 99, 100] && true))))) = true then
        if (v3 == 33) = true then
          if (v4 == 0) = true then
            if (v7 == 2) = true then
              bnd (F_record_Check ([1, 88, 1, 97, 0], 1, 1, 300, [97, 98, 99, 100])) fun v9 =>
              if v9 = true then
                bnd (F_record_Check ([], 0, 0, 0, [])) fun v10 =>
                if (!v10) = true then
                  bnd (F_record_Encode [0] 12 ([], 0, 0, 0, [])) fun v11 =>
                  if (v11 == []) = true then
                    bnd (F_record_TTL [0] 12 ([], 0, 0, 0, [])) fun v12 =>
                    some (v12 == -1)
                  else
                    some false
                else
                  some false
              else
                some false
            else
              some false
          else
            some false
        else
          some false
      else
        some false
    else
      some false
  else
    some false
def ann_law06_live : List (List Nat × Ann) := []
@[reducible] def fs_law06_live : List (Nat × SFn) := [(19, .pure [.str, (.int .i64), tRR] [.str] (fun x => F_record_Encode x.1 x.2.1 x.2.2)), (15, .pure [.str, (.int .i64)] [tRR, (.int .i64), (.int .i64)] (fun x => F_record_Decode x.1 x.2)), (21, .pure [.str, (.int .i64), tRR] [(.int .i64)] (fun x => F_record_TTL x.1 x.2.1 x.2.2)), (17, .pure [tRR] [.bool] (fun x => F_record_Check x))]
def cfg_law06_live : SCfg := SCfg.of (fs_law06_live ++ inlL) ann_law06_live keepL
theorem eq_law06_live (x : HL []) : fnK cfg_law06_live Try.prog 100000 14 [] [.bool] x = (fun x => F_law06_live) x := by kernel_rfl
theorem told_law06_live : Told CC Try.prog 14 [] [.bool] (fun x => F_law06_live) := told_of (gok (an := ann_law06_live) (fs := fs_law06_live) ⟨told_record_Encode, told_record_Decode, told_record_TTL, told_record_Check, trivial⟩) rfl rfl eq_law06_live

/-! wellspring/wellspringlaw06.RecordDecodes -/
def F_law06_RecordDecodes (msg_1 : List UInt8) (at_2 : Int) : Option (Bool) :=
  if decide (2000 < (↑msg_1.length : Int)) = true then
    bnd F_law06_live fun v3 =>
    some v3
  else
    bnd (F_record_Decode msg_1 at_2) fun (v4, v5, v6) =>
    bnd (F_ref06_Decode msg_1 at_2) fun (v7, v8, v9) =>
    if (v4.fst == v7.fst && (v4.snd.fst == v7.snd.fst && (v4.snd.snd.fst == v7.snd.snd.fst && (v4.snd.snd.snd.fst == v7.snd.snd.snd.fst && (v4.snd.snd.snd.snd == v7.snd.snd.snd.snd && true))))) = true then
      if (v5 == v8) = true then
        if (v6 == v9) = true then
          bnd F_law06_live fun v10 =>
          some v10
        else
          some false
      else
        some false
    else
      some false
def ann_law06_RecordDecodes : List (List Nat × Ann) := []
@[reducible] def fs_law06_RecordDecodes : List (Nat × SFn) := [(14, .pure [] [.bool] (fun x => F_law06_live)), (15, .pure [.str, (.int .i64)] [tRR, (.int .i64), (.int .i64)] (fun x => F_record_Decode x.1 x.2)), (16, .pure [.str, (.int .i64)] [tRR, (.int .i64), (.int .i64)] (fun x => F_ref06_Decode x.1 x.2))]
def cfg_law06_RecordDecodes : SCfg := SCfg.of (fs_law06_RecordDecodes ++ inlL) ann_law06_RecordDecodes keepL
theorem eq_law06_RecordDecodes (x : HL [.str, (.int .i64)]) : fnK cfg_law06_RecordDecodes Try.prog 100000 3 [.str, (.int .i64)] [.bool] x = (fun x => F_law06_RecordDecodes x.1 x.2) x := by kernel_rfl
theorem told_law06_RecordDecodes : Told CC Try.prog 3 [.str, (.int .i64)] [.bool] (fun x => F_law06_RecordDecodes x.1 x.2) := told_of (gok (an := ann_law06_RecordDecodes) (fs := fs_law06_RecordDecodes) ⟨told_law06_live, told_record_Decode, told_ref06_Decode, trivial⟩) rfl rfl eq_law06_RecordDecodes

/-! wellspring/wellspringlaw06.RecordBack -/
def F_law06_RecordBack (base_1 : List UInt8) (r_2 : (List UInt8 × (Int × (Int × (Int × List UInt8))))) (ttl_3 : Int) : Option (Bool) :=
  bnd (α := (Bool ⊕ Unit)) (bnd (α := Bool) (if decide (300 < (↑base_1.length : Int)) = false then
        if decide (300 < (↑(List.length r_2.fst) : Int)) = false then
          grdEq base_1 base_1 <|
          grdEq ttl_3 ttl_3 <|
          grdEq r_2.fst r_2.fst <|
          grdEq r_2.snd.fst r_2.snd.fst <|
          grdEq r_2.snd.snd.fst r_2.snd.snd.fst <|
          grdEq r_2.snd.snd.snd.fst r_2.snd.snd.snd.fst <|
          grdEq r_2.snd.snd.snd.snd r_2.snd.snd.snd.snd <|
          some (decide (2000 < (↑(List.length r_2.snd.snd.snd.snd) : Int)))
        else
          grdEq base_1 base_1 <|
          grdEq ttl_3 ttl_3 <|
          grdEq r_2.fst r_2.fst <|
          grdEq r_2.snd.fst r_2.snd.fst <|
          grdEq r_2.snd.snd.fst r_2.snd.snd.fst <|
          grdEq r_2.snd.snd.snd.fst r_2.snd.snd.snd.fst <|
          grdEq r_2.snd.snd.snd.snd r_2.snd.snd.snd.snd <|
          some true
      else
        grdEq base_1 base_1 <|
        grdEq ttl_3 ttl_3 <|
        grdEq r_2.fst r_2.fst <|
        grdEq r_2.snd.fst r_2.snd.fst <|
        grdEq r_2.snd.snd.fst r_2.snd.snd.fst <|
        grdEq r_2.snd.snd.snd.fst r_2.snd.snd.snd.fst <|
        grdEq r_2.snd.snd.snd.snd r_2.snd.snd.snd.snd <|
        some true) fun s29_4 =>
    if s29_4 = true then
      bnd F_law06_live fun v5 =>
      grdEq r_2.fst r_2.fst <|
      grdEq r_2.snd.fst r_2.snd.fst <|
      grdEq r_2.snd.snd.fst r_2.snd.snd.fst <|
      grdEq r_2.snd.snd.snd.fst r_2.snd.snd.snd.fst <|
      grdEq r_2.snd.snd.snd.snd r_2.snd.snd.snd.snd <|
      some (.inl v5)
    else
      grdEq base_1 base_1 <|
      grdEq ttl_3 ttl_3 <|
      grdEq r_2.fst r_2.fst <|
      grdEq r_2.snd.fst r_2.snd.fst <|
      grdEq r_2.snd.snd.fst r_2.snd.snd.fst <|
      grdEq r_2.snd.snd.snd.fst r_2.snd.snd.snd.fst <|
      grdEq r_2.snd.snd.snd.snd r_2.snd.snd.snd.snd <|
      some (.inr (()))) fun o6 =>
  match o6 with
  | .inl s6_7 =>
    some s6_7
  | .inr _ =>
    bnd (F_record_Encode base_1 12 (r_2.fst, r_2.snd.fst, r_2.snd.snd.fst, r_2.snd.snd.snd.fst, r_2.snd.snd.snd.snd)) fun v8 =>
    bnd (F_record_TTL base_1 12 (r_2.fst, r_2.snd.fst, r_2.snd.snd.fst, r_2.snd.snd.snd.fst, r_2.snd.snd.snd.snd)) fun v9 =>
    bnd (α := (Bool ⊕ Unit)) (if (!(v8 == []) == (v9 == -1)) = false then
        bnd (F_record_Check (r_2.fst, r_2.snd.fst, r_2.snd.snd.fst, r_2.snd.snd.snd.fst, r_2.snd.snd.snd.snd)) fun v10 =>
        if (!v10) = false then
          bnd (F_ref02_Check base_1) fun v11 =>
          if (!(v8 == []) == !v11) = true then
            grdEq r_2.fst r_2.fst <|
            grdEq r_2.snd.fst r_2.snd.fst <|
            grdEq r_2.snd.snd.fst r_2.snd.snd.fst <|
            grdEq r_2.snd.snd.snd.fst r_2.snd.snd.snd.fst <|
            grdEq r_2.snd.snd.snd.snd r_2.snd.snd.snd.snd <|
            some (.inl false)
          else
            grdEq base_1 base_1 <|
            grdEq ttl_3 ttl_3 <|
            grdEq v8 v8 <|
            grdEq v9 v9 <|
            grdEq r_2.fst r_2.fst <|
            grdEq r_2.snd.fst r_2.snd.fst <|
            grdEq r_2.snd.snd.fst r_2.snd.snd.fst <|
            grdEq r_2.snd.snd.snd.fst r_2.snd.snd.snd.fst <|
            grdEq r_2.snd.snd.snd.snd r_2.snd.snd.snd.snd <|
            some (.inr (()))
        else
          if (!(v8 == []) == true) = true then
            grdEq r_2.fst r_2.fst <|
            grdEq r_2.snd.fst r_2.snd.fst <|
            grdEq r_2.snd.snd.fst r_2.snd.snd.fst <|
            grdEq r_2.snd.snd.snd.fst r_2.snd.snd.snd.fst <|
            grdEq r_2.snd.snd.snd.snd r_2.snd.snd.snd.snd <|
            some (.inl false)
          else
            grdEq base_1 base_1 <|
            grdEq ttl_3 ttl_3 <|
            grdEq v8 v8 <|
            grdEq v9 v9 <|
            grdEq r_2.fst r_2.fst <|
            grdEq r_2.snd.fst r_2.snd.fst <|
            grdEq r_2.snd.snd.fst r_2.snd.snd.fst <|
            grdEq r_2.snd.snd.snd.fst r_2.snd.snd.snd.fst <|
            grdEq r_2.snd.snd.snd.snd r_2.snd.snd.snd.snd <|
            some (.inr (()))
      else
        grdEq r_2.fst r_2.fst <|
        grdEq r_2.snd.fst r_2.snd.fst <|
        grdEq r_2.snd.snd.fst r_2.snd.snd.fst <|
        grdEq r_2.snd.snd.snd.fst r_2.snd.snd.snd.fst <|
        grdEq r_2.snd.snd.snd.snd r_2.snd.snd.snd.snd <|
        some (.inl false)) fun o12 =>
    match o12 with
    | .inl s6_13 =>
      some s6_13
    | .inr _ =>
      if (v8 == []) = true then
        bnd F_law06_live fun v14 =>
        some v14
      else
        grd (12 + base_1.length ≤ maxStr) <|
        grd (([49, 50, 51, 52, 53, 54, 55, 56, 57, 97, 98, 99] ++ base_1).length + v8.length ≤ maxStr) <|
        grd (([49, 50, 51, 52, 53, 54, 55, 56, 57, 97, 98, 99] ++ base_1 ++ v8).length + 1 ≤ maxStr) <|
        bnd (F_record_Decode ([49, 50, 51, 52, 53, 54, 55, 56, 57, 97, 98, 99] ++ base_1 ++ v8 ++ [122]) (↑([49, 50, 51, 52, 53, 54, 55, 56, 57, 97, 98, 99] ++ base_1).length : Int)) fun (v15, v16, v17) =>
        bnd (α := (Bool ⊕ Unit)) (if (v17 != 0) = false then
            if (v16 != Go.IntKind.i64.wrap ((↑([49, 50, 51, 52, 53, 54, 55, 56, 57, 97, 98, 99] ++ base_1).length : Int) + (↑v8.length : Int))) = false then
              bnd (F_ref02_Same v15.fst r_2.fst) fun v18 =>
              if (!v18) = true then
                grdEq r_2.fst r_2.fst <|
                grdEq r_2.snd.fst r_2.snd.fst <|
                grdEq r_2.snd.snd.fst r_2.snd.snd.fst <|
                grdEq r_2.snd.snd.snd.fst r_2.snd.snd.snd.fst <|
                grdEq r_2.snd.snd.snd.snd r_2.snd.snd.snd.snd <|
                grdEq v15.fst v15.fst <|
                grdEq v15.snd.fst v15.snd.fst <|
                grdEq v15.snd.snd.fst v15.snd.snd.fst <|
                grdEq v15.snd.snd.snd.fst v15.snd.snd.snd.fst <|
                grdEq v15.snd.snd.snd.snd v15.snd.snd.snd.snd <|
                some (.inl false)
              else
                grdEq base_1 base_1 <|
                grdEq ttl_3 ttl_3 <|
                grdEq v8 v8 <|
                grdEq v9 v9 <|
                grdEq r_2.fst r_2.fst <|
                grdEq r_2.snd.fst r_2.snd.fst <|
                grdEq r_2.snd.snd.fst r_2.snd.snd.fst <|
                grdEq r_2.snd.snd.snd.fst r_2.snd.snd.snd.fst <|
                grdEq r_2.snd.snd.snd.snd r_2.snd.snd.snd.snd <|
                grdEq v15.fst v15.fst <|
                grdEq v15.snd.fst v15.snd.fst <|
                grdEq v15.snd.snd.fst v15.snd.snd.fst <|
                grdEq v15.snd.snd.snd.fst v15.snd.snd.snd.fst <|
                grdEq v15.snd.snd.snd.snd v15.snd.snd.snd.snd <|
                some (.inr (()))
            else
              grdEq r_2.fst r_2.fst <|
              grdEq r_2.snd.fst r_2.snd.fst <|
              grdEq r_2.snd.snd.fst r_2.snd.snd.fst <|
              grdEq r_2.snd.snd.snd.fst r_2.snd.snd.snd.fst <|
              grdEq r_2.snd.snd.snd.snd r_2.snd.snd.snd.snd <|
              grdEq v15.fst v15.fst <|
              grdEq v15.snd.fst v15.snd.fst <|
              grdEq v15.snd.snd.fst v15.snd.snd.fst <|
              grdEq v15.snd.snd.snd.fst v15.snd.snd.snd.fst <|
              grdEq v15.snd.snd.snd.snd v15.snd.snd.snd.snd <|
              some (.inl false)
          else
            grdEq r_2.fst r_2.fst <|
            grdEq r_2.snd.fst r_2.snd.fst <|
            grdEq r_2.snd.snd.fst r_2.snd.snd.fst <|
            grdEq r_2.snd.snd.snd.fst r_2.snd.snd.snd.fst <|
            grdEq r_2.snd.snd.snd.snd r_2.snd.snd.snd.snd <|
            grdEq v15.fst v15.fst <|
            grdEq v15.snd.fst v15.snd.fst <|
            grdEq v15.snd.snd.fst v15.snd.snd.fst <|
            grdEq v15.snd.snd.snd.fst v15.snd.snd.snd.fst <|
            grdEq v15.snd.snd.snd.snd v15.snd.snd.snd.snd <|
            some (.inl false)) fun o19 =>
        match o19 with
        | .inl s6_20 =>
          some s6_20
        | .inr _ =>
          if (!(r_2.fst == r_2.fst && (v15.snd.fst == r_2.snd.fst && (v15.snd.snd.fst == r_2.snd.snd.fst && (v15.snd.snd.snd.fst == r_2.snd.snd.snd.fst && (v15.snd.snd.snd.snd == r_2.snd.snd.snd.snd && true)))))) = true then
            some false
          else
            bnd (α := (Bool ⊕ Unit)) (bnd (α := Bool) (if decide (ttl_3 < 0) = false then
                  grdEq base_1 base_1 <|
                  grdEq ttl_3 ttl_3 <|
                  grdEq v8 v8 <|
                  grdEq v9 v9 <|
                  grdEq r_2.fst r_2.fst <|
                  grdEq r_2.snd.fst r_2.snd.fst <|
                  grdEq r_2.snd.snd.fst r_2.snd.snd.fst <|
                  grdEq r_2.snd.snd.snd.fst r_2.snd.snd.snd.fst <|
                  grdEq r_2.snd.snd.snd.snd r_2.snd.snd.snd.snd <|
                  grdEq r_2.fst r_2.fst <|
                  grdEq v15.snd.fst v15.snd.fst <|
                  grdEq v15.snd.snd.fst v15.snd.snd.fst <|
                  grdEq v15.snd.snd.snd.fst v15.snd.snd.snd.fst <|
                  grdEq v15.snd.snd.snd.snd v15.snd.snd.snd.snd <|
                  some (decide (2147483648 ≤ ttl_3))
                else
                  grdEq base_1 base_1 <|
                  grdEq ttl_3 ttl_3 <|
                  grdEq v8 v8 <|
                  grdEq v9 v9 <|
                  grdEq r_2.fst r_2.fst <|
                  grdEq r_2.snd.fst r_2.snd.fst <|
                  grdEq r_2.snd.snd.fst r_2.snd.snd.fst <|
                  grdEq r_2.snd.snd.snd.fst r_2.snd.snd.snd.fst <|
                  grdEq r_2.snd.snd.snd.snd r_2.snd.snd.snd.snd <|
                  grdEq r_2.fst r_2.fst <|
                  grdEq v15.snd.fst v15.snd.fst <|
                  grdEq v15.snd.snd.fst v15.snd.snd.fst <|
                  grdEq v15.snd.snd.snd.fst v15.snd.snd.snd.fst <|
                  grdEq v15.snd.snd.snd.snd v15.snd.snd.snd.snd <|
                  some true) fun s101_21 =>
              if s101_21 = true then
                bnd F_law06_live fun v22 =>
                grdEq r_2.fst r_2.fst <|
                grdEq r_2.snd.fst r_2.snd.fst <|
                grdEq r_2.snd.snd.fst r_2.snd.snd.fst <|
                grdEq r_2.snd.snd.snd.fst r_2.snd.snd.snd.fst <|
                grdEq r_2.snd.snd.snd.snd r_2.snd.snd.snd.snd <|
                grdEq r_2.fst r_2.fst <|
                grdEq v15.snd.fst v15.snd.fst <|
                grdEq v15.snd.snd.fst v15.snd.snd.fst <|
                grdEq v15.snd.snd.snd.fst v15.snd.snd.snd.fst <|
                grdEq v15.snd.snd.snd.snd v15.snd.snd.snd.snd <|
                some (.inl v22)
              else
                grdEq base_1 base_1 <|
                grdEq ttl_3 ttl_3 <|
                grdEq v8 v8 <|
                grdEq v9 v9 <|
                grdEq r_2.fst r_2.fst <|
                grdEq r_2.snd.fst r_2.snd.fst <|
                grdEq r_2.snd.snd.fst r_2.snd.snd.fst <|
                grdEq r_2.snd.snd.snd.fst r_2.snd.snd.snd.fst <|
                grdEq r_2.snd.snd.snd.snd r_2.snd.snd.snd.snd <|
                grdEq r_2.fst r_2.fst <|
                grdEq v15.snd.fst v15.snd.fst <|
                grdEq v15.snd.snd.fst v15.snd.snd.fst <|
                grdEq v15.snd.snd.snd.fst v15.snd.snd.snd.fst <|
                grdEq v15.snd.snd.snd.snd v15.snd.snd.snd.snd <|
                some (.inr (()))) fun o23 =>
            match o23 with
            | .inl s6_24 =>
              some s6_24
            | .inr _ =>
              bnd (F_ref01_Put ttl_3 4) fun v25 =>
              bnd (F_ref01_Lay v8 v9 v25) fun (v26, v27) =>
              if v27 = true then
                bnd (F_record_Encode base_1 12 (r_2.fst, r_2.snd.fst, r_2.snd.snd.fst, ttl_3, r_2.snd.snd.snd.snd)) fun v28 =>
                if (v26 == v28) = true then
                  bnd F_law06_live fun v29 =>
                  some v29
                else
                  some false
              else
                some false
def ann_law06_RecordBack : List (List Nat × Ann) := [([2], ⟨none, [(.ret, ⟨(anyN 6 (.cons (.ty .bool) (anyN 117 .nil))), [.cells 24 true (.cons (.keep .str) (.cons (.keep (.int .i64)) (.cons (.keep (.int .i64)) (.cons (.keep (.int .i64)) (.cons (.keep .str) .nil)))))], [], []⟩), (.normal, ⟨(.cons (.keep .str) (anyN 1 (.cons (.keep (.int .i64)) (anyN 1 (.cons (.ptr 0 0) (anyN 119 .nil)))))), [.cells 24 true (.cons (.keep .str) (.cons (.keep (.int .i64)) (.cons (.keep (.int .i64)) (.cons (.keep (.int .i64)) (.cons (.keep .str) .nil)))))], [], []⟩)]⟩), ([3], ⟨none, [(.normal, ⟨(.cons (.keep .str) (anyN 1 (.cons (.keep (.int .i64)) (anyN 1 (.cons (.ptr 0 0) (anyN 24 (.cons (.ty .bool) (anyN 94 .nil)))))))), [.cells 24 true (.cons (.keep .str) (.cons (.keep (.int .i64)) (.cons (.keep (.int .i64)) (.cons (.keep (.int .i64)) (.cons (.keep .str) .nil)))))], [], []⟩)]⟩), ([14], ⟨none, [(.ret, ⟨(anyN 6 (.cons (.ty .bool) (anyN 117 .nil))), [.cells 24 true (.cons (.keep .str) (.cons (.keep (.int .i64)) (.cons (.keep (.int .i64)) (.cons (.keep (.int .i64)) (.cons (.keep .str) .nil)))))], [], []⟩), (.normal, ⟨(.cons (.keep .str) (anyN 1 (.cons (.keep (.int .i64)) (anyN 1 (.cons (.ptr 0 0) (anyN 2 (.cons (.keep .str) (.cons (.keep (.int .i64)) (anyN 115 .nil))))))))), [.cells 24 true (.cons (.keep .str) (.cons (.keep (.int .i64)) (.cons (.keep (.int .i64)) (.cons (.keep (.int .i64)) (.cons (.keep .str) .nil)))))], [], []⟩)]⟩), ([34], ⟨none, [(.ret, ⟨(anyN 6 (.cons (.ty .bool) (anyN 117 .nil))), [.cells 24 true (.cons (.keep .str) (.cons (.keep (.int .i64)) (.cons (.keep (.int .i64)) (.cons (.keep (.int .i64)) (.cons (.keep .str) .nil))))), .cells 24 true (.cons (.keep .str) (.cons (.keep (.int .i64)) (.cons (.keep (.int .i64)) (.cons (.keep (.int .i64)) (.cons (.keep .str) .nil)))))], [], []⟩), (.normal, ⟨(.cons (.keep .str) (anyN 1 (.cons (.keep (.int .i64)) (anyN 1 (.cons (.ptr 0 0) (anyN 2 (.cons (.keep .str) (.cons (.keep (.int .i64)) (anyN 1 (.cons (.ptr 1 0) (anyN 113 .nil))))))))))), [.cells 24 true (.cons (.keep .str) (.cons (.keep (.int .i64)) (.cons (.keep (.int .i64)) (.cons (.keep (.int .i64)) (.cons (.keep .str) .nil))))), .cells 24 true (.cons (.keep .str) (.cons (.keep (.int .i64)) (.cons (.keep (.int .i64)) (.cons (.keep (.int .i64)) (.cons (.keep .str) .nil)))))], [], []⟩)]⟩), ([52], ⟨none, [(.ret, ⟨(anyN 6 (.cons (.ty .bool) (anyN 117 .nil))), [.cells 24 true (.cons (.keep .str) (.cons (.keep (.int .i64)) (.cons (.keep (.int .i64)) (.cons (.keep (.int .i64)) (.cons (.keep .str) .nil))))), .cells 24 true (.cons (.keep .str) (.cons (.keep (.int .i64)) (.cons (.keep (.int .i64)) (.cons (.keep (.int .i64)) (.cons (.keep .str) .nil)))))], [], []⟩), (.normal, ⟨(.cons (.keep .str) (anyN 1 (.cons (.keep (.int .i64)) (anyN 1 (.cons (.ptr 0 0) (anyN 2 (.cons (.keep .str) (.cons (.keep (.int .i64)) (anyN 115 .nil))))))))), [.cells 24 true (.cons (.keep .str) (.cons (.keep (.int .i64)) (.cons (.keep (.int .i64)) (.cons (.keep (.int .i64)) (.cons (.keep .str) .nil))))), .cells 24 true (.cons (.keep .str) (.cons (.keep (.int .i64)) (.cons (.keep (.int .i64)) (.cons (.keep (.int .i64)) (.cons (.keep .str) .nil)))))], [], []⟩)]⟩), ([53], ⟨none, [(.normal, ⟨(.cons (.keep .str) (anyN 1 (.cons (.keep (.int .i64)) (anyN 1 (.cons (.ptr 0 0) (anyN 2 (.cons (.keep .str) (.cons (.keep (.int .i64)) (anyN 92 (.cons (.ty .bool) (anyN 22 .nil))))))))))), [.cells 24 true (.cons (.keep .str) (.cons (.keep (.int .i64)) (.cons (.keep (.int .i64)) (.cons (.keep (.int .i64)) (.cons (.keep .str) .nil))))), .cells 24 true (.cons (.keep .str) (.cons (.keep (.int .i64)) (.cons (.keep (.int .i64)) (.cons (.keep (.int .i64)) (.cons (.keep .str) .nil)))))], [], []⟩)]⟩)]
@[reducible] def fs_law06_RecordBack : List (Nat × SFn) := [(14, .pure [] [.bool] (fun x => F_law06_live)), (19, .pure [.str, (.int .i64), tRR] [.str] (fun x => F_record_Encode x.1 x.2.1 x.2.2)), (21, .pure [.str, (.int .i64), tRR] [(.int .i64)] (fun x => F_record_TTL x.1 x.2.1 x.2.2)), (17, .pure [tRR] [.bool] (fun x => F_record_Check x)), (23, .pure [.str] [.bool] (fun x => F_ref02_Check x)), (15, .pure [.str, (.int .i64)] [tRR, (.int .i64), (.int .i64)] (fun x => F_record_Decode x.1 x.2)), (24, .pure [.str, .str] [.bool] (fun x => F_ref02_Same x.1 x.2)), (26, .pure [(.int .i64), (.int .i64)] [.str] (fun x => F_ref01_Put x.1 x.2)), (25, .pure [.str, (.int .i64), .str] [.str, .bool] (fun x => F_ref01_Lay x.1 x.2.1 x.2.2))]
def cfg_law06_RecordBack : SCfg := SCfg.of (fs_law06_RecordBack ++ inlL) ann_law06_RecordBack keepL
theorem eq_law06_RecordBack (x : HL [.str, tRR, (.int .i64)]) : fnK cfg_law06_RecordBack Try.prog 100000 5 [.str, tRR, (.int .i64)] [.bool] x = (fun x => F_law06_RecordBack x.1 x.2.1 x.2.2) x := by kernel_rfl
theorem told_law06_RecordBack : Told CC Try.prog 5 [.str, tRR, (.int .i64)] [.bool] (fun x => F_law06_RecordBack x.1 x.2.1 x.2.2) := told_of (gok (an := ann_law06_RecordBack) (fs := fs_law06_RecordBack) ⟨told_law06_live, told_record_Encode, told_record_TTL, told_record_Check, told_ref02_Check, told_record_Decode, told_ref02_Same, told_ref01_Put, told_ref01_Lay, trivial⟩) rfl rfl eq_law06_RecordBack

/-! wellspring/wellspringlaw06.RecordMay -/
def F_law06_RecordMay (msg_1 : List UInt8) (at_2 : Int) : Option (Bool) :=
  if decide (2000 < (↑msg_1.length : Int)) = true then
    bnd F_law06_live fun v3 =>
    some v3
  else
    bnd (F_record_Decode msg_1 at_2) fun (v4, v5, v6) =>
    if (v6 != 0) = true then
      if (v4.fst == [] && (v4.snd.fst == 0 && (v4.snd.snd.fst == 0 && (v4.snd.snd.snd.fst == 0 && (v4.snd.snd.snd.snd == [] && true))))) = true then
        if (v5 == 0) = true then
          bnd F_law06_live fun v7 =>
          some v7
        else
          some false
      else
        some false
    else
      bnd (F_record_Check (v4.fst, v4.snd.fst, v4.snd.snd.fst, v4.snd.snd.snd.fst, v4.snd.snd.snd.snd)) fun v8 =>
      if v8 = true then
        if decide (at_2 < v5) = true then
          if decide (v5 ≤ (↑msg_1.length : Int)) = true then
            bnd F_law06_live fun v9 =>
            some v9
          else
            some false
        else
          some false
      else
        some false
def ann_law06_RecordMay : List (List Nat × Ann) := []
@[reducible] def fs_law06_RecordMay : List (Nat × SFn) := [(14, .pure [] [.bool] (fun x => F_law06_live)), (15, .pure [.str, (.int .i64)] [tRR, (.int .i64), (.int .i64)] (fun x => F_record_Decode x.1 x.2)), (17, .pure [tRR] [.bool] (fun x => F_record_Check x))]
def cfg_law06_RecordMay : SCfg := SCfg.of (fs_law06_RecordMay ++ inlL) ann_law06_RecordMay keepL
theorem eq_law06_RecordMay (x : HL [.str, (.int .i64)]) : fnK cfg_law06_RecordMay Try.prog 100000 7 [.str, (.int .i64)] [.bool] x = (fun x => F_law06_RecordMay x.1 x.2) x := by kernel_rfl
theorem told_law06_RecordMay : Told CC Try.prog 7 [.str, (.int .i64)] [.bool] (fun x => F_law06_RecordMay x.1 x.2) := told_of (gok (an := ann_law06_RecordMay) (fs := fs_law06_RecordMay) ⟨told_law06_live, told_record_Decode, told_record_Check, trivial⟩) rfl rfl eq_law06_RecordMay

/-! wellspring/wellspringref04.Write -/
def step_ref04_Write_1 (base_1 : List UInt8) (at_2 : Int) (n_3 : List UInt8) (rest_8 : List UInt8) : List UInt8 → Option (List UInt8 ⊕ (List UInt8 ⊕ Unit)) := fun end_9 =>
  if decide (1 < (↑end_9.length : Int)) = true then
    bnd (F_ref02_Same end_9 rest_8) fun v10 =>
    if v10 = true then
      natOf (Go.IntKind.i64.wrap ((↑n_3.length : Int) - (↑rest_8.length : Int))) fun n11 =>
      grd (n11 ≤ n_3.length) <|
      bnd (F_ref01_Put (Go.IntKind.i64.wrap (Go.IntKind.i64.wrap (Go.IntKind.i64.wrap (49152 + at_2) + (↑base_1.length : Int)) - (↑end_9.length : Int))) 2) fun v12 =>
      grd ((List.take n11 n_3).length + v12.length ≤ maxStr) <|
      some (.inr (.inl (List.take n11 n_3 ++ v12)))
    else
      bnd (F_ref02_Up end_9) fun (v13, v14) =>
      grdEq base_1 base_1 <|
      grdEq at_2 at_2 <|
      grdEq n_3 n_3 <|
      grdEq rest_8 rest_8 <|
      some (.inl v13)
  else
    grdEq base_1 base_1 <|
    grdEq at_2 at_2 <|
    grdEq n_3 n_3 <|
    grdEq rest_8 rest_8 <|
    some (.inr (.inr (())))

def step_ref04_Write_0 (base_1 : List UInt8) (at_2 : Int) (n_3 : List UInt8) : List UInt8 → Option (List UInt8 ⊕ (Unit ⊕ List UInt8)) := fun rest_8 =>
  if decide (1 < (↑rest_8.length : Int)) = true then
    bnd (loopS (step_ref04_Write_1 base_1 at_2 n_3 rest_8) base_1) fun o15 =>
    match o15 with
    | .inl s6_16 =>
      some (.inr (.inr s6_16))
    | .inr _ =>
      bnd (F_ref02_Up rest_8) fun (v17, v18) =>
      grdEq base_1 base_1 <|
      grdEq at_2 at_2 <|
      grdEq n_3 n_3 <|
      some (.inl v17)
  else
    grdEq n_3 n_3 <|
    some (.inr (.inl (())))

def F_ref04_Write (base_1 : List UInt8) (at_2 : Int) (n_3 : List UInt8) : Option (List UInt8) :=
  bnd (α := (List UInt8 ⊕ Unit)) (bnd (F_ref02_Check base_1) fun v4 =>
    if (!v4) = false then
      bnd (F_ref02_Check n_3) fun v5 =>
      if (!v5) = false then
        if decide (at_2 < 0) = false then
          if decide (16000 < at_2) = true then
            some (.inl ([]))
          else
            grdEq base_1 base_1 <|
            grdEq at_2 at_2 <|
            grdEq n_3 n_3 <|
            some (.inr (()))
        else
          some (.inl ([]))
      else
        some (.inl ([]))
    else
      some (.inl ([]))) fun o6 =>
  match o6 with
  | .inl s6_7 =>
    some s6_7
  | .inr _ =>
    bnd (loopS (step_ref04_Write_0 base_1 at_2 n_3) n_3) fun o19 =>
    match o19 with
    | .inl _ =>
      some n_3
    | .inr s6_20 =>
      some s6_20
def ann_ref04_Write : List (List Nat × Ann) := [([2], ⟨none, [(.ret, ⟨(anyN 6 (.cons (.ty .str) (anyN 65 .nil))), [], [], []⟩), (.normal, ⟨(.cons (.keep .str) (.cons (.keep (.int .i64)) (.cons (.keep .str) (anyN 69 .nil)))), [], [], []⟩)]⟩), ([14], ⟨some ⟨(.cons (.keep .str) (.cons (.keep (.int .i64)) (.cons (.keep .str) (anyN 4 (.cons (.ty .str) (anyN 64 .nil)))))), [], [], []⟩, [(.exit 0, ⟨(anyN 2 (.cons (.keep .str) (anyN 69 .nil))), [], [], []⟩), (.ret, ⟨(anyN 6 (.cons (.ty .str) (anyN 65 .nil))), [], [], []⟩)]⟩), ([26], ⟨some ⟨(.cons (.keep .str) (.cons (.keep (.int .i64)) (.cons (.keep .str) (anyN 4 (.cons (.keep .str) (.cons (.ty .str) (anyN 63 .nil))))))), [], [], []⟩, [(.ret, ⟨(anyN 6 (.cons (.ty .str) (anyN 65 .nil))), [], [], []⟩), (.exit 2, ⟨(.cons (.keep .str) (.cons (.keep (.int .i64)) (.cons (.keep .str) (anyN 4 (.cons (.keep .str) (anyN 64 .nil)))))), [], [], []⟩)]⟩)]
@[reducible] def fs_ref04_Write : List (Nat × SFn) := [(24, .pure [.str, .str] [.bool] (fun x => F_ref02_Same x.1 x.2)), (26, .pure [(.int .i64), (.int .i64)] [.str] (fun x => F_ref01_Put x.1 x.2)), (92, .pure [.str] [.str, .bool] (fun x => F_ref02_Up x)), (23, .pure [.str] [.bool] (fun x => F_ref02_Check x))]
def cfg_ref04_Write : SCfg := SCfg.of (fs_ref04_Write ++ inlL) ann_ref04_Write keepL
theorem eq_ref04_Write (x : HL [.str, (.int .i64), .str]) : fnK cfg_ref04_Write Try.prog 100000 54 [.str, (.int .i64), .str] [.str] x = (fun x => F_ref04_Write x.1 x.2.1 x.2.2) x := by kernel_rfl
theorem told_ref04_Write : Told CC Try.prog 54 [.str, (.int .i64), .str] [.str] (fun x => F_ref04_Write x.1 x.2.1 x.2.2) := told_of (gok (an := ann_ref04_Write) (fs := fs_ref04_Write) ⟨told_ref02_Same, told_ref01_Put, told_ref02_Up, told_ref02_Check, trivial⟩) rfl rfl eq_ref04_Write

end
end Go.Abs
