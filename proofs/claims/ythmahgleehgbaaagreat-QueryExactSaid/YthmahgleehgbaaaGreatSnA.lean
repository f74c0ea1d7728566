/- Part of a proof: a machine of plain data, and what the functions come to on it. -/
import Derived.Test.YthmahgleehgbaaaGreatSm
set_option linter.unusedSimpArgs false
set_option linter.unusedVariables false
set_option linter.unusedSectionVars false
set_option maxRecDepth 100000
namespace Go.Abs
open Go Go.Proofs
noncomputable section
@[reducible] def tO : Ty := (.agg (.cons (.int .i64) (.cons (.int .i64) (.cons .str (.cons .str (.cons (.int .i64) (.cons (.int .i64) (.cons (.int .i64) (.int .i64)))))))))
@[reducible] def tRR : Ty := (.agg (.cons .str (.cons (.int .i64) (.cons (.int .i64) (.cons (.int .i64) .str)))))
@[reducible] def tQ : Ty := (.agg (.cons .str (.cons (.int .i64) (.int .i64))))
@[reducible] def tM : Ty := (.agg (.cons (.int .i64) (.cons (.int .i64) (.cons (.list tQ) (.cons (.list tRR) (.cons (.list tRR) (.list tRR)))))))
instance dec8 {A B C D E F G H : Type} [DecidableEq A] [DecidableEq B] [DecidableEq C] [DecidableEq D] [DecidableEq E] [DecidableEq F] [DecidableEq G] [DecidableEq H] : DecidableEq (A × B × C × D × E × F × G × H) := @instDecidableEqProd _ _ _ (@instDecidableEqProd _ _ _ (@instDecidableEqProd _ _ _ (inferInstanceAs (DecidableEq (D × E × F × G × H)))))
def step_ref13_Same_0 (a_1 : List Int) (b_2 : List Int) : Int → Option (Int ⊕ (Bool ⊕ Unit)) := fun i_3 =>
  if decide (i_3 < (↑a_1.length : Int)) = true then
    natOf i_3 fun n4 =>
    bnd (a_1[n4]?) fun x5 =>
    natOf i_3 fun n6 =>
    bnd (b_2[n6]?) fun x7 =>
    if (x5 != x7) = true then
      some (.inr (.inl false))
    else
      grdEq a_1 a_1 <|
      grdEq b_2 b_2 <|
      some (.inl (Go.IntKind.i64.wrap (i_3 + 1)))
  else
    some (.inr (.inr (())))
def F_ref13_Same (a_1 : List (Int)) (b_2 : List (Int)) : Option (Bool) :=
  if ((↑a_1.length : Int) != (↑b_2.length : Int)) = true then
    some false
  else
    bnd (loopS (step_ref13_Same_0 a_1 b_2) 0) fun o8 =>
    match o8 with
    | .inl s4_9 =>
      some s4_9
    | .inr _ =>
      some true
def ann_ref13_Same : List (List Nat × Ann) := [([14], ⟨some ⟨(.cons (.keep (.list (.int .i64))) (.cons (.keep (.list (.int .i64))) (anyN 3 (.cons (.ty (.int .i64)) (anyN 20 .nil))))), [], [], []⟩, [(.ret, ⟨(anyN 4 (.cons (.ty .bool) (anyN 21 .nil))), [], [], []⟩), (.exit 0, ⟨(anyN 26 .nil), [], [], []⟩)]⟩)]
def cfg_ref13_Same : SCfg := SCfg.of ([] ++ inlL) ann_ref13_Same keepL
theorem eq_ref13_Same (x : HL [(.list (.int .i64)), (.list (.int .i64))]) : fnK cfg_ref13_Same Tryz.prog 100000 19 [(.list (.int .i64)), (.list (.int .i64))] [.bool] x = (fun x => F_ref13_Same x.1 x.2) x := by kernel_rfl
theorem told_ref13_Same : Told CC Tryz.prog 19 [(.list (.int .i64)), (.list (.int .i64))] [.bool] (fun x => F_ref13_Same x.1 x.2) := told_of (gok (an := ann_ref13_Same) (fs := []) trivial) rfl rfl eq_ref13_Same
def step_query_Late_0 (l_1 : List (Int × Int × List UInt8 × List UInt8 × Int × Int × Int × Int)) (now_2 : Int) : (List (Int) × Int) → Option ((List (Int) × Int) ⊕ List (Int)) := fun (places_3, s10_4) =>
  if decide (s10_4 < (↑l_1.length : Int)) = true then
    natOf s10_4 fun n5 =>
    bnd (l_1[n5]?) fun x6 =>
    if decide (x6.2.2.2.2.2.2.1 ≤ now_2) = true then
      grd ((places_3.length + [s10_4].length) * 8 ≤ roomLim) <|
      grdEq now_2 now_2 <|
      grdEq l_1 l_1 <|
      grdEq ((↑l_1.length : Int)) ((↑l_1.length : Int)) <|
      some (.inl ((places_3 ++ [s10_4], Go.IntKind.i64.wrap (s10_4 + 1))))
    else
      grdEq now_2 now_2 <|
      grdEq l_1 l_1 <|
      grdEq ((↑l_1.length : Int)) ((↑l_1.length : Int)) <|
      some (.inl ((places_3, Go.IntKind.i64.wrap (s10_4 + 1))))
  else
    some (.inr places_3)
def F_query_Late (l_1 : List ((Int × (Int × (List UInt8 × (List UInt8 × (Int × (Int × (Int × Int))))))))) (now_2 : Int) : Option (List (Int)) :=
  bnd (loopS (step_query_Late_0 l_1 now_2) (([], 0))) fun places_7 =>
  some places_7
def ann_query_Late : List (List Nat × Ann) := [([8], ⟨some ⟨(anyN 1 (.cons (.keep (.int .i64)) (anyN 3 (.cons (.own (.int .i64) 0 true) (anyN 2 (.cons (.keep (.list tO)) (.cons (.keep (.int .i64)) (.cons (.ty (.int .i64)) (anyN 14 .nil))))))))), [], [⟨⟨0, (.int .i64), 3, true, true⟩, true⟩], []⟩, [(.exit 0, ⟨(anyN 5 (.cons (.own (.int .i64) 0 true) (anyN 19 .nil))), [], [⟨⟨1, (.int .i64), 3, true, true⟩, true⟩], []⟩)]⟩)]
def cfg_query_Late : SCfg := SCfg.of ([] ++ inlL) ann_query_Late keepL
theorem eq_query_Late (x : HL [(.list tO), (.int .i64)]) : fnK cfg_query_Late Tryz.prog 100000 20 [(.list tO), (.int .i64)] [(.list (.int .i64))] x = (fun x => F_query_Late x.1 x.2) x := by kernel_rfl
theorem told_query_Late : Told CC Tryz.prog 20 [(.list tO), (.int .i64)] [(.list (.int .i64))] (fun x => F_query_Late x.1 x.2) := told_of (gok (an := ann_query_Late) (fs := []) trivial) rfl rfl eq_query_Late
def F_query_in (n_1 : Int) : Option (Bool) :=
  if decide (0 ≤ n_1) = true then
    some (decide (n_1 ≤ 65535))
  else
    some false
def ann_query_in : List (List Nat × Ann) := []
def cfg_query_in : SCfg := SCfg.of ([] ++ inlL) ann_query_in keepL
theorem eq_query_in (x : HL [(.int .i64)]) : fnK cfg_query_in Tryz.prog 100000 37 [(.int .i64)] [.bool] x = (fun x => F_query_in x) x := by kernel_rfl
theorem told_query_in : Told CC Tryz.prog 37 [(.int .i64)] [.bool] (fun x => F_query_in x) := told_of (gok (an := ann_query_in) (fs := []) trivial) rfl rfl eq_query_in
def step_ref02_Small_0 : (List (Int) × Int) → Option ((List (Int) × Int) ⊕ List (Int)) := fun (b_2, i_3) =>
  if decide (i_3 < (↑b_2.length : Int)) = true then
    bnd (α := (List (Int) × Bool)) (natOf i_3 fun n4 =>
      bnd (b_2[n4]?) fun x5 =>
      if decide (65 ≤ x5) = true then
        natOf i_3 fun n6 =>
        bnd (b_2[n6]?) fun x7 =>
        grdEq i_3 i_3 <|
        some ((b_2, decide (x7 ≤ 90)))
      else
        grdEq i_3 i_3 <|
        some ((b_2, false))) fun (b_8, s24_9) =>
    if s24_9 = true then
      natOf i_3 fun n10 =>
      bnd (b_8[n10]?) fun x11 =>
      natOf i_3 fun n12 =>
      bnd (b_8[n12]?) fun x13 =>
      some (.inl ((b_8.set n12 (Go.IntKind.u8.wrap (x11 + 32)), Go.IntKind.i64.wrap (i_3 + 1))))
    else
      some (.inl ((b_8, Go.IntKind.i64.wrap (i_3 + 1))))
  else
    some (.inr b_2)
def F_ref02_Small (s_1 : List UInt8) : Option (List UInt8) :=
  bnd (loopS step_ref02_Small_0 ((List.map (fun b => (↑b.toNat : Int)) s_1, 0))) fun b_14 =>
  some (List.map (fun n => UInt8.ofNat (Int.toNat n)) b_14)
def ann_ref02_Small : List (List Nat × Ann) := [([17], ⟨none, [(.normal, ⟨(anyN 3 (.cons (.own (.int .u8) 0 true) (.cons (.keep (.int .i64)) (anyN 19 (.cons (.ty .bool) (anyN 10 .nil)))))), [], [⟨⟨0, (.int .u8), 5, true, true⟩, false⟩], [0]⟩)]⟩), ([8], ⟨some ⟨(anyN 3 (.cons (.own (.int .u8) 0 true) (.cons (.ty (.int .i64)) (anyN 30 .nil)))), [], [⟨⟨0, (.int .u8), 5, true, true⟩, false⟩], [0]⟩, [(.exit 0, ⟨(anyN 3 (.cons (.own (.int .u8) 0 true) (anyN 31 .nil))), [], [⟨⟨0, (.int .u8), 5, true, true⟩, false⟩], [0]⟩)]⟩)]
def cfg_ref02_Small : SCfg := SCfg.of ([] ++ inlL) ann_ref02_Small keepL
theorem eq_ref02_Small (x : HL [.str]) : fnK cfg_ref02_Small Tryz.prog 100000 51 [.str] [.str] x = (fun x => F_ref02_Small x) x := by kernel_rfl
theorem told_ref02_Small : Told CC Tryz.prog 51 [.str] [.str] (fun x => F_ref02_Small x) := told_of (gok (an := ann_ref02_Small) (fs := []) trivial) rfl rfl eq_ref02_Small
def F_ref03_letter (c_1 : Int) : Option (Bool) :=
  if decide (97 ≤ c_1) = true then
    if decide (c_1 ≤ 122) = false then
      if decide (65 ≤ c_1) = true then
        some (decide (c_1 ≤ 90))
      else
        some false
    else
      some true
  else
    if decide (65 ≤ c_1) = true then
      some (decide (c_1 ≤ 90))
    else
      some false
def ann_ref03_letter : List (List Nat × Ann) := []
def cfg_ref03_letter : SCfg := SCfg.of ([] ++ inlL) ann_ref03_letter keepL
theorem eq_ref03_letter (x : HL [(.int .u8)]) : fnK cfg_ref03_letter Tryz.prog 100000 52 [(.int .u8)] [.bool] x = (fun x => F_ref03_letter x) x := by kernel_rfl
theorem told_ref03_letter : Told CC Tryz.prog 52 [(.int .u8)] [.bool] (fun x => F_ref03_letter x) := told_of (gok (an := ann_ref03_letter) (fs := []) trivial) rfl rfl eq_ref03_letter
def step_ref02_Labels_0 (n_1 : List UInt8) : (List (List UInt8) × Int) → Option ((List (List UInt8) × Int) ⊕ ((List (List UInt8) × Bool) ⊕ Unit)) := fun (out_4, i_5) =>
  if decide (i_5 < (↑n_1.length : Int)) = true then
    natOf i_5 fun n6 =>
    bnd (n_1[n6]?) fun x7 =>
    if (Go.IntKind.i64.wrap (↑x7.toNat : Int) == 0) = true then
      some (.inr (.inl ((out_4, i_5 == Go.IntKind.i64.wrap ((↑n_1.length : Int) - 1)))))
    else
      bnd (α := (Bool ⊕ List (List UInt8))) (if decide (63 < Go.IntKind.i64.wrap (↑x7.toNat : Int)) = false then
          if decide (Go.IntKind.i64.wrap ((↑n_1.length : Int) - i_5) ≤ Go.IntKind.i64.wrap (↑x7.toNat : Int)) = true then
            some (.inl false)
          else
            grdEq n_1 n_1 <|
            grdEq i_5 i_5 <|
            grdEq (Go.IntKind.i64.wrap (↑x7.toNat : Int)) (Go.IntKind.i64.wrap (↑x7.toNat : Int)) <|
            some (.inr out_4)
        else
          some (.inl false)) fun o8 =>
      match o8 with
      | .inl s3_9 =>
        some (.inr (.inl (([], s3_9))))
      | .inr out_10 =>
        natOf (Go.IntKind.i64.wrap (Go.IntKind.i64.wrap (i_5 + 1) + Go.IntKind.i64.wrap (↑x7.toNat : Int))) fun n11 =>
        grd (n11 ≤ n_1.length) <|
        natOf (Go.IntKind.i64.wrap (i_5 + 1)) fun n12 =>
        grd (n12 ≤ n11) <|
        grd ((out_10.length + [List.drop n12 (List.take n11 n_1)].length) * 16 ≤ roomLim) <|
        grdEq n_1 n_1 <|
        some (.inl ((out_10 ++ [List.drop n12 (List.take n11 n_1)], Go.IntKind.i64.wrap (Go.IntKind.i64.wrap (i_5 + 1) + Go.IntKind.i64.wrap (↑x7.toNat : Int)))))
  else
    some (.inr (.inr (())))
def F_ref02_Labels (n_1 : List UInt8) : Option ((List (List UInt8) × Bool)) :=
  bnd (α := (Bool ⊕ Unit)) (if decide ((↑n_1.length : Int) < 1) = false then
      if decide (255 < (↑n_1.length : Int)) = true then
        some (.inl false)
      else
        grdEq n_1 n_1 <|
        some (.inr (()))
    else
      some (.inl false)) fun o2 =>
  match o2 with
  | .inl s3_3 =>
    some (([], s3_3))
  | .inr _ =>
    bnd (loopS (step_ref02_Labels_0 n_1) (([], 0))) fun o13 =>
    match o13 with
    | .inl (s2_14, s3_15) =>
      some ((s2_14, s3_15))
    | .inr _ =>
      some (([], false))
def ann_ref02_Labels : List (List Nat × Ann) := [([4], ⟨none, [(.ret, ⟨(anyN 2 (.cons .nill (.cons (.ty .bool) (anyN 52 .nil)))), [], [], []⟩), (.normal, ⟨(.cons (.keep .str) (anyN 3 (.cons .nill (anyN 51 .nil)))), [], [], []⟩)]⟩), ([34], ⟨none, [(.ret, ⟨(anyN 2 (.cons .nill (.cons (.ty .bool) (anyN 52 .nil)))), [], [⟨⟨0, .str, 9, true, true⟩, false⟩], []⟩), (.normal, ⟨(.cons (.keep .str) (anyN 3 (.cons (.own .str 0 true) (.cons (.keep (.int .i64)) (.cons (.keep (.int .i64)) (anyN 49 .nil)))))), [], [⟨⟨0, .str, 9, true, true⟩, false⟩], []⟩)]⟩), ([16], ⟨some ⟨(.cons (.keep .str) (anyN 3 (.cons (.own .str 0 true) (.cons (.ty (.int .i64)) (anyN 50 .nil))))), [], [⟨⟨0, .str, 9, true, true⟩, true⟩], []⟩, [(.ret, ⟨(anyN 2 (.cons (.own .str 0 true) (.cons (.ty .bool) (anyN 52 .nil)))), [], [⟨⟨0, .str, 9, true, true⟩, false⟩], []⟩), (.exit 0, ⟨(anyN 56 .nil), [], [⟨⟨0, .str, 9, true, true⟩, false⟩], []⟩)]⟩)]
def cfg_ref02_Labels : SCfg := SCfg.of ([] ++ inlL) ann_ref02_Labels keepL
theorem eq_ref02_Labels (x : HL [.str]) : fnK cfg_ref02_Labels Tryz.prog 100000 53 [.str] [(.list .str), .bool] x = (fun x => F_ref02_Labels x) x := by kernel_rfl
theorem told_ref02_Labels : Told CC Tryz.prog 53 [.str] [(.list .str), .bool] (fun x => F_ref02_Labels x) := told_of (gok (an := ann_ref02_Labels) (fs := []) trivial) rfl rfl eq_ref02_Labels
def F_ref02_Check (n_1 : List UInt8) : Option (Bool) :=
  bnd (F_ref02_Labels n_1) fun (v2, v3) =>
  some v3
def ann_ref02_Check : List (List Nat × Ann) := []
@[reducible] def fs_ref02_Check : List (Nat × SFn) := [(53, .pure [.str] [(.list .str), .bool] (fun x => F_ref02_Labels x))]
def cfg_ref02_Check : SCfg := SCfg.of (fs_ref02_Check ++ inlL) ann_ref02_Check keepL
theorem eq_ref02_Check (x : HL [.str]) : fnK cfg_ref02_Check Tryz.prog 100000 29 [.str] [.bool] x = (fun x => F_ref02_Check x) x := by kernel_rfl
theorem told_ref02_Check : Told CC Tryz.prog 29 [.str] [.bool] (fun x => F_ref02_Check x) := told_of (gok (an := ann_ref02_Check) (fs := fs_ref02_Check) ⟨told_ref02_Labels, trivial⟩) rfl rfl eq_ref02_Check
def step_ref03_Mix_0 (bits_2 : Int) : (List (Int) × (Int × Int)) → Option ((List (Int) × (Int × Int)) ⊕ List (Int)) := fun (b_7, k_8, i_9) =>
  if decide (i_9 < (↑b_7.length : Int)) = true then
    natOf i_9 fun n10 =>
    bnd (b_7[n10]?) fun x11 =>
    bnd (F_ref03_letter x11) fun v12 =>
    if v12 = true then
      natOf (k_8.tmod 40) fun n13 =>
      if (Go.bits Go.BinOp.and Go.IntKind.i64 (bits_2.fdiv (2 ^ min n13 64)) 1 == 1) = true then
        natOf i_9 fun n14 =>
        bnd (b_7[n14]?) fun x15 =>
        natOf i_9 fun n16 =>
        bnd (b_7[n16]?) fun x17 =>
        grdEq bits_2 bits_2 <|
        some (.inl ((b_7.set n16 (Go.IntKind.u8.wrap (x15 - 32)), (Go.IntKind.i64.wrap (k_8 + 1), Go.IntKind.i64.wrap (i_9 + 1)))))
      else
        grdEq bits_2 bits_2 <|
        some (.inl ((b_7, (Go.IntKind.i64.wrap (k_8 + 1), Go.IntKind.i64.wrap (i_9 + 1)))))
    else
      grdEq bits_2 bits_2 <|
      some (.inl ((b_7, (k_8, Go.IntKind.i64.wrap (i_9 + 1)))))
  else
    some (.inr b_7)
def F_ref03_Mix (n_1 : List UInt8) (bits_2 : Int) : Option (List UInt8) :=
  bnd (α := (List UInt8 ⊕ Unit)) (bnd (F_ref02_Check n_1) fun v3 =>
    if (!v3) = false then
      if decide (bits_2 < 0) = false then
        if decide (1099511627776 ≤ bits_2) = true then
          some (.inl ([]))
        else
          grdEq n_1 n_1 <|
          grdEq bits_2 bits_2 <|
          some (.inr (()))
      else
        some (.inl ([]))
    else
      some (.inl ([]))) fun o4 =>
  match o4 with
  | .inl s4_5 =>
    some s4_5
  | .inr _ =>
    bnd (F_ref02_Small n_1) fun v6 =>
    bnd (loopS (step_ref03_Mix_0 bits_2) ((List.map (fun b => (↑b.toNat : Int)) v6, (0, 0)))) fun b_18 =>
    some (List.map (fun n => UInt8.ofNat (Int.toNat n)) b_18)
def ann_ref03_Mix : List (List Nat × Ann) := [([2], ⟨none, [(.ret, ⟨(anyN 4 (.cons (.ty .str) (anyN 46 .nil))), [], [], []⟩), (.normal, ⟨(.cons (.keep .str) (.cons (.keep (.int .i64)) (anyN 49 .nil))), [], [], []⟩)]⟩), ([18], ⟨some ⟨(anyN 1 (.cons (.keep (.int .i64)) (anyN 3 (.cons (.own (.int .u8) 0 true) (.cons (.ty (.int .i64)) (.cons (.ty (.int .i64)) (anyN 43 .nil))))))), [], [⟨⟨0, (.int .u8), 5, true, true⟩, false⟩], [0]⟩, [(.exit 0, ⟨(anyN 5 (.cons (.own (.int .u8) 0 true) (anyN 45 .nil))), [], [⟨⟨0, (.int .u8), 5, true, true⟩, false⟩], [0]⟩)]⟩)]
@[reducible] def fs_ref03_Mix : List (Nat × SFn) := [(52, .pure [(.int .u8)] [.bool] (fun x => F_ref03_letter x)), (29, .pure [.str] [.bool] (fun x => F_ref02_Check x)), (51, .pure [.str] [.str] (fun x => F_ref02_Small x))]
def cfg_ref03_Mix : SCfg := SCfg.of (fs_ref03_Mix ++ inlL) ann_ref03_Mix keepL
theorem eq_ref03_Mix (x : HL [.str, (.int .i64)]) : fnK cfg_ref03_Mix Tryz.prog 100000 28 [.str, (.int .i64)] [.str] x = (fun x => F_ref03_Mix x.1 x.2) x := by kernel_rfl
theorem told_ref03_Mix : Told CC Tryz.prog 28 [.str, (.int .i64)] [.str] (fun x => F_ref03_Mix x.1 x.2) := told_of (gok (an := ann_ref03_Mix) (fs := fs_ref03_Mix) ⟨told_ref03_letter, told_ref02_Check, told_ref02_Small, trivial⟩) rfl rfl eq_ref03_Mix
def F_flag_Field_may (f_1 : Int) (bits_2 : Int) : Option (Bool) :=
  if decide (0 ≤ bits_2) = true then
    if decide (bits_2 ≤ 65535) = true then
      if decide (0 ≤ f_1) = true then
        some (decide (f_1 < 9))
      else
        some false
    else
      some false
  else
    some false
def ann_flag_Field_may : List (List Nat × Ann) := []
def cfg_flag_Field_may : SCfg := SCfg.of ([] ++ inlL) ann_flag_Field_may keepL
theorem eq_flag_Field_may (x : HL [(.int .i64), (.int .i64)]) : fnK cfg_flag_Field_may Tryz.prog 100000 59 [(.int .i64), (.int .i64)] [.bool] x = (fun x => F_flag_Field_may x.1 x.2) x := by kernel_rfl
theorem told_flag_Field_may : Told CC Tryz.prog 59 [(.int .i64), (.int .i64)] [.bool] (fun x => F_flag_Field_may x.1 x.2) := told_of (gok (an := ann_flag_Field_may) (fs := []) trivial) rfl rfl eq_flag_Field_may
def F_flag_place_mask (p_1 : (Int × Int)) : Option (Int) :=
  natOf p_1.2 fun n2 =>
  some (Go.IntKind.i64.wrap (Go.IntKind.i64.wrap (1 * 2 ^ min n2 64) - 1))
def ann_flag_place_mask : List (List Nat × Ann) := []
def cfg_flag_place_mask : SCfg := SCfg.of ([] ++ inlL) ann_flag_place_mask keepL
theorem eq_flag_place_mask (x : HL [(.agg (.cons (.int .i64) (.int .i64)))]) : fnK cfg_flag_place_mask Tryz.prog 100000 61 [(.agg (.cons (.int .i64) (.int .i64)))] [(.int .i64)] x = (fun x => F_flag_place_mask x) x := by kernel_rfl
theorem told_flag_place_mask : Told CC Tryz.prog 61 [(.agg (.cons (.int .i64) (.int .i64)))] [(.int .i64)] (fun x => F_flag_place_mask x) := told_of (gok (an := ann_flag_place_mask) (fs := []) trivial) rfl rfl eq_flag_place_mask
def step_name_split_0 : (List UInt8 × List (List UInt8)) → Option ((List UInt8 × List (List UInt8)) ⊕ (Bool ⊕ (List UInt8 × List (List UInt8)))) := fun (n_2, l_3) =>
  bnd (α := (List (List UInt8) ⊕ List (List UInt8))) (if decide (0 < (↑n_2.length : Int)) = true then
      if (!n_2 == [0]) = true then
        grdEq n_2 n_2 <|
        some (.inl l_3)
      else
        grdEq n_2 n_2 <|
        some (.inr l_3)
    else
      grdEq n_2 n_2 <|
      some (.inr l_3)) fun o4 =>
  match o4 with
  | .inl l_5 =>
    bnd (n_2[0]?) fun x6 =>
    bnd (α := (Bool ⊕ List (List UInt8))) (if decide (Go.IntKind.i64.wrap (↑x6.toNat : Int) < 1) = false then
        if decide (63 < Go.IntKind.i64.wrap (↑x6.toNat : Int)) = false then
          if decide ((↑n_2.length : Int) ≤ Go.IntKind.i64.wrap (Go.IntKind.i64.wrap (↑x6.toNat : Int) + 1)) = true then
            some (.inl false)
          else
            grdEq n_2 n_2 <|
            grdEq (Go.IntKind.i64.wrap (↑x6.toNat : Int)) (Go.IntKind.i64.wrap (↑x6.toNat : Int)) <|
            some (.inr l_5)
        else
          some (.inl false)
      else
        some (.inl false)) fun o7 =>
    match o7 with
    | .inl s3_8 =>
      some (.inr (.inl s3_8))
    | .inr l_9 =>
      natOf (Go.IntKind.i64.wrap (1 + Go.IntKind.i64.wrap (↑x6.toNat : Int))) fun n10 =>
      grd (n10 ≤ n_2.length) <|
      grd (1 ≤ n10) <|
      grd ((l_9.length + [List.drop 1 (List.take n10 n_2)].length) * 16 ≤ roomLim) <|
      natOf (Go.IntKind.i64.wrap (1 + Go.IntKind.i64.wrap (↑x6.toNat : Int))) fun n11 =>
      grd (n11 ≤ n_2.length) <|
      some (.inl ((List.drop n11 n_2, l_9 ++ [List.drop 1 (List.take n10 n_2)])))
  | .inr l_12 =>
    some (.inr (.inr ((n_2, l_12))))
def F_name_split (n_1 : List UInt8) : Option ((List (List UInt8) × Bool)) :=
  if decide (255 < (↑n_1.length : Int)) = true then
    some (([], false))
  else
    bnd (loopS step_name_split_0 ((n_1, []))) fun o13 =>
    match o13 with
    | .inl s3_14 =>
      some (([], s3_14))
    | .inr (n_15, l_16) =>
      some ((l_16, n_15 == [0]))
def ann_name_split : List (List Nat × Ann) := [([15], ⟨none, [(.normal, ⟨(.cons (.keep .str) (anyN 3 (.cons (.own .str 0 true) (anyN 41 .nil)))), [], [⟨⟨0, .str, 9, true, true⟩, false⟩], []⟩), (.exit 0, ⟨(.cons (.keep .str) (anyN 3 (.cons (.own .str 0 true) (anyN 41 .nil)))), [], [⟨⟨0, .str, 9, true, true⟩, false⟩], []⟩)]⟩), ([24], ⟨none, [(.ret, ⟨(anyN 2 (.cons .nill (.cons (.ty .bool) (anyN 42 .nil)))), [], [⟨⟨0, .str, 9, true, true⟩, false⟩], []⟩), (.normal, ⟨(.cons (.keep .str) (anyN 3 (.cons (.own .str 0 true) (.cons (.keep (.int .i64)) (anyN 40 .nil))))), [], [⟨⟨0, .str, 9, true, true⟩, false⟩], []⟩)]⟩), ([14], ⟨some ⟨(.cons (.ty .str) (anyN 3 (.cons (.own .str 0 true) (anyN 41 .nil)))), [], [⟨⟨0, .str, 9, true, true⟩, true⟩], []⟩, [(.ret, ⟨(anyN 2 (.cons .nill (.cons (.ty .bool) (anyN 42 .nil)))), [], [⟨⟨0, .str, 9, true, true⟩, false⟩], []⟩), (.exit 0, ⟨(.cons (.ty .str) (anyN 3 (.cons (.own .str 0 true) (anyN 41 .nil)))), [], [⟨⟨0, .str, 9, true, true⟩, false⟩], []⟩)]⟩)]
def cfg_name_split : SCfg := SCfg.of ([] ++ inlL) ann_name_split keepL
theorem eq_name_split (x : HL [.str]) : fnK cfg_name_split Tryz.prog 100000 65 [.str] [(.list .str), .bool] x = (fun x => F_name_split x) x := by kernel_rfl
theorem told_name_split : Told CC Tryz.prog 65 [.str] [(.list .str), .bool] (fun x => F_name_split x) := told_of (gok (an := ann_name_split) (fs := []) trivial) rfl rfl eq_name_split
def F_name_Check (n_1 : List UInt8) : Option (Bool) :=
  bnd (F_name_split n_1) fun (v2, v3) =>
  some v3
def ann_name_Check : List (List Nat × Ann) := []
@[reducible] def fs_name_Check : List (Nat × SFn) := [(65, .pure [.str] [(.list .str), .bool] (fun x => F_name_split x))]
def cfg_name_Check : SCfg := SCfg.of (fs_name_Check ++ inlL) ann_name_Check keepL
theorem eq_name_Check (x : HL [.str]) : fnK cfg_name_Check Tryz.prog 100000 38 [.str] [.bool] x = (fun x => F_name_Check x) x := by kernel_rfl
theorem told_name_Check : Told CC Tryz.prog 38 [.str] [.bool] (fun x => F_name_Check x) := told_of (gok (an := ann_name_Check) (fs := fs_name_Check) ⟨told_name_split, trivial⟩) rfl rfl eq_name_Check
end
end Go.Abs

set_option maxRecDepth 100000
namespace Go.Abs
open Go Go.Proofs
noncomputable section
def F_query_Out_Check (o_1 : (Int × (Int × (List UInt8 × (List UInt8 × (Int × (Int × (Int × Int)))))))) : Option (Bool) :=
  bnd (α := Bool) (if ((↑(List.length o_1.2.2.1) : Int) == 4) = false then
      grdEq o_1.1 o_1.1 <|
      grdEq o_1.2.1 o_1.2.1 <|
      grdEq o_1.2.2.1 o_1.2.2.1 <|
      grdEq o_1.2.2.2.1 o_1.2.2.2.1 <|
      grdEq o_1.2.2.2.2.1 o_1.2.2.2.2.1 <|
      grdEq o_1.2.2.2.2.2.1 o_1.2.2.2.2.2.1 <|
      grdEq o_1.2.2.2.2.2.2.1 o_1.2.2.2.2.2.2.1 <|
      grdEq o_1.2.2.2.2.2.2.2 o_1.2.2.2.2.2.2.2 <|
      some ((↑(List.length o_1.2.2.1) : Int) == 16)
    else
      grdEq o_1.1 o_1.1 <|
      grdEq o_1.2.1 o_1.2.1 <|
      grdEq o_1.2.2.1 o_1.2.2.1 <|
      grdEq o_1.2.2.2.1 o_1.2.2.2.1 <|
      grdEq o_1.2.2.2.2.1 o_1.2.2.2.2.1 <|
      grdEq o_1.2.2.2.2.2.1 o_1.2.2.2.2.2.1 <|
      grdEq o_1.2.2.2.2.2.2.1 o_1.2.2.2.2.2.2.1 <|
      grdEq o_1.2.2.2.2.2.2.2 o_1.2.2.2.2.2.2.2 <|
      some true) fun address_2 =>
  if address_2 = true then
    bnd (F_query_in o_1.1) fun v3 =>
    if v3 = true then
      bnd (F_query_in o_1.2.1) fun v4 =>
      if v4 = true then
        bnd (F_name_Check o_1.2.2.2.1) fun v5 =>
        if v5 = true then
          bnd (F_query_in o_1.2.2.2.2.1) fun v6 =>
          if v6 = true then
            bnd (F_query_in o_1.2.2.2.2.2.1) fun v7 =>
            some v7
          else
            some false
        else
          some false
      else
        some false
    else
      some false
  else
    some false
def ann_query_Out_Check : List (List Nat × Ann) := [([2], ⟨none, [(.normal, ⟨(anyN 1 (.cons (.ptr 0 0) (anyN 1 (.cons (.ty .bool) (anyN 39 .nil))))), [.cells 41 true (.cons (.keep (.int .i64)) (.cons (.keep (.int .i64)) (.cons (.keep .str) (.cons (.keep .str) (.cons (.keep (.int .i64)) (.cons (.keep (.int .i64)) (.cons (.keep (.int .i64)) (.cons (.keep (.int .i64)) .nil))))))))], [], []⟩)]⟩)]
@[reducible] def fs_query_Out_Check : List (Nat × SFn) := [(37, .pure [(.int .i64)] [.bool] (fun x => F_query_in x)), (38, .pure [.str] [.bool] (fun x => F_name_Check x))]
def cfg_query_Out_Check : SCfg := SCfg.of (fs_query_Out_Check ++ inlL) ann_query_Out_Check keepL
theorem eq_query_Out_Check (x : HL [tO]) : fnK cfg_query_Out_Check Tryz.prog 100000 15 [tO] [.bool] x = (fun x => F_query_Out_Check x) x := by kernel_rfl
theorem told_query_Out_Check : Told CC Tryz.prog 15 [tO] [.bool] (fun x => F_query_Out_Check x) := told_of (gok (an := ann_query_Out_Check) (fs := fs_query_Out_Check) ⟨told_query_in, told_name_Check, trivial⟩) rfl rfl eq_query_Out_Check
def F_mix_Echoes (asked_1 : List UInt8) (told_2 : List UInt8) : Option (Bool) :=
  bnd (F_name_Check asked_1) fun v3 =>
  if v3 = true then
    some (asked_1 == told_2)
  else
    some false
def ann_mix_Echoes : List (List Nat × Ann) := []
@[reducible] def fs_mix_Echoes : List (Nat × SFn) := [(38, .pure [.str] [.bool] (fun x => F_name_Check x))]
def cfg_mix_Echoes : SCfg := SCfg.of (fs_mix_Echoes ++ inlL) ann_mix_Echoes keepL
theorem eq_mix_Echoes (x : HL [.str, .str]) : fnK cfg_mix_Echoes Tryz.prog 100000 62 [.str, .str] [.bool] x = (fun x => F_mix_Echoes x.1 x.2) x := by kernel_rfl
theorem told_mix_Echoes : Told CC Tryz.prog 62 [.str, .str] [.bool] (fun x => F_mix_Echoes x.1 x.2) := told_of (gok (an := ann_mix_Echoes) (fs := fs_mix_Echoes) ⟨told_name_Check, trivial⟩) rfl rfl eq_mix_Echoes
def F_query_Out_answers (o_1 : (Int × (Int × (List UInt8 × (List UInt8 × (Int × (Int × (Int × Int)))))))) (m_2 : (Int × (Int × (List ((List UInt8 × (Int × Int))) × (List ((List UInt8 × (Int × (Int × (Int × List UInt8))))) × (List ((List UInt8 × (Int × (Int × (Int × List UInt8))))) × List ((List UInt8 × (Int × (Int × (Int × List UInt8))))))))))) : Option (Bool) :=
  bnd (m_2.2.2.1[0]?) fun x3 =>
  bnd (F_query_Out_Check (o_1.1, o_1.2.1, o_1.2.2.1, o_1.2.2.2.1, o_1.2.2.2.2.1, o_1.2.2.2.2.2.1, o_1.2.2.2.2.2.2.1, o_1.2.2.2.2.2.2.2)) fun v4 =>
  if v4 = true then
    if (o_1.1 == m_2.1) = true then
      if (o_1.2.2.2.2.1 == x3.2.1) = true then
        if (o_1.2.2.2.2.2.1 == x3.2.2) = true then
          bnd (F_mix_Echoes o_1.2.2.2.1 x3.1) fun v5 =>
          some v5
        else
          some false
      else
        some false
    else
      some false
  else
    some false
def ann_query_Out_answers : List (List Nat × Ann) := []
@[reducible] def fs_query_Out_answers : List (Nat × SFn) := [(15, .pure [tO] [.bool] (fun x => F_query_Out_Check x)), (62, .pure [.str, .str] [.bool] (fun x => F_mix_Echoes x.1 x.2))]
def cfg_query_Out_answers : SCfg := SCfg.of (fs_query_Out_answers ++ inlL) ann_query_Out_answers keepL
theorem eq_query_Out_answers (x : HL [tO, tM]) : fnK cfg_query_Out_answers Tryz.prog 100000 34 [tO, tM] [.bool] x = (fun x => F_query_Out_answers x.1 x.2) x := by kernel_rfl
theorem told_query_Out_answers : Told CC Tryz.prog 34 [tO, tM] [.bool] (fun x => F_query_Out_answers x.1 x.2) := told_of (gok (an := ann_query_Out_answers) (fs := fs_query_Out_answers) ⟨told_query_Out_Check, told_mix_Echoes, trivial⟩) rfl rfl eq_query_Out_answers
def F_edns_in (n_1 : Int) (most_2 : Int) : Option (Bool) :=
  if decide (0 ≤ n_1) = true then
    some (decide (n_1 ≤ most_2))
  else
    some false
def ann_edns_in : List (List Nat × Ann) := []
def cfg_edns_in : SCfg := SCfg.of ([] ++ inlL) ann_edns_in keepL
theorem eq_edns_in (x : HL [(.int .i64), (.int .i64)]) : fnK cfg_edns_in Tryz.prog 100000 66 [(.int .i64), (.int .i64)] [.bool] x = (fun x => F_edns_in x.1 x.2) x := by kernel_rfl
theorem told_edns_in : Told CC Tryz.prog 66 [(.int .i64), (.int .i64)] [.bool] (fun x => F_edns_in x.1 x.2) := told_of (gok (an := ann_edns_in) (fs := []) trivial) rfl rfl eq_edns_in
def F_edns_Opt_Record (o_1 : (Bool × (Int × (Int × (Int × Bool))))) : Option (((List UInt8 × (Int × (Int × (Int × List UInt8)))) × Bool)) :=
  bnd (α := (Bool ⊕ Unit)) (bnd (α := Bool) (if (!o_1.1) = false then
        bnd (F_edns_in o_1.2.1 65535) fun v2 =>
        if (!v2) = false then
          bnd (F_edns_in o_1.2.2.1 127) fun v3 =>
          if (!v3) = false then
            bnd (F_edns_in o_1.2.2.2.1 255) fun v4 =>
            grdEq o_1.1 o_1.1 <|
            grdEq o_1.2.1 o_1.2.1 <|
            grdEq o_1.2.2.1 o_1.2.2.1 <|
            grdEq o_1.2.2.2.1 o_1.2.2.2.1 <|
            grdEq o_1.2.2.2.2 o_1.2.2.2.2 <|
            grdEq (α := List UInt8) ([]) ([]) <|
            grdEq (α := Int) 0 0 <|
            grdEq (α := Int) 0 0 <|
            grdEq (α := Int) 0 0 <|
            grdEq (α := List UInt8) ([]) ([]) <|
            some (!v4)
          else
            grdEq o_1.1 o_1.1 <|
            grdEq o_1.2.1 o_1.2.1 <|
            grdEq o_1.2.2.1 o_1.2.2.1 <|
            grdEq o_1.2.2.2.1 o_1.2.2.2.1 <|
            grdEq o_1.2.2.2.2 o_1.2.2.2.2 <|
            grdEq (α := List UInt8) ([]) ([]) <|
            grdEq (α := Int) 0 0 <|
            grdEq (α := Int) 0 0 <|
            grdEq (α := Int) 0 0 <|
            grdEq (α := List UInt8) ([]) ([]) <|
            some true
        else
          grdEq o_1.1 o_1.1 <|
          grdEq o_1.2.1 o_1.2.1 <|
          grdEq o_1.2.2.1 o_1.2.2.1 <|
          grdEq o_1.2.2.2.1 o_1.2.2.2.1 <|
          grdEq o_1.2.2.2.2 o_1.2.2.2.2 <|
          grdEq (α := List UInt8) ([]) ([]) <|
          grdEq (α := Int) 0 0 <|
          grdEq (α := Int) 0 0 <|
          grdEq (α := Int) 0 0 <|
          grdEq (α := List UInt8) ([]) ([]) <|
          some true
      else
        grdEq o_1.1 o_1.1 <|
        grdEq o_1.2.1 o_1.2.1 <|
        grdEq o_1.2.2.1 o_1.2.2.1 <|
        grdEq o_1.2.2.2.1 o_1.2.2.2.1 <|
        grdEq o_1.2.2.2.2 o_1.2.2.2.2 <|
        grdEq (α := List UInt8) ([]) ([]) <|
        grdEq (α := Int) 0 0 <|
        grdEq (α := Int) 0 0 <|
        grdEq (α := Int) 0 0 <|
        grdEq (α := List UInt8) ([]) ([]) <|
        some true) fun s25_5 =>
    if s25_5 = true then
      grdEq o_1.1 o_1.1 <|
      grdEq o_1.2.1 o_1.2.1 <|
      grdEq o_1.2.2.1 o_1.2.2.1 <|
      grdEq o_1.2.2.2.1 o_1.2.2.2.1 <|
      grdEq o_1.2.2.2.2 o_1.2.2.2.2 <|
      grdEq (α := List UInt8) ([]) ([]) <|
      grdEq (α := Int) 0 0 <|
      grdEq (α := Int) 0 0 <|
      grdEq (α := Int) 0 0 <|
      grdEq (α := List UInt8) ([]) ([]) <|
      some (.inl false)
    else
      grdEq o_1.1 o_1.1 <|
      grdEq o_1.2.1 o_1.2.1 <|
      grdEq o_1.2.2.1 o_1.2.2.1 <|
      grdEq o_1.2.2.2.1 o_1.2.2.2.1 <|
      grdEq o_1.2.2.2.2 o_1.2.2.2.2 <|
      grdEq (α := List UInt8) ([]) ([]) <|
      grdEq (α := Int) 0 0 <|
      grdEq (α := Int) 0 0 <|
      grdEq (α := Int) 0 0 <|
      grdEq (α := List UInt8) ([]) ([]) <|
      some (.inr (()))) fun o6 =>
  match o6 with
  | .inl s3_7 =>
    some ((([], (0, (0, (0, [])))), s3_7))
  | .inr _ =>
    if o_1.2.2.2.2 = true then
      some ((([0], (41, (o_1.2.1, (Go.bits Go.BinOp.or Go.IntKind.i64 (Go.bits Go.BinOp.or Go.IntKind.i64 (Go.IntKind.i64.wrap (o_1.2.2.1 * 16777216)) (Go.IntKind.i64.wrap (o_1.2.2.2.1 * 65536))) 32768, [])))), true))
    else
      some ((([0], (41, (o_1.2.1, (Go.bits Go.BinOp.or Go.IntKind.i64 (Go.IntKind.i64.wrap (o_1.2.2.1 * 16777216)) (Go.IntKind.i64.wrap (o_1.2.2.2.1 * 65536)), [])))), true))
def ann_edns_Opt_Record : List (List Nat × Ann) := [([2], ⟨none, [(.ret, ⟨(anyN 2 (.cons (.ptr 1 0) (.cons (.ty .bool) (anyN 40 .nil)))), [.cells 71 true (.cons (.keep .bool) (.cons (.keep (.int .i64)) (.cons (.keep (.int .i64)) (.cons (.keep (.int .i64)) (.cons (.keep .bool) .nil))))), .cells 68 true (.cons (.keep .str) (.cons (.keep (.int .i64)) (.cons (.keep (.int .i64)) (.cons (.keep (.int .i64)) (.cons (.keep .str) .nil)))))], [], []⟩), (.normal, ⟨(anyN 1 (.cons (.ptr 0 0) (.cons (.ptr 1 0) (anyN 41 .nil)))), [.cells 71 true (.cons (.keep .bool) (.cons (.keep (.int .i64)) (.cons (.keep (.int .i64)) (.cons (.keep (.int .i64)) (.cons (.keep .bool) .nil))))), .cells 68 true (.cons (.keep .str) (.cons (.keep (.int .i64)) (.cons (.keep (.int .i64)) (.cons (.keep (.int .i64)) (.cons (.keep .str) .nil)))))], [], []⟩)]⟩), ([3], ⟨none, [(.normal, ⟨(anyN 1 (.cons (.ptr 0 0) (.cons (.ptr 1 0) (anyN 22 (.cons (.ty .bool) (anyN 18 .nil)))))), [.cells 71 true (.cons (.keep .bool) (.cons (.keep (.int .i64)) (.cons (.keep (.int .i64)) (.cons (.keep (.int .i64)) (.cons (.keep .bool) .nil))))), .cells 68 true (.cons (.keep .str) (.cons (.keep (.int .i64)) (.cons (.keep (.int .i64)) (.cons (.keep (.int .i64)) (.cons (.keep .str) .nil)))))], [], []⟩)]⟩)]
@[reducible] def fs_edns_Opt_Record : List (Nat × SFn) := [(66, .pure [(.int .i64), (.int .i64)] [.bool] (fun x => F_edns_in x.1 x.2))]
def cfg_edns_Opt_Record : SCfg := SCfg.of (fs_edns_Opt_Record ++ inlL) ann_edns_Opt_Record keepL
theorem eq_edns_Opt_Record (x : HL [(.agg (.cons .bool (.cons (.int .i64) (.cons (.int .i64) (.cons (.int .i64) .bool)))))]) : fnK cfg_edns_Opt_Record Tryz.prog 100000 40 [(.agg (.cons .bool (.cons (.int .i64) (.cons (.int .i64) (.cons (.int .i64) .bool)))))] [tRR, .bool] x = (fun x => F_edns_Opt_Record x) x := by kernel_rfl
theorem told_edns_Opt_Record : Told CC Tryz.prog 40 [(.agg (.cons .bool (.cons (.int .i64) (.cons (.int .i64) (.cons (.int .i64) .bool)))))] [tRR, .bool] (fun x => F_edns_Opt_Record x) := told_of (gok (an := ann_edns_Opt_Record) (fs := fs_edns_Opt_Record) ⟨told_edns_in, trivial⟩) rfl rfl eq_edns_Opt_Record
def step_ref01_Put_0 (n_1 : Int) (size_2 : Int) : (List (Int) × Int) → Option ((List (Int) × Int) ⊕ List (Int)) := fun (b_5, i_6) =>
  if decide (0 ≤ i_6) = true then
    natOf (Go.IntKind.i64.wrap (8 * i_6)) fun n7 =>
    grd ((b_5.length + [Go.IntKind.u8.wrap (Go.bits Go.BinOp.and Go.IntKind.i64 (n_1.fdiv (2 ^ min n7 64)) 255)].length) * 1 ≤ roomLim) <|
    grdEq n_1 n_1 <|
    grdEq size_2 size_2 <|
    some (.inl ((b_5 ++ [Go.IntKind.u8.wrap (Go.bits Go.BinOp.and Go.IntKind.i64 (n_1.fdiv (2 ^ min n7 64)) 255)], Go.IntKind.i64.wrap (i_6 - 1))))
  else
    grdEq n_1 n_1 <|
    grdEq size_2 size_2 <|
    some (.inr b_5)
def F_ref01_Put (n_1 : Int) (size_2 : Int) : Option (List UInt8) :=
  bnd (α := (List UInt8 ⊕ Unit)) (if decide (size_2 < 1) = false then
      if decide (4 < size_2) = false then
        if decide (n_1 < 0) = true then
          some (.inl ([]))
        else
          grdEq n_1 n_1 <|
          grdEq size_2 size_2 <|
          some (.inr (()))
      else
        some (.inl ([]))
    else
      some (.inl ([]))) fun o3 =>
  match o3 with
  | .inl s4_4 =>
    some s4_4
  | .inr _ =>
    bnd (loopS (step_ref01_Put_0 n_1 size_2) (([], Go.IntKind.i64.wrap (size_2 - 1)))) fun b_8 =>
    natOf (Go.IntKind.i64.wrap (8 * size_2)) fun n9 =>
    if decide (0 < n_1.fdiv (2 ^ min n9 64)) = true then
      some ([])
    else
      some (List.map (fun n => UInt8.ofNat (Int.toNat n)) b_8)
def ann_ref01_Put : List (List Nat × Ann) := [([2], ⟨none, [(.ret, ⟨(anyN 4 (.cons (.ty .str) (anyN 34 .nil))), [], [], []⟩), (.normal, ⟨(.cons (.keep (.int .i64)) (.cons (.keep (.int .i64)) (anyN 37 .nil))), [], [], []⟩)]⟩), ([16], ⟨some ⟨(.cons (.keep (.int .i64)) (.cons (.keep (.int .i64)) (anyN 3 (.cons (.own (.int .u8) 0 true) (.cons (.ty (.int .i64)) (anyN 32 .nil)))))), [], [⟨⟨0, (.int .u8), 5, false, false⟩, true⟩], []⟩, [(.exit 0, ⟨(.cons (.keep (.int .i64)) (.cons (.keep (.int .i64)) (anyN 3 (.cons (.own (.int .u8) 0 true) (anyN 33 .nil))))), [], [⟨⟨1, (.int .u8), 5, false, false⟩, true⟩], []⟩)]⟩)]
def cfg_ref01_Put : SCfg := SCfg.of ([] ++ inlL) ann_ref01_Put keepL
theorem eq_ref01_Put (x : HL [(.int .i64), (.int .i64)]) : fnK cfg_ref01_Put Tryz.prog 100000 71 [(.int .i64), (.int .i64)] [.str] x = (fun x => F_ref01_Put x.1 x.2) x := by kernel_rfl
theorem told_ref01_Put : Told CC Tryz.prog 71 [(.int .i64), (.int .i64)] [.str] (fun x => F_ref01_Put x.1 x.2) := told_of (gok (an := ann_ref01_Put) (fs := []) trivial) rfl rfl eq_ref01_Put
def F_ref08_Base (m_1 : (Int × (Int × (List ((List UInt8 × (Int × Int))) × (List ((List UInt8 × (Int × (Int × (Int × List UInt8))))) × (List ((List UInt8 × (Int × (Int × (Int × List UInt8))))) × List ((List UInt8 × (Int × (Int × (Int × List UInt8))))))))))) : Option (List UInt8) :=
  if decide (0 < (↑(List.length m_1.2.2.1) : Int)) = true then
    bnd (m_1.2.2.1[0]?) fun x2 =>
    some x2.1
  else
    some ([0])
def ann_ref08_Base : List (List Nat × Ann) := []
def cfg_ref08_Base : SCfg := SCfg.of ([] ++ inlL) ann_ref08_Base keepL
theorem eq_ref08_Base (x : HL [tM]) : fnK cfg_ref08_Base Tryz.prog 100000 73 [tM] [.str] x = (fun x => F_ref08_Base x) x := by kernel_rfl
theorem told_ref08_Base : Told CC Tryz.prog 73 [tM] [.str] (fun x => F_ref08_Base x) := told_of (gok (an := ann_ref08_Base) (fs := []) trivial) rfl rfl eq_ref08_Base
def F_ref01_Take (s_1 : List UInt8) (at_2 : Int) (size_3 : Int) : Option ((List UInt8 × Bool)) :=
  if decide (at_2 < 0) = false then
    if decide (size_3 < 0) = false then
      if decide ((↑s_1.length : Int) < at_2) = false then
        if decide (Go.IntKind.i64.wrap ((↑s_1.length : Int) - at_2) < size_3) = true then
          some (([], false))
        else
          natOf (Go.IntKind.i64.wrap (at_2 + size_3)) fun n4 =>
          grd (n4 ≤ s_1.length) <|
          natOf at_2 fun n5 =>
          grd (n5 ≤ n4) <|
          some ((List.drop n5 (List.take n4 s_1), true))
      else
        some (([], false))
    else
      some (([], false))
  else
    some (([], false))
def ann_ref01_Take : List (List Nat × Ann) := []
def cfg_ref01_Take : SCfg := SCfg.of ([] ++ inlL) ann_ref01_Take keepL
theorem eq_ref01_Take (x : HL [.str, (.int .i64), (.int .i64)]) : fnK cfg_ref01_Take Tryz.prog 100000 74 [.str, (.int .i64), (.int .i64)] [.str, .bool] x = (fun x => F_ref01_Take x.1 x.2.1 x.2.2) x := by kernel_rfl
theorem told_ref01_Take : Told CC Tryz.prog 74 [.str, (.int .i64), (.int .i64)] [.str, .bool] (fun x => F_ref01_Take x.1 x.2.1 x.2.2) := told_of (gok (an := ann_ref01_Take) (fs := []) trivial) rfl rfl eq_ref01_Take
def step_ref01_Get_0 (size_3 : Int) (v4 : List UInt8) : (Int × Int) → Option ((Int × Int) ⊕ Int) := fun (n_9, i_10) =>
  if decide (i_10 < size_3) = true then
    natOf i_10 fun n11 =>
    bnd (v4[n11]?) fun x12 =>
    grdEq size_3 size_3 <|
    grdEq v4 v4 <|
    some (.inl ((Go.IntKind.i64.wrap (Go.IntKind.i64.wrap (256 * n_9) + Go.IntKind.i64.wrap (↑x12.toNat : Int)), Go.IntKind.i64.wrap (i_10 + 1))))
  else
    some (.inr n_9)
def F_ref01_Get (s_1 : List UInt8) (at_2 : Int) (size_3 : Int) : Option ((Int × Bool)) :=
  bnd (F_ref01_Take s_1 at_2 size_3) fun (v4, v5) =>
  bnd (α := ((Int × Bool) ⊕ Unit)) (if (!v5) = false then
      if decide (size_3 < 1) = false then
        if decide (4 < size_3) = true then
          some (.inl ((0, false)))
        else
          grdEq size_3 size_3 <|
          grdEq v4 v4 <|
          some (.inr (()))
      else
        some (.inl ((0, false)))
    else
      some (.inl ((0, false)))) fun o6 =>
  match o6 with
  | .inl (s6_7, s7_8) =>
    some ((s6_7, s7_8))
  | .inr _ =>
    bnd (loopS (step_ref01_Get_0 size_3 v4) ((0, 0))) fun n_13 =>
    some ((n_13, true))
def ann_ref01_Get : List (List Nat × Ann) := [([4], ⟨none, [(.ret, ⟨(anyN 6 (.cons (.ty (.int .i64)) (.cons (.ty .bool) (anyN 34 .nil)))), [], [], []⟩), (.normal, ⟨(anyN 2 (.cons (.keep (.int .i64)) (anyN 5 (.cons (.keep .str) (anyN 33 .nil))))), [], [], []⟩)]⟩), ([18], ⟨some ⟨(anyN 2 (.cons (.keep (.int .i64)) (anyN 5 (.cons (.keep .str) (anyN 1 (.cons (.ty (.int .i64)) (.cons (.ty (.int .i64)) (anyN 30 .nil)))))))), [], [], []⟩, [(.exit 0, ⟨(anyN 10 (.cons (.ty (.int .i64)) (anyN 31 .nil))), [], [], []⟩)]⟩)]
@[reducible] def fs_ref01_Get : List (Nat × SFn) := [(74, .pure [.str, (.int .i64), (.int .i64)] [.str, .bool] (fun x => F_ref01_Take x.1 x.2.1 x.2.2))]
def cfg_ref01_Get : SCfg := SCfg.of (fs_ref01_Get ++ inlL) ann_ref01_Get keepL
theorem eq_ref01_Get (x : HL [.str, (.int .i64), (.int .i64)]) : fnK cfg_ref01_Get Tryz.prog 100000 48 [.str, (.int .i64), (.int .i64)] [(.int .i64), .bool] x = (fun x => F_ref01_Get x.1 x.2.1 x.2.2) x := by kernel_rfl
theorem told_ref01_Get : Told CC Tryz.prog 48 [.str, (.int .i64), (.int .i64)] [(.int .i64), .bool] (fun x => F_ref01_Get x.1 x.2.1 x.2.2) := told_of (gok (an := ann_ref01_Get) (fs := fs_ref01_Get) ⟨told_ref01_Take, trivial⟩) rfl rfl eq_ref01_Get
def F_ref08_Head (s_1 : List UInt8) : Option ((Int × (Int × Bool))) :=
  if decide ((↑s_1.length : Int) < 12) = true then
    some ((0, (0, false)))
  else
    bnd (F_ref01_Get s_1 0 2) fun (v2, v3) =>
    bnd (F_ref01_Get s_1 2 2) fun (v4, v5) =>
    some ((v2, (v4, true)))
def ann_ref08_Head : List (List Nat × Ann) := []
@[reducible] def fs_ref08_Head : List (Nat × SFn) := [(48, .pure [.str, (.int .i64), (.int .i64)] [(.int .i64), .bool] (fun x => F_ref01_Get x.1 x.2.1 x.2.2))]
def cfg_ref08_Head : SCfg := SCfg.of (fs_ref08_Head ++ inlL) ann_ref08_Head keepL
theorem eq_ref08_Head (x : HL [.str]) : fnK cfg_ref08_Head Tryz.prog 100000 47 [.str] [(.int .i64), (.int .i64), .bool] x = (fun x => F_ref08_Head x) x := by kernel_rfl
theorem told_ref08_Head : Told CC Tryz.prog 47 [.str] [(.int .i64), (.int .i64), .bool] (fun x => F_ref08_Head x) := told_of (gok (an := ann_ref08_Head) (fs := fs_ref08_Head) ⟨told_ref01_Get, trivial⟩) rfl rfl eq_ref08_Head
def F_msg_small (n_1 : Int) : Option (Bool) :=
  if decide (0 ≤ n_1) = true then
    some (decide (n_1 ≤ 65535))
  else
    some false
def ann_msg_small : List (List Nat × Ann) := []
def cfg_msg_small : SCfg := SCfg.of ([] ++ inlL) ann_msg_small keepL
theorem eq_msg_small (x : HL [(.int .i64)]) : fnK cfg_msg_small Tryz.prog 100000 81 [(.int .i64)] [.bool] x = (fun x => F_msg_small x) x := by kernel_rfl
theorem told_msg_small : Told CC Tryz.prog 81 [(.int .i64)] [.bool] (fun x => F_msg_small x) := told_of (gok (an := ann_msg_small) (fs := []) trivial) rfl rfl eq_msg_small
def F_msg_Check_2 (q_1 : (List UInt8 × (Int × Int))) : Option (Bool) :=
  bnd (F_name_Check q_1.1) fun v2 =>
  if (!v2) = false then
    bnd (F_msg_small q_1.2.1) fun v3 =>
    if (!v3) = false then
      bnd (F_msg_small q_1.2.2) fun v4 =>
      some (!v4)
    else
      some true
  else
    some true
def ann_msg_Check_2 : List (List Nat × Ann) := []
@[reducible] def fs_msg_Check_2 : List (Nat × SFn) := [(38, .pure [.str] [.bool] (fun x => F_name_Check x)), (81, .pure [(.int .i64)] [.bool] (fun x => F_msg_small x))]
def cfg_msg_Check_2 : SCfg := SCfg.of (fs_msg_Check_2 ++ inlL) ann_msg_Check_2 keepL
theorem eq_msg_Check_2 (x : HL [tQ]) : fnK cfg_msg_Check_2 Tryz.prog 100000 85 [tQ] [.bool] x = (fun x => F_msg_Check_2 x) x := by kernel_rfl
theorem told_msg_Check_2 : Told CC Tryz.prog 85 [tQ] [.bool] (fun x => F_msg_Check_2 x) := told_of (gok (an := ann_msg_Check_2) (fs := fs_msg_Check_2) ⟨told_name_Check, told_msg_small, trivial⟩) rfl rfl eq_msg_Check_2
def F_octet_sized (size_1 : Int) : Option (Bool) :=
  if decide (1 ≤ size_1) = true then
    some (decide (size_1 ≤ 4))
  else
    some false
def ann_octet_sized : List (List Nat × Ann) := []
def cfg_octet_sized : SCfg := SCfg.of ([] ++ inlL) ann_octet_sized keepL
theorem eq_octet_sized (x : HL [(.int .i64)]) : fnK cfg_octet_sized Tryz.prog 100000 87 [(.int .i64)] [.bool] x = (fun x => F_octet_sized x) x := by kernel_rfl
theorem told_octet_sized : Told CC Tryz.prog 87 [(.int .i64)] [.bool] (fun x => F_octet_sized x) := told_of (gok (an := ann_octet_sized) (fs := []) trivial) rfl rfl eq_octet_sized
def step_octet_Put_0 (n_1 : Int) (size_2 : Int) : (List (Int) × Int) → Option ((List (Int) × Int) ⊕ List (Int)) := fun (b_7, s24_8) =>
  if decide (s24_8 < size_2) = true then
    natOf (Go.IntKind.i64.wrap (8 * s24_8)) fun n9 =>
    natOf (Go.IntKind.i64.wrap (Go.IntKind.i64.wrap (size_2 - 1) - s24_8)) fun n10 =>
    bnd (b_7[n10]?) fun x11 =>
    grdEq n_1 n_1 <|
    grdEq size_2 size_2 <|
    grdEq size_2 size_2 <|
    some (.inl ((b_7.set n10 (Go.IntKind.u8.wrap (n_1.fdiv (2 ^ min n9 64))), Go.IntKind.i64.wrap (s24_8 + 1))))
  else
    some (.inr b_7)
def F_octet_Put (n_1 : Int) (size_2 : Int) : Option (List UInt8) :=
  bnd (α := (List UInt8 ⊕ Unit)) (bnd (F_octet_sized size_2) fun v3 =>
    if (!v3) = false then
      if decide (n_1 < 0) = false then
        natOf (Go.IntKind.i64.wrap (8 * size_2)) fun n4 =>
        if (n_1.fdiv (2 ^ min n4 64) != 0) = true then
          some (.inl ([]))
        else
          grdEq n_1 n_1 <|
          grdEq size_2 size_2 <|
          some (.inr (()))
      else
        some (.inl ([]))
    else
      some (.inl ([]))) fun o5 =>
  match o5 with
  | .inl s4_6 =>
    some s4_6
  | .inr _ =>
    grd (0 ≤ size_2 ∧ size_2 ≤ size_2 ∧ size_2 ≤ 9223372036854775807 ∧ 1 * size_2 ≤ 281474976710656) <|
    bnd (loopS (step_octet_Put_0 n_1 size_2) ((List.replicate size_2.toNat 0, 0))) fun b_12 =>
    some (List.map (fun n => UInt8.ofNat (Int.toNat n)) b_12)
def ann_octet_Put : List (List Nat × Ann) := [([2], ⟨none, [(.ret, ⟨(anyN 4 (.cons (.ty .str) (anyN 36 .nil))), [], [], []⟩), (.normal, ⟨(.cons (.keep (.int .i64)) (.cons (.keep (.int .i64)) (anyN 39 .nil))), [], [], []⟩)]⟩), ([16], ⟨some ⟨(.cons (.keep (.int .i64)) (.cons (.keep (.int .i64)) (anyN 3 (.cons (.own (.int .u8) 0 true) (anyN 17 (.cons (.keep (.int .i64)) (.cons (.ty (.int .i64)) (anyN 16 .nil)))))))), [], [⟨⟨0, (.int .u8), 5, true, true⟩, false⟩], [0]⟩, [(.exit 0, ⟨(anyN 5 (.cons (.own (.int .u8) 0 true) (anyN 35 .nil))), [], [⟨⟨0, (.int .u8), 5, true, true⟩, false⟩], [0]⟩)]⟩)]
@[reducible] def fs_octet_Put : List (Nat × SFn) := [(87, .pure [(.int .i64)] [.bool] (fun x => F_octet_sized x))]
def cfg_octet_Put : SCfg := SCfg.of (fs_octet_Put ++ inlL) ann_octet_Put keepL
theorem eq_octet_Put (x : HL [(.int .i64), (.int .i64)]) : fnK cfg_octet_Put Tryz.prog 100000 68 [(.int .i64), (.int .i64)] [.str] x = (fun x => F_octet_Put x.1 x.2) x := by kernel_rfl
theorem told_octet_Put : Told CC Tryz.prog 68 [(.int .i64), (.int .i64)] [.str] (fun x => F_octet_Put x.1 x.2) := told_of (gok (an := ann_octet_Put) (fs := fs_octet_Put) ⟨told_octet_sized, trivial⟩) rfl rfl eq_octet_Put
def F_ref08_small (n_1 : Int) : Option (Bool) :=
  if decide (0 ≤ n_1) = true then
    some (decide (n_1 ≤ 65535))
  else
    some false
def ann_ref08_small : List (List Nat × Ann) := []
def cfg_ref08_small : SCfg := SCfg.of ([] ++ inlL) ann_ref08_small keepL
theorem eq_ref08_small (x : HL [(.int .i64)]) : fnK cfg_ref08_small Tryz.prog 100000 89 [(.int .i64)] [.bool] x = (fun x => F_ref08_small x) x := by kernel_rfl
theorem told_ref08_small : Told CC Tryz.prog 89 [(.int .i64)] [.bool] (fun x => F_ref08_small x) := told_of (gok (an := ann_ref08_small) (fs := []) trivial) rfl rfl eq_ref08_small
def F_ref04_bad (e_1 : Int) : Option ((List UInt8 × (Int × Int))) :=
  some (([], (0, e_1)))
def ann_ref04_bad : List (List Nat × Ann) := []
def cfg_ref04_bad : SCfg := SCfg.of ([] ++ inlL) ann_ref04_bad keepL
theorem eq_ref04_bad (x : HL [(.int .i64)]) : fnK cfg_ref04_bad Tryz.prog 100000 93 [(.int .i64)] [.str, (.int .i64), (.int .i64)] x = (fun x => F_ref04_bad x) x := by kernel_rfl
theorem told_ref04_bad : Told CC Tryz.prog 93 [(.int .i64)] [.str, (.int .i64), (.int .i64)] (fun x => F_ref04_bad x) := told_of (gok (an := ann_ref04_bad) (fs := []) trivial) rfl rfl eq_ref04_bad
def step_ref04_Read_0 (msg_1 : List UInt8) : (Int × (List UInt8 × (Int × Int))) → Option ((Int × (List UInt8 × (Int × Int))) ⊕ (List UInt8 × (Int × Int))) := fun (at_3, out_4, next_5, least_6) =>
  bnd (F_ref01_Get msg_1 at_3 1) fun (v7, v8) =>
  if (!v8) = true then
    bnd (F_ref04_bad 2) fun (v9, v10, v11) =>
    some (.inr ((v9, (v10, v11))))
  else
    if (v7 == 0) = true then
      if decide (next_5 < 0) = true then
        grd (out_4.length + 1 ≤ maxStr) <|
        some (.inr ((out_4 ++ [0], (Go.IntKind.i64.wrap (at_3 + 1), 0))))
      else
        grd (out_4.length + 1 ≤ maxStr) <|
        some (.inr ((out_4 ++ [0], (next_5, 0))))
    else
      if decide (192 ≤ v7) = true then
        bnd (F_ref01_Get msg_1 at_3 2) fun (v12, v13) =>
        if (!v13) = true then
          bnd (F_ref04_bad 2) fun (v14, v15, v16) =>
          some (.inr ((v14, (v15, v16))))
        else
          if decide (least_6 ≤ Go.IntKind.i64.wrap (v12 - 49152)) = true then
            bnd (F_ref04_bad 3) fun (v17, v18, v19) =>
            some (.inr ((v17, (v18, v19))))
          else
            if decide (next_5 < 0) = true then
              grdEq msg_1 msg_1 <|
              some (.inl ((Go.IntKind.i64.wrap (v12 - 49152), (out_4, (Go.IntKind.i64.wrap (at_3 + 2), Go.IntKind.i64.wrap (v12 - 49152))))))
            else
              grdEq msg_1 msg_1 <|
              some (.inl ((Go.IntKind.i64.wrap (v12 - 49152), (out_4, (next_5, Go.IntKind.i64.wrap (v12 - 49152))))))
      else
        if decide (63 < v7) = true then
          bnd (F_ref04_bad 3) fun (v20, v21, v22) =>
          some (.inr ((v20, (v21, v22))))
        else
          bnd (F_ref01_Take msg_1 at_3 (Go.IntKind.i64.wrap (v7 + 1))) fun (v23, v24) =>
          if (!v24) = true then
            bnd (F_ref04_bad 2) fun (v25, v26, v27) =>
            some (.inr ((v25, (v26, v27))))
          else
            grd (out_4.length + v23.length ≤ maxStr) <|
            if decide (255 < Go.IntKind.i64.wrap ((↑(out_4 ++ v23).length : Int) + 1)) = true then
              bnd (F_ref04_bad 3) fun (v28, v29, v30) =>
              some (.inr ((v28, (v29, v30))))
            else
              grdEq msg_1 msg_1 <|
              some (.inl ((Go.IntKind.i64.wrap (Go.IntKind.i64.wrap (at_3 + v7) + 1), (out_4 ++ v23, (next_5, least_6)))))
def F_ref04_Read (msg_1 : List UInt8) (at_2 : Int) : Option ((List UInt8 × (Int × Int))) :=
  bnd (loopS (step_ref04_Read_0 msg_1) ((at_2, ([], (-1, at_2))))) fun (s4_31, s5_32, s6_33) =>
  some ((s4_31, (s5_32, s6_33)))
def ann_ref04_Read : List (List Nat × Ann) := [([9], ⟨some ⟨(.cons (.keep .str) (.cons (.ty (.int .i64)) (anyN 5 (.cons (.ty .str) (.cons (.ty (.int .i64)) (.cons (.ty (.int .i64)) (anyN 92 .nil))))))), [], [], []⟩, [(.ret, ⟨(anyN 4 (.cons (.ty .str) (.cons (.ty (.int .i64)) (.cons (.ty (.int .i64)) (anyN 95 .nil))))), [], [], []⟩)]⟩)]
@[reducible] def fs_ref04_Read : List (Nat × SFn) := [(48, .pure [.str, (.int .i64), (.int .i64)] [(.int .i64), .bool] (fun x => F_ref01_Get x.1 x.2.1 x.2.2)), (93, .pure [(.int .i64)] [.str, (.int .i64), (.int .i64)] (fun x => F_ref04_bad x)), (74, .pure [.str, (.int .i64), (.int .i64)] [.str, .bool] (fun x => F_ref01_Take x.1 x.2.1 x.2.2))]
def cfg_ref04_Read : SCfg := SCfg.of (fs_ref04_Read ++ inlL) ann_ref04_Read keepL
theorem eq_ref04_Read (x : HL [.str, (.int .i64)]) : fnK cfg_ref04_Read Tryz.prog 100000 75 [.str, (.int .i64)] [.str, (.int .i64), (.int .i64)] x = (fun x => F_ref04_Read x.1 x.2) x := by kernel_rfl
theorem told_ref04_Read : Told CC Tryz.prog 75 [.str, (.int .i64)] [.str, (.int .i64), (.int .i64)] (fun x => F_ref04_Read x.1 x.2) := told_of (gok (an := ann_ref04_Read) (fs := fs_ref04_Read) ⟨told_ref01_Get, told_ref04_bad, told_ref01_Take, trivial⟩) rfl rfl eq_ref04_Read
def step_ref08_questions_0 (s_1 : List UInt8) (many_3 : Int) : (Int × (List ((List UInt8 × (Int × Int))) × Int)) → Option ((Int × (List ((List UInt8 × (Int × Int))) × Int)) ⊕ ((Int × Int) ⊕ (Int × List ((List UInt8 × (Int × Int)))))) := fun (at_4, out_5, i_6) =>
  if decide (i_6 < many_3) = true then
    bnd (F_ref04_Read s_1 at_4) fun (v7, v8, v9) =>
    if (v9 != 0) = true then
      some (.inr (.inl ((0, v9))))
    else
      bnd (F_ref01_Take s_1 v8 4) fun (v10, v11) =>
      if (!v11) = true then
        some (.inr (.inl ((0, 2))))
      else
        bnd (F_ref01_Get s_1 v8 2) fun (v12, v13) =>
        bnd (F_ref01_Get s_1 (Go.IntKind.i64.wrap (v8 + 2)) 2) fun (v14, v15) =>
        grd ((out_5.length + [(v7, v12, v14)].length) * 32 ≤ roomLim) <|
        grdEq s_1 s_1 <|
        grdEq many_3 many_3 <|
        some (.inl ((Go.IntKind.i64.wrap (v8 + 4), (out_5 ++ [(v7, v12, v14)], Go.IntKind.i64.wrap (i_6 + 1)))))
  else
    some (.inr (.inr ((at_4, out_5))))
def F_ref08_questions (s_1 : List UInt8) (at_2 : Int) (many_3 : Int) : Option ((List ((List UInt8 × (Int × Int))) × (Int × Int))) :=
  bnd (loopS (step_ref08_questions_0 s_1 many_3) ((at_2, ([], 0)))) fun o16 =>
  match o16 with
  | .inl (s7_17, s8_18) =>
    some (([], (s7_17, s8_18)))
  | .inr (at_19, out_20) =>
    some ((out_20, (at_19, 0)))
def ann_ref08_questions : List (List Nat × Ann) := [([8], ⟨some ⟨(.cons (.keep .str) (.cons (.ty (.int .i64)) (.cons (.keep (.int .i64)) (anyN 6 (.cons (.own tQ 0 true) (.cons (.ty (.int .i64)) (anyN 56 .nil))))))), [], [⟨⟨0, tQ, 24, true, true⟩, true⟩], []⟩, [(.ret, ⟨(anyN 6 (.cons .nill (.cons (.ty (.int .i64)) (.cons (.ty (.int .i64)) (anyN 58 .nil))))), [], [⟨⟨0, tQ, 24, true, true⟩, false⟩], []⟩), (.exit 0, ⟨(anyN 1 (.cons (.ty (.int .i64)) (anyN 7 (.cons (.own tQ 0 true) (anyN 57 .nil))))), [], [⟨⟨0, tQ, 24, true, true⟩, false⟩], []⟩)]⟩)]
@[reducible] def fs_ref08_questions : List (Nat × SFn) := [(75, .pure [.str, (.int .i64)] [.str, (.int .i64), (.int .i64)] (fun x => F_ref04_Read x.1 x.2)), (74, .pure [.str, (.int .i64), (.int .i64)] [.str, .bool] (fun x => F_ref01_Take x.1 x.2.1 x.2.2)), (48, .pure [.str, (.int .i64), (.int .i64)] [(.int .i64), .bool] (fun x => F_ref01_Get x.1 x.2.1 x.2.2))]
def cfg_ref08_questions : SCfg := SCfg.of (fs_ref08_questions ++ inlL) ann_ref08_questions keepL
theorem eq_ref08_questions (x : HL [.str, (.int .i64), (.int .i64)]) : fnK cfg_ref08_questions Tryz.prog 100000 49 [.str, (.int .i64), (.int .i64)] [(.list tQ), (.int .i64), (.int .i64)] x = (fun x => F_ref08_questions x.1 x.2.1 x.2.2) x := by kernel_rfl
theorem told_ref08_questions : Told CC Tryz.prog 49 [.str, (.int .i64), (.int .i64)] [(.list tQ), (.int .i64), (.int .i64)] (fun x => F_ref08_questions x.1 x.2.1 x.2.2) := told_of (gok (an := ann_ref08_questions) (fs := fs_ref08_questions) ⟨told_ref04_Read, told_ref01_Take, told_ref01_Get, trivial⟩) rfl rfl eq_ref08_questions
def F_octet_Take (s_1 : List UInt8) (at_2 : Int) (size_3 : Int) : Option ((List UInt8 × Bool)) :=
  if decide (at_2 < 0) = false then
    if decide (size_3 < 0) = false then
      if decide ((↑s_1.length : Int) < at_2) = false then
        if decide (Go.IntKind.i64.wrap ((↑s_1.length : Int) - at_2) < size_3) = true then
          some (([], false))
        else
          natOf at_2 fun n4 =>
          grd (n4 ≤ s_1.length) <|
          natOf size_3 fun n5 =>
          grd (n5 ≤ (List.drop n4 s_1).length) <|
          some ((List.take n5 (List.drop n4 s_1), true))
      else
        some (([], false))
    else
      some (([], false))
  else
    some (([], false))
def ann_octet_Take : List (List Nat × Ann) := []
def cfg_octet_Take : SCfg := SCfg.of ([] ++ inlL) ann_octet_Take keepL
theorem eq_octet_Take (x : HL [.str, (.int .i64), (.int .i64)]) : fnK cfg_octet_Take Tryz.prog 100000 95 [.str, (.int .i64), (.int .i64)] [.str, .bool] x = (fun x => F_octet_Take x.1 x.2.1 x.2.2) x := by kernel_rfl
theorem told_octet_Take : Told CC Tryz.prog 95 [.str, (.int .i64), (.int .i64)] [.str, .bool] (fun x => F_octet_Take x.1 x.2.1 x.2.2) := told_of (gok (an := ann_octet_Take) (fs := []) trivial) rfl rfl eq_octet_Take
def step_octet_Get_0 (size_3 : Int) (v4 : List UInt8) : (Int × Int) → Option ((Int × Int) ⊕ Int) := fun (n_10, s27_11) =>
  if decide (s27_11 < size_3) = true then
    natOf s27_11 fun n12 =>
    bnd (v4[n12]?) fun x13 =>
    grdEq v4 v4 <|
    grdEq size_3 size_3 <|
    some (.inl ((Go.bits Go.BinOp.or Go.IntKind.i64 (Go.IntKind.i64.wrap (n_10 * 256)) (Go.IntKind.i64.wrap (↑x13.toNat : Int)), Go.IntKind.i64.wrap (s27_11 + 1))))
  else
    some (.inr n_10)
def F_octet_Get (s_1 : List UInt8) (at_2 : Int) (size_3 : Int) : Option ((Int × Bool)) :=
  bnd (F_octet_Take s_1 at_2 size_3) fun (v4, v5) =>
  bnd (α := ((Int × Bool) ⊕ Unit)) (if (!v5) = false then
      bnd (F_octet_sized size_3) fun v6 =>
      if (!v6) = true then
        some (.inl ((0, false)))
      else
        grdEq size_3 size_3 <|
        grdEq v4 v4 <|
        some (.inr (()))
    else
      some (.inl ((0, false)))) fun o7 =>
  match o7 with
  | .inl (s6_8, s7_9) =>
    some ((s6_8, s7_9))
  | .inr _ =>
    bnd (loopS (step_octet_Get_0 size_3 v4) ((0, 0))) fun n_14 =>
    some ((n_14, true))
def ann_octet_Get : List (List Nat × Ann) := [([4], ⟨none, [(.ret, ⟨(anyN 6 (.cons (.ty (.int .i64)) (.cons (.ty .bool) (anyN 31 .nil)))), [], [], []⟩), (.normal, ⟨(anyN 2 (.cons (.keep (.int .i64)) (anyN 5 (.cons (.keep .str) (anyN 30 .nil))))), [], [], []⟩)]⟩), ([18], ⟨some ⟨(anyN 8 (.cons (.keep .str) (anyN 1 (.cons (.ty (.int .i64)) (anyN 15 (.cons (.keep (.int .i64)) (.cons (.ty (.int .i64)) (anyN 11 .nil)))))))), [], [], []⟩, [(.exit 0, ⟨(anyN 10 (.cons (.ty (.int .i64)) (anyN 28 .nil))), [], [], []⟩)]⟩)]
@[reducible] def fs_octet_Get : List (Nat × SFn) := [(95, .pure [.str, (.int .i64), (.int .i64)] [.str, .bool] (fun x => F_octet_Take x.1 x.2.1 x.2.2)), (87, .pure [(.int .i64)] [.bool] (fun x => F_octet_sized x))]
def cfg_octet_Get : SCfg := SCfg.of (fs_octet_Get ++ inlL) ann_octet_Get keepL
theorem eq_octet_Get (x : HL [.str, (.int .i64), (.int .i64)]) : fnK cfg_octet_Get Tryz.prog 100000 77 [.str, (.int .i64), (.int .i64)] [(.int .i64), .bool] x = (fun x => F_octet_Get x.1 x.2.1 x.2.2) x := by kernel_rfl
theorem told_octet_Get : Told CC Tryz.prog 77 [.str, (.int .i64), (.int .i64)] [(.int .i64), .bool] (fun x => F_octet_Get x.1 x.2.1 x.2.2) := told_of (gok (an := ann_octet_Get) (fs := fs_octet_Get) ⟨told_octet_Take, told_octet_sized, trivial⟩) rfl rfl eq_octet_Get
def F_msg_Head (s_1 : List UInt8) : Option ((Int × (Int × Bool))) :=
  if decide ((↑s_1.length : Int) < 12) = true then
    some ((0, (0, false)))
  else
    bnd (F_octet_Get s_1 0 2) fun (v2, v3) =>
    bnd (F_octet_Get s_1 2 2) fun (v4, v5) =>
    some ((v2, (v4, true)))
def ann_msg_Head : List (List Nat × Ann) := []
@[reducible] def fs_msg_Head : List (Nat × SFn) := [(77, .pure [.str, (.int .i64), (.int .i64)] [(.int .i64), .bool] (fun x => F_octet_Get x.1 x.2.1 x.2.2))]
def cfg_msg_Head : SCfg := SCfg.of (fs_msg_Head ++ inlL) ann_msg_Head keepL
theorem eq_msg_Head (x : HL [.str]) : fnK cfg_msg_Head Tryz.prog 100000 54 [.str] [(.int .i64), (.int .i64), .bool] x = (fun x => F_msg_Head x) x := by kernel_rfl
theorem told_msg_Head : Told CC Tryz.prog 54 [.str] [(.int .i64), (.int .i64), .bool] (fun x => F_msg_Head x) := told_of (gok (an := ann_msg_Head) (fs := fs_msg_Head) ⟨told_octet_Get, trivial⟩) rfl rfl eq_msg_Head
def F_msg_many (s_1 : List UInt8) (list_2 : Int) : Option (Int) :=
  bnd (F_octet_Get s_1 (Go.IntKind.i64.wrap (4 + Go.IntKind.i64.wrap (2 * list_2))) 2) fun (v3, v4) =>
  some v3
def ann_msg_many : List (List Nat × Ann) := []
@[reducible] def fs_msg_many : List (Nat × SFn) := [(77, .pure [.str, (.int .i64), (.int .i64)] [(.int .i64), .bool] (fun x => F_octet_Get x.1 x.2.1 x.2.2))]
def cfg_msg_many : SCfg := SCfg.of (fs_msg_many ++ inlL) ann_msg_many keepL
theorem eq_msg_many (x : HL [.str, (.int .i64)]) : fnK cfg_msg_many Tryz.prog 100000 55 [.str, (.int .i64)] [(.int .i64)] x = (fun x => F_msg_many x.1 x.2) x := by kernel_rfl
theorem told_msg_many : Told CC Tryz.prog 55 [.str, (.int .i64)] [(.int .i64)] (fun x => F_msg_many x.1 x.2) := told_of (gok (an := ann_msg_many) (fs := fs_msg_many) ⟨told_octet_Get, trivial⟩) rfl rfl eq_msg_many
def step_comp_Read_0 (msg_1 : List UInt8) : (Int × (Int × (Int × (Int × List (Int))))) → Option ((Int × (Int × (Int × (Int × List (Int))))) ⊕ ((Int × (Int × (Int × (Int × List (Int))))) ⊕ (List UInt8 × (Int × (Int × (Int × (Int × (Int × List (Int))))))))) := fun (e_3, b0b_4, b0c_5, b0d_6, b0f_7) =>
  if (e_3 == 0) = true then
    bnd (F_octet_Get msg_1 b0b_4 1) fun (v8, v9) =>
    if (!v9) = true then
      grdEq msg_1 msg_1 <|
      some (.inr (.inl ((2, (b0b_4, (b0c_5, (b0d_6, b0f_7)))))))
    else
      if (v8 == 0) = true then
        bnd (α := (Int × List (Int))) (if (b0d_6 == -1) = true then
            grdEq msg_1 msg_1 <|
            grdEq b0b_4 b0b_4 <|
            grdEq b0c_5 b0c_5 <|
            some ((Go.IntKind.i64.wrap (b0b_4 + 1), b0f_7))
          else
            grdEq msg_1 msg_1 <|
            grdEq b0b_4 b0b_4 <|
            grdEq b0c_5 b0c_5 <|
            some ((b0d_6, b0f_7))) fun (b0d_10, b0f_11) =>
        grd (b0f_11.length ≤ 9223372036854775807) <|
        grd (∀ (n : (Ty.int Go.IntKind.u8).den), n ∈ b0f_11 → 0 ≤ n ∧ n < 256) <|
        grd ((List.map (fun n => UInt8.ofNat (Int.toNat n)) b0f_11).length + 1 ≤ maxStr) <|
        grdEq msg_1 msg_1 <|
        some (.inr (.inr ((List.map (fun n => UInt8.ofNat (Int.toNat n)) b0f_11 ++ [0], (b0d_10, (0, (b0b_4, (b0c_5, (b0d_10, b0f_11)))))))))
      else
        if decide (192 ≤ v8) = true then
          bnd (F_octet_Get msg_1 b0b_4 2) fun (v12, v13) =>
          if (!v13) = true then
            grdEq msg_1 msg_1 <|
            some (.inl ((2, (b0b_4, (b0c_5, (b0d_6, b0f_7))))))
          else
            if decide (b0c_5 ≤ Go.IntKind.i64.wrap (v12 - 49152)) = true then
              grdEq msg_1 msg_1 <|
              some (.inl ((3, (b0b_4, (b0c_5, (b0d_6, b0f_7))))))
            else
              bnd (α := (Int × List (Int))) (if (b0d_6 == -1) = true then
                  grdEq v12 v12 <|
                  grdEq msg_1 msg_1 <|
                  grdEq b0b_4 b0b_4 <|
                  grdEq b0c_5 b0c_5 <|
                  some ((Go.IntKind.i64.wrap (b0b_4 + 2), b0f_7))
                else
                  grdEq v12 v12 <|
                  grdEq msg_1 msg_1 <|
                  grdEq b0b_4 b0b_4 <|
                  grdEq b0c_5 b0c_5 <|
                  some ((b0d_6, b0f_7))) fun (b0d_14, b0f_15) =>
              grdEq msg_1 msg_1 <|
              some (.inl ((0, (Go.IntKind.i64.wrap (v12 - 49152), (Go.IntKind.i64.wrap (v12 - 49152), (b0d_14, b0f_15))))))
        else
          if decide (63 < v8) = true then
            grdEq msg_1 msg_1 <|
            some (.inl ((3, (b0b_4, (b0c_5, (b0d_6, b0f_7))))))
          else
            bnd (F_octet_Take msg_1 b0b_4 (Go.IntKind.i64.wrap (1 + v8))) fun (v16, v17) =>
            if (!v17) = true then
              grdEq msg_1 msg_1 <|
              some (.inl ((2, (b0b_4, (b0c_5, (b0d_6, b0f_7))))))
            else
              if decide (255 ≤ Go.IntKind.i64.wrap ((↑b0f_7.length : Int) + (↑v16.length : Int))) = true then
                grdEq msg_1 msg_1 <|
                some (.inl ((3, (b0b_4, (b0c_5, (b0d_6, b0f_7))))))
              else
                grd ((b0f_7.length + (List.map (fun b => (↑b.toNat : Int)) v16).length) * 1 ≤ roomLim) <|
                grdEq msg_1 msg_1 <|
                some (.inl ((0, (Go.IntKind.i64.wrap (b0b_4 + (↑v16.length : Int)), (b0c_5, (b0d_6, b0f_7 ++ List.map (fun b => (↑b.toNat : Int)) v16))))))
  else
    grdEq msg_1 msg_1 <|
    some (.inr (.inl ((e_3, (b0b_4, (b0c_5, (b0d_6, b0f_7)))))))
def F_comp_Read (msg_1 : List UInt8) (at_2 : Int) : Option ((List UInt8 × (Int × Int))) :=
  bnd (loopS (step_comp_Read_0 msg_1) ((0, (at_2, (at_2, (-1, [])))))) fun o18 =>
  match o18 with
  | .inl (e_19, b0b_20, b0c_21, b0d_22, b0f_23) =>
    some (([], (0, e_19)))
  | .inr (s4_24, s5_25, s6_26, b0b_27, b0c_28, b0d_29, b0f_30) =>
    some ((s4_24, (s5_25, s6_26)))
def ann_comp_Read : List (List Nat × Ann) := [([2, 96, 1, 32], ⟨none, [(.normal, ⟨(.cons (.ptr 0 0) (anyN 26 .nil)), [.cells 137 true (.cons (.keep .str) (.cons (.keep (.int .i64)) (.cons (.keep (.int .i64)) (.cons (.ty (.int .i64)) (.cons (.adr 0 4) (.cons (.own (.int .u8) 0 true) .nil))))))], [⟨⟨0, (.int .u8), 5, false, false⟩, false⟩], []⟩)]⟩), ([19, 97, 1, 37], ⟨none, [(.normal, ⟨(.cons (.ptr 0 0) (anyN 2 (.cons (.keep (.int .i64)) (anyN 47 .nil)))), [.cells 137 true (.cons (.keep .str) (.cons (.keep (.int .i64)) (.cons (.keep (.int .i64)) (.cons (.ty (.int .i64)) (.cons (.adr 0 4) (.cons (.own (.int .u8) 0 true) .nil))))))], [⟨⟨0, (.int .u8), 5, false, false⟩, false⟩], []⟩)]⟩), ([11], ⟨some ⟨(anyN 7 (.cons (.ptr 0 0) (.cons (.ty (.int .i64)) (anyN 44 .nil)))), [.cells 137 true (.cons (.keep .str) (.cons (.ty (.int .i64)) (.cons (.ty (.int .i64)) (.cons (.ty (.int .i64)) (.cons (.adr 0 4) (.cons (.own (.int .u8) 0 true) .nil))))))], [⟨⟨0, (.int .u8), 5, false, false⟩, true⟩], []⟩, [(.exit 0, ⟨(anyN 8 (.cons (.ty (.int .i64)) (anyN 44 .nil))), [.cells 137 true (.cons (.keep .str) (.cons (.ty (.int .i64)) (.cons (.ty (.int .i64)) (.cons (.ty (.int .i64)) (.cons (.adr 0 4) (.cons (.own (.int .u8) 0 true) .nil))))))], [⟨⟨0, (.int .u8), 5, false, false⟩, false⟩], []⟩), (.ret, ⟨(anyN 4 (.cons (.ty .str) (.cons (.ty (.int .i64)) (.cons (.ty (.int .i64)) (anyN 46 .nil))))), [.cells 137 true (.cons (.keep .str) (.cons (.ty (.int .i64)) (.cons (.ty (.int .i64)) (.cons (.ty (.int .i64)) (.cons (.adr 0 4) (.cons (.own (.int .u8) 0 true) .nil))))))], [⟨⟨0, (.int .u8), 5, false, false⟩, false⟩], []⟩)]⟩)]
@[reducible] def fs_comp_Read : List (Nat × SFn) := [(77, .pure [.str, (.int .i64), (.int .i64)] [(.int .i64), .bool] (fun x => F_octet_Get x.1 x.2.1 x.2.2)), (95, .pure [.str, (.int .i64), (.int .i64)] [.str, .bool] (fun x => F_octet_Take x.1 x.2.1 x.2.2))]
def cfg_comp_Read : SCfg := SCfg.of (fs_comp_Read ++ inlL) ann_comp_Read keepL
theorem eq_comp_Read (x : HL [.str, (.int .i64)]) : fnK cfg_comp_Read Tryz.prog 100000 78 [.str, (.int .i64)] [.str, (.int .i64), (.int .i64)] x = (fun x => F_comp_Read x.1 x.2) x := by kernel_rfl
theorem told_comp_Read : Told CC Tryz.prog 78 [.str, (.int .i64)] [.str, (.int .i64), (.int .i64)] (fun x => F_comp_Read x.1 x.2) := told_of (gok (an := ann_comp_Read) (fs := fs_comp_Read) ⟨told_octet_Get, told_octet_Take, trivial⟩) rfl rfl eq_comp_Read
def F_msg_question (s_1 : List UInt8) (at_2 : Int) : Option (((List UInt8 × (Int × Int)) × (Int × Int))) :=
  bnd (F_comp_Read s_1 at_2) fun (v3, v4, v5) =>
  if (v5 != 0) = true then
    some ((([], (0, 0)), (0, v5)))
  else
    bnd (F_octet_Get s_1 v4 2) fun (v6, v7) =>
    bnd (F_octet_Get s_1 (Go.IntKind.i64.wrap (v4 + 2)) 2) fun (v8, v9) =>
    if (!v9) = true then
      some ((([], (0, 0)), (0, 2)))
    else
      some (((v3, (v6, v8)), (Go.IntKind.i64.wrap (v4 + 4), 0)))
def ann_msg_question : List (List Nat × Ann) := []
@[reducible] def fs_msg_question : List (Nat × SFn) := [(78, .pure [.str, (.int .i64)] [.str, (.int .i64), (.int .i64)] (fun x => F_comp_Read x.1 x.2)), (77, .pure [.str, (.int .i64), (.int .i64)] [(.int .i64), .bool] (fun x => F_octet_Get x.1 x.2.1 x.2.2))]
def cfg_msg_question : SCfg := SCfg.of (fs_msg_question ++ inlL) ann_msg_question keepL
theorem eq_msg_question (x : HL [.str, (.int .i64)]) : fnK cfg_msg_question Tryz.prog 100000 56 [.str, (.int .i64)] [tQ, (.int .i64), (.int .i64)] x = (fun x => F_msg_question x.1 x.2) x := by kernel_rfl
theorem told_msg_question : Told CC Tryz.prog 56 [.str, (.int .i64)] [tQ, (.int .i64), (.int .i64)] (fun x => F_msg_question x.1 x.2) := told_of (gok (an := ann_msg_question) (fs := fs_msg_question) ⟨told_comp_Read, told_octet_Get, trivial⟩) rfl rfl eq_msg_question
def step_data_read_0 (msg_1 : List UInt8) (end_3 : Int) (s_4 : Int × Int × Int) (n5 : Nat) (n6 : Nat) : (Int × (Int × List (List UInt8))) → Option ((Int × (Int × List (List UInt8))) ⊕ ((Int × List (List UInt8)) ⊕ (Bool × List (List UInt8)))) := fun (at_7, s38_8, b2c_9) =>
  if decide (s38_8 < s_4.2.1) = true then
    bnd (F_comp_Read msg_1 at_7) fun (v10, v11, v12) =>
    bnd (α := ((Bool × List (List UInt8)) ⊕ List (List UInt8))) (if (v12 != 0) = false then
        if decide (end_3 < v11) = true then
          grdEq s_4.1 s_4.1 <|
          grdEq s_4.2.1 s_4.2.1 <|
          grdEq s_4.2.2 s_4.2.2 <|
          grdEq (α := List UInt8) ([]) ([]) <|
          grdEq (α := List UInt8) ([]) ([]) <|
          grdEq (List.drop n6 (List.take n5 msg_1)) (List.drop n6 (List.take n5 msg_1)) <|
          grdEq (α := List UInt8) ([]) ([]) <|
          some (.inl ((false, b2c_9)))
        else
          grdEq msg_1 msg_1 <|
          grdEq end_3 end_3 <|
          grdEq v10 v10 <|
          grdEq v11 v11 <|
          grdEq s_4.2.1 s_4.2.1 <|
          grdEq s38_8 s38_8 <|
          grdEq s_4.1 s_4.1 <|
          grdEq s_4.2.1 s_4.2.1 <|
          grdEq s_4.2.2 s_4.2.2 <|
          grdEq (α := List UInt8) ([]) ([]) <|
          grdEq (α := List UInt8) ([]) ([]) <|
          grdEq (List.drop n6 (List.take n5 msg_1)) (List.drop n6 (List.take n5 msg_1)) <|
          grdEq (α := List UInt8) ([]) ([]) <|
          some (.inr b2c_9)
      else
        grdEq s_4.1 s_4.1 <|
        grdEq s_4.2.1 s_4.2.1 <|
        grdEq s_4.2.2 s_4.2.2 <|
        grdEq (α := List UInt8) ([]) ([]) <|
        grdEq (α := List UInt8) ([]) ([]) <|
        grdEq (List.drop n6 (List.take n5 msg_1)) (List.drop n6 (List.take n5 msg_1)) <|
        grdEq (α := List UInt8) ([]) ([]) <|
        some (.inl ((false, b2c_9)))) fun o13 =>
    match o13 with
    | .inl (s9_14, b2c_15) =>
      grdEq s_4.1 s_4.1 <|
      grdEq s_4.2.1 s_4.2.1 <|
      grdEq s_4.2.2 s_4.2.2 <|
      grdEq (α := List UInt8) ([]) ([]) <|
      grdEq (α := List UInt8) ([]) ([]) <|
      grdEq (List.drop n6 (List.take n5 msg_1)) (List.drop n6 (List.take n5 msg_1)) <|
      grdEq (α := List UInt8) ([]) ([]) <|
      some (.inr (.inr ((s9_14, b2c_15))))
    | .inr b2c_16 =>
      grd ((b2c_16.length + [v10].length) * 16 ≤ roomLim) <|
      grdEq msg_1 msg_1 <|
      grdEq end_3 end_3 <|
      grdEq s_4.2.1 s_4.2.1 <|
      grdEq s_4.1 s_4.1 <|
      grdEq s_4.2.1 s_4.2.1 <|
      grdEq s_4.2.2 s_4.2.2 <|
      grdEq (α := List UInt8) ([]) ([]) <|
      grdEq (α := List UInt8) ([]) ([]) <|
      grdEq (List.drop n6 (List.take n5 msg_1)) (List.drop n6 (List.take n5 msg_1)) <|
      grdEq (α := List UInt8) ([]) ([]) <|
      some (.inl ((v11, (Go.IntKind.i64.wrap (s38_8 + 1), b2c_16 ++ [v10]))))
  else
    grdEq msg_1 msg_1 <|
    grdEq end_3 end_3 <|
    grdEq s_4.1 s_4.1 <|
    grdEq s_4.2.1 s_4.2.1 <|
    grdEq s_4.2.2 s_4.2.2 <|
    grdEq (α := List UInt8) ([]) ([]) <|
    grdEq (α := List UInt8) ([]) ([]) <|
    grdEq (List.drop n6 (List.take n5 msg_1)) (List.drop n6 (List.take n5 msg_1)) <|
    grdEq (α := List UInt8) ([]) ([]) <|
    some (.inr (.inl ((at_7, b2c_9))))
def F_data_read (msg_1 : List UInt8) (at_2 : Int) (end_3 : Int) (s_4 : (Int × (Int × Int))) : Option (((List UInt8 × (List UInt8 × List (List UInt8))) × Bool)) :=
  if (!decide (s_4.1 ≤ Go.IntKind.i64.wrap (end_3 - at_2))) = true then
    some ((([], ([], [])), false))
  else
    natOf (Go.IntKind.i64.wrap (at_2 + s_4.1)) fun n5 =>
    grd (n5 ≤ msg_1.length) <|
    natOf at_2 fun n6 =>
    grd (n6 ≤ n5) <|
    bnd (loopS (step_data_read_0 msg_1 end_3 s_4 n5 n6) ((Go.IntKind.i64.wrap (at_2 + s_4.1), (0, [])))) fun o17 =>
    match o17 with
    | .inl (at_18, b2c_19) =>
      natOf end_3 fun n20 =>
      grd (n20 ≤ msg_1.length) <|
      natOf at_18 fun n21 =>
      grd (n21 ≤ n20) <|
      some (((List.drop n6 (List.take n5 msg_1), (List.drop n21 (List.take n20 msg_1), b2c_19)), (↑(List.drop n21 (List.take n20 msg_1)).length : Int) == s_4.2.2))
    | .inr (s9_22, b2c_23) =>
      some ((([], ([], [])), s9_22))
def ann_data_read : List (List Nat × Ann) := [([33], ⟨none, [(.ret, ⟨(anyN 8 (.cons (.ptr 1 0) (.cons (.ty .bool) (anyN 65 .nil)))), [.cells 142 true (.cons (.keep (.int .i64)) (.cons (.keep (.int .i64)) (.cons (.keep (.int .i64)) .nil))), .cells 147 true (.cons (.keep .str) (.cons (.keep .str) (.cons .nill .nil))), .cells 147 true (.cons (.keep .str) (.cons (.keep .str) (.cons (.own .str 0 true) .nil)))], [⟨⟨0, .str, 9, true, true⟩, false⟩], []⟩), (.normal, ⟨(.cons (.keep .str) (anyN 1 (.cons (.keep (.int .i64)) (anyN 4 (.cons (.ptr 0 0) (.cons (.ptr 1 0) (anyN 1 (.cons (.ptr 2 0) (anyN 1 (.cons (.keep .str) (.cons (.keep (.int .i64)) (anyN 23 (.cons (.keep (.int .i64)) (.cons (.keep (.int .i64)) (anyN 36 .nil))))))))))))))), [.cells 142 true (.cons (.keep (.int .i64)) (.cons (.keep (.int .i64)) (.cons (.keep (.int .i64)) .nil))), .cells 147 true (.cons (.keep .str) (.cons (.keep .str) (.cons .nill .nil))), .cells 147 true (.cons (.keep .str) (.cons (.keep .str) (.cons (.own .str 0 true) .nil)))], [⟨⟨0, .str, 9, true, true⟩, false⟩], []⟩)]⟩), ([22], ⟨some ⟨(.cons (.keep .str) (.cons (.ty (.int .i64)) (.cons (.keep (.int .i64)) (anyN 4 (.cons (.ptr 0 0) (.cons (.ptr 1 0) (anyN 1 (.cons (.ptr 2 0) (anyN 26 (.cons (.keep (.int .i64)) (.cons (.ty (.int .i64)) (anyN 36 .nil)))))))))))), [.cells 142 true (.cons (.keep (.int .i64)) (.cons (.keep (.int .i64)) (.cons (.keep (.int .i64)) .nil))), .cells 147 true (.cons (.keep .str) (.cons (.keep .str) (.cons .nill .nil))), .cells 147 true (.cons (.keep .str) (.cons (.keep .str) (.cons (.own .str 0 true) .nil)))], [⟨⟨0, .str, 9, true, true⟩, true⟩], []⟩, [(.exit 0, ⟨(.cons (.keep .str) (.cons (.ty (.int .i64)) (.cons (.keep (.int .i64)) (anyN 4 (.cons (.ptr 0 0) (.cons (.ptr 1 0) (anyN 1 (.cons (.ptr 2 0) (anyN 64 .nil))))))))), [.cells 142 true (.cons (.keep (.int .i64)) (.cons (.keep (.int .i64)) (.cons (.keep (.int .i64)) .nil))), .cells 147 true (.cons (.keep .str) (.cons (.keep .str) (.cons .nill .nil))), .cells 147 true (.cons (.keep .str) (.cons (.keep .str) (.cons (.own .str 0 true) .nil)))], [⟨⟨0, .str, 9, true, true⟩, false⟩], []⟩), (.ret, ⟨(anyN 8 (.cons (.ptr 1 0) (.cons (.ty .bool) (anyN 65 .nil)))), [.cells 142 true (.cons (.keep (.int .i64)) (.cons (.keep (.int .i64)) (.cons (.keep (.int .i64)) .nil))), .cells 147 true (.cons (.keep .str) (.cons (.keep .str) (.cons .nill .nil))), .cells 147 true (.cons (.keep .str) (.cons (.keep .str) (.cons (.own .str 0 true) .nil)))], [⟨⟨0, .str, 9, true, true⟩, false⟩], []⟩)]⟩)]
@[reducible] def fs_data_read : List (Nat × SFn) := [(78, .pure [.str, (.int .i64)] [.str, (.int .i64), (.int .i64)] (fun x => F_comp_Read x.1 x.2))]
def cfg_data_read : SCfg := SCfg.of (fs_data_read ++ inlL) ann_data_read keepL
theorem eq_data_read (x : HL [.str, (.int .i64), (.int .i64), (.agg (.cons (.int .i64) (.cons (.int .i64) (.int .i64))))]) : fnK cfg_data_read Tryz.prog 100000 100 [.str, (.int .i64), (.int .i64), (.agg (.cons (.int .i64) (.cons (.int .i64) (.int .i64))))] [(.agg (.cons .str (.cons .str (.list .str)))), .bool] x = (fun x => F_data_read x.1 x.2.1 x.2.2.1 x.2.2.2) x := by kernel_rfl
theorem told_data_read : Told CC Tryz.prog 100 [.str, (.int .i64), (.int .i64), (.agg (.cons (.int .i64) (.cons (.int .i64) (.int .i64))))] [(.agg (.cons .str (.cons .str (.list .str)))), .bool] (fun x => F_data_read x.1 x.2.1 x.2.2.1 x.2.2.2) := told_of (gok (an := ann_data_read) (fs := fs_data_read) ⟨told_comp_Read, trivial⟩) rfl rfl eq_data_read
def F_data_parts_whole (p_1 : (List UInt8 × (List UInt8 × List (List UInt8)))) : Option (List UInt8) :=
  bnd (F_strings_Join p_1.2.2 []) fun v2 =>
  grd (List.length p_1.1 + v2.length ≤ maxStr) <|
  grd ((p_1.1 ++ v2).length + List.length p_1.2.1 ≤ maxStr) <|
  some (p_1.1 ++ v2 ++ p_1.2.1)
def ann_data_parts_whole : List (List Nat × Ann) := []
@[reducible] def fs_data_parts_whole : List (Nat × SFn) := [(118, .pure [.list .str, .str] [.str] (fun x => F_strings_Join x.1 x.2))]
def cfg_data_parts_whole : SCfg := SCfg.of (fs_data_parts_whole ++ inlL) ann_data_parts_whole keepL
theorem eq_data_parts_whole (x : HL [(.agg (.cons .str (.cons .str (.list .str))))]) : fnK cfg_data_parts_whole Tryz.prog 100000 101 [(.agg (.cons .str (.cons .str (.list .str))))] [.str] x = (fun x => F_data_parts_whole x) x := by kernel_rfl
theorem told_data_parts_whole : Told CC Tryz.prog 101 [(.agg (.cons .str (.cons .str (.list .str))))] [.str] (fun x => F_data_parts_whole x) := told_of (gok (an := ann_data_parts_whole) (fs := fs_data_parts_whole) ⟨told_strings_Join, trivial⟩) rfl rfl eq_data_parts_whole
def step_data_texts_0 : List UInt8 → Option (List UInt8 ⊕ (Bool ⊕ Unit)) := fun d_2 =>
  if (!d_2 == []) = true then
    bnd (d_2[0]?) fun x3 =>
    if decide ((↑d_2.length : Int) < Go.IntKind.i64.wrap (1 + Go.IntKind.i64.wrap (↑x3.toNat : Int))) = true then
      some (.inr (.inl false))
    else
      natOf (Go.IntKind.i64.wrap (1 + Go.IntKind.i64.wrap (↑x3.toNat : Int))) fun n4 =>
      grd (n4 ≤ d_2.length) <|
      some (.inl (List.drop n4 d_2))
  else
    some (.inr (.inr (())))
def F_data_texts (d_1 : List UInt8) : Option (Bool) :=
  if (d_1 == []) = true then
    some false
  else
    bnd (loopS step_data_texts_0 d_1) fun o5 =>
    match o5 with
    | .inl s2_6 =>
      some s2_6
    | .inr _ =>
      some true
def ann_data_texts : List (List Nat × Ann) := [([12], ⟨some ⟨(.cons (.ty .str) (anyN 18 .nil)), [], [], []⟩, [(.ret, ⟨(anyN 2 (.cons (.ty .bool) (anyN 16 .nil))), [], [], []⟩), (.exit 0, ⟨(anyN 19 .nil), [], [], []⟩)]⟩)]
def cfg_data_texts : SCfg := SCfg.of ([] ++ inlL) ann_data_texts keepL
theorem eq_data_texts (x : HL [.str]) : fnK cfg_data_texts Tryz.prog 100000 102 [.str] [.bool] x = (fun x => F_data_texts x) x := by kernel_rfl
theorem told_data_texts : Told CC Tryz.prog 102 [.str] [.bool] (fun x => F_data_texts x) := told_of (gok (an := ann_data_texts) (fs := []) trivial) rfl rfl eq_data_texts
end
end Go.Abs

set_option maxRecDepth 100000
namespace Go.Abs
open Go Go.Proofs
noncomputable section
def F_data_Expand (msg_1 : List UInt8) (at_2 : Int) (size_3 : Int) (kind_4 : Int) : Option ((List UInt8 × Int)) :=
  bnd (F_octet_Take msg_1 at_2 size_3) fun (v5, v6) =>
  if (!v6) = true then
    some (([], 2))
  else
    bnd (α := (List UInt8 × Bool)) (if (sfind (Ty.int Go.IntKind.i64) ((Ty.int Go.IntKind.i64).cons ((Ty.int Go.IntKind.i64).cons (Ty.int Go.IntKind.i64))).agg kind_4 (sputM (Ty.int Go.IntKind.i64) ((Ty.int Go.IntKind.i64).cons ((Ty.int Go.IntKind.i64).cons (Ty.int Go.IntKind.i64))).agg 33 (6, 1, 0) (sputM (Ty.int Go.IntKind.i64) ((Ty.int Go.IntKind.i64).cons ((Ty.int Go.IntKind.i64).cons (Ty.int Go.IntKind.i64))).agg 15 (2, 1, 0) (sputM (Ty.int Go.IntKind.i64) ((Ty.int Go.IntKind.i64).cons ((Ty.int Go.IntKind.i64).cons (Ty.int Go.IntKind.i64))).agg 6 (0, 2, 20) (sputM (Ty.int Go.IntKind.i64) ((Ty.int Go.IntKind.i64).cons ((Ty.int Go.IntKind.i64).cons (Ty.int Go.IntKind.i64))).agg 12 (0, 1, 0) (sputM (Ty.int Go.IntKind.i64) ((Ty.int Go.IntKind.i64).cons ((Ty.int Go.IntKind.i64).cons (Ty.int Go.IntKind.i64))).agg 5 (0, 1, 0) (sputM (Ty.int Go.IntKind.i64) ((Ty.int Go.IntKind.i64).cons ((Ty.int Go.IntKind.i64).cons (Ty.int Go.IntKind.i64))).agg 2 (0, 1, 0) (sputM (Ty.int Go.IntKind.i64) ((Ty.int Go.IntKind.i64).cons ((Ty.int Go.IntKind.i64).cons (Ty.int Go.IntKind.i64))).agg 28 (16, 0, 0) (sputM (Ty.int Go.IntKind.i64) ((Ty.int Go.IntKind.i64).cons ((Ty.int Go.IntKind.i64).cons (Ty.int Go.IntKind.i64))).agg 1 (4, 0, 0) []))))))))).isSome = true then
        bnd (F_data_read msg_1 at_2 (Go.IntKind.i64.wrap (at_2 + size_3)) (((sfind (Ty.int Go.IntKind.i64) ((Ty.int Go.IntKind.i64).cons ((Ty.int Go.IntKind.i64).cons (Ty.int Go.IntKind.i64))).agg kind_4 (sputM (Ty.int Go.IntKind.i64) ((Ty.int Go.IntKind.i64).cons ((Ty.int Go.IntKind.i64).cons (Ty.int Go.IntKind.i64))).agg 33 (6, 1, 0) (sputM (Ty.int Go.IntKind.i64) ((Ty.int Go.IntKind.i64).cons ((Ty.int Go.IntKind.i64).cons (Ty.int Go.IntKind.i64))).agg 15 (2, 1, 0) (sputM (Ty.int Go.IntKind.i64) ((Ty.int Go.IntKind.i64).cons ((Ty.int Go.IntKind.i64).cons (Ty.int Go.IntKind.i64))).agg 6 (0, 2, 20) (sputM (Ty.int Go.IntKind.i64) ((Ty.int Go.IntKind.i64).cons ((Ty.int Go.IntKind.i64).cons (Ty.int Go.IntKind.i64))).agg 12 (0, 1, 0) (sputM (Ty.int Go.IntKind.i64) ((Ty.int Go.IntKind.i64).cons ((Ty.int Go.IntKind.i64).cons (Ty.int Go.IntKind.i64))).agg 5 (0, 1, 0) (sputM (Ty.int Go.IntKind.i64) ((Ty.int Go.IntKind.i64).cons ((Ty.int Go.IntKind.i64).cons (Ty.int Go.IntKind.i64))).agg 2 (0, 1, 0) (sputM (Ty.int Go.IntKind.i64) ((Ty.int Go.IntKind.i64).cons ((Ty.int Go.IntKind.i64).cons (Ty.int Go.IntKind.i64))).agg 28 (16, 0, 0) (sputM (Ty.int Go.IntKind.i64) ((Ty.int Go.IntKind.i64).cons ((Ty.int Go.IntKind.i64).cons (Ty.int Go.IntKind.i64))).agg 1 (4, 0, 0) []))))))))).getD (0, 0, 0)).1, ((sfind (Ty.int Go.IntKind.i64) ((Ty.int Go.IntKind.i64).cons ((Ty.int Go.IntKind.i64).cons (Ty.int Go.IntKind.i64))).agg kind_4 (sputM (Ty.int Go.IntKind.i64) ((Ty.int Go.IntKind.i64).cons ((Ty.int Go.IntKind.i64).cons (Ty.int Go.IntKind.i64))).agg 33 (6, 1, 0) (sputM (Ty.int Go.IntKind.i64) ((Ty.int Go.IntKind.i64).cons ((Ty.int Go.IntKind.i64).cons (Ty.int Go.IntKind.i64))).agg 15 (2, 1, 0) (sputM (Ty.int Go.IntKind.i64) ((Ty.int Go.IntKind.i64).cons ((Ty.int Go.IntKind.i64).cons (Ty.int Go.IntKind.i64))).agg 6 (0, 2, 20) (sputM (Ty.int Go.IntKind.i64) ((Ty.int Go.IntKind.i64).cons ((Ty.int Go.IntKind.i64).cons (Ty.int Go.IntKind.i64))).agg 12 (0, 1, 0) (sputM (Ty.int Go.IntKind.i64) ((Ty.int Go.IntKind.i64).cons ((Ty.int Go.IntKind.i64).cons (Ty.int Go.IntKind.i64))).agg 5 (0, 1, 0) (sputM (Ty.int Go.IntKind.i64) ((Ty.int Go.IntKind.i64).cons ((Ty.int Go.IntKind.i64).cons (Ty.int Go.IntKind.i64))).agg 2 (0, 1, 0) (sputM (Ty.int Go.IntKind.i64) ((Ty.int Go.IntKind.i64).cons ((Ty.int Go.IntKind.i64).cons (Ty.int Go.IntKind.i64))).agg 28 (16, 0, 0) (sputM (Ty.int Go.IntKind.i64) ((Ty.int Go.IntKind.i64).cons ((Ty.int Go.IntKind.i64).cons (Ty.int Go.IntKind.i64))).agg 1 (4, 0, 0) []))))))))).getD (0, 0, 0)).2.1, ((sfind (Ty.int Go.IntKind.i64) ((Ty.int Go.IntKind.i64).cons ((Ty.int Go.IntKind.i64).cons (Ty.int Go.IntKind.i64))).agg kind_4 (sputM (Ty.int Go.IntKind.i64) ((Ty.int Go.IntKind.i64).cons ((Ty.int Go.IntKind.i64).cons (Ty.int Go.IntKind.i64))).agg 33 (6, 1, 0) (sputM (Ty.int Go.IntKind.i64) ((Ty.int Go.IntKind.i64).cons ((Ty.int Go.IntKind.i64).cons (Ty.int Go.IntKind.i64))).agg 15 (2, 1, 0) (sputM (Ty.int Go.IntKind.i64) ((Ty.int Go.IntKind.i64).cons ((Ty.int Go.IntKind.i64).cons (Ty.int Go.IntKind.i64))).agg 6 (0, 2, 20) (sputM (Ty.int Go.IntKind.i64) ((Ty.int Go.IntKind.i64).cons ((Ty.int Go.IntKind.i64).cons (Ty.int Go.IntKind.i64))).agg 12 (0, 1, 0) (sputM (Ty.int Go.IntKind.i64) ((Ty.int Go.IntKind.i64).cons ((Ty.int Go.IntKind.i64).cons (Ty.int Go.IntKind.i64))).agg 5 (0, 1, 0) (sputM (Ty.int Go.IntKind.i64) ((Ty.int Go.IntKind.i64).cons ((Ty.int Go.IntKind.i64).cons (Ty.int Go.IntKind.i64))).agg 2 (0, 1, 0) (sputM (Ty.int Go.IntKind.i64) ((Ty.int Go.IntKind.i64).cons ((Ty.int Go.IntKind.i64).cons (Ty.int Go.IntKind.i64))).agg 28 (16, 0, 0) (sputM (Ty.int Go.IntKind.i64) ((Ty.int Go.IntKind.i64).cons ((Ty.int Go.IntKind.i64).cons (Ty.int Go.IntKind.i64))).agg 1 (4, 0, 0) []))))))))).getD (0, 0, 0)).2.2)) fun (v7, v8) =>
        bnd (F_data_parts_whole (v7.1, v7.2.1, v7.2.2)) fun v9 =>
        grdEq kind_4 kind_4 <|
        some ((v9, v8))
      else
        grdEq kind_4 kind_4 <|
        some ((v5, v6))) fun (d_10, is_11) =>
    if (!is_11) = false then
      if (kind_4 == 16) = true then
        bnd (F_data_texts d_10) fun v12 =>
        if (!v12) = false then
          if decide (65535 < (↑d_10.length : Int)) = true then
            some (([], 4))
          else
            some ((d_10, 0))
        else
          some (([], 4))
      else
        if decide (65535 < (↑d_10.length : Int)) = true then
          some (([], 4))
        else
          some ((d_10, 0))
    else
      some (([], 4))
def ann_data_Expand : List (List Nat × Ann) := [([12], ⟨none, [(.normal, ⟨(anyN 3 (.cons (.keep (.int .i64)) (anyN 6 (.cons (.ty .str) (.cons (.ty .bool) (anyN 50 .nil)))))), [], [], []⟩)]⟩)]
@[reducible] def fs_data_Expand : List (Nat × SFn) := [(95, .pure [.str, (.int .i64), (.int .i64)] [.str, .bool] (fun x => F_octet_Take x.1 x.2.1 x.2.2)), (100, .pure [.str, (.int .i64), (.int .i64), (.agg (.cons (.int .i64) (.cons (.int .i64) (.int .i64))))] [(.agg (.cons .str (.cons .str (.list .str)))), .bool] (fun x => F_data_read x.1 x.2.1 x.2.2.1 x.2.2.2)), (101, .pure [(.agg (.cons .str (.cons .str (.list .str))))] [.str] (fun x => F_data_parts_whole x)), (102, .pure [.str] [.bool] (fun x => F_data_texts x))]
def cfg_data_Expand : SCfg := SCfg.of (fs_data_Expand ++ inlL) ann_data_Expand keepL
theorem eq_data_Expand (x : HL [.str, (.int .i64), (.int .i64), (.int .i64)]) : fnK cfg_data_Expand Tryz.prog 100000 80 [.str, (.int .i64), (.int .i64), (.int .i64)] [.str, (.int .i64)] x = (fun x => F_data_Expand x.1 x.2.1 x.2.2.1 x.2.2.2) x := by kernel_rfl
theorem told_data_Expand : Told CC Tryz.prog 80 [.str, (.int .i64), (.int .i64), (.int .i64)] [.str, (.int .i64)] (fun x => F_data_Expand x.1 x.2.1 x.2.2.1 x.2.2.2) := told_of (gok (an := ann_data_Expand) (fs := fs_data_Expand) ⟨told_octet_Take, told_data_read, told_data_parts_whole, told_data_texts, trivial⟩) rfl rfl eq_data_Expand
def F_record_Decode (msg_1 : List UInt8) (at_2 : Int) : Option (((List UInt8 × (Int × (Int × (Int × List UInt8)))) × (Int × Int))) :=
  bnd (F_comp_Read msg_1 at_2) fun (v3, v4, v5) =>
  if (v5 != 0) = true then
    some ((([], (0, (0, (0, [])))), (0, v5)))
  else
    bnd (F_octet_Get msg_1 v4 2) fun (v6, v7) =>
    bnd (F_octet_Get msg_1 (Go.IntKind.i64.wrap (v4 + 2)) 2) fun (v8, v9) =>
    if (!v7) = false then
      bnd (F_octet_Get msg_1 (Go.IntKind.i64.wrap (Go.IntKind.i64.wrap (v4 + 2) + 2)) 4) fun (v10, v11) =>
      if (!v9) = false then
        bnd (F_octet_Get msg_1 (Go.IntKind.i64.wrap (Go.IntKind.i64.wrap (Go.IntKind.i64.wrap (v4 + 2) + 2) + 4)) 2) fun (v12, v13) =>
        if (!v11) = false then
          if (!v13) = true then
            some ((([], (0, (0, (0, [])))), (0, 2)))
          else
            bnd (α := Int) (if decide (2147483647 < v10) = true then
                grdEq msg_1 msg_1 <|
                grdEq v12 v12 <|
                grdEq (α := List UInt8) ([]) ([]) <|
                grdEq (α := Int) 0 0 <|
                grdEq (α := Int) 0 0 <|
                grdEq (α := Int) 0 0 <|
                grdEq (α := List UInt8) ([]) ([]) <|
                grdEq msg_1 msg_1 <|
                grdEq (Go.IntKind.i64.wrap (Go.IntKind.i64.wrap (Go.IntKind.i64.wrap (Go.IntKind.i64.wrap (v4 + 2) + 2) + 4) + 2)) (Go.IntKind.i64.wrap (Go.IntKind.i64.wrap (Go.IntKind.i64.wrap (Go.IntKind.i64.wrap (v4 + 2) + 2) + 4) + 2)) <|
                grdEq (!v13) (!v13) <|
                grdEq v3 v3 <|
                grdEq v6 v6 <|
                grdEq v8 v8 <|
                grdEq (α := List UInt8) ([]) ([]) <|
                some 0
              else
                grdEq msg_1 msg_1 <|
                grdEq v12 v12 <|
                grdEq (α := List UInt8) ([]) ([]) <|
                grdEq (α := Int) 0 0 <|
                grdEq (α := Int) 0 0 <|
                grdEq (α := Int) 0 0 <|
                grdEq (α := List UInt8) ([]) ([]) <|
                grdEq msg_1 msg_1 <|
                grdEq (Go.IntKind.i64.wrap (Go.IntKind.i64.wrap (Go.IntKind.i64.wrap (Go.IntKind.i64.wrap (v4 + 2) + 2) + 4) + 2)) (Go.IntKind.i64.wrap (Go.IntKind.i64.wrap (Go.IntKind.i64.wrap (Go.IntKind.i64.wrap (v4 + 2) + 2) + 4) + 2)) <|
                grdEq (!v13) (!v13) <|
                grdEq v3 v3 <|
                grdEq v6 v6 <|
                grdEq v8 v8 <|
                grdEq (α := List UInt8) ([]) ([]) <|
                some v10) fun b2d_14 =>
            bnd (F_data_Expand msg_1 (Go.IntKind.i64.wrap (Go.IntKind.i64.wrap (Go.IntKind.i64.wrap (Go.IntKind.i64.wrap (v4 + 2) + 2) + 4) + 2)) v12 v6) fun (v15, v16) =>
            if (v16 != 0) = true then
              some ((([], (0, (0, (0, [])))), (0, v16)))
            else
              some (((v3, (v6, (v8, (b2d_14, v15)))), (Go.IntKind.i64.wrap (Go.IntKind.i64.wrap (Go.IntKind.i64.wrap (Go.IntKind.i64.wrap (Go.IntKind.i64.wrap (v4 + 2) + 2) + 4) + 2) + v12), 0)))
        else
          some ((([], (0, (0, (0, [])))), (0, 2)))
      else
        bnd (F_octet_Get msg_1 (Go.IntKind.i64.wrap (Go.IntKind.i64.wrap (Go.IntKind.i64.wrap (v4 + 2) + 2) + 4)) 2) fun (v17, v18) =>
        some ((([], (0, (0, (0, [])))), (0, 2)))
    else
      bnd (F_octet_Get msg_1 (Go.IntKind.i64.wrap (Go.IntKind.i64.wrap (v4 + 2) + 2)) 4) fun (v19, v20) =>
      bnd (F_octet_Get msg_1 (Go.IntKind.i64.wrap (Go.IntKind.i64.wrap (Go.IntKind.i64.wrap (v4 + 2) + 2) + 4)) 2) fun (v21, v22) =>
      some ((([], (0, (0, (0, [])))), (0, 2)))
def ann_record_Decode : List (List Nat × Ann) := [([28], ⟨none, [(.normal, ⟨(.cons (.keep .str) (anyN 3 (.cons (.ptr 0 0) (anyN 5 (.cons (.ptr 1 0) (anyN 1 (.cons (.ptr 2 0) (.cons (.keep (.int .i64)) (anyN 60 .nil))))))))), [.cells 68 true (.cons (.keep .str) (.cons (.keep (.int .i64)) (.cons (.keep (.int .i64)) (.cons (.keep (.int .i64)) (.cons (.keep .str) .nil))))), .cells 122 true (.cons (.keep .str) (.cons (.keep (.int .i64)) (.cons (.keep .bool) .nil))), .cells 68 true (.cons (.keep .str) (.cons (.keep (.int .i64)) (.cons (.keep (.int .i64)) (.cons (.ty (.int .i64)) (.cons (.keep .str) .nil)))))], [], []⟩)]⟩)]
@[reducible] def fs_record_Decode : List (Nat × SFn) := [(78, .pure [.str, (.int .i64)] [.str, (.int .i64), (.int .i64)] (fun x => F_comp_Read x.1 x.2)), (77, .pure [.str, (.int .i64), (.int .i64)] [(.int .i64), .bool] (fun x => F_octet_Get x.1 x.2.1 x.2.2)), (80, .pure [.str, (.int .i64), (.int .i64), (.int .i64)] [.str, (.int .i64)] (fun x => F_data_Expand x.1 x.2.1 x.2.2.1 x.2.2.2))]
def cfg_record_Decode : SCfg := SCfg.of (fs_record_Decode ++ inlL) ann_record_Decode keepL
theorem eq_record_Decode (x : HL [.str, (.int .i64)]) : fnK cfg_record_Decode Tryz.prog 100000 58 [.str, (.int .i64)] [tRR, (.int .i64), (.int .i64)] x = (fun x => F_record_Decode x.1 x.2) x := by kernel_rfl
theorem told_record_Decode : Told CC Tryz.prog 58 [.str, (.int .i64)] [tRR, (.int .i64), (.int .i64)] (fun x => F_record_Decode x.1 x.2) := told_of (gok (an := ann_record_Decode) (fs := fs_record_Decode) ⟨told_comp_Read, told_octet_Get, told_data_Expand, trivial⟩) rfl rfl eq_record_Decode
def step_msg_Decode_0 (s_1 : List UInt8) (v2 : Int) (v3 : Int) (v5 : Int) : (Int × (Int × List ((List UInt8 × (Int × Int))))) → Option ((Int × (Int × List ((List UInt8 × (Int × Int))))) ⊕ ((Int × List ((List UInt8 × (Int × Int)))) ⊕ (Int × List ((List UInt8 × (Int × Int)))))) := fun (at_6, s37_7, b1c_8) =>
  if decide (s37_7 < v5) = true then
    bnd (F_msg_question s_1 at_6) fun (v9, v10, v11) =>
    if (v11 != 0) = true then
      grdEq (α := Int) 0 0 <|
      grdEq (α := Int) 0 0 <|
      grdEq v2 v2 <|
      grdEq v3 v3 <|
      some (.inr (.inl ((v11, b1c_8))))
    else
      grd ((b1c_8.length + [(v9.1, v9.2.1, v9.2.2)].length) * 32 ≤ roomLim) <|
      grdEq s_1 s_1 <|
      grdEq v5 v5 <|
      grdEq (α := Int) 0 0 <|
      grdEq (α := Int) 0 0 <|
      grdEq v2 v2 <|
      grdEq v3 v3 <|
      some (.inl ((v10, (Go.IntKind.i64.wrap (s37_7 + 1), b1c_8 ++ [(v9.1, v9.2.1, v9.2.2)]))))
  else
    grdEq s_1 s_1 <|
    grdEq (α := Int) 0 0 <|
    grdEq (α := Int) 0 0 <|
    grdEq v2 v2 <|
    grdEq v3 v3 <|
    some (.inr (.inr ((at_6, b1c_8))))
def step_msg_Decode_1 (s_1 : List UInt8) (v2 : Int) (v3 : Int) (v17 : Int) : (Int × (Int × (List ((List UInt8 × (Int × Int))) × List ((List UInt8 × (Int × (Int × (Int × List UInt8)))))))) → Option ((Int × (Int × (List ((List UInt8 × (Int × Int))) × List ((List UInt8 × (Int × (Int × (Int × List UInt8)))))))) ⊕ ((Int × (List ((List UInt8 × (Int × Int))) × List ((List UInt8 × (Int × (Int × (Int × List UInt8))))))) ⊕ (Int × (List ((List UInt8 × (Int × Int))) × List ((List UInt8 × (Int × (Int × (Int × List UInt8))))))))) := fun (at_18, s67_19, b1c_20, b1d_21) =>
  if decide (s67_19 < v17) = true then
    bnd (F_record_Decode s_1 at_18) fun (v22, v23, v24) =>
    if (v24 != 0) = true then
      grdEq (α := Int) 0 0 <|
      grdEq (α := Int) 0 0 <|
      grdEq v2 v2 <|
      grdEq v3 v3 <|
      some (.inr (.inl ((v24, (b1c_20, b1d_21)))))
    else
      grd ((b1d_21.length + [(v22.1, v22.2.1, v22.2.2.1, v22.2.2.2.1, v22.2.2.2.2)].length) * 56 ≤ roomLim) <|
      grdEq s_1 s_1 <|
      grdEq (α := Int) 0 0 <|
      grdEq v17 v17 <|
      grdEq (α := Int) 0 0 <|
      grdEq (α := Int) 0 0 <|
      grdEq v2 v2 <|
      grdEq v3 v3 <|
      some (.inl ((v23, (Go.IntKind.i64.wrap (s67_19 + 1), (b1c_20, b1d_21 ++ [(v22.1, v22.2.1, v22.2.2.1, v22.2.2.2.1, v22.2.2.2.2)])))))
  else
    grdEq s_1 s_1 <|
    grdEq (α := Int) 0 0 <|
    grdEq (α := Int) 0 0 <|
    grdEq (α := Int) 0 0 <|
    grdEq v2 v2 <|
    grdEq v3 v3 <|
    some (.inr (.inr ((at_18, (b1c_20, b1d_21)))))
def step_msg_Decode_2 (s_1 : List UInt8) (v2 : Int) (v3 : Int) (v32 : Int) : (Int × (Int × (List ((List UInt8 × (Int × Int))) × (List ((List UInt8 × (Int × (Int × (Int × List UInt8))))) × List ((List UInt8 × (Int × (Int × (Int × List UInt8))))))))) → Option ((Int × (Int × (List ((List UInt8 × (Int × Int))) × (List ((List UInt8 × (Int × (Int × (Int × List UInt8))))) × List ((List UInt8 × (Int × (Int × (Int × List UInt8))))))))) ⊕ ((Int × (List ((List UInt8 × (Int × Int))) × (List ((List UInt8 × (Int × (Int × (Int × List UInt8))))) × List ((List UInt8 × (Int × (Int × (Int × List UInt8)))))))) ⊕ (Int × (List ((List UInt8 × (Int × Int))) × (List ((List UInt8 × (Int × (Int × (Int × List UInt8))))) × List ((List UInt8 × (Int × (Int × (Int × List UInt8)))))))))) := fun (at_33, s67_34, b1c_35, b1d_36, b1e_37) =>
  if decide (s67_34 < v32) = true then
    bnd (F_record_Decode s_1 at_33) fun (v38, v39, v40) =>
    if (v40 != 0) = true then
      grdEq (α := Int) 0 0 <|
      grdEq (α := Int) 0 0 <|
      grdEq v2 v2 <|
      grdEq v3 v3 <|
      some (.inr (.inl ((v40, (b1c_35, (b1d_36, b1e_37))))))
    else
      grd ((b1e_37.length + [(v38.1, v38.2.1, v38.2.2.1, v38.2.2.2.1, v38.2.2.2.2)].length) * 56 ≤ roomLim) <|
      grdEq s_1 s_1 <|
      grdEq (α := Int) 1 1 <|
      grdEq v32 v32 <|
      grdEq (α := Int) 0 0 <|
      grdEq (α := Int) 0 0 <|
      grdEq v2 v2 <|
      grdEq v3 v3 <|
      some (.inl ((v39, (Go.IntKind.i64.wrap (s67_34 + 1), (b1c_35, (b1d_36, b1e_37 ++ [(v38.1, v38.2.1, v38.2.2.1, v38.2.2.2.1, v38.2.2.2.2)]))))))
  else
    grdEq s_1 s_1 <|
    grdEq (α := Int) 1 1 <|
    grdEq (α := Int) 0 0 <|
    grdEq (α := Int) 0 0 <|
    grdEq v2 v2 <|
    grdEq v3 v3 <|
    some (.inr (.inr ((at_33, (b1c_35, (b1d_36, b1e_37))))))
def step_msg_Decode_3 (s_1 : List UInt8) (v2 : Int) (v3 : Int) (v50 : Int) : (Int × (Int × (List ((List UInt8 × (Int × Int))) × (List ((List UInt8 × (Int × (Int × (Int × List UInt8))))) × (List ((List UInt8 × (Int × (Int × (Int × List UInt8))))) × List ((List UInt8 × (Int × (Int × (Int × List UInt8)))))))))) → Option ((Int × (Int × (List ((List UInt8 × (Int × Int))) × (List ((List UInt8 × (Int × (Int × (Int × List UInt8))))) × (List ((List UInt8 × (Int × (Int × (Int × List UInt8))))) × List ((List UInt8 × (Int × (Int × (Int × List UInt8)))))))))) ⊕ ((Int × (List ((List UInt8 × (Int × Int))) × (List ((List UInt8 × (Int × (Int × (Int × List UInt8))))) × (List ((List UInt8 × (Int × (Int × (Int × List UInt8))))) × List ((List UInt8 × (Int × (Int × (Int × List UInt8))))))))) ⊕ (Int × (List ((List UInt8 × (Int × Int))) × (List ((List UInt8 × (Int × (Int × (Int × List UInt8))))) × (List ((List UInt8 × (Int × (Int × (Int × List UInt8))))) × List ((List UInt8 × (Int × (Int × (Int × List UInt8))))))))))) := fun (at_51, s67_52, b1c_53, b1d_54, b1e_55, b1f_56) =>
  if decide (s67_52 < v50) = true then
    bnd (F_record_Decode s_1 at_51) fun (v57, v58, v59) =>
    if (v59 != 0) = true then
      grdEq (α := Int) 0 0 <|
      grdEq (α := Int) 0 0 <|
      grdEq v2 v2 <|
      grdEq v3 v3 <|
      some (.inr (.inl ((v59, (b1c_53, (b1d_54, (b1e_55, b1f_56)))))))
    else
      grd ((b1f_56.length + [(v57.1, v57.2.1, v57.2.2.1, v57.2.2.2.1, v57.2.2.2.2)].length) * 56 ≤ roomLim) <|
      grdEq s_1 s_1 <|
      grdEq (α := Int) 2 2 <|
      grdEq v50 v50 <|
      grdEq (α := Int) 0 0 <|
      grdEq (α := Int) 0 0 <|
      grdEq v2 v2 <|
      grdEq v3 v3 <|
      some (.inl ((v58, (Go.IntKind.i64.wrap (s67_52 + 1), (b1c_53, (b1d_54, (b1e_55, b1f_56 ++ [(v57.1, v57.2.1, v57.2.2.1, v57.2.2.2.1, v57.2.2.2.2)])))))))
  else
    grdEq s_1 s_1 <|
    grdEq (α := Int) 2 2 <|
    grdEq (α := Int) 0 0 <|
    grdEq (α := Int) 0 0 <|
    grdEq v2 v2 <|
    grdEq v3 v3 <|
    some (.inr (.inr ((at_51, (b1c_53, (b1d_54, (b1e_55, b1f_56)))))))
def F_msg_Decode (s_1 : List UInt8) : Option (((Int × (Int × (List ((List UInt8 × (Int × Int))) × (List ((List UInt8 × (Int × (Int × (Int × List UInt8))))) × (List ((List UInt8 × (Int × (Int × (Int × List UInt8))))) × List ((List UInt8 × (Int × (Int × (Int × List UInt8)))))))))) × Int)) :=
  bnd (F_msg_Head s_1) fun (v2, v3, v4) =>
  if decide (65535 < (↑s_1.length : Int)) = true then
    some (((0, (0, ([], ([], ([], []))))), 6))
  else
    if (!v4) = true then
      some (((0, (0, ([], ([], ([], []))))), 2))
    else
      bnd (F_msg_many s_1 0) fun v5 =>
      bnd (loopS (step_msg_Decode_0 s_1 v2 v3 v5) ((12, (0, [])))) fun o12 =>
      match o12 with
      | .inl (s3_13, b1c_14) =>
        some (((0, (0, ([], ([], ([], []))))), s3_13))
      | .inr (at_15, b1c_16) =>
        bnd (F_msg_many s_1 1) fun v17 =>
        bnd (loopS (step_msg_Decode_1 s_1 v2 v3 v17) ((at_15, (0, (b1c_16, []))))) fun o25 =>
        match o25 with
        | .inl (s3_26, b1c_27, b1d_28) =>
          some (((0, (0, ([], ([], ([], []))))), s3_26))
        | .inr (at_29, b1c_30, b1d_31) =>
          bnd (F_msg_many s_1 2) fun v32 =>
          bnd (loopS (step_msg_Decode_2 s_1 v2 v3 v32) ((at_29, (0, (b1c_30, (b1d_31, [])))))) fun o41 =>
          match o41 with
          | .inl (s3_42, b1c_43, b1d_44, b1e_45) =>
            some (((0, (0, ([], ([], ([], []))))), s3_42))
          | .inr (at_46, b1c_47, b1d_48, b1e_49) =>
            bnd (F_msg_many s_1 3) fun v50 =>
            bnd (loopS (step_msg_Decode_3 s_1 v2 v3 v50) ((at_46, (0, (b1c_47, (b1d_48, (b1e_49, []))))))) fun o60 =>
            match o60 with
            | .inl (s3_61, b1c_62, b1d_63, b1e_64, b1f_65) =>
              some (((0, (0, ([], ([], ([], []))))), s3_61))
            | .inr (at_66, b1c_67, b1d_68, b1e_69, b1f_70) =>
              if (at_66 != (↑s_1.length : Int)) = true then
                some (((0, (0, ([], ([], ([], []))))), 5))
              else
                some (((v2, (v3, (b1c_67, (b1d_68, (b1e_69, b1f_70))))), 0))
def ann_msg_Decode : List (List Nat × Ann) := [([52], ⟨none, []⟩), ([52, 1000000], ⟨none, []⟩), ([52, 1000000, 1000000], ⟨none, []⟩), ([52, 1000000, 1000000, 1000000], ⟨none, []⟩), ([52, 1000000, 1000000, 1000000, 1000000], ⟨none, []⟩), ([27], ⟨some ⟨(.cons (.keep .str) (anyN 1 (.cons (.ptr 0 0) (anyN 4 (.cons (.ptr 1 0) (.cons (.ty (.int .i64)) (anyN 27 (.cons (.keep (.int .i64)) (.cons (.ty (.int .i64)) (anyN 59 .nil)))))))))), [.cells 32 true (.cons (.keep (.int .i64)) (.cons (.keep (.int .i64)) (.cons .nill (.cons .nill (.cons .nill (.cons .nill .nil)))))), .cells 32 true (.cons (.keep (.int .i64)) (.cons (.keep (.int .i64)) (.cons (.own tQ 0 true) (.cons .nill (.cons .nill (.cons .nill .nil))))))], [⟨⟨0, tQ, 24, true, true⟩, true⟩], []⟩, [(.ret, ⟨(anyN 2 (.cons (.ptr 0 0) (.cons (.ty (.int .i64)) (anyN 93 .nil)))), [.cells 32 true (.cons (.keep (.int .i64)) (.cons (.keep (.int .i64)) (.cons .nill (.cons .nill (.cons .nill (.cons .nill .nil)))))), .cells 32 true (.cons (.keep (.int .i64)) (.cons (.keep (.int .i64)) (.cons (.own tQ 0 true) (.cons .nill (.cons .nill (.cons .nill .nil))))))], [⟨⟨0, tQ, 24, true, true⟩, false⟩], []⟩), (.exit 1, ⟨(.cons (.keep .str) (anyN 1 (.cons (.ptr 0 0) (anyN 4 (.cons (.ptr 1 0) (.cons (.ty (.int .i64)) (anyN 88 .nil))))))), [.cells 32 true (.cons (.keep (.int .i64)) (.cons (.keep (.int .i64)) (.cons .nill (.cons .nill (.cons .nill (.cons .nill .nil)))))), .cells 32 true (.cons (.keep (.int .i64)) (.cons (.keep (.int .i64)) (.cons (.own tQ 0 true) (.cons .nill (.cons .nill (.cons .nill .nil))))))], [⟨⟨0, tQ, 24, true, true⟩, false⟩], []⟩)]⟩), ([66], ⟨some ⟨(.cons (.keep .str) (anyN 1 (.cons (.ptr 0 0) (anyN 4 (.cons (.ptr 1 0) (.cons (.ty (.int .i64)) (anyN 4 (.cons (.ptr 1 3) (anyN 44 (.cons (.agg (.cons (.ptr 1 3) (.cons (.ptr 1 4) (.cons (.ptr 1 5) .nil)))) (.cons (.keep (.int .i64)) (anyN 6 (.cons (.keep (.int .i64)) (.cons (.ty (.int .i64)) (anyN 29 .nil))))))))))))))), [.cells 32 true (.cons (.keep (.int .i64)) (.cons (.keep (.int .i64)) (.cons .nill (.cons .nill (.cons .nill (.cons .nill .nil)))))), .cells 32 true (.cons (.keep (.int .i64)) (.cons (.keep (.int .i64)) (.cons (.own tQ 0 true) (.cons (.own tRR 1 true) (.cons .nill (.cons .nill .nil)))))), .cells 98 true (.cons (.ptr 1 3) (.cons (.ptr 1 4) (.cons (.ptr 1 5) .nil)))], [⟨⟨0, tQ, 24, true, true⟩, false⟩, ⟨⟨0, tRR, 68, true, true⟩, true⟩], []⟩, [(.ret, ⟨(anyN 2 (.cons (.ptr 0 0) (.cons (.ty (.int .i64)) (anyN 93 .nil)))), [.cells 32 true (.cons (.keep (.int .i64)) (.cons (.keep (.int .i64)) (.cons .nill (.cons .nill (.cons .nill (.cons .nill .nil)))))), .cells 32 true (.cons (.keep (.int .i64)) (.cons (.keep (.int .i64)) (.cons (.own tQ 0 true) (.cons (.own tRR 1 true) (.cons .nill (.cons .nill .nil)))))), .cells 98 true (.cons (.ptr 1 3) (.cons (.ptr 1 4) (.cons (.ptr 1 5) .nil)))], [⟨⟨0, tQ, 24, true, true⟩, false⟩, ⟨⟨0, tRR, 68, true, true⟩, false⟩], []⟩), (.exit 5, ⟨(.cons (.keep .str) (anyN 1 (.cons (.ptr 0 0) (anyN 4 (.cons (.ptr 1 0) (.cons (.ty (.int .i64)) (anyN 49 (.cons (.agg (.cons (.ptr 1 3) (.cons (.ptr 1 4) (.cons (.ptr 1 5) .nil)))) (.cons (.keep (.int .i64)) (anyN 37 .nil)))))))))), [.cells 32 true (.cons (.keep (.int .i64)) (.cons (.keep (.int .i64)) (.cons .nill (.cons .nill (.cons .nill (.cons .nill .nil)))))), .cells 32 true (.cons (.keep (.int .i64)) (.cons (.keep (.int .i64)) (.cons (.own tQ 0 true) (.cons (.own tRR 1 true) (.cons .nill (.cons .nill .nil)))))), .cells 98 true (.cons (.ptr 1 3) (.cons (.ptr 1 4) (.cons (.ptr 1 5) .nil)))], [⟨⟨0, tQ, 24, true, true⟩, false⟩, ⟨⟨0, tRR, 68, true, true⟩, false⟩], []⟩)]⟩), ([66, 1000000], ⟨some ⟨(.cons (.keep .str) (anyN 1 (.cons (.ptr 0 0) (anyN 4 (.cons (.ptr 1 0) (.cons (.ty (.int .i64)) (anyN 4 (.cons (.ptr 1 4) (anyN 44 (.cons (.agg (.cons (.ptr 1 3) (.cons (.ptr 1 4) (.cons (.ptr 1 5) .nil)))) (.cons (.keep (.int .i64)) (anyN 6 (.cons (.keep (.int .i64)) (.cons (.ty (.int .i64)) (anyN 29 .nil))))))))))))))), [.cells 32 true (.cons (.keep (.int .i64)) (.cons (.keep (.int .i64)) (.cons .nill (.cons .nill (.cons .nill (.cons .nill .nil)))))), .cells 32 true (.cons (.keep (.int .i64)) (.cons (.keep (.int .i64)) (.cons (.own tQ 0 true) (.cons (.own tRR 1 true) (.cons (.own tRR 2 true) (.cons .nill .nil)))))), .cells 98 true (.cons (.ptr 1 3) (.cons (.ptr 1 4) (.cons (.ptr 1 5) .nil)))], [⟨⟨0, tQ, 24, true, true⟩, false⟩, ⟨⟨0, tRR, 68, true, true⟩, false⟩, ⟨⟨0, tRR, 68, true, true⟩, true⟩], []⟩, [(.ret, ⟨(anyN 2 (.cons (.ptr 0 0) (.cons (.ty (.int .i64)) (anyN 93 .nil)))), [.cells 32 true (.cons (.keep (.int .i64)) (.cons (.keep (.int .i64)) (.cons .nill (.cons .nill (.cons .nill (.cons .nill .nil)))))), .cells 32 true (.cons (.keep (.int .i64)) (.cons (.keep (.int .i64)) (.cons (.own tQ 0 true) (.cons (.own tRR 1 true) (.cons (.own tRR 2 true) (.cons .nill .nil)))))), .cells 98 true (.cons (.ptr 1 3) (.cons (.ptr 1 4) (.cons (.ptr 1 5) .nil)))], [⟨⟨0, tQ, 24, true, true⟩, false⟩, ⟨⟨0, tRR, 68, true, true⟩, false⟩, ⟨⟨0, tRR, 68, true, true⟩, false⟩], []⟩), (.exit 5, ⟨(.cons (.keep .str) (anyN 1 (.cons (.ptr 0 0) (anyN 4 (.cons (.ptr 1 0) (.cons (.ty (.int .i64)) (anyN 49 (.cons (.agg (.cons (.ptr 1 3) (.cons (.ptr 1 4) (.cons (.ptr 1 5) .nil)))) (.cons (.keep (.int .i64)) (anyN 37 .nil)))))))))), [.cells 32 true (.cons (.keep (.int .i64)) (.cons (.keep (.int .i64)) (.cons .nill (.cons .nill (.cons .nill (.cons .nill .nil)))))), .cells 32 true (.cons (.keep (.int .i64)) (.cons (.keep (.int .i64)) (.cons (.own tQ 0 true) (.cons (.own tRR 1 true) (.cons (.own tRR 2 true) (.cons .nill .nil)))))), .cells 98 true (.cons (.ptr 1 3) (.cons (.ptr 1 4) (.cons (.ptr 1 5) .nil)))], [⟨⟨0, tQ, 24, true, true⟩, false⟩, ⟨⟨0, tRR, 68, true, true⟩, false⟩, ⟨⟨0, tRR, 68, true, true⟩, false⟩], []⟩)]⟩), ([66, 1000000, 1000000], ⟨some ⟨(.cons (.keep .str) (anyN 1 (.cons (.ptr 0 0) (anyN 4 (.cons (.ptr 1 0) (.cons (.ty (.int .i64)) (anyN 4 (.cons (.ptr 1 5) (anyN 44 (.cons (.agg (.cons (.ptr 1 3) (.cons (.ptr 1 4) (.cons (.ptr 1 5) .nil)))) (.cons (.keep (.int .i64)) (anyN 6 (.cons (.keep (.int .i64)) (.cons (.ty (.int .i64)) (anyN 29 .nil))))))))))))))), [.cells 32 true (.cons (.keep (.int .i64)) (.cons (.keep (.int .i64)) (.cons .nill (.cons .nill (.cons .nill (.cons .nill .nil)))))), .cells 32 true (.cons (.keep (.int .i64)) (.cons (.keep (.int .i64)) (.cons (.own tQ 0 true) (.cons (.own tRR 1 true) (.cons (.own tRR 2 true) (.cons (.own tRR 3 true) .nil)))))), .cells 98 true (.cons (.ptr 1 3) (.cons (.ptr 1 4) (.cons (.ptr 1 5) .nil)))], [⟨⟨0, tQ, 24, true, true⟩, false⟩, ⟨⟨0, tRR, 68, true, true⟩, false⟩, ⟨⟨0, tRR, 68, true, true⟩, false⟩, ⟨⟨0, tRR, 68, true, true⟩, true⟩], []⟩, [(.ret, ⟨(anyN 2 (.cons (.ptr 0 0) (.cons (.ty (.int .i64)) (anyN 93 .nil)))), [.cells 32 true (.cons (.keep (.int .i64)) (.cons (.keep (.int .i64)) (.cons .nill (.cons .nill (.cons .nill (.cons .nill .nil)))))), .cells 32 true (.cons (.keep (.int .i64)) (.cons (.keep (.int .i64)) (.cons (.own tQ 0 true) (.cons (.own tRR 1 true) (.cons (.own tRR 2 true) (.cons (.own tRR 3 true) .nil)))))), .cells 98 true (.cons (.ptr 1 3) (.cons (.ptr 1 4) (.cons (.ptr 1 5) .nil)))], [⟨⟨0, tQ, 24, true, true⟩, false⟩, ⟨⟨0, tRR, 68, true, true⟩, false⟩, ⟨⟨0, tRR, 68, true, true⟩, false⟩, ⟨⟨0, tRR, 68, true, true⟩, false⟩], []⟩), (.exit 5, ⟨(.cons (.keep .str) (anyN 1 (.cons (.ptr 0 0) (anyN 4 (.cons (.ptr 1 0) (.cons (.ty (.int .i64)) (anyN 49 (.cons (.agg (.cons (.ptr 1 3) (.cons (.ptr 1 4) (.cons (.ptr 1 5) .nil)))) (.cons (.keep (.int .i64)) (anyN 37 .nil)))))))))), [.cells 32 true (.cons (.keep (.int .i64)) (.cons (.keep (.int .i64)) (.cons .nill (.cons .nill (.cons .nill (.cons .nill .nil)))))), .cells 32 true (.cons (.keep (.int .i64)) (.cons (.keep (.int .i64)) (.cons (.own tQ 0 true) (.cons (.own tRR 1 true) (.cons (.own tRR 2 true) (.cons (.own tRR 3 true) .nil)))))), .cells 98 true (.cons (.ptr 1 3) (.cons (.ptr 1 4) (.cons (.ptr 1 5) .nil)))], [⟨⟨0, tQ, 24, true, true⟩, false⟩, ⟨⟨0, tRR, 68, true, true⟩, false⟩, ⟨⟨0, tRR, 68, true, true⟩, false⟩, ⟨⟨0, tRR, 68, true, true⟩, false⟩], []⟩)]⟩)]
@[reducible] def fs_msg_Decode : List (Nat × SFn) := [(56, .pure [.str, (.int .i64)] [tQ, (.int .i64), (.int .i64)] (fun x => F_msg_question x.1 x.2)), (58, .pure [.str, (.int .i64)] [tRR, (.int .i64), (.int .i64)] (fun x => F_record_Decode x.1 x.2)), (54, .pure [.str] [(.int .i64), (.int .i64), .bool] (fun x => F_msg_Head x)), (55, .pure [.str, (.int .i64)] [(.int .i64)] (fun x => F_msg_many x.1 x.2))]
def cfg_msg_Decode : SCfg := SCfg.of (fs_msg_Decode ++ inlL) ann_msg_Decode keepL
theorem eq_msg_Decode (x : HL [.str]) : fnK cfg_msg_Decode Tryz.prog 100000 30 [.str] [tM, (.int .i64)] x = (fun x => F_msg_Decode x) x := by kernel_rfl
theorem told_msg_Decode : Told CC Tryz.prog 30 [.str] [tM, (.int .i64)] (fun x => F_msg_Decode x) := told_of (gok (an := ann_msg_Decode) (fs := fs_msg_Decode) ⟨told_msg_question, told_record_Decode, told_msg_Head, told_msg_many, trivial⟩) rfl rfl eq_msg_Decode
def F_record_in (n_1 : Int) (most_2 : Int) : Option (Bool) :=
  if decide (0 ≤ n_1) = true then
    some (decide (n_1 ≤ most_2))
  else
    some false
def ann_record_in : List (List Nat × Ann) := []
def cfg_record_in : SCfg := SCfg.of ([] ++ inlL) ann_record_in keepL
theorem eq_record_in (x : HL [(.int .i64), (.int .i64)]) : fnK cfg_record_in Tryz.prog 100000 104 [(.int .i64), (.int .i64)] [.bool] x = (fun x => F_record_in x.1 x.2) x := by kernel_rfl
theorem told_record_in : Told CC Tryz.prog 104 [(.int .i64), (.int .i64)] [.bool] (fun x => F_record_in x.1 x.2) := told_of (gok (an := ann_record_in) (fs := []) trivial) rfl rfl eq_record_in
def F_data_Check (kind_1 : Int) (d_2 : List UInt8) : Option (Bool) :=
  if decide (65535 < (↑d_2.length : Int)) = true then
    some false
  else
    bnd (F_data_Expand d_2 0 (↑d_2.length : Int) kind_1) fun (v3, v4) =>
    if (v4 == 0) = true then
      some (v3 == d_2)
    else
      some false
def ann_data_Check : List (List Nat × Ann) := []
@[reducible] def fs_data_Check : List (Nat × SFn) := [(80, .pure [.str, (.int .i64), (.int .i64), (.int .i64)] [.str, (.int .i64)] (fun x => F_data_Expand x.1 x.2.1 x.2.2.1 x.2.2.2))]
def cfg_data_Check : SCfg := SCfg.of (fs_data_Check ++ inlL) ann_data_Check keepL
theorem eq_data_Check (x : HL [(.int .i64), .str]) : fnK cfg_data_Check Tryz.prog 100000 105 [(.int .i64), .str] [.bool] x = (fun x => F_data_Check x.1 x.2) x := by kernel_rfl
theorem told_data_Check : Told CC Tryz.prog 105 [(.int .i64), .str] [.bool] (fun x => F_data_Check x.1 x.2) := told_of (gok (an := ann_data_Check) (fs := fs_data_Check) ⟨told_data_Expand, trivial⟩) rfl rfl eq_data_Check
def F_record_Check (r_1 : (List UInt8 × (Int × (Int × (Int × List UInt8))))) : Option (Bool) :=
  bnd (F_name_Check r_1.1) fun v2 =>
  if v2 = true then
    bnd (F_record_in r_1.2.1 65535) fun v3 =>
    if v3 = true then
      bnd (F_record_in r_1.2.2.1 65535) fun v4 =>
      if v4 = true then
        bnd (F_record_in r_1.2.2.2.1 2147483647) fun v5 =>
        if v5 = true then
          bnd (F_data_Check r_1.2.1 r_1.2.2.2.2) fun v6 =>
          some v6
        else
          some false
      else
        some false
    else
      some false
  else
    some false
def ann_record_Check : List (List Nat × Ann) := []
@[reducible] def fs_record_Check : List (Nat × SFn) := [(38, .pure [.str] [.bool] (fun x => F_name_Check x)), (104, .pure [(.int .i64), (.int .i64)] [.bool] (fun x => F_record_in x.1 x.2)), (105, .pure [(.int .i64), .str] [.bool] (fun x => F_data_Check x.1 x.2))]
def cfg_record_Check : SCfg := SCfg.of (fs_record_Check ++ inlL) ann_record_Check keepL
theorem eq_record_Check (x : HL [tRR]) : fnK cfg_record_Check Tryz.prog 100000 84 [tRR] [.bool] x = (fun x => F_record_Check x) x := by kernel_rfl
theorem told_record_Check : Told CC Tryz.prog 84 [tRR] [.bool] (fun x => F_record_Check x) := told_of (gok (an := ann_record_Check) (fs := fs_record_Check) ⟨told_name_Check, told_record_in, told_data_Check, trivial⟩) rfl rfl eq_record_Check
def F_msg_Check_1 (r_1 : (List UInt8 × (Int × (Int × (Int × List UInt8))))) : Option (Bool) :=
  bnd (F_record_Check (r_1.1, r_1.2.1, r_1.2.2.1, r_1.2.2.2.1, r_1.2.2.2.2)) fun v2 =>
  some (!v2)
def ann_msg_Check_1 : List (List Nat × Ann) := []
@[reducible] def fs_msg_Check_1 : List (Nat × SFn) := [(84, .pure [tRR] [.bool] (fun x => F_record_Check x))]
def cfg_msg_Check_1 : SCfg := SCfg.of (fs_msg_Check_1 ++ inlL) ann_msg_Check_1 keepL
theorem eq_msg_Check_1 (x : HL [tRR]) : fnK cfg_msg_Check_1 Tryz.prog 100000 83 [tRR] [.bool] x = (fun x => F_msg_Check_1 x) x := by kernel_rfl
theorem told_msg_Check_1 : Told CC Tryz.prog 83 [tRR] [.bool] (fun x => F_msg_Check_1 x) := told_of (gok (an := ann_msg_Check_1) (fs := fs_msg_Check_1) ⟨told_record_Check, trivial⟩) rfl rfl eq_msg_Check_1
end
end Go.Abs
