/- Part of a proof. -/
import Derived.Test.YthmahgleehgbaaaSnA
set_option linter.unusedSimpArgs false
set_option linter.unusedVariables false
set_option linter.unusedSectionVars false
set_option maxRecDepth 100000
namespace Go.Abs
open Go Go.Proofs
noncomputable section
def step_comp_Read_0 (msg_1 : List UInt8) : (Int × (Int × (Int × (Int × List (Int))))) → Option ((Int × (Int × (Int × (Int × List (Int))))) ⊕ ((Int × (Int × (Int × (Int × List (Int))))) ⊕ (List UInt8 × (Int × (Int × (Int × (Int × (Int × List (Int))))))))) := fun (e_3, b0b_4, b0c_5, b0d_6, b0f_7) =>
 if (e_3 == 0) = true then
  bnd (F_octet_Get msg_1 b0b_4 1) fun (v8, v9) =>
  if (!v9) = true then
   gq msg_1 <|
   some (.inr (.inl ((2, (b0b_4, (b0c_5, (b0d_6, b0f_7)))))))
  else
   if (v8 == 0) = true then
    bnd (α := (Int × List (Int))) (if (b0d_6 == -1) = true then
      gq msg_1 <| gq b0b_4 <| gq b0c_5 <|
      some ((IntKind.i64.wrap (b0b_4 + 1), b0f_7))
     else
      gq msg_1 <| gq b0b_4 <| gq b0c_5 <|
      some ((b0d_6, b0f_7))) fun (b0d_10, b0f_11) =>
    grd (b0f_11.length ≤ 9223372036854775807) <|
    grd (∀ (n : (Ty.int IntKind.u8).den), n ∈ b0f_11 → 0 ≤ n ∧ n < 256) <|
    grd ((List.map (fun n => UInt8.ofNat (Int.toNat n)) b0f_11).length + 1 ≤ maxStr) <|
    gq msg_1 <|
    some (.inr (.inr ((List.map (fun n => UInt8.ofNat (Int.toNat n)) b0f_11 ++ [0], (b0d_10, (0, (b0b_4, (b0c_5, (b0d_10, b0f_11)))))))))
   else
    if decide (192 ≤ v8) = true then
     bnd (F_octet_Get msg_1 b0b_4 2) fun (v12, v13) =>
     if (!v13) = true then
      gq msg_1 <|
      some (.inl ((2, (b0b_4, (b0c_5, (b0d_6, b0f_7))))))
     else
      if decide (b0c_5 ≤ IntKind.i64.wrap (v12 - 49152)) = true then
       gq msg_1 <|
       some (.inl ((3, (b0b_4, (b0c_5, (b0d_6, b0f_7))))))
      else
       bnd (α := (Int × List (Int))) (if (b0d_6 == -1) = true then
         gq v12 <| gq msg_1 <| gq b0b_4 <| gq b0c_5 <|
         some ((IntKind.i64.wrap (b0b_4 + 2), b0f_7))
        else
         gq v12 <| gq msg_1 <| gq b0b_4 <| gq b0c_5 <|
         some ((b0d_6, b0f_7))) fun (b0d_14, b0f_15) =>
       gq msg_1 <|
       some (.inl ((0, (IntKind.i64.wrap (v12 - 49152), (IntKind.i64.wrap (v12 - 49152), (b0d_14, b0f_15))))))
    else
     if decide (63 < v8) = true then
      gq msg_1 <|
      some (.inl ((3, (b0b_4, (b0c_5, (b0d_6, b0f_7))))))
     else
      bnd (F_octet_Take msg_1 b0b_4 (IntKind.i64.wrap (1 + v8))) fun (v16, v17) =>
      if (!v17) = true then
       gq msg_1 <|
       some (.inl ((2, (b0b_4, (b0c_5, (b0d_6, b0f_7))))))
      else
       if decide (255 ≤ IntKind.i64.wrap ((↑b0f_7.length : Int) + (↑v16.length : Int))) = true then
        gq msg_1 <|
        some (.inl ((3, (b0b_4, (b0c_5, (b0d_6, b0f_7))))))
       else
        grd ((b0f_7.length + (List.map (fun b => (↑b.toNat : Int)) v16).length) * 1 ≤ roomLim) <|
        gq msg_1 <|
        some (.inl ((0, (IntKind.i64.wrap (b0b_4 + (↑v16.length : Int)), (b0c_5, (b0d_6, b0f_7 ++ List.map (fun b => (↑b.toNat : Int)) v16))))))
 else
  gq msg_1 <|
  some (.inr (.inl ((e_3, (b0b_4, (b0c_5, (b0d_6, b0f_7)))))))
def F_comp_Read (msg_1 : List UInt8) (at_2 : Int) : Option ((List UInt8 × (Int × Int))) :=
 bnd (loopS (step_comp_Read_0 msg_1) ((0, (at_2, (at_2, (-1, [])))))) fun o18 =>
 match o18 with
 | .inl (e_19, b0b_20, b0c_21, b0d_22, b0f_23) =>
  some (([], (0, e_19)))
 | .inr (s4_24, s5_25, s6_26, b0b_27, b0c_28, b0d_29, b0f_30) =>
  some ((s4_24, (s5_25, s6_26)))
def ann_comp_Read : List (List Nat × Ann) := [([2, 107, 1, 32], ⟨none, [(.normal, ⟨(.cons (.ptr 0 0) (anyN 26 .nil)), [.cells 147 true (.cons kS (.cons kI (.cons kI (.cons yI (.cons (.adr 0 4) (.cons (.own (.int .u8) 0 true) .nil))))))], [⟨⟨0, (.int .u8), 5, false, false⟩, false⟩], []⟩)]⟩), ([19, 108, 1, 37], ⟨none, [(.normal, ⟨(.cons (.ptr 0 0) (anyN 2 (.cons kI (anyN 47 .nil)))), [.cells 147 true (.cons kS (.cons kI (.cons kI (.cons yI (.cons (.adr 0 4) (.cons (.own (.int .u8) 0 true) .nil))))))], [⟨⟨0, (.int .u8), 5, false, false⟩, false⟩], []⟩)]⟩), ([11], ⟨some ⟨(anyN 7 (.cons (.ptr 0 0) (.cons yI (anyN 44 .nil)))), [.cells 147 true (.cons kS (.cons yI (.cons yI (.cons yI (.cons (.adr 0 4) (.cons (.own (.int .u8) 0 true) .nil))))))], [⟨⟨0, (.int .u8), 5, false, false⟩, true⟩], []⟩, [(.exit 0, ⟨(anyN 8 (.cons yI (anyN 44 .nil))), [.cells 147 true (.cons kS (.cons yI (.cons yI (.cons yI (.cons (.adr 0 4) (.cons (.own (.int .u8) 0 true) .nil))))))], [⟨⟨0, (.int .u8), 5, false, false⟩, false⟩], []⟩), (.ret, ⟨(anyN 4 (.cons (.ty .str) (.cons yI (.cons yI (anyN 46 .nil))))), [.cells 147 true (.cons kS (.cons yI (.cons yI (.cons yI (.cons (.adr 0 4) (.cons (.own (.int .u8) 0 true) .nil))))))], [⟨⟨0, (.int .u8), 5, false, false⟩, false⟩], []⟩)]⟩)]
@[reducible] def fs_comp_Read : List (Nat × SFn) := [(106, .pure [.str, tI, tI] [tI, .bool] (fun x => F_octet_Get x.1 x.2.1 x.2.2)), (98, .pure [.str, tI, tI] [.str, .bool] (fun x => F_octet_Take x.1 x.2.1 x.2.2))]
def cfg_comp_Read : SCfg := SCfg.of (fs_comp_Read ++ inlL) ann_comp_Read keepL
theorem eq_comp_Read (x : HL [.str, tI]) : fnK cfg_comp_Read Try.prog 100000 104 [.str, tI] [.str, tI, tI] x = (fun x => F_comp_Read x.1 x.2) x := by kernel_rfl
theorem told_comp_Read : Told CC Try.prog 104 [.str, tI] [.str, tI, tI] (fun x => F_comp_Read x.1 x.2) := told_of (gok (an := ann_comp_Read) (fs := fs_comp_Read) ⟨told_octet_Get, told_octet_Take, trivial⟩) rfl rfl eq_comp_Read
def step_data_Expand_0 (msg_1 : List UInt8) (at_2 : Int) (size_3 : Int) (kind_4 : Int) (n8 : Nat) (n9 : Nat) : (Int × (Int × (List ((Int × (Int × (Int × Int)))) × List (List UInt8)))) → Option ((Int × (Int × (List ((Int × (Int × (Int × Int)))) × List (List UInt8)))) ⊕ ((Int × (List ((Int × (Int × (Int × Int)))) × List (List UInt8))) ⊕ (Bool × (List ((Int × (Int × (Int × Int)))) × List (List UInt8))))) := fun (at_10, s38_11, m0_12, b4c_13) =>
 if decide (s38_11 < ((shpF kind_4).getD (0, 0, 0)).2.1) = true then
  bnd (F_comp_Read msg_1 at_10) fun (v14, v15, v16) =>
  bnd (α := ((Bool × (List ((Int × (Int × (Int × Int)))) × List (List UInt8))) ⊕ (List ((Int × (Int × (Int × Int)))) × List (List UInt8)))) (if (v16 != 0) = false then
    if decide (IntKind.i64.wrap (at_2 + size_3) < v15) = true then
     grdEq (((shpF kind_4).getD (0, 0, 0)).1) (((shpF kind_4).getD (0, 0, 0)).1) <|
     grdEq (((shpF kind_4).getD (0, 0, 0)).2.1) (((shpF kind_4).getD (0, 0, 0)).2.1) <|
     grdEq (((shpF kind_4).getD (0, 0, 0)).2.2) (((shpF kind_4).getD (0, 0, 0)).2.2) <|
     grdEq (((shpF kind_4).getD (0, 0, 0)).1) (((shpF kind_4).getD (0, 0, 0)).1) <|
     grdEq (((shpF kind_4).getD (0, 0, 0)).2.1) (((shpF kind_4).getD (0, 0, 0)).2.1) <|
     grdEq (((shpF kind_4).getD (0, 0, 0)).2.2) (((shpF kind_4).getD (0, 0, 0)).2.2) <|
     gq (α := List UInt8) ([]) <| gq (α := List UInt8) ([]) <|
     grdEq (List.drop n9 (List.take n8 msg_1)) (List.drop n9 (List.take n8 msg_1)) <|
     gq (α := List UInt8) ([]) <|
     some (.inl ((false, (m0_12, b4c_13))))
    else
     gq msg_1 <|
     grdEq (IntKind.i64.wrap (at_2 + size_3)) (IntKind.i64.wrap (at_2 + size_3)) <|
     gq v14 <| gq v15 <|
     grdEq (((shpF kind_4).getD (0, 0, 0)).2.1) (((shpF kind_4).getD (0, 0, 0)).2.1) <|
     gq s38_11 <|
     grdEq (((shpF kind_4).getD (0, 0, 0)).1) (((shpF kind_4).getD (0, 0, 0)).1) <|
     grdEq (((shpF kind_4).getD (0, 0, 0)).2.1) (((shpF kind_4).getD (0, 0, 0)).2.1) <|
     grdEq (((shpF kind_4).getD (0, 0, 0)).2.2) (((shpF kind_4).getD (0, 0, 0)).2.2) <|
     grdEq (((shpF kind_4).getD (0, 0, 0)).1) (((shpF kind_4).getD (0, 0, 0)).1) <|
     grdEq (((shpF kind_4).getD (0, 0, 0)).2.1) (((shpF kind_4).getD (0, 0, 0)).2.1) <|
     grdEq (((shpF kind_4).getD (0, 0, 0)).2.2) (((shpF kind_4).getD (0, 0, 0)).2.2) <|
     gq (α := List UInt8) ([]) <| gq (α := List UInt8) ([]) <|
     grdEq (List.drop n9 (List.take n8 msg_1)) (List.drop n9 (List.take n8 msg_1)) <|
     gq (α := List UInt8) ([]) <|
     some (.inr ((m0_12, b4c_13)))
   else
    grdEq (((shpF kind_4).getD (0, 0, 0)).1) (((shpF kind_4).getD (0, 0, 0)).1) <|
    grdEq (((shpF kind_4).getD (0, 0, 0)).2.1) (((shpF kind_4).getD (0, 0, 0)).2.1) <|
    grdEq (((shpF kind_4).getD (0, 0, 0)).2.2) (((shpF kind_4).getD (0, 0, 0)).2.2) <|
    grdEq (((shpF kind_4).getD (0, 0, 0)).1) (((shpF kind_4).getD (0, 0, 0)).1) <|
    grdEq (((shpF kind_4).getD (0, 0, 0)).2.1) (((shpF kind_4).getD (0, 0, 0)).2.1) <|
    grdEq (((shpF kind_4).getD (0, 0, 0)).2.2) (((shpF kind_4).getD (0, 0, 0)).2.2) <|
    gq (α := List UInt8) ([]) <| gq (α := List UInt8) ([]) <|
    grdEq (List.drop n9 (List.take n8 msg_1)) (List.drop n9 (List.take n8 msg_1)) <|
    gq (α := List UInt8) ([]) <|
    some (.inl ((false, (m0_12, b4c_13))))) fun o17 =>
  match o17 with
  | .inl (s9_18, m0_19, b4c_20) =>
   grdEq (((shpF kind_4).getD (0, 0, 0)).1) (((shpF kind_4).getD (0, 0, 0)).1) <|
   grdEq (((shpF kind_4).getD (0, 0, 0)).2.1) (((shpF kind_4).getD (0, 0, 0)).2.1) <|
   grdEq (((shpF kind_4).getD (0, 0, 0)).2.2) (((shpF kind_4).getD (0, 0, 0)).2.2) <|
   grdEq (((shpF kind_4).getD (0, 0, 0)).1) (((shpF kind_4).getD (0, 0, 0)).1) <|
   grdEq (((shpF kind_4).getD (0, 0, 0)).2.1) (((shpF kind_4).getD (0, 0, 0)).2.1) <|
   grdEq (((shpF kind_4).getD (0, 0, 0)).2.2) (((shpF kind_4).getD (0, 0, 0)).2.2) <|
   gq (α := List UInt8) ([]) <| gq (α := List UInt8) ([]) <|
   grdEq (List.drop n9 (List.take n8 msg_1)) (List.drop n9 (List.take n8 msg_1)) <|
   gq (α := List UInt8) ([]) <|
   some (.inr (.inr ((s9_18, (m0_19, b4c_20)))))
  | .inr (m0_21, b4c_22) =>
   grd ((b4c_22.length + [v14].length) * 16 ≤ roomLim) <|
   gq msg_1 <|
   grdEq (IntKind.i64.wrap (at_2 + size_3)) (IntKind.i64.wrap (at_2 + size_3)) <|
   grdEq (((shpF kind_4).getD (0, 0, 0)).2.1) (((shpF kind_4).getD (0, 0, 0)).2.1) <|
   grdEq (((shpF kind_4).getD (0, 0, 0)).1) (((shpF kind_4).getD (0, 0, 0)).1) <|
   grdEq (((shpF kind_4).getD (0, 0, 0)).2.1) (((shpF kind_4).getD (0, 0, 0)).2.1) <|
   grdEq (((shpF kind_4).getD (0, 0, 0)).2.2) (((shpF kind_4).getD (0, 0, 0)).2.2) <|
   grdEq (((shpF kind_4).getD (0, 0, 0)).1) (((shpF kind_4).getD (0, 0, 0)).1) <|
   grdEq (((shpF kind_4).getD (0, 0, 0)).2.1) (((shpF kind_4).getD (0, 0, 0)).2.1) <|
   grdEq (((shpF kind_4).getD (0, 0, 0)).2.2) (((shpF kind_4).getD (0, 0, 0)).2.2) <|
   gq (α := List UInt8) ([]) <| gq (α := List UInt8) ([]) <|
   grdEq (List.drop n9 (List.take n8 msg_1)) (List.drop n9 (List.take n8 msg_1)) <|
   gq (α := List UInt8) ([]) <|
   some (.inl ((v15, (IntKind.i64.wrap (s38_11 + 1), (m0_21, b4c_22 ++ [v14])))))
 else
  gq msg_1 <|
  grdEq (IntKind.i64.wrap (at_2 + size_3)) (IntKind.i64.wrap (at_2 + size_3)) <|
  grdEq (((shpF kind_4).getD (0, 0, 0)).1) (((shpF kind_4).getD (0, 0, 0)).1) <|
  grdEq (((shpF kind_4).getD (0, 0, 0)).2.1) (((shpF kind_4).getD (0, 0, 0)).2.1) <|
  grdEq (((shpF kind_4).getD (0, 0, 0)).2.2) (((shpF kind_4).getD (0, 0, 0)).2.2) <|
  grdEq (((shpF kind_4).getD (0, 0, 0)).1) (((shpF kind_4).getD (0, 0, 0)).1) <|
  grdEq (((shpF kind_4).getD (0, 0, 0)).2.1) (((shpF kind_4).getD (0, 0, 0)).2.1) <|
  grdEq (((shpF kind_4).getD (0, 0, 0)).2.2) (((shpF kind_4).getD (0, 0, 0)).2.2) <|
  gq (α := List UInt8) ([]) <| gq (α := List UInt8) ([]) <|
  grdEq (List.drop n9 (List.take n8 msg_1)) (List.drop n9 (List.take n8 msg_1)) <|
  gq (α := List UInt8) ([]) <|
  some (.inr (.inl ((at_10, (m0_12, b4c_13)))))
def F_data_Expand (msg_1 : List UInt8) (at_2 : Int) (size_3 : Int) (kind_4 : Int) : Option ((List UInt8 × Int)) :=
 bnd (F_octet_Take msg_1 at_2 size_3) fun (v5, v6) =>
 if (!v6) = true then
  some (([], 2))
 else
  bnd (α := (List UInt8 × Bool)) (if (shpF kind_4).isSome = true then
    if (!decide (((shpF kind_4).getD (0, 0, 0)).1 ≤ IntKind.i64.wrap (IntKind.i64.wrap (at_2 + size_3) - at_2))) = true then
     bnd (F_data_parts_whole ([], [], [])) fun v7 =>
     gq kind_4 <|
     some ((v7, false))
    else
     natOf (IntKind.i64.wrap (at_2 + ((shpF kind_4).getD (0, 0, 0)).1)) fun n8 =>
     grd (n8 ≤ msg_1.length) <|
     natOf at_2 fun n9 =>
     grd (n9 ≤ n8) <|
     bnd (loopS (step_data_Expand_0 msg_1 at_2 size_3 kind_4 n8 n9) ((IntKind.i64.wrap (at_2 + ((shpF kind_4).getD (0, 0, 0)).1), (0, (sputM tI (.agg (.cons tI (.cons tI tI))) 33 (6, 1, 0) (sputM tI (.agg (.cons tI (.cons tI tI))) 15 (2, 1, 0) (sputM tI (.agg (.cons tI (.cons tI tI))) 6 (0, 2, 20) (sputM tI (.agg (.cons tI (.cons tI tI))) 12 (0, 1, 0) (sputM tI (.agg (.cons tI (.cons tI tI))) 5 (0, 1, 0) (sputM tI (.agg (.cons tI (.cons tI tI))) 2 (0, 1, 0) (sputM tI (.agg (.cons tI (.cons tI tI))) 28 (16, 0, 0) (sputM tI (.agg (.cons tI (.cons tI tI))) 1 (4, 0, 0) []))))))), []))))) fun o23 =>
     match o23 with
     | .inl (at_24, m0_25, b4c_26) =>
      natOf (IntKind.i64.wrap (at_2 + size_3)) fun n27 =>
      grd (n27 ≤ msg_1.length) <|
      natOf at_24 fun n28 =>
      grd (n28 ≤ n27) <|
      bnd (F_data_parts_whole (List.drop n9 (List.take n8 msg_1), List.drop n28 (List.take n27 msg_1), b4c_26)) fun v29 =>
      gq kind_4 <|
      some ((v29, (↑(List.drop n28 (List.take n27 msg_1)).length : Int) == ((shpF kind_4).getD (0, 0, 0)).2.2))
     | .inr (s9_30, m0_31, b4c_32) =>
      bnd (F_data_parts_whole ([], [], [])) fun v33 =>
      gq kind_4 <|
      some ((v33, s9_30))
   else
    gq kind_4 <|
    some ((v5, v6))) fun (d_34, is_35) =>
  if (!is_35) = false then
   if (kind_4 == 16) = true then
    bnd (F_data_texts d_34) fun v36 =>
    if (!v36) = false then
     if decide (65535 < (↑d_34.length : Int)) = true then
      some (([], 4))
     else
      some ((d_34, 0))
    else
     some (([], 4))
   else
    if decide (65535 < (↑d_34.length : Int)) = true then
     some (([], 4))
    else
     some ((d_34, 0))
  else
   some (([], 4))
def ann_data_Expand : List (List Nat × Ann) := [([12], ⟨none, [(.normal, ⟨(anyN 3 (.cons kI (anyN 6 (.cons (.ty .str) (.cons (.ty .bool) (anyN 50 .nil)))))), [], [], []⟩)]⟩), ([33, 100, 6, 19], ⟨none, [(.ret, ⟨(anyN 8 (.cons (.ptr 3 0) (.cons (.ty .bool) (anyN 65 .nil)))), [.mapo tI (.agg (.cons tI (.cons tI tI))) true, .cells 138 true (.cons kI (.cons kI (.cons kI .nil))), .cells 138 true (.cons kI (.cons kI (.cons kI .nil))), .cells 130 true (.cons kS (.cons kS (.cons .nill .nil))), .cells 130 true (.cons kS (.cons kS (.cons (.own .str 0 true) .nil)))], [⟨⟨0, .str, 9, true, true⟩, false⟩], []⟩), (.normal, ⟨(.cons kS (anyN 1 (.cons kI (anyN 4 (.cons (.ptr 2 0) (.cons (.ptr 3 0) (anyN 1 (.cons (.ptr 4 0) (anyN 1 (.cons kS (.cons kI (anyN 23 (.cons kI (.cons kI (anyN 36 .nil))))))))))))))), [.mapo tI (.agg (.cons tI (.cons tI tI))) true, .cells 138 true (.cons kI (.cons kI (.cons kI .nil))), .cells 138 true (.cons kI (.cons kI (.cons kI .nil))), .cells 130 true (.cons kS (.cons kS (.cons .nill .nil))), .cells 130 true (.cons kS (.cons kS (.cons (.own .str 0 true) .nil)))], [⟨⟨0, .str, 9, true, true⟩, false⟩], []⟩)]⟩), ([22, 100, 6, 19], ⟨some ⟨(.cons kS (.cons yI (.cons kI (anyN 4 (.cons (.ptr 2 0) (.cons (.ptr 3 0) (anyN 1 (.cons (.ptr 4 0) (anyN 26 (.cons kI (.cons yI (anyN 36 .nil)))))))))))), [.mapo tI (.agg (.cons tI (.cons tI tI))) true, .cells 138 true (.cons kI (.cons kI (.cons kI .nil))), .cells 138 true (.cons kI (.cons kI (.cons kI .nil))), .cells 130 true (.cons kS (.cons kS (.cons .nill .nil))), .cells 130 true (.cons kS (.cons kS (.cons (.own .str 0 true) .nil)))], [⟨⟨0, .str, 9, true, true⟩, true⟩], []⟩, [(.exit 0, ⟨(.cons kS (.cons yI (.cons kI (anyN 4 (.cons (.ptr 2 0) (.cons (.ptr 3 0) (anyN 1 (.cons (.ptr 4 0) (anyN 64 .nil))))))))), [.mapo tI (.agg (.cons tI (.cons tI tI))) true, .cells 138 true (.cons kI (.cons kI (.cons kI .nil))), .cells 138 true (.cons kI (.cons kI (.cons kI .nil))), .cells 130 true (.cons kS (.cons kS (.cons .nill .nil))), .cells 130 true (.cons kS (.cons kS (.cons (.own .str 0 true) .nil)))], [⟨⟨0, .str, 9, true, true⟩, false⟩], []⟩), (.ret, ⟨(anyN 8 (.cons (.ptr 3 0) (.cons (.ty .bool) (anyN 65 .nil)))), [.mapo tI (.agg (.cons tI (.cons tI tI))) true, .cells 138 true (.cons kI (.cons kI (.cons kI .nil))), .cells 138 true (.cons kI (.cons kI (.cons kI .nil))), .cells 130 true (.cons kS (.cons kS (.cons .nill .nil))), .cells 130 true (.cons kS (.cons kS (.cons (.own .str 0 true) .nil)))], [⟨⟨0, .str, 9, true, true⟩, false⟩], []⟩)]⟩)]
@[reducible] def fs_data_Expand : List (Nat × SFn) := [(104, .pure [.str, tI] [.str, tI, tI] (fun x => F_comp_Read x.1 x.2)), (98, .pure [.str, tI, tI] [.str, .bool] (fun x => F_octet_Take x.1 x.2.1 x.2.2)), (92, .pure [(.agg (.cons .str (.cons .str (.list .str))))] [.str] (fun x => F_data_parts_whole x)), (101, .pure [.str] [.bool] (fun x => F_data_texts x))]
def cfg_data_Expand : SCfg := SCfg.of (fs_data_Expand ++ inlL) ann_data_Expand keepL
theorem eq_data_Expand (x : HL [.str, tI, tI, tI]) : fnK cfg_data_Expand Try.prog 100000 90 [.str, tI, tI, tI] [.str, tI] x = (fun x => F_data_Expand x.1 x.2.1 x.2.2.1 x.2.2.2) x := by kernel_rfl
theorem told_data_Expand : Told CC Try.prog 90 [.str, tI, tI, tI] [.str, tI] (fun x => F_data_Expand x.1 x.2.1 x.2.2.1 x.2.2.2) := told_of (gok (an := ann_data_Expand) (fs := fs_data_Expand) ⟨told_comp_Read, told_octet_Take, told_data_parts_whole, told_data_texts, trivial⟩) rfl rfl eq_data_Expand
def F_data_Check (kind_1 : Int) (d_2 : List UInt8) : Option (Bool) :=
 if decide (65535 < (↑d_2.length : Int)) = true then
  some false
 else
  bnd (F_data_Expand d_2 0 (↑d_2.length : Int) kind_1) fun (v3, v4) =>
  if (v4 == 0) = true then
   some (v3 == d_2)
  else
   some false
def ann_data_Check : List (List Nat × Ann) := []
@[reducible] def fs_data_Check : List (Nat × SFn) := [(90, .pure [.str, tI, tI, tI] [.str, tI] (fun x => F_data_Expand x.1 x.2.1 x.2.2.1 x.2.2.2))]
def cfg_data_Check : SCfg := SCfg.of (fs_data_Check ++ inlL) ann_data_Check keepL
theorem eq_data_Check (x : HL [tI, .str]) : fnK cfg_data_Check Try.prog 100000 80 [tI, .str] [.bool] x = (fun x => F_data_Check x.1 x.2) x := by kernel_rfl
theorem told_data_Check : Told CC Try.prog 80 [tI, .str] [.bool] (fun x => F_data_Check x.1 x.2) := told_of (gok (an := ann_data_Check) (fs := fs_data_Check) ⟨told_data_Expand, trivial⟩) rfl rfl eq_data_Check
def F_record_Check (r_1 : (List UInt8 × (Int × (Int × (Int × List UInt8))))) : Option (Bool) :=
 bnd (F_name_Check r_1.1) fun v2 =>
 if v2 = true then
  bnd (F_record_in r_1.2.1 65535) fun v3 =>
  if v3 = true then
   bnd (F_record_in r_1.2.2.1 65535) fun v4 =>
   if v4 = true then
    bnd (F_record_in r_1.2.2.2.1 2147483647) fun v5 =>
    if v5 = true then
     bnd (F_data_Check r_1.2.1 r_1.2.2.2.2) fun v6 =>
     some v6
    else
     some false
   else
    some false
  else
   some false
 else
  some false
def ann_record_Check : List (List Nat × Ann) := []
@[reducible] def fs_record_Check : List (Nat × SFn) := [(46, .pure [.str] [.bool] (fun x => F_name_Check x)), (87, .pure [tI, tI] [.bool] (fun x => F_record_in x.1 x.2)), (80, .pure [tI, .str] [.bool] (fun x => F_data_Check x.1 x.2))]
def cfg_record_Check : SCfg := SCfg.of (fs_record_Check ++ inlL) ann_record_Check keepL
theorem eq_record_Check (x : HL [tRR]) : fnK cfg_record_Check Try.prog 100000 71 [tRR] [.bool] x = (fun x => F_record_Check x) x := by kernel_rfl
theorem told_record_Check : Told CC Try.prog 71 [tRR] [.bool] (fun x => F_record_Check x) := told_of (gok (an := ann_record_Check) (fs := fs_record_Check) ⟨told_name_Check, told_record_in, told_data_Check, trivial⟩) rfl rfl eq_record_Check
def F_record_Encode (base_1 : List UInt8) (at_2 : Int) (r_3 : (List UInt8 × (Int × (Int × (Int × List UInt8))))) : Option (List UInt8) :=
 bnd (F_comp_Write base_1 at_2 r_3.1) fun v4 =>
 bnd (α := (List UInt8 ⊕ Unit)) (if (v4 == []) = false then
   bnd (F_record_Check (r_3.1, r_3.2.1, r_3.2.2.1, r_3.2.2.2.1, r_3.2.2.2.2)) fun v5 =>
   if (!v5) = true then
    g5 r_3 <|
    some (.inl ([]))
   else
    gq v4 <| g5 r_3 <|
    some (.inr (()))
  else
   g5 r_3 <|
   some (.inl ([]))) fun o6 =>
 match o6 with
 | .inl s6_7 =>
  some s6_7
 | .inr _ =>
  bnd (F_octet_Put r_3.2.1 2) fun v8 =>
  grd (v4.length + v8.length ≤ maxStr) <|
  bnd (F_octet_Put r_3.2.2.1 2) fun v9 =>
  grd ((v4 ++ v8).length + v9.length ≤ maxStr) <|
  bnd (F_octet_Put r_3.2.2.2.1 4) fun v10 =>
  grd ((v4 ++ v8 ++ v9).length + v10.length ≤ maxStr) <|
  bnd (F_octet_Put (↑(List.length r_3.2.2.2.2) : Int) 2) fun v11 =>
  grd ((v4 ++ v8 ++ v9 ++ v10).length + v11.length ≤ maxStr) <|
  grd ((v4 ++ v8 ++ v9 ++ v10 ++ v11).length + List.length r_3.2.2.2.2 ≤ maxStr) <|
  some (v4 ++ v8 ++ v9 ++ v10 ++ v11 ++ r_3.2.2.2.2)
def ann_record_Encode : List (List Nat × Ann) := [([4], ⟨none, [(.ret, ⟨(anyN 6 (.cons (.ty .str) (anyN 34 .nil))), [.cells 65 true (.cons kS (.cons kI (.cons kI (.cons kI (.cons kS .nil)))))], [], []⟩), (.normal, ⟨(anyN 5 (.cons (.ptr 0 0) (anyN 1 (.cons kS (anyN 33 .nil))))), [.cells 65 true (.cons kS (.cons kI (.cons kI (.cons kI (.cons kS .nil)))))], [], []⟩)]⟩)]
@[reducible] def fs_record_Encode : List (Nat × SFn) := [(70, .pure [.str, tI, .str] [.str] (fun x => F_comp_Write x.1 x.2.1 x.2.2)), (71, .pure [tRR] [.bool] (fun x => F_record_Check x)), (35, .pure [tI, tI] [.str] (fun x => F_octet_Put x.1 x.2))]
def cfg_record_Encode : SCfg := SCfg.of (fs_record_Encode ++ inlL) ann_record_Encode keepL
theorem eq_record_Encode (x : HL [.str, tI, tRR]) : fnK cfg_record_Encode Try.prog 100000 49 [.str, tI, tRR] [.str] x = (fun x => F_record_Encode x.1 x.2.1 x.2.2) x := by kernel_rfl
theorem told_record_Encode : Told CC Try.prog 49 [.str, tI, tRR] [.str] (fun x => F_record_Encode x.1 x.2.1 x.2.2) := told_of (gok (an := ann_record_Encode) (fs := fs_record_Encode) ⟨told_comp_Write, told_record_Check, told_octet_Put, trivial⟩) rfl rfl eq_record_Encode
def F_record_TTL (base_1 : List UInt8) (at_2 : Int) (r_3 : (List UInt8 × (Int × (Int × (Int × List UInt8))))) : Option (Int) :=
 bnd (F_record_Encode base_1 at_2 (r_3.1, r_3.2.1, r_3.2.2.1, r_3.2.2.2.1, r_3.2.2.2.2)) fun v4 =>
 if (v4 == []) = true then
  some (-1)
 else
  bnd (F_comp_Write base_1 at_2 r_3.1) fun v5 =>
  some (IntKind.i64.wrap ((↑v5.length : Int) + 4))
def ann_record_TTL : List (List Nat × Ann) := []
@[reducible] def fs_record_TTL : List (Nat × SFn) := [(49, .pure [.str, tI, tRR] [.str] (fun x => F_record_Encode x.1 x.2.1 x.2.2)), (70, .pure [.str, tI, .str] [.str] (fun x => F_comp_Write x.1 x.2.1 x.2.2))]
def cfg_record_TTL : SCfg := SCfg.of (fs_record_TTL ++ inlL) ann_record_TTL keepL
theorem eq_record_TTL (x : HL [.str, tI, tRR]) : fnK cfg_record_TTL Try.prog 100000 50 [.str, tI, tRR] [tI] x = (fun x => F_record_TTL x.1 x.2.1 x.2.2) x := by kernel_rfl
theorem told_record_TTL : Told CC Try.prog 50 [.str, tI, tRR] [tI] (fun x => F_record_TTL x.1 x.2.1 x.2.2) := told_of (gok (an := ann_record_TTL) (fs := fs_record_TTL) ⟨told_record_Encode, told_comp_Write, trivial⟩) rfl rfl eq_record_TTL
def step_data_Low_0 (kind_1 : Int) (d_2 : List UInt8) (n4 : Nat) : (Int × (Int × (List ((Int × (Int × (Int × Int)))) × List (List UInt8)))) → Option ((Int × (Int × (List ((Int × (Int × (Int × Int)))) × List (List UInt8)))) ⊕ ((Int × (List ((Int × (Int × (Int × Int)))) × List (List UInt8))) ⊕ (Bool × (List ((Int × (Int × (Int × Int)))) × List (List UInt8))))) := fun (at_5, s38_6, m1_7, b5c_8) =>
 if decide (s38_6 < ((shpF kind_1).getD (0, 0, 0)).2.1) = true then
  bnd (F_comp_Read d_2 at_5) fun (v9, v10, v11) =>
  bnd (α := ((Bool × (List ((Int × (Int × (Int × Int)))) × List (List UInt8))) ⊕ (List ((Int × (Int × (Int × Int)))) × List (List UInt8)))) (if (v11 != 0) = false then
    if decide ((↑d_2.length : Int) < v10) = true then
     gq (α := List UInt8) ([]) <| gq (α := List UInt8) ([]) <|
     grdEq (((shpF kind_1).getD (0, 0, 0)).1) (((shpF kind_1).getD (0, 0, 0)).1) <|
     grdEq (((shpF kind_1).getD (0, 0, 0)).2.1) (((shpF kind_1).getD (0, 0, 0)).2.1) <|
     grdEq (((shpF kind_1).getD (0, 0, 0)).2.2) (((shpF kind_1).getD (0, 0, 0)).2.2) <|
     grdEq (((shpF kind_1).getD (0, 0, 0)).1) (((shpF kind_1).getD (0, 0, 0)).1) <|
     grdEq (((shpF kind_1).getD (0, 0, 0)).2.1) (((shpF kind_1).getD (0, 0, 0)).2.1) <|
     grdEq (((shpF kind_1).getD (0, 0, 0)).2.2) (((shpF kind_1).getD (0, 0, 0)).2.2) <|
     gq (α := List UInt8) ([]) <| gq (α := List UInt8) ([]) <|
     grdEq (List.drop 0 (List.take n4 d_2)) (List.drop 0 (List.take n4 d_2)) <|
     gq (α := List UInt8) ([]) <|
     some (.inl ((false, (m1_7, b5c_8))))
    else
     gq d_2 <|
     grdEq ((↑d_2.length : Int)) ((↑d_2.length : Int)) <|
     gq v9 <| gq v10 <|
     grdEq (((shpF kind_1).getD (0, 0, 0)).2.1) (((shpF kind_1).getD (0, 0, 0)).2.1) <|
     gq s38_6 <| gq (α := List UInt8) ([]) <| gq (α := List UInt8) ([]) <|
     grdEq (((shpF kind_1).getD (0, 0, 0)).1) (((shpF kind_1).getD (0, 0, 0)).1) <|
     grdEq (((shpF kind_1).getD (0, 0, 0)).2.1) (((shpF kind_1).getD (0, 0, 0)).2.1) <|
     grdEq (((shpF kind_1).getD (0, 0, 0)).2.2) (((shpF kind_1).getD (0, 0, 0)).2.2) <|
     grdEq (((shpF kind_1).getD (0, 0, 0)).1) (((shpF kind_1).getD (0, 0, 0)).1) <|
     grdEq (((shpF kind_1).getD (0, 0, 0)).2.1) (((shpF kind_1).getD (0, 0, 0)).2.1) <|
     grdEq (((shpF kind_1).getD (0, 0, 0)).2.2) (((shpF kind_1).getD (0, 0, 0)).2.2) <|
     gq (α := List UInt8) ([]) <| gq (α := List UInt8) ([]) <|
     grdEq (List.drop 0 (List.take n4 d_2)) (List.drop 0 (List.take n4 d_2)) <|
     gq (α := List UInt8) ([]) <|
     some (.inr ((m1_7, b5c_8)))
   else
    gq (α := List UInt8) ([]) <| gq (α := List UInt8) ([]) <|
    grdEq (((shpF kind_1).getD (0, 0, 0)).1) (((shpF kind_1).getD (0, 0, 0)).1) <|
    grdEq (((shpF kind_1).getD (0, 0, 0)).2.1) (((shpF kind_1).getD (0, 0, 0)).2.1) <|
    grdEq (((shpF kind_1).getD (0, 0, 0)).2.2) (((shpF kind_1).getD (0, 0, 0)).2.2) <|
    grdEq (((shpF kind_1).getD (0, 0, 0)).1) (((shpF kind_1).getD (0, 0, 0)).1) <|
    grdEq (((shpF kind_1).getD (0, 0, 0)).2.1) (((shpF kind_1).getD (0, 0, 0)).2.1) <|
    grdEq (((shpF kind_1).getD (0, 0, 0)).2.2) (((shpF kind_1).getD (0, 0, 0)).2.2) <|
    gq (α := List UInt8) ([]) <| gq (α := List UInt8) ([]) <|
    grdEq (List.drop 0 (List.take n4 d_2)) (List.drop 0 (List.take n4 d_2)) <|
    gq (α := List UInt8) ([]) <|
    some (.inl ((false, (m1_7, b5c_8))))) fun o12 =>
  match o12 with
  | .inl (s9_13, m1_14, b5c_15) =>
   gq (α := List UInt8) ([]) <| gq (α := List UInt8) ([]) <|
   grdEq (((shpF kind_1).getD (0, 0, 0)).1) (((shpF kind_1).getD (0, 0, 0)).1) <|
   grdEq (((shpF kind_1).getD (0, 0, 0)).2.1) (((shpF kind_1).getD (0, 0, 0)).2.1) <|
   grdEq (((shpF kind_1).getD (0, 0, 0)).2.2) (((shpF kind_1).getD (0, 0, 0)).2.2) <|
   grdEq (((shpF kind_1).getD (0, 0, 0)).1) (((shpF kind_1).getD (0, 0, 0)).1) <|
   grdEq (((shpF kind_1).getD (0, 0, 0)).2.1) (((shpF kind_1).getD (0, 0, 0)).2.1) <|
   grdEq (((shpF kind_1).getD (0, 0, 0)).2.2) (((shpF kind_1).getD (0, 0, 0)).2.2) <|
   gq (α := List UInt8) ([]) <| gq (α := List UInt8) ([]) <|
   grdEq (List.drop 0 (List.take n4 d_2)) (List.drop 0 (List.take n4 d_2)) <|
   gq (α := List UInt8) ([]) <|
   some (.inr (.inr ((s9_13, (m1_14, b5c_15)))))
  | .inr (m1_16, b5c_17) =>
   grd ((b5c_17.length + [v9].length) * 16 ≤ roomLim) <|
   gq d_2 <|
   grdEq ((↑d_2.length : Int)) ((↑d_2.length : Int)) <|
   grdEq (((shpF kind_1).getD (0, 0, 0)).2.1) (((shpF kind_1).getD (0, 0, 0)).2.1) <|
   gq (α := List UInt8) ([]) <| gq (α := List UInt8) ([]) <|
   grdEq (((shpF kind_1).getD (0, 0, 0)).1) (((shpF kind_1).getD (0, 0, 0)).1) <|
   grdEq (((shpF kind_1).getD (0, 0, 0)).2.1) (((shpF kind_1).getD (0, 0, 0)).2.1) <|
   grdEq (((shpF kind_1).getD (0, 0, 0)).2.2) (((shpF kind_1).getD (0, 0, 0)).2.2) <|
   grdEq (((shpF kind_1).getD (0, 0, 0)).1) (((shpF kind_1).getD (0, 0, 0)).1) <|
   grdEq (((shpF kind_1).getD (0, 0, 0)).2.1) (((shpF kind_1).getD (0, 0, 0)).2.1) <|
   grdEq (((shpF kind_1).getD (0, 0, 0)).2.2) (((shpF kind_1).getD (0, 0, 0)).2.2) <|
   gq (α := List UInt8) ([]) <| gq (α := List UInt8) ([]) <|
   grdEq (List.drop 0 (List.take n4 d_2)) (List.drop 0 (List.take n4 d_2)) <|
   gq (α := List UInt8) ([]) <|
   some (.inl ((v10, (IntKind.i64.wrap (s38_6 + 1), (m1_16, b5c_17 ++ [v9])))))
 else
  gq d_2 <|
  grdEq ((↑d_2.length : Int)) ((↑d_2.length : Int)) <|
  gq (α := List UInt8) ([]) <| gq (α := List UInt8) ([]) <|
  grdEq (((shpF kind_1).getD (0, 0, 0)).1) (((shpF kind_1).getD (0, 0, 0)).1) <|
  grdEq (((shpF kind_1).getD (0, 0, 0)).2.1) (((shpF kind_1).getD (0, 0, 0)).2.1) <|
  grdEq (((shpF kind_1).getD (0, 0, 0)).2.2) (((shpF kind_1).getD (0, 0, 0)).2.2) <|
  grdEq (((shpF kind_1).getD (0, 0, 0)).1) (((shpF kind_1).getD (0, 0, 0)).1) <|
  grdEq (((shpF kind_1).getD (0, 0, 0)).2.1) (((shpF kind_1).getD (0, 0, 0)).2.1) <|
  grdEq (((shpF kind_1).getD (0, 0, 0)).2.2) (((shpF kind_1).getD (0, 0, 0)).2.2) <|
  gq (α := List UInt8) ([]) <| gq (α := List UInt8) ([]) <|
  grdEq (List.drop 0 (List.take n4 d_2)) (List.drop 0 (List.take n4 d_2)) <|
  gq (α := List UInt8) ([]) <|
  some (.inr (.inl ((at_5, (m1_7, b5c_8)))))
def step_data_Low_1 (kind_26 : List UInt8) (kind_27 : List UInt8) (kind_28 : List (List UInt8)) : (List (List UInt8) × (Int × List (List UInt8))) → Option ((List (List UInt8) × (Int × List (List UInt8))) ⊕ List (List UInt8)) := fun (s16_30, s18_31, b0c_32) =>
 if decide (s18_31 < (↑kind_28.length : Int)) = true then
  natOf s18_31 fun n33 =>
  bnd (s16_30[n33]?) fun x34 =>
  bnd (F_name_Low x34) fun v35 =>
  natOf s18_31 fun n36 =>
  bnd (b0c_32[n36]?) fun x37 =>
  grdEq ((↑kind_28.length : Int)) ((↑kind_28.length : Int)) <|
  gq kind_26 <| gq kind_27 <|
  some (.inl ((s16_30.set n36 v35, (IntKind.i64.wrap (s18_31 + 1), b0c_32.set n36 v35))))
 else
  gq kind_26 <| gq kind_27 <|
  some (.inr b0c_32)
def F_data_Low (kind_1 : Int) (d_2 : List UInt8) : Option (List UInt8) :=
 bnd (α := (List UInt8 × (List UInt8 × (List (List UInt8) × Bool)))) (bnd (F_data_Check kind_1 d_2) fun v3 =>
  if (!v3) = true then
   some (([], ([], ([], false))))
  else
   if (!(shpF kind_1).isSome) = true then
    some ((d_2, ([], ([], true))))
   else
    if (!decide (((shpF kind_1).getD (0, 0, 0)).1 ≤ IntKind.i64.wrap ((↑d_2.length : Int) - 0))) = true then
     some (([], ([], ([], false))))
    else
     natOf (IntKind.i64.wrap (0 + ((shpF kind_1).getD (0, 0, 0)).1)) fun n4 =>
     grd (n4 ≤ d_2.length) <|
     grd (0 ≤ n4) <|
     bnd (loopS (step_data_Low_0 kind_1 d_2 n4) ((IntKind.i64.wrap (0 + ((shpF kind_1).getD (0, 0, 0)).1), (0, (sputM tI (.agg (.cons tI (.cons tI tI))) 33 (6, 1, 0) (sputM tI (.agg (.cons tI (.cons tI tI))) 15 (2, 1, 0) (sputM tI (.agg (.cons tI (.cons tI tI))) 6 (0, 2, 20) (sputM tI (.agg (.cons tI (.cons tI tI))) 12 (0, 1, 0) (sputM tI (.agg (.cons tI (.cons tI tI))) 5 (0, 1, 0) (sputM tI (.agg (.cons tI (.cons tI tI))) 2 (0, 1, 0) (sputM tI (.agg (.cons tI (.cons tI tI))) 28 (16, 0, 0) (sputM tI (.agg (.cons tI (.cons tI tI))) 1 (4, 0, 0) []))))))), []))))) fun o18 =>
     match o18 with
     | .inl (at_19, m1_20, b5c_21) =>
      grd (d_2.length ≤ d_2.length) <|
      natOf at_19 fun n22 =>
      grd (n22 ≤ d_2.length) <|
      some ((List.drop 0 (List.take n4 d_2), (List.drop n22 (List.take d_2.length d_2), (b5c_21, (↑(List.drop n22 (List.take d_2.length d_2)).length : Int) == ((shpF kind_1).getD (0, 0, 0)).2.2))))
     | .inr (s9_23, m1_24, b5c_25) =>
      some (([], ([], ([], s9_23))))) fun (kind_26, kind_27, kind_28, kind_29) =>
 bnd (loopS (step_data_Low_1 kind_26 kind_27 kind_28) ((kind_28, (0, kind_28)))) fun b0c_38 =>
 bnd (F_data_parts_whole (kind_26, kind_27, b0c_38)) fun v39 =>
 some v39
def ann_data_Low : List (List Nat × Ann) := [([2000000, 91, 2, 3], ⟨none, [(.ret, ⟨(.cons (.tup (.cons (.agg (.cons (.ty .str) (.cons (.ty .str) (.cons (.own .str 0 true) .nil)))) (.cons (.ty .bool) .nil))) .nil), [], [⟨⟨1, .str, 9, true, true⟩, true⟩], []⟩)]⟩), ([33, 100, 4, 21, 91, 2, 3], ⟨none, [(.ret, ⟨(anyN 8 (.cons (.ptr 4 0) (.cons (.ty .bool) (anyN 65 .nil)))), [.cells 130 true (.cons kS (.cons kS (.cons .nill .nil))), .mapo tI (.agg (.cons tI (.cons tI tI))) true, .cells 138 true (.cons kI (.cons kI (.cons kI .nil))), .cells 138 true (.cons kI (.cons kI (.cons kI .nil))), .cells 130 true (.cons kS (.cons kS (.cons .nill .nil))), .cells 130 true (.cons kS (.cons kS (.cons (.own .str 0 true) .nil)))], [⟨⟨0, .str, 9, true, true⟩, false⟩], []⟩), (.normal, ⟨(.cons kS (anyN 1 (.cons kI (anyN 4 (.cons (.ptr 3 0) (.cons (.ptr 4 0) (anyN 1 (.cons (.ptr 5 0) (anyN 1 (.cons kS (.cons kI (anyN 23 (.cons kI (.cons kI (anyN 36 .nil))))))))))))))), [.cells 130 true (.cons kS (.cons kS (.cons .nill .nil))), .mapo tI (.agg (.cons tI (.cons tI tI))) true, .cells 138 true (.cons kI (.cons kI (.cons kI .nil))), .cells 138 true (.cons kI (.cons kI (.cons kI .nil))), .cells 130 true (.cons kS (.cons kS (.cons .nill .nil))), .cells 130 true (.cons kS (.cons kS (.cons (.own .str 0 true) .nil)))], [⟨⟨0, .str, 9, true, true⟩, false⟩], []⟩)]⟩), ([22, 100, 4, 21, 91, 2, 3], ⟨some ⟨(.cons kS (.cons yI (.cons kI (anyN 4 (.cons (.ptr 3 0) (.cons (.ptr 4 0) (anyN 1 (.cons (.ptr 5 0) (anyN 26 (.cons kI (.cons yI (anyN 36 .nil)))))))))))), [.cells 130 true (.cons kS (.cons kS (.cons .nill .nil))), .mapo tI (.agg (.cons tI (.cons tI tI))) true, .cells 138 true (.cons kI (.cons kI (.cons kI .nil))), .cells 138 true (.cons kI (.cons kI (.cons kI .nil))), .cells 130 true (.cons kS (.cons kS (.cons .nill .nil))), .cells 130 true (.cons kS (.cons kS (.cons (.own .str 0 true) .nil)))], [⟨⟨0, .str, 9, true, true⟩, true⟩], []⟩, [(.exit 0, ⟨(.cons kS (.cons yI (.cons kI (anyN 4 (.cons (.ptr 3 0) (.cons (.ptr 4 0) (anyN 1 (.cons (.ptr 5 0) (anyN 64 .nil))))))))), [.cells 130 true (.cons kS (.cons kS (.cons .nill .nil))), .mapo tI (.agg (.cons tI (.cons tI tI))) true, .cells 138 true (.cons kI (.cons kI (.cons kI .nil))), .cells 138 true (.cons kI (.cons kI (.cons kI .nil))), .cells 130 true (.cons kS (.cons kS (.cons .nill .nil))), .cells 130 true (.cons kS (.cons kS (.cons (.own .str 0 true) .nil)))], [⟨⟨0, .str, 9, true, true⟩, false⟩], []⟩), (.ret, ⟨(anyN 8 (.cons (.ptr 4 0) (.cons (.ty .bool) (anyN 65 .nil)))), [.cells 130 true (.cons kS (.cons kS (.cons .nill .nil))), .mapo tI (.agg (.cons tI (.cons tI tI))) true, .cells 138 true (.cons kI (.cons kI (.cons kI .nil))), .cells 138 true (.cons kI (.cons kI (.cons kI .nil))), .cells 130 true (.cons kS (.cons kS (.cons .nill .nil))), .cells 130 true (.cons kS (.cons kS (.cons (.own .str 0 true) .nil)))], [⟨⟨0, .str, 9, true, true⟩, false⟩], []⟩)]⟩), ([8], ⟨some ⟨(anyN 5 (.cons (.ptr 0 0) (anyN 10 (.cons (.own .str 0 true) (.cons kI (.cons yI (anyN 13 .nil))))))), [.cells 130 true (.cons kS (.cons kS (.cons (.own .str 0 true) .nil)))], [⟨⟨1, .str, 9, true, true⟩, false⟩], [0]⟩, [(.exit 0, ⟨(anyN 5 (.cons (.ptr 0 0) (anyN 26 .nil))), [.cells 130 true (.cons kS (.cons kS (.cons (.own .str 0 true) .nil)))], [⟨⟨1, .str, 9, true, true⟩, false⟩], [0]⟩)]⟩)]
@[reducible] def fs_data_Low : List (Nat × SFn) := [(104, .pure [.str, tI] [.str, tI, tI] (fun x => F_comp_Read x.1 x.2)), (47, .pure [.str] [.str] (fun x => F_name_Low x)), (80, .pure [tI, .str] [.bool] (fun x => F_data_Check x.1 x.2)), (92, .pure [(.agg (.cons .str (.cons .str (.list .str))))] [.str] (fun x => F_data_parts_whole x))]
def cfg_data_Low : SCfg := SCfg.of (fs_data_Low ++ inlL) ann_data_Low keepL
theorem eq_data_Low (x : HL [tI, .str]) : fnK cfg_data_Low Try.prog 100000 81 [tI, .str] [.str] x = (fun x => F_data_Low x.1 x.2) x := by kernel_rfl
theorem told_data_Low : Told CC Try.prog 81 [tI, .str] [.str] (fun x => F_data_Low x.1 x.2) := told_of (gok (an := ann_data_Low) (fs := fs_data_Low) ⟨told_comp_Read, told_name_Low, told_data_Check, told_data_parts_whole, trivial⟩) rfl rfl eq_data_Low
def step_group_Check_0 (s_1 : List UInt8 × Int × Int × List (List UInt8) × Int) : Int → Option (Int ⊕ (Bool ⊕ Unit)) := fun s41_9 =>
 if decide (s41_9 < (↑(List.length s_1.2.2.2.1) : Int)) = true then
  natOf s41_9 fun n10 =>
  bnd (s_1.2.2.2.1[n10]?) fun x11 =>
  bnd (F_data_Check s_1.2.1 x11) fun v12 =>
  if (!v12) = false then
   bnd (F_data_Low s_1.2.1 x11) fun v13 =>
   if (!v13 == x11) = false then
    natOf s41_9 fun n14 =>
    grd (n14 ≤ List.length s_1.2.2.2.1) <|
    bnd (F_slices_Contains_string (List.take n14 s_1.2.2.2.1) x11) fun v15 =>
    if v15 = true then
     g5 s_1 <| gq s_1.1 <| gq s_1.2.1 <| gq s_1.2.2.1 <|
     some (.inr (.inl false))
    else
     gq s_1.2.2.2.1 <|
     grdEq ((↑(List.length s_1.2.2.2.1) : Int)) ((↑(List.length s_1.2.2.2.1) : Int)) <|
     g5 s_1 <| gq s_1.1 <| gq s_1.2.1 <| gq s_1.2.2.1 <|
     some (.inl (IntKind.i64.wrap (s41_9 + 1)))
   else
    g5 s_1 <| gq s_1.1 <| gq s_1.2.1 <| gq s_1.2.2.1 <|
    some (.inr (.inl false))
  else
   g5 s_1 <| gq s_1.1 <| gq s_1.2.1 <| gq s_1.2.2.1 <|
   some (.inr (.inl false))
 else
  g5 s_1 <| gq s_1.1 <| gq s_1.2.1 <| gq s_1.2.2.1 <|
  some (.inr (.inr (())))
def F_group_Check (s_1 : (List UInt8 × (Int × (Int × (List (List UInt8) × Int))))) : Option (Bool) :=
 bnd (α := (Bool ⊕ Unit)) (bnd (F_name_Check s_1.1) fun v2 =>
  if (!v2) = false then
   bnd (F_name_Low s_1.1) fun v3 =>
   if (!v3 == s_1.1) = false then
    bnd (F_group_in s_1.2.1 65535) fun v4 =>
    if (!v4) = false then
     bnd (F_group_in s_1.2.2.1 65535) fun v5 =>
     if (!v5) = false then
      bnd (F_group_in s_1.2.2.2.2 2147483647) fun v6 =>
      if (!v6) = true then
       g5 s_1 <| gq s_1.1 <| gq s_1.2.1 <| gq s_1.2.2.1 <|
       some (.inl false)
      else
       g5 s_1 <| gq s_1.1 <| gq s_1.2.1 <| gq s_1.2.2.1 <|
       some (.inr (()))
     else
      g5 s_1 <| gq s_1.1 <| gq s_1.2.1 <| gq s_1.2.2.1 <|
      some (.inl false)
    else
     g5 s_1 <| gq s_1.1 <| gq s_1.2.1 <| gq s_1.2.2.1 <|
     some (.inl false)
   else
    g5 s_1 <| gq s_1.1 <| gq s_1.2.1 <| gq s_1.2.2.1 <|
    some (.inl false)
  else
   g5 s_1 <| gq s_1.1 <| gq s_1.2.1 <| gq s_1.2.2.1 <|
   some (.inl false)) fun o7 =>
 match o7 with
 | .inl s2_8 =>
  some s2_8
 | .inr _ =>
  bnd (loopS (step_group_Check_0 s_1) 0) fun o16 =>
  match o16 with
  | .inl s2_17 =>
   some s2_17
  | .inr _ =>
   some (decide (0 < (↑(List.length s_1.2.2.2.1) : Int)))
def ann_group_Check : List (List Nat × Ann) := [([4], ⟨none, [(.ret, ⟨(anyN 2 (.cons (.ty .bool) (anyN 69 .nil))), [.cells 27 true (.cons kS (.cons kI (.cons kI (.cons (.keep (.list .str)) (.cons kI .nil))))), .cells 23 true (.cons kS (.cons kI (.cons kI .nil)))], [], []⟩), (.normal, ⟨(anyN 1 (.cons (.ptr 0 0) (anyN 1 (.cons (.ptr 1 0) (anyN 68 .nil))))), [.cells 27 true (.cons kS (.cons kI (.cons kI (.cons (.keep (.list .str)) (.cons kI .nil))))), .cells 23 true (.cons kS (.cons kI (.cons kI .nil)))], [], []⟩)]⟩), ([16], ⟨some ⟨(anyN 1 (.cons (.ptr 0 0) (anyN 1 (.cons (.ptr 1 0) (anyN 35 (.cons (.keep (.list .str)) (.cons kI (.cons yI (anyN 30 .nil))))))))), [.cells 27 true (.cons kS (.cons kI (.cons kI (.cons (.keep (.list .str)) (.cons kI .nil))))), .cells 23 true (.cons kS (.cons kI (.cons kI .nil)))], [], []⟩, [(.ret, ⟨(anyN 2 (.cons (.ty .bool) (anyN 69 .nil))), [.cells 27 true (.cons kS (.cons kI (.cons kI (.cons (.keep (.list .str)) (.cons kI .nil))))), .cells 23 true (.cons kS (.cons kI (.cons kI .nil)))], [], []⟩), (.exit 0, ⟨(anyN 1 (.cons (.ptr 0 0) (anyN 70 .nil))), [.cells 27 true (.cons kS (.cons kI (.cons kI (.cons (.keep (.list .str)) (.cons kI .nil))))), .cells 23 true (.cons kS (.cons kI (.cons kI .nil)))], [], []⟩)]⟩)]
@[reducible] def fs_group_Check : List (Nat × SFn) := [(80, .pure [tI, .str] [.bool] (fun x => F_data_Check x.1 x.2)), (81, .pure [tI, .str] [.str] (fun x => F_data_Low x.1 x.2)), (82, .pure [(.list .str), .str] [.bool] (fun x => F_slices_Contains_string x.1 x.2)), (46, .pure [.str] [.bool] (fun x => F_name_Check x)), (47, .pure [.str] [.str] (fun x => F_name_Low x)), (68, .pure [tI, tI] [.bool] (fun x => F_group_in x.1 x.2))]
def cfg_group_Check : SCfg := SCfg.of (fs_group_Check ++ inlL) ann_group_Check keepL
theorem eq_group_Check (x : HL [(.agg (.cons .str (.cons tI (.cons tI (.cons (.list .str) tI)))))]) : fnK cfg_group_Check Try.prog 100000 67 [(.agg (.cons .str (.cons tI (.cons tI (.cons (.list .str) tI)))))] [.bool] x = (fun x => F_group_Check x) x := by kernel_rfl
theorem told_group_Check : Told CC Try.prog 67 [(.agg (.cons .str (.cons tI (.cons tI (.cons (.list .str) tI)))))] [.bool] (fun x => F_group_Check x) := told_of (gok (an := ann_group_Check) (fs := fs_group_Check) ⟨told_data_Check, told_data_Low, told_slices_Contains_string, told_name_Check, told_name_Low, told_group_in, trivial⟩) rfl rfl eq_group_Check
end
end Go.Abs

set_option maxRecDepth 100000
namespace Go.Abs
open Go Go.Proofs
noncomputable section
def step_group_Flat_0 (s_1 : List UInt8 × Int × Int × List (List UInt8) × Int) (ttl_2 : Int) (slices_9 : List (List UInt8)) : (List ((List UInt8 × (Int × (Int × (Int × List UInt8))))) × (List (List UInt8) × Int)) → Option ((List ((List UInt8 × (Int × (Int × (Int × List UInt8))))) × (List (List UInt8) × Int)) ⊕ List ((List UInt8 × (Int × (Int × (Int × List UInt8)))))) := fun (l_10, s37_11, s39_12) =>
 if decide (s39_12 < (↑slices_9.length : Int)) = true then
  natOf s39_12 fun n13 =>
  bnd (s37_11[n13]?) fun x14 =>
  grd ((l_10.length + [(s_1.1, s_1.2.1, s_1.2.2.1, ttl_2, x14)].length) * 56 ≤ roomLim) <|
  gq ttl_2 <|
  grdEq ((↑slices_9.length : Int)) ((↑slices_9.length : Int)) <|
  g5 s_1 <|
  some (.inl ((l_10 ++ [(s_1.1, s_1.2.1, s_1.2.2.1, ttl_2, x14)], (s37_11, IntKind.i64.wrap (s39_12 + 1)))))
 else
  g5 s_1 <|
  some (.inr l_10)
def F_group_Flat (s_1 : (List UInt8 × (Int × (Int × (List (List UInt8) × Int))))) (ttl_2 : Int) (turn_3 : Int) : Option (List ((List UInt8 × (Int × (Int × (Int × List UInt8)))))) :=
 bnd (α := (Unit ⊕ Unit)) (bnd (F_group_Check (s_1.1, s_1.2.1, s_1.2.2.1, s_1.2.2.2.1, s_1.2.2.2.2)) fun v4 =>
  if (!v4) = false then
   bnd (F_group_in ttl_2 2147483647) fun v5 =>
   if (!v5) = false then
    if decide (turn_3 < 0) = true then
     g5 s_1 <|
     some (.inl (()))
    else
     gq ttl_2 <| gq turn_3 <| g5 s_1 <|
     some (.inr (()))
   else
    g5 s_1 <|
    some (.inl (()))
  else
   g5 s_1 <|
   some (.inl (()))) fun o6 =>
 match o6 with
 | .inl _ =>
  some ([])
 | .inr _ =>
  if (↑(List.length s_1.2.2.2.1) : Int) = 0 then
   none
  else
   natOf (turn_3.tmod (↑(List.length s_1.2.2.2.1) : Int)) fun n7 =>
   grd (n7 ≤ List.length s_1.2.2.2.1) <|
   natOf (turn_3.tmod (↑(List.length s_1.2.2.2.1) : Int)) fun n8 =>
   grd (n8 ≤ List.length s_1.2.2.2.1) <|
   bnd (α := List (List UInt8)) (if decide (IntKind.i64.wrap (0 + (↑(List.drop n7 s_1.2.2.2.1).length : Int)) < 0) = true then
     none
    else
     if decide (IntKind.i64.wrap (IntKind.i64.wrap (0 + (↑(List.drop n7 s_1.2.2.2.1).length : Int)) + (↑(List.take n8 s_1.2.2.2.1).length : Int)) < 0) = true then
      none
     else
      bnd (α := Unit) (if decide (IntKind.i64.wrap (IntKind.i64.wrap (0 + (↑(List.drop n7 s_1.2.2.2.1).length : Int)) + (↑(List.take n8 s_1.2.2.2.1).length : Int)) < 0) = true then
        none
       else
        grdEq (IntKind.i64.wrap (IntKind.i64.wrap (0 + (↑(List.drop n7 s_1.2.2.2.1).length : Int)) + (↑(List.take n8 s_1.2.2.2.1).length : Int))) (IntKind.i64.wrap (IntKind.i64.wrap (0 + (↑(List.drop n7 s_1.2.2.2.1).length : Int)) + (↑(List.take n8 s_1.2.2.2.1).length : Int))) <|
        g5 s_1 <|
        some (())) fun _ =>
      if decide (0 < IntKind.i64.wrap (IntKind.i64.wrap (IntKind.i64.wrap (0 + (↑(List.drop n7 s_1.2.2.2.1).length : Int)) + (↑(List.take n8 s_1.2.2.2.1).length : Int)) - 0)) = true then
       grd (0 ≤ IntKind.i64.wrap (IntKind.i64.wrap (IntKind.i64.wrap (0 + (↑(List.drop n7 s_1.2.2.2.1).length : Int)) + (↑(List.take n8 s_1.2.2.2.1).length : Int)) - 0) ∧ IntKind.i64.wrap (IntKind.i64.wrap (IntKind.i64.wrap (0 + (↑(List.drop n7 s_1.2.2.2.1).length : Int)) + (↑(List.take n8 s_1.2.2.2.1).length : Int)) - 0) ≤ 9223372036854775807 ∧ IntKind.i64.wrap (IntKind.i64.wrap (IntKind.i64.wrap (0 + (↑(List.drop n7 s_1.2.2.2.1).length : Int)) + (↑(List.take n8 s_1.2.2.2.1).length : Int)) - 0) * 16 ≤ 281474976710656) <|
       grd ((List.replicate (IntKind.i64.wrap (IntKind.i64.wrap (IntKind.i64.wrap (0 + (↑(List.drop n7 s_1.2.2.2.1).length : Int)) + (↑(List.take n8 s_1.2.2.2.1).length : Int)) - 0)).toNat ([] : List UInt8)).length * 16 ≤ roomLim) <|
       grd (0 ≤ (List.replicate (IntKind.i64.wrap (IntKind.i64.wrap (IntKind.i64.wrap (0 + (↑(List.drop n7 s_1.2.2.2.1).length : Int)) + (↑(List.take n8 s_1.2.2.2.1).length : Int)) - 0)).toNat ([] : List UInt8)).length) <|
       grd (((List.take 0 (List.replicate (IntKind.i64.wrap (IntKind.i64.wrap (IntKind.i64.wrap (0 + (↑(List.drop n7 s_1.2.2.2.1).length : Int)) + (↑(List.take n8 s_1.2.2.2.1).length : Int)) - 0)).toNat ([] : List UInt8))).length + (List.drop n7 s_1.2.2.2.1).length) * 16 ≤ roomLim) <|
       grd (((List.take 0 (List.replicate (IntKind.i64.wrap (IntKind.i64.wrap (IntKind.i64.wrap (0 + (↑(List.drop n7 s_1.2.2.2.1).length : Int)) + (↑(List.take n8 s_1.2.2.2.1).length : Int)) - 0)).toNat ([] : List UInt8)) ++ List.drop n7 s_1.2.2.2.1).length + (List.take n8 s_1.2.2.2.1).length) * 16 ≤ roomLim) <|
       g5 s_1 <|
       some (List.take 0 (List.replicate (IntKind.i64.wrap (IntKind.i64.wrap (IntKind.i64.wrap (0 + (↑(List.drop n7 s_1.2.2.2.1).length : Int)) + (↑(List.take n8 s_1.2.2.2.1).length : Int)) - 0)).toNat ([] : List UInt8)) ++ List.drop n7 s_1.2.2.2.1 ++ List.take n8 s_1.2.2.2.1)
      else
       grd ((List.drop n7 s_1.2.2.2.1).length * 16 ≤ roomLim) <|
       grd (((List.drop n7 s_1.2.2.2.1).length + (List.take n8 s_1.2.2.2.1).length) * 16 ≤ roomLim) <|
       g5 s_1 <|
       some (List.drop n7 s_1.2.2.2.1 ++ List.take n8 s_1.2.2.2.1)) fun slices_9 =>
   bnd (loopS (step_group_Flat_0 s_1 ttl_2 slices_9) (([], (slices_9, 0)))) fun l_15 =>
   some l_15
def ann_group_Flat : List (List Nat × Ann) := [([2], ⟨none, [(.ret, ⟨(anyN 6 (.cons .nill (anyN 53 .nil))), [.cells 27 true (.cons kS (.cons kI (.cons kI (.cons (.keep (.list .str)) (.cons kI .nil)))))], [], []⟩), (.normal, ⟨(anyN 1 (.cons kI (.cons kI (.cons (.ptr 0 0) (anyN 56 .nil))))), [.cells 27 true (.cons kS (.cons kI (.cons kI (.cons (.keep (.list .str)) (.cons kI .nil)))))], [], []⟩)]⟩), ([2000000, 69, 9, 16], ⟨none, [(.ret, ⟨(.cons (.own .str 0 true) .nil), [.cells 27 true (.cons kS (.cons kI (.cons kI (.cons (.keep (.list .str)) (.cons kI .nil)))))], [⟨⟨3, .str, 9, true, true⟩, true⟩], [0]⟩)]⟩), ([2, 83, 1, 28, 69, 9, 16], ⟨none, [(.normal, ⟨(.cons .nill (.cons kI (anyN 25 .nil))), [.cells 27 true (.cons kS (.cons kI (.cons kI (.cons (.keep (.list .str)) (.cons kI .nil)))))], [], []⟩)]⟩), ([8, 69, 9, 16], ⟨none, []⟩), ([33, 69, 9, 16], ⟨none, []⟩), ([8, 1000000, 69, 9, 16], ⟨none, []⟩), ([8, 1000000, 1000000, 69, 9, 16], ⟨none, []⟩), ([8, 1000000, 1000000, 1000000, 69, 9, 16], ⟨none, []⟩), ([8, 1000000, 1000000, 1000000, 1000000, 69, 9, 16], ⟨none, []⟩), ([33, 1000000, 69, 9, 16], ⟨none, []⟩), ([33, 1000000, 1000000, 69, 9, 16], ⟨none, []⟩), ([33, 1000000, 1000000, 1000000, 69, 9, 16], ⟨none, []⟩), ([33, 1000000, 1000000, 1000000, 1000000, 69, 9, 16], ⟨none, []⟩), ([18], ⟨some ⟨(anyN 1 (.cons kI (anyN 1 (.cons (.ptr 0 0) (anyN 4 (.cons (.own tRR 1 true) (anyN 28 (.cons (.own .str 0 true) (.cons kI (.cons yI (anyN 20 .nil))))))))))), [.cells 27 true (.cons kS (.cons kI (.cons kI (.cons (.keep (.list .str)) (.cons kI .nil)))))], [⟨⟨4, .str, 9, true, true⟩, true⟩, ⟨⟨0, tRR, 65, true, true⟩, true⟩], []⟩, [(.exit 0, ⟨(anyN 8 (.cons (.own tRR 1 true) (anyN 51 .nil))), [.cells 27 true (.cons kS (.cons kI (.cons kI (.cons (.keep (.list .str)) (.cons kI .nil)))))], [⟨⟨4, .str, 9, true, true⟩, false⟩, ⟨⟨1, tRR, 65, true, true⟩, true⟩], []⟩)]⟩)]
@[reducible] def fs_group_Flat : List (Nat × SFn) := [(67, .pure [(.agg (.cons .str (.cons tI (.cons tI (.cons (.list .str) tI)))))] [.bool] (fun x => F_group_Check x)), (68, .pure [tI, tI] [.bool] (fun x => F_group_in x.1 x.2))]
def cfg_group_Flat : SCfg := SCfg.of (fs_group_Flat ++ inlL) ann_group_Flat keepL
theorem eq_group_Flat (x : HL [(.agg (.cons .str (.cons tI (.cons tI (.cons (.list .str) tI))))), tI, tI]) : fnK cfg_group_Flat Try.prog 100000 48 [(.agg (.cons .str (.cons tI (.cons tI (.cons (.list .str) tI))))), tI, tI] [(.list tRR)] x = (fun x => F_group_Flat x.1 x.2.1 x.2.2) x := by kernel_rfl
theorem told_group_Flat : Told CC Try.prog 48 [(.agg (.cons .str (.cons tI (.cons tI (.cons (.list .str) tI))))), tI, tI] [(.list tRR)] (fun x => F_group_Flat x.1 x.2.1 x.2.2) := told_of (gok (an := ann_group_Flat) (fs := fs_group_Flat) ⟨told_group_Check, told_group_in, trivial⟩) rfl rfl eq_group_Flat
end
end Go.Abs

set_option maxRecDepth 100000
namespace Go.Abs
open Go Go.Proofs
noncomputable section
def step_tmpl_Make_1 (now_1 : Int) (q_2 : List UInt8 × Int × Int) (c_3 : List (List UInt8 × Int × Int × List (List UInt8) × Int × Int) × Int × List UInt8 × List UInt8 × Int × Int × List (List UInt8) × Int × Int) (b3d_6 : Int) (x15 : (Ty.str.cons (tI.cons (tI.cons (Ty.str.list.cons (tI.cons tI))))).agg.den) (v16 : List (List UInt8 × Int × Int × Int × List UInt8)) : (Int × (List UInt8 × (List ((List ((Int × (Int × Int))) × (Int × Bool))) × List ((Int × (Int × Int)))))) → Option ((Int × (List UInt8 × (List ((List ((Int × (Int × Int))) × (Int × Bool))) × List ((Int × (Int × Int)))))) ⊕ (List UInt8 × (List ((List ((Int × (Int × Int))) × (Int × Bool))) × List ((Int × (Int × Int)))))) := fun (s40_21, b3e_22, b3f_23, b6a_24) =>
 if decide (s40_21 < (↑v16.length : Int)) = true then
  natOf s40_21 fun n25 =>
  bnd (v16[n25]?) fun x26 =>
  bnd (F_record_Encode q_2.1 12 (x26.1, x26.2.1, x26.2.2.1, x26.2.2.2.1, x26.2.2.2.2)) fun v27 =>
  grd (b3e_22.length + v27.length ≤ maxStr) <|
  bnd (F_record_TTL q_2.1 12 (x26.1, x26.2.1, x26.2.2.1, x26.2.2.2.1, x26.2.2.2.2)) fun v28 =>
  grd ((b6a_24.length + [((↑b3e_22.length : Int), (↑(b3e_22 ++ v27).length : Int), IntKind.i64.wrap ((↑b3e_22.length : Int) + v28))].length) * 24 ≤ roomLim) <|
  gq v16 <|
  grdEq ((↑v16.length : Int)) ((↑v16.length : Int)) <|
  g3 q_2 <| g9 c_3 <| gq (α := List UInt8) ([]) <| gz <| gz <| gz <| gq (α := List UInt8) ([]) <| g3 q_2 <| gq b3d_6 <| g6 x15 <| g6 x15 <|
  grdEq (IntKind.i64.wrap (now_1 + x15.2.2.2.2.2)) (IntKind.i64.wrap (now_1 + x15.2.2.2.2.2)) <|
  gf <|
  some (.inl ((IntKind.i64.wrap (s40_21 + 1), (b3e_22 ++ v27, (b3f_23, b6a_24 ++ [((↑b3e_22.length : Int), (↑(b3e_22 ++ v27).length : Int), IntKind.i64.wrap ((↑b3e_22.length : Int) + v28))])))))
 else
  g3 q_2 <| g9 c_3 <| gq (α := List UInt8) ([]) <| gz <| gz <| gz <| gq (α := List UInt8) ([]) <| g3 q_2 <| gq b3d_6 <| g6 x15 <| g6 x15 <|
  grdEq (IntKind.i64.wrap (now_1 + x15.2.2.2.2.2)) (IntKind.i64.wrap (now_1 + x15.2.2.2.2.2)) <|
  gf <|
  some (.inr ((b3e_22, (b3f_23, b6a_24))))
def step_tmpl_Make_0 (now_1 : Int) (q_2 : List UInt8 × Int × Int) (c_3 : List (List UInt8 × Int × Int × List (List UInt8) × Int × Int) × Int × List UInt8 × List UInt8 × Int × Int × List (List UInt8) × Int × Int) (b3d_6 : Int) : (Int × (List UInt8 × List ((List ((Int × (Int × Int))) × (Int × Bool))))) → Option ((Int × (List UInt8 × List ((List ((Int × (Int × Int))) × (Int × Bool))))) ⊕ ((List UInt8 × List ((List ((Int × (Int × Int))) × (Int × Bool)))) ⊕ (Bool × (List UInt8 × List ((List ((Int × (Int × Int))) × (Int × Bool))))))) := fun (s34_11, b3e_12, b3f_13) =>
 if decide (s34_11 < (↑(List.length c_3.1) : Int)) = true then
  natOf s34_11 fun n14 =>
  bnd (c_3.1[n14]?) fun x15 =>
  bnd (F_group_Flat (x15.1, x15.2.1, x15.2.2.1, x15.2.2.2.1, x15.2.2.2.2.1) x15.2.2.2.2.2 0) fun v16 =>
  bnd (α := ((Bool × List ((List ((Int × (Int × Int))) × (Int × Bool)))) ⊕ List ((List ((Int × (Int × Int))) × (Int × Bool))))) (if ((↑v16.length : Int) == 0) = false then
    if decide (x15.2.2.2.2.2 < 1) = false then
     if decide (604800 < x15.2.2.2.2.2) = true then
      g3 q_2 <| g9 c_3 <| gq (α := List UInt8) ([]) <| gz <| gz <| gz <| gq (α := List UInt8) ([]) <| g3 q_2 <| gq b3d_6 <| gq b3e_12 <| g6 x15 <| g6 x15 <|
      some (.inl ((false, b3f_13)))
     else
      gq now_1 <| gf <| gq v16 <| g3 q_2 <| g9 c_3 <| gq (α := List UInt8) ([]) <| gz <| gz <| gz <| gq (α := List UInt8) ([]) <| g3 q_2 <| gq b3d_6 <| gq b3e_12 <| g6 x15 <| g6 x15 <|
      some (.inr b3f_13)
    else
     g3 q_2 <| g9 c_3 <| gq (α := List UInt8) ([]) <| gz <| gz <| gz <| gq (α := List UInt8) ([]) <| g3 q_2 <| gq b3d_6 <| gq b3e_12 <| g6 x15 <| g6 x15 <|
     some (.inl ((false, b3f_13)))
   else
    g3 q_2 <| g9 c_3 <| gq (α := List UInt8) ([]) <| gz <| gz <| gz <| gq (α := List UInt8) ([]) <| g3 q_2 <| gq b3d_6 <| gq b3e_12 <| g6 x15 <| g6 x15 <|
    some (.inl ((false, b3f_13)))) fun o17 =>
  match o17 with
  | .inl (s8_18, b3f_19) =>
   if (!s8_18) = true then
    g3 q_2 <| g9 c_3 <| gq (α := List UInt8) ([]) <| gz <| gz <| gz <| gq (α := List UInt8) ([]) <| g3 q_2 <| gq b3d_6 <|
    some (.inr (.inr ((false, (b3e_12, b3f_19)))))
   else
    gq now_1 <| gq c_3.1 <|
    grdEq ((↑(List.length c_3.1) : Int)) ((↑(List.length c_3.1) : Int)) <|
    g3 q_2 <| g9 c_3 <| gq (α := List UInt8) ([]) <| gz <| gz <| gz <| gq (α := List UInt8) ([]) <| g3 q_2 <| gq b3d_6 <|
    some (.inl ((IntKind.i64.wrap (s34_11 + 1), (b3e_12, b3f_19))))
  | .inr b3f_20 =>
   bnd (loopS (step_tmpl_Make_1 now_1 q_2 c_3 b3d_6 x15 v16) ((0, (b3e_12, (b3f_20, []))))) fun (b3e_29, b3f_30, b6a_31) =>
   grd ((b3f_30.length + [(b6a_31, IntKind.i64.wrap (now_1 + x15.2.2.2.2.2), false)].length) * 40 ≤ roomLim) <|
   gq now_1 <| gq c_3.1 <|
   grdEq ((↑(List.length c_3.1) : Int)) ((↑(List.length c_3.1) : Int)) <|
   g3 q_2 <| g9 c_3 <| gq (α := List UInt8) ([]) <| gz <| gz <| gz <| gq (α := List UInt8) ([]) <| g3 q_2 <| gq b3d_6 <|
   some (.inl ((IntKind.i64.wrap (s34_11 + 1), (b3e_29, b3f_30 ++ [(b6a_31, IntKind.i64.wrap (now_1 + x15.2.2.2.2.2), false)]))))
 else
  gq now_1 <| g3 q_2 <| g9 c_3 <| gq (α := List UInt8) ([]) <| gz <| gz <| gz <| gq (α := List UInt8) ([]) <| g3 q_2 <| gq b3d_6 <|
  some (.inr (.inl ((b3e_12, b3f_13))))
def step_tmpl_Make_2 (now_1 : Int) (q_2 : List UInt8 × Int × Int) (c_3 : List (List UInt8 × Int × Int × List (List UInt8) × Int × Int) × Int × List UInt8 × List UInt8 × Int × Int × List (List UInt8) × Int × Int) (b3d_6 : Int) (v35 : List (List UInt8 × Int × Int × Int × List UInt8)) : (Int × (List UInt8 × (List ((List ((Int × (Int × Int))) × (Int × Bool))) × List ((Int × (Int × Int)))))) → Option ((Int × (List UInt8 × (List ((List ((Int × (Int × Int))) × (Int × Bool))) × List ((Int × (Int × Int)))))) ⊕ (List UInt8 × (List ((List ((Int × (Int × Int))) × (Int × Bool))) × List ((Int × (Int × Int)))))) := fun (s40_40, b3e_41, b3f_42, b5a_43) =>
 if decide (s40_40 < (↑v35.length : Int)) = true then
  natOf s40_40 fun n44 =>
  bnd (v35[n44]?) fun x45 =>
  bnd (F_record_Encode q_2.1 12 (x45.1, x45.2.1, x45.2.2.1, x45.2.2.2.1, x45.2.2.2.2)) fun v46 =>
  grd (b3e_41.length + v46.length ≤ maxStr) <|
  bnd (F_record_TTL q_2.1 12 (x45.1, x45.2.1, x45.2.2.1, x45.2.2.2.1, x45.2.2.2.2)) fun v47 =>
  grd ((b5a_43.length + [((↑b3e_41.length : Int), (↑(b3e_41 ++ v46).length : Int), IntKind.i64.wrap ((↑b3e_41.length : Int) + v47))].length) * 24 ≤ roomLim) <|
  gq v35 <|
  grdEq ((↑v35.length : Int)) ((↑v35.length : Int)) <|
  g3 q_2 <| g9 c_3 <| gq (α := List UInt8) ([]) <| gz <| gz <| gz <| gq (α := List UInt8) ([]) <| g3 q_2 <| gq b3d_6 <| gq c_3.2.2.2.1 <| gq c_3.2.2.2.2.1 <| gq c_3.2.2.2.2.2.1 <| gq c_3.2.2.2.2.2.2.1 <| gq c_3.2.2.2.2.2.2.2.1 <| gq c_3.2.2.2.2.2.2.2.2 <|
  grdEq (IntKind.i64.wrap (now_1 + c_3.2.2.2.2.2.2.2.2)) (IntKind.i64.wrap (now_1 + c_3.2.2.2.2.2.2.2.2)) <|
  gq (α := Bool) true <|
  some (.inl ((IntKind.i64.wrap (s40_40 + 1), (b3e_41 ++ v46, (b3f_42, b5a_43 ++ [((↑b3e_41.length : Int), (↑(b3e_41 ++ v46).length : Int), IntKind.i64.wrap ((↑b3e_41.length : Int) + v47))])))))
 else
  g3 q_2 <| g9 c_3 <| gq (α := List UInt8) ([]) <| gz <| gz <| gz <| gq (α := List UInt8) ([]) <| g3 q_2 <| gq b3d_6 <| gq c_3.2.2.2.1 <| gq c_3.2.2.2.2.1 <| gq c_3.2.2.2.2.2.1 <| gq c_3.2.2.2.2.2.2.1 <| gq c_3.2.2.2.2.2.2.2.1 <| gq c_3.2.2.2.2.2.2.2.2 <|
  grdEq (IntKind.i64.wrap (now_1 + c_3.2.2.2.2.2.2.2.2)) (IntKind.i64.wrap (now_1 + c_3.2.2.2.2.2.2.2.2)) <|
  gq (α := Bool) true <|
  some (.inr ((b3e_41, (b3f_42, b5a_43))))
def F_tmpl_Make (now_1 : Int) (q_2 : (List UInt8 × (Int × Int))) (c_3 : (List ((List UInt8 × (Int × (Int × (List (List UInt8) × (Int × Int)))))) × (Int × (List UInt8 × (List UInt8 × (Int × (Int × (List (List UInt8) × (Int × Int))))))))) : Option (((List UInt8 × (Int × (Int × (Int × (List UInt8 × List ((List ((Int × (Int × Int))) × (Int × Bool)))))))) × Bool)) :=
 bnd (α := (Int ⊕ Bool)) (bnd (α := Bool) (if (c_3.2.1 == 0) = true then
    gq now_1 <| gq c_3.2.1 <| g3 q_2 <| g9 c_3 <| gq (α := List UInt8) ([]) <| gz <| gz <| gz <| gq (α := List UInt8) ([]) <| g3 q_2 <| gz <| gq (α := List UInt8) ([]) <|
    some (c_3.2.1 == 0)
   else
    gq now_1 <| gq c_3.2.1 <| g3 q_2 <| g9 c_3 <| gq (α := List UInt8) ([]) <| gz <| gz <| gz <| gq (α := List UInt8) ([]) <| g3 q_2 <| gz <| gq (α := List UInt8) ([]) <|
    some (c_3.2.1 == 1)) fun s16_4 =>
  if s16_4 = true then
   gq now_1 <| g3 q_2 <| g9 c_3 <| gq (α := List UInt8) ([]) <| gz <| gz <| gz <| gq (α := List UInt8) ([]) <| g3 q_2 <| gq (α := List UInt8) ([]) <|
   some (.inl 0)
  else
   if (c_3.2.1 == 2) = true then
    gq now_1 <| g3 q_2 <| g9 c_3 <| gq (α := List UInt8) ([]) <| gz <| gz <| gz <| gq (α := List UInt8) ([]) <| g3 q_2 <| gq (α := List UInt8) ([]) <|
    some (.inl 3)
   else
    g3 q_2 <| g9 c_3 <| gq (α := List UInt8) ([]) <| gz <| gz <| gz <| gq (α := List UInt8) ([]) <| g3 q_2 <| gz <| gq (α := List UInt8) ([]) <|
    some (.inr false)) fun o5 =>
 match o5 with
 | .inl b3d_6 =>
  bnd (α := (Bool ⊕ Unit)) (bnd (F_tmpl_in now_1 1099511627776) fun v7 =>
   if (!v7) = false then
    bnd (F_tmpl_asked (q_2.1, q_2.2.1, q_2.2.2)) fun v8 =>
    if (!v8) = true then
     g3 q_2 <| g9 c_3 <| gq (α := List UInt8) ([]) <| gz <| gz <| gz <| gq (α := List UInt8) ([]) <| g3 q_2 <| gq b3d_6 <| gq (α := List UInt8) ([]) <|
     some (.inl false)
    else
     gq now_1 <| g3 q_2 <| g9 c_3 <| gq (α := List UInt8) ([]) <| gz <| gz <| gz <| gq (α := List UInt8) ([]) <| g3 q_2 <| gq b3d_6 <| gq (α := List UInt8) ([]) <|
     some (.inr (()))
   else
    g3 q_2 <| g9 c_3 <| gq (α := List UInt8) ([]) <| gz <| gz <| gz <| gq (α := List UInt8) ([]) <| g3 q_2 <| gq b3d_6 <| gq (α := List UInt8) ([]) <|
    some (.inl false)) fun o9 =>
  match o9 with
  | .inl s7_10 =>
   some ((([], (0, (0, (0, ([], []))))), s7_10))
  | .inr _ =>
   bnd (loopS (step_tmpl_Make_0 now_1 q_2 c_3 b3d_6) ((0, ([], [])))) fun o32 =>
   match o32 with
   | .inl (b3e_33, b3f_34) =>
    if (c_3.2.1 != 0) = true then
     bnd (F_group_Flat (c_3.2.2.2.1, c_3.2.2.2.2.1, c_3.2.2.2.2.2.1, c_3.2.2.2.2.2.2.1, c_3.2.2.2.2.2.2.2.1) c_3.2.2.2.2.2.2.2.2 0) fun v35 =>
     bnd (α := ((Bool × List ((List ((Int × (Int × Int))) × (Int × Bool)))) ⊕ List ((List ((Int × (Int × Int))) × (Int × Bool))))) (if ((↑v35.length : Int) == 0) = false then
       if decide (c_3.2.2.2.2.2.2.2.2 < 1) = false then
        if decide (604800 < c_3.2.2.2.2.2.2.2.2) = true then
         g3 q_2 <| g9 c_3 <| gq (α := List UInt8) ([]) <| gz <| gz <| gz <| gq (α := List UInt8) ([]) <| g3 q_2 <| gq b3d_6 <| gq b3e_33 <| gq c_3.2.2.2.1 <| gq c_3.2.2.2.2.1 <| gq c_3.2.2.2.2.2.1 <| gq c_3.2.2.2.2.2.2.1 <| gq c_3.2.2.2.2.2.2.2.1 <| gq c_3.2.2.2.2.2.2.2.2 <|
         some (.inl ((false, b3f_34)))
        else
         gq now_1 <| gq (α := Bool) true <| gq v35 <| g3 q_2 <| g9 c_3 <| gq (α := List UInt8) ([]) <| gz <| gz <| gz <| gq (α := List UInt8) ([]) <| g3 q_2 <| gq b3d_6 <| gq b3e_33 <| gq c_3.2.2.2.1 <| gq c_3.2.2.2.2.1 <| gq c_3.2.2.2.2.2.1 <| gq c_3.2.2.2.2.2.2.1 <| gq c_3.2.2.2.2.2.2.2.1 <| gq c_3.2.2.2.2.2.2.2.2 <|
         some (.inr b3f_34)
       else
        g3 q_2 <| g9 c_3 <| gq (α := List UInt8) ([]) <| gz <| gz <| gz <| gq (α := List UInt8) ([]) <| g3 q_2 <| gq b3d_6 <| gq b3e_33 <| gq c_3.2.2.2.1 <| gq c_3.2.2.2.2.1 <| gq c_3.2.2.2.2.2.1 <| gq c_3.2.2.2.2.2.2.1 <| gq c_3.2.2.2.2.2.2.2.1 <| gq c_3.2.2.2.2.2.2.2.2 <|
        some (.inl ((false, b3f_34)))
      else
       g3 q_2 <| g9 c_3 <| gq (α := List UInt8) ([]) <| gz <| gz <| gz <| gq (α := List UInt8) ([]) <| g3 q_2 <| gq b3d_6 <| gq b3e_33 <| gq c_3.2.2.2.1 <| gq c_3.2.2.2.2.1 <| gq c_3.2.2.2.2.2.1 <| gq c_3.2.2.2.2.2.2.1 <| gq c_3.2.2.2.2.2.2.2.1 <| gq c_3.2.2.2.2.2.2.2.2 <|
       some (.inl ((false, b3f_34)))) fun o36 =>
     match o36 with
     | .inl (s8_37, b3f_38) =>
      if (!s8_37) = true then
       some ((([], (0, (0, (0, ([], []))))), false))
      else
       some (((q_2.1, (q_2.2.1, (q_2.2.2, (b3d_6, (b3e_33, b3f_38))))), true))
     | .inr b3f_39 =>
      bnd (loopS (step_tmpl_Make_2 now_1 q_2 c_3 b3d_6 v35) ((0, (b3e_33, (b3f_39, []))))) fun (b3e_48, b3f_49, b5a_50) =>
      grd ((b3f_49.length + [(b5a_50, IntKind.i64.wrap (now_1 + c_3.2.2.2.2.2.2.2.2), true)].length) * 40 ≤ roomLim) <|
      some (((q_2.1, (q_2.2.1, (q_2.2.2, (b3d_6, (b3e_48, b3f_49 ++ [(b5a_50, IntKind.i64.wrap (now_1 + c_3.2.2.2.2.2.2.2.2), true)]))))), true))
    else
     some (((q_2.1, (q_2.2.1, (q_2.2.2, (b3d_6, (b3e_33, b3f_34))))), true))
   | .inr (s7_51, b3e_52, b3f_53) =>
    some ((([], (0, (0, (0, ([], []))))), s7_51))
 | .inr s7_54 =>
  some ((([], (0, (0, (0, ([], []))))), s7_54))
def ann_tmpl_Make : List (List Nat × Ann) := [([4], ⟨none, [(.normal, ⟨(.cons kI (anyN 3 (.cons (.ptr 0 0) (.cons (.ptr 1 0) (.cons (.ptr 2 0) (anyN 1 (.cons (.ptr 3 0) (anyN 47 .nil)))))))), [.cells 23 true (.cons kS (.cons kI (.cons kI .nil))), .cells 42 true (.cons (.keep (.list (.agg (.cons .str (.cons tI (.cons tI (.cons (.list .str) (.cons tI tI)))))))) (.cons kI (.cons kS (.cons kS (.cons kI (.cons kI (.cons (.keep (.list .str)) (.cons kI (.cons kI .nil))))))))), .cells 36 true (.cons kS (.cons kI (.cons kI (.cons kI (.cons kS (.cons .nill .nil)))))), .cells 36 true (.cons kS (.cons kI (.cons kI (.cons yI (.cons kS (.cons .nill .nil))))))], [], []⟩), (.ret, ⟨(anyN 6 (.cons (.ptr 2 0) (.cons (.ty .bool) (anyN 48 .nil)))), [.cells 23 true (.cons kS (.cons kI (.cons kI .nil))), .cells 42 true (.cons (.keep (.list (.agg (.cons .str (.cons tI (.cons tI (.cons (.list .str) (.cons tI tI)))))))) (.cons kI (.cons kS (.cons kS (.cons kI (.cons kI (.cons (.keep (.list .str)) (.cons kI (.cons kI .nil))))))))), .cells 36 true (.cons kS (.cons kI (.cons kI (.cons kI (.cons kS (.cons .nill .nil)))))), .cells 36 true (.cons kS (.cons kI (.cons kI (.cons kI (.cons kS (.cons .nill .nil))))))], [], []⟩)]⟩), ([8], ⟨none, [(.normal, ⟨(.cons kI (anyN 3 (.cons (.ptr 0 0) (.cons (.ptr 1 0) (.cons (.ptr 2 0) (anyN 1 (.cons (.ptr 3 0) (anyN 5 (.cons kI (anyN 1 (.cons (.ty .bool) (anyN 39 .nil)))))))))))), [.cells 23 true (.cons kS (.cons kI (.cons kI .nil))), .cells 42 true (.cons (.keep (.list (.agg (.cons .str (.cons tI (.cons tI (.cons (.list .str) (.cons tI tI)))))))) (.cons kI (.cons kS (.cons kS (.cons kI (.cons kI (.cons (.keep (.list .str)) (.cons kI (.cons kI .nil))))))))), .cells 36 true (.cons kS (.cons kI (.cons kI (.cons kI (.cons kS (.cons .nill .nil)))))), .cells 36 true (.cons kS (.cons kI (.cons kI (.cons kI (.cons kS (.cons .nill .nil))))))], [], []⟩)]⟩), ([23], ⟨none, [(.ret, ⟨(anyN 6 (.cons (.ptr 2 0) (.cons (.ty .bool) (anyN 48 .nil)))), [.cells 23 true (.cons kS (.cons kI (.cons kI .nil))), .cells 42 true (.cons (.keep (.list (.agg (.cons .str (.cons tI (.cons tI (.cons (.list .str) (.cons tI tI)))))))) (.cons kI (.cons kS (.cons kS (.cons kI (.cons kI (.cons (.keep (.list .str)) (.cons kI (.cons kI .nil))))))))), .cells 36 true (.cons kS (.cons kI (.cons kI (.cons kI (.cons kS (.cons .nill .nil)))))), .cells 36 true (.cons kS (.cons kI (.cons kI (.cons kI (.cons kS (.cons .nill .nil))))))], [], []⟩), (.normal, ⟨(.cons kI (anyN 4 (.cons (.ptr 1 0) (.cons (.ptr 2 0) (anyN 1 (.cons (.ptr 3 0) (anyN 47 .nil))))))), [.cells 23 true (.cons kS (.cons kI (.cons kI .nil))), .cells 42 true (.cons (.keep (.list (.agg (.cons .str (.cons tI (.cons tI (.cons (.list .str) (.cons tI tI)))))))) (.cons kI (.cons kS (.cons kS (.cons kI (.cons kI (.cons (.keep (.list .str)) (.cons kI (.cons kI .nil))))))))), .cells 36 true (.cons kS (.cons kI (.cons kI (.cons kI (.cons kS (.cons .nill .nil)))))), .cells 36 true (.cons kS (.cons kI (.cons kI (.cons kI (.cons kS (.cons .nill .nil))))))], [], []⟩)]⟩), ([4, 29, 2, 47], ⟨none, [(.ret, ⟨(anyN 8 (.cons (.ty .bool) (anyN 86 .nil))), [.cells 23 true (.cons kS (.cons kI (.cons kI .nil))), .cells 42 true (.cons (.keep (.list (.agg (.cons .str (.cons tI (.cons tI (.cons (.list .str) (.cons tI tI)))))))) (.cons kI (.cons kS (.cons kS (.cons kI (.cons kI (.cons (.keep (.list .str)) (.cons kI (.cons kI .nil))))))))), .cells 36 true (.cons kS (.cons kI (.cons kI (.cons kI (.cons kS (.cons .nill .nil)))))), .cells 36 true (.cons kS (.cons kI (.cons kI (.cons kI (.cons kS (.cons (.own (.agg (.cons (.list (.agg (.cons tI (.cons tI tI)))) (.cons tI .bool))) 0 true) .nil)))))), .cells 40 true (.cons kS (.cons kI (.cons kI (.cons (.keep (.list .str)) (.cons kI (.cons kI .nil)))))), .cells 40 true (.cons kS (.cons kI (.cons kI (.cons (.keep (.list .str)) (.cons kI (.cons kI .nil))))))], [⟨⟨0, (.agg (.cons (.list (.agg (.cons tI (.cons tI tI)))) (.cons tI .bool))), 69, true, true⟩, false⟩], []⟩), (.normal, ⟨(.cons (.ptr 3 0) (.cons kI (anyN 1 (.cons kB (anyN 2 (.cons (.ptr 5 0) (anyN 2 (.cons (.keep (.list tRR)) (anyN 85 .nil))))))))), [.cells 23 true (.cons kS (.cons kI (.cons kI .nil))), .cells 42 true (.cons (.keep (.list (.agg (.cons .str (.cons tI (.cons tI (.cons (.list .str) (.cons tI tI)))))))) (.cons kI (.cons kS (.cons kS (.cons kI (.cons kI (.cons (.keep (.list .str)) (.cons kI (.cons kI .nil))))))))), .cells 36 true (.cons kS (.cons kI (.cons kI (.cons kI (.cons kS (.cons .nill .nil)))))), .cells 36 true (.cons kS (.cons kI (.cons kI (.cons kI (.cons kS (.cons (.own (.agg (.cons (.list (.agg (.cons tI (.cons tI tI)))) (.cons tI .bool))) 0 true) .nil)))))), .cells 40 true (.cons kS (.cons kI (.cons kI (.cons (.keep (.list .str)) (.cons kI (.cons kI .nil)))))), .cells 40 true (.cons kS (.cons kI (.cons kI (.cons (.keep (.list .str)) (.cons kI (.cons kI .nil))))))], [⟨⟨0, (.agg (.cons (.list (.agg (.cons tI (.cons tI tI)))) (.cons tI .bool))), 69, true, true⟩, false⟩], []⟩)]⟩), ([4, 29, 7, 56], ⟨none, [(.ret, ⟨(anyN 8 (.cons (.ty .bool) (anyN 86 .nil))), [.cells 23 true (.cons kS (.cons kI (.cons kI .nil))), .cells 42 true (.cons (.keep (.list (.agg (.cons .str (.cons tI (.cons tI (.cons (.list .str) (.cons tI tI)))))))) (.cons kI (.cons kS (.cons kS (.cons kI (.cons kI (.cons (.keep (.list .str)) (.cons kI (.cons kI .nil))))))))), .cells 36 true (.cons kS (.cons kI (.cons kI (.cons kI (.cons kS (.cons .nill .nil)))))), .cells 36 true (.cons kS (.cons kI (.cons kI (.cons kI (.cons kS (.cons (.own (.agg (.cons (.list (.agg (.cons tI (.cons tI tI)))) (.cons tI .bool))) 0 true) .nil)))))), .cells 40 true (.cons kS (.cons kI (.cons kI (.cons (.keep (.list .str)) (.cons kI (.cons kI .nil))))))], [⟨⟨0, (.agg (.cons (.list (.agg (.cons tI (.cons tI tI)))) (.cons tI .bool))), 69, true, true⟩, false⟩], []⟩), (.normal, ⟨(.cons (.ptr 3 0) (.cons kI (anyN 1 (.cons kB (anyN 2 (.cons (.ptr 4 0) (anyN 2 (.cons (.keep (.list tRR)) (anyN 85 .nil))))))))), [.cells 23 true (.cons kS (.cons kI (.cons kI .nil))), .cells 42 true (.cons (.keep (.list (.agg (.cons .str (.cons tI (.cons tI (.cons (.list .str) (.cons tI tI)))))))) (.cons kI (.cons kS (.cons kS (.cons kI (.cons kI (.cons (.keep (.list .str)) (.cons kI (.cons kI .nil))))))))), .cells 36 true (.cons kS (.cons kI (.cons kI (.cons kI (.cons kS (.cons .nill .nil)))))), .cells 36 true (.cons kS (.cons kI (.cons kI (.cons kI (.cons kS (.cons (.own (.agg (.cons (.list (.agg (.cons tI (.cons tI tI)))) (.cons tI .bool))) 0 true) .nil)))))), .cells 40 true (.cons kS (.cons kI (.cons kI (.cons (.keep (.list .str)) (.cons kI (.cons kI .nil))))))], [⟨⟨0, (.agg (.cons (.list (.agg (.cons tI (.cons tI tI)))) (.cons tI .bool))), 69, true, true⟩, false⟩], []⟩)]⟩), ([35], ⟨some ⟨(.cons kI (anyN 4 (.cons (.ptr 1 0) (.cons (.ptr 2 0) (anyN 1 (.cons (.ptr 3 0) (anyN 23 (.cons (.keep (.list (.agg (.cons .str (.cons tI (.cons tI (.cons (.list .str) (.cons tI tI)))))))) (.cons kI (.cons yI (anyN 21 .nil))))))))))), [.cells 23 true (.cons kS (.cons kI (.cons kI .nil))), .cells 42 true (.cons (.keep (.list (.agg (.cons .str (.cons tI (.cons tI (.cons (.list .str) (.cons tI tI)))))))) (.cons kI (.cons kS (.cons kS (.cons kI (.cons kI (.cons (.keep (.list .str)) (.cons kI (.cons kI .nil))))))))), .cells 36 true (.cons kS (.cons kI (.cons kI (.cons kI (.cons kS (.cons .nill .nil)))))), .cells 36 true (.cons kS (.cons kI (.cons kI (.cons kI (.cons (.ty .str) (.cons (.own (.agg (.cons (.list (.agg (.cons tI (.cons tI tI)))) (.cons tI .bool))) 0 true) .nil))))))], [⟨⟨0, (.agg (.cons (.list (.agg (.cons tI (.cons tI tI)))) (.cons tI .bool))), 69, true, true⟩, true⟩], []⟩, [(.exit 1, ⟨(.cons kI (anyN 4 (.cons (.ptr 1 0) (.cons (.ptr 2 0) (anyN 1 (.cons (.ptr 3 0) (anyN 47 .nil))))))), [.cells 23 true (.cons kS (.cons kI (.cons kI .nil))), .cells 42 true (.cons (.keep (.list (.agg (.cons .str (.cons tI (.cons tI (.cons (.list .str) (.cons tI tI)))))))) (.cons kI (.cons kS (.cons kS (.cons kI (.cons kI (.cons (.keep (.list .str)) (.cons kI (.cons kI .nil))))))))), .cells 36 true (.cons kS (.cons kI (.cons kI (.cons kI (.cons kS (.cons .nill .nil)))))), .cells 36 true (.cons kS (.cons kI (.cons kI (.cons kI (.cons (.ty .str) (.cons (.own (.agg (.cons (.list (.agg (.cons tI (.cons tI tI)))) (.cons tI .bool))) 0 true) .nil))))))], [⟨⟨0, (.agg (.cons (.list (.agg (.cons tI (.cons tI tI)))) (.cons tI .bool))), 69, true, true⟩, false⟩], []⟩), (.ret, ⟨(anyN 6 (.cons (.ptr 2 0) (.cons (.ty .bool) (anyN 48 .nil)))), [.cells 23 true (.cons kS (.cons kI (.cons kI .nil))), .cells 42 true (.cons (.keep (.list (.agg (.cons .str (.cons tI (.cons tI (.cons (.list .str) (.cons tI tI)))))))) (.cons kI (.cons kS (.cons kS (.cons kI (.cons kI (.cons (.keep (.list .str)) (.cons kI (.cons kI .nil))))))))), .cells 36 true (.cons kS (.cons kI (.cons kI (.cons kI (.cons kS (.cons .nill .nil)))))), .cells 36 true (.cons kS (.cons kI (.cons kI (.cons kI (.cons (.ty .str) (.cons (.own (.agg (.cons (.list (.agg (.cons tI (.cons tI tI)))) (.cons tI .bool))) 0 true) .nil))))))], [⟨⟨0, (.agg (.cons (.list (.agg (.cons tI (.cons tI tI)))) (.cons tI .bool))), 69, true, true⟩, false⟩], []⟩)]⟩), ([18, 29, 2, 47], ⟨some ⟨(.cons (.ptr 3 0) (anyN 9 (.cons (.ptr 6 0) (anyN 27 (.cons (.keep (.list tRR)) (.cons kI (.cons yI (anyN 54 .nil)))))))), [.cells 23 true (.cons kS (.cons kI (.cons kI .nil))), .cells 42 true (.cons (.keep (.list (.agg (.cons .str (.cons tI (.cons tI (.cons (.list .str) (.cons tI tI)))))))) (.cons kI (.cons kS (.cons kS (.cons kI (.cons kI (.cons (.keep (.list .str)) (.cons kI (.cons kI .nil))))))))), .cells 36 true (.cons kS (.cons kI (.cons kI (.cons kI (.cons kS (.cons .nill .nil)))))), .cells 36 true (.cons kS (.cons kI (.cons kI (.cons kI (.cons (.ty .str) (.cons (.own (.agg (.cons (.list (.agg (.cons tI (.cons tI tI)))) (.cons tI .bool))) 0 true) .nil)))))), .cells 40 true (.cons kS (.cons kI (.cons kI (.cons (.keep (.list .str)) (.cons kI (.cons kI .nil)))))), .cells 40 true (.cons kS (.cons kI (.cons kI (.cons (.keep (.list .str)) (.cons kI (.cons kI .nil)))))), .cells 69 true (.cons (.own (.agg (.cons tI (.cons tI tI))) 1 true) (.cons kI (.cons kB .nil)))], [⟨⟨0, (.agg (.cons (.list (.agg (.cons tI (.cons tI tI)))) (.cons tI .bool))), 69, true, true⟩, false⟩, ⟨⟨0, (.agg (.cons tI (.cons tI tI))), 71, true, true⟩, true⟩], []⟩, [(.exit 0, ⟨(.cons (.ptr 3 0) (anyN 9 (.cons (.ptr 6 0) (anyN 84 .nil)))), [.cells 23 true (.cons kS (.cons kI (.cons kI .nil))), .cells 42 true (.cons (.keep (.list (.agg (.cons .str (.cons tI (.cons tI (.cons (.list .str) (.cons tI tI)))))))) (.cons kI (.cons kS (.cons kS (.cons kI (.cons kI (.cons (.keep (.list .str)) (.cons kI (.cons kI .nil))))))))), .cells 36 true (.cons kS (.cons kI (.cons kI (.cons kI (.cons kS (.cons .nill .nil)))))), .cells 36 true (.cons kS (.cons kI (.cons kI (.cons kI (.cons (.ty .str) (.cons (.own (.agg (.cons (.list (.agg (.cons tI (.cons tI tI)))) (.cons tI .bool))) 0 true) .nil)))))), .cells 40 true (.cons kS (.cons kI (.cons kI (.cons (.keep (.list .str)) (.cons kI (.cons kI .nil)))))), .cells 40 true (.cons kS (.cons kI (.cons kI (.cons (.keep (.list .str)) (.cons kI (.cons kI .nil)))))), .cells 69 true (.cons (.own (.agg (.cons tI (.cons tI tI))) 1 true) (.cons kI (.cons kB .nil)))], [⟨⟨0, (.agg (.cons (.list (.agg (.cons tI (.cons tI tI)))) (.cons tI .bool))), 69, true, true⟩, false⟩, ⟨⟨0, (.agg (.cons tI (.cons tI tI))), 71, true, true⟩, false⟩], []⟩)]⟩), ([18, 29, 7, 56], ⟨some ⟨(.cons (.ptr 3 0) (anyN 9 (.cons (.ptr 5 0) (anyN 27 (.cons (.keep (.list tRR)) (.cons kI (.cons yI (anyN 54 .nil)))))))), [.cells 23 true (.cons kS (.cons kI (.cons kI .nil))), .cells 42 true (.cons (.keep (.list (.agg (.cons .str (.cons tI (.cons tI (.cons (.list .str) (.cons tI tI)))))))) (.cons kI (.cons kS (.cons kS (.cons kI (.cons kI (.cons (.keep (.list .str)) (.cons kI (.cons kI .nil))))))))), .cells 36 true (.cons kS (.cons kI (.cons kI (.cons kI (.cons kS (.cons .nill .nil)))))), .cells 36 true (.cons kS (.cons kI (.cons kI (.cons kI (.cons (.ty .str) (.cons (.own (.agg (.cons (.list (.agg (.cons tI (.cons tI tI)))) (.cons tI .bool))) 0 true) .nil)))))), .cells 40 true (.cons kS (.cons kI (.cons kI (.cons (.keep (.list .str)) (.cons kI (.cons kI .nil)))))), .cells 69 true (.cons (.own (.agg (.cons tI (.cons tI tI))) 1 true) (.cons kI (.cons kB .nil)))], [⟨⟨0, (.agg (.cons (.list (.agg (.cons tI (.cons tI tI)))) (.cons tI .bool))), 69, true, true⟩, false⟩, ⟨⟨0, (.agg (.cons tI (.cons tI tI))), 71, true, true⟩, true⟩], []⟩, [(.exit 0, ⟨(.cons (.ptr 3 0) (anyN 9 (.cons (.ptr 5 0) (anyN 84 .nil)))), [.cells 23 true (.cons kS (.cons kI (.cons kI .nil))), .cells 42 true (.cons (.keep (.list (.agg (.cons .str (.cons tI (.cons tI (.cons (.list .str) (.cons tI tI)))))))) (.cons kI (.cons kS (.cons kS (.cons kI (.cons kI (.cons (.keep (.list .str)) (.cons kI (.cons kI .nil))))))))), .cells 36 true (.cons kS (.cons kI (.cons kI (.cons kI (.cons kS (.cons .nill .nil)))))), .cells 36 true (.cons kS (.cons kI (.cons kI (.cons kI (.cons (.ty .str) (.cons (.own (.agg (.cons (.list (.agg (.cons tI (.cons tI tI)))) (.cons tI .bool))) 0 true) .nil)))))), .cells 40 true (.cons kS (.cons kI (.cons kI (.cons (.keep (.list .str)) (.cons kI (.cons kI .nil)))))), .cells 69 true (.cons (.own (.agg (.cons tI (.cons tI tI))) 1 true) (.cons kI (.cons kB .nil)))], [⟨⟨0, (.agg (.cons (.list (.agg (.cons tI (.cons tI tI)))) (.cons tI .bool))), 69, true, true⟩, false⟩, ⟨⟨0, (.agg (.cons tI (.cons tI tI))), 71, true, true⟩, false⟩], []⟩)]⟩)]
@[reducible] def fs_tmpl_Make : List (Nat × SFn) := [(49, .pure [.str, tI, tRR] [.str] (fun x => F_record_Encode x.1 x.2.1 x.2.2)), (50, .pure [.str, tI, tRR] [tI] (fun x => F_record_TTL x.1 x.2.1 x.2.2)), (48, .pure [(.agg (.cons .str (.cons tI (.cons tI (.cons (.list .str) tI))))), tI, tI] [(.list tRR)] (fun x => F_group_Flat x.1 x.2.1 x.2.2)), (27, .pure [tI, tI] [.bool] (fun x => F_tmpl_in x.1 x.2)), (28, .pure [tQ] [.bool] (fun x => F_tmpl_asked x))]
def cfg_tmpl_Make : SCfg := SCfg.of (fs_tmpl_Make ++ inlL) ann_tmpl_Make keepL
theorem eq_tmpl_Make (x : HL [tI, tQ, (.agg (.cons (.list (.agg (.cons .str (.cons tI (.cons tI (.cons (.list .str) (.cons tI tI))))))) (.cons tI (.cons .str (.cons .str (.cons tI (.cons tI (.cons (.list .str) (.cons tI tI)))))))))]) : fnK cfg_tmpl_Make Try.prog 100000 11 [tI, tQ, (.agg (.cons (.list (.agg (.cons .str (.cons tI (.cons tI (.cons (.list .str) (.cons tI tI))))))) (.cons tI (.cons .str (.cons .str (.cons tI (.cons tI (.cons (.list .str) (.cons tI tI)))))))))] [(.agg (.cons .str (.cons tI (.cons tI (.cons tI (.cons .str (.list (.agg (.cons (.list (.agg (.cons tI (.cons tI tI)))) (.cons tI .bool)))))))))), .bool] x = (fun x => F_tmpl_Make x.1 x.2.1 x.2.2) x := by kernel_rfl
theorem told_tmpl_Make : Told CC Try.prog 11 [tI, tQ, (.agg (.cons (.list (.agg (.cons .str (.cons tI (.cons tI (.cons (.list .str) (.cons tI tI))))))) (.cons tI (.cons .str (.cons .str (.cons tI (.cons tI (.cons (.list .str) (.cons tI tI)))))))))] [(.agg (.cons .str (.cons tI (.cons tI (.cons tI (.cons .str (.list (.agg (.cons (.list (.agg (.cons tI (.cons tI tI)))) (.cons tI .bool)))))))))), .bool] (fun x => F_tmpl_Make x.1 x.2.1 x.2.2) := told_of (gok (an := ann_tmpl_Make) (fs := fs_tmpl_Make) ⟨told_record_Encode, told_record_TTL, told_group_Flat, told_tmpl_in, told_tmpl_asked, trivial⟩) rfl rfl eq_tmpl_Make
end
end Go.Abs

set_option maxRecDepth 100000
namespace Go.Abs
open Go Go.Proofs
noncomputable section
def F_law18_live : Option (Bool) :=
 bnd (F_law17_Chain ([([1, 97, 0], 1, 1, [[49, 49, 49, 49], [50, 50, 50, 50]], 9, 5)], 0, [], [], 0, 0, [], 0, 0)) fun v1 =>
 bnd (F_tmpl_Make 10 ([1, 97, 0], 1, 1) (v1.1, v1.2.1, v1.2.2.1, v1.2.2.2.1, v1.2.2.2.2.1, v1.2.2.2.2.2.1, v1.2.2.2.2.2.2.1, v1.2.2.2.2.2.2.2.1, v1.2.2.2.2.2.2.2.2)) fun (v2, v3) =>
 bnd (F_law17_Chain ([], 3, [], [], 0, 0, [], 0, 0)) fun v4 =>
 bnd (F_tmpl_Make 10 ([1, 97, 0], 1, 1) (v4.1, v4.2.1, v4.2.2.1, v4.2.2.2.1, v4.2.2.2.2.1, v4.2.2.2.2.2.1, v4.2.2.2.2.2.2.1, v4.2.2.2.2.2.2.2.1, v4.2.2.2.2.2.2.2.2)) fun (v5, v6) =>
 if v3 = true then
  if (!v6) = true then
   bnd (F_tmpl_Template_Check (v2.1, v2.2.1, v2.2.2.1, v2.2.2.2.1, v2.2.2.2.2.1, v2.2.2.2.2.2)) fun v7 =>
   if v7 = true then
    bnd (F_tmpl_Template_Live (v2.1, v2.2.1, v2.2.2.1, v2.2.2.2.1, v2.2.2.2.2.1, v2.2.2.2.2.2) 14) fun v8 =>
    if v8 = true then
     bnd (F_tmpl_Template_Live (v2.1, v2.2.1, v2.2.2.1, v2.2.2.2.1, v2.2.2.2.2.1, v2.2.2.2.2.2) 15) fun v9 =>
     if (!v9) = true then
      if ((↑(List.length v2.2.2.2.2.1) : Int) == 32) = true then
       if ((↑(List.length v2.2.2.2.2.2) : Int) == 1) = true then
        bnd (F_tmpl_Template_Part (v2.1, v2.2.1, v2.2.2.1, v2.2.2.2.1, v2.2.2.2.2.1, v2.2.2.2.2.2) 0 12 1) fun v10 =>
        if (v10 == [192, 12, 0, 1, 0, 1, 0, 0, 0, 3, 0, 4, 50, 50, 50, 50, 192, 12, 0, 1, 0, 1, 0, 0, 0, 3, 0, 4, 49, 49, 49, 49]) = true then
         bnd (F_tmpl_Template_Part (v2.1, v2.2.1, v2.2.2.1, v2.2.2.2.1, v2.2.2.2.2.1, v2.2.2.2.2.2) 1 12 0) fun v11 =>
         if (v11 == []) = true then
          bnd (F_tmpl_Template_Part (v2.1, v2.2.1, v2.2.2.1, v2.2.2.2.1, v2.2.2.2.2.1, v2.2.2.2.2.2) 0 15 0) fun v12 =>
          if (v12 == []) = true then
           bnd (F_tmpl_Template_Check ([], 0, 0, 0, [], [([], 0, false)])) fun v13 =>
           some (!v13)
          else
           some false
         else
          some false
        else
         some false
       else
        some false
      else
       some false
     else
      some false
    else
     some false
   else
    some false
  else
   some false
 else
  some false
def ann_law18_live : List (List Nat × Ann) := []
@[reducible] def fs_law18_live : List (Nat × SFn) := [(12, .pure [(.agg (.cons (.list (.agg (.cons .str (.cons tI (.cons tI (.cons (.list .str) (.cons tI tI))))))) (.cons tI (.cons .str (.cons .str (.cons tI (.cons tI (.cons (.list .str) (.cons tI tI)))))))))] [(.agg (.cons (.list (.agg (.cons .str (.cons tI (.cons tI (.cons (.list .str) (.cons tI tI))))))) (.cons tI (.cons .str (.cons .str (.cons tI (.cons tI (.cons (.list .str) (.cons tI tI)))))))))] (fun x => F_law17_Chain x)), (11, .pure [tI, tQ, (.agg (.cons (.list (.agg (.cons .str (.cons tI (.cons tI (.cons (.list .str) (.cons tI tI))))))) (.cons tI (.cons .str (.cons .str (.cons tI (.cons tI (.cons (.list .str) (.cons tI tI)))))))))] [(.agg (.cons .str (.cons tI (.cons tI (.cons tI (.cons .str (.list (.agg (.cons (.list (.agg (.cons tI (.cons tI tI)))) (.cons tI .bool)))))))))), .bool] (fun x => F_tmpl_Make x.1 x.2.1 x.2.2)), (18, .pure [(.agg (.cons .str (.cons tI (.cons tI (.cons tI (.cons .str (.list (.agg (.cons (.list (.agg (.cons tI (.cons tI tI)))) (.cons tI .bool))))))))))] [.bool] (fun x => F_tmpl_Template_Check x)), (20, .pure [(.agg (.cons .str (.cons tI (.cons tI (.cons tI (.cons .str (.list (.agg (.cons (.list (.agg (.cons tI (.cons tI tI)))) (.cons tI .bool)))))))))), tI] [.bool] (fun x => F_tmpl_Template_Live x.1 x.2)), (22, .pure [(.agg (.cons .str (.cons tI (.cons tI (.cons tI (.cons .str (.list (.agg (.cons (.list (.agg (.cons tI (.cons tI tI)))) (.cons tI .bool)))))))))), tI, tI, tI] [.str] (fun x => F_tmpl_Template_Part x.1 x.2.1 x.2.2.1 x.2.2.2))]
def cfg_law18_live : SCfg := SCfg.of (fs_law18_live ++ inlL) ann_law18_live keepL
theorem eq_law18_live (x : HL []) : fnK cfg_law18_live Try.prog 100000 10 [] [.bool] x = (fun x => F_law18_live) x := by kernel_rfl
theorem told_law18_live : Told CC Try.prog 10 [] [.bool] (fun x => F_law18_live) := told_of (gok (an := ann_law18_live) (fs := fs_law18_live) ⟨told_law17_Chain, told_tmpl_Make, told_tmpl_Template_Check, told_tmpl_Template_Live, told_tmpl_Template_Part, trivial⟩) rfl rfl eq_law18_live
end
end Go.Abs

set_option maxRecDepth 100000
namespace Go.Abs
open Go Go.Proofs
noncomputable section
def step_ref18_Make_1 (now_1 : Int) (q_2 : List UInt8 × Int × Int) (c_3 : List (List UInt8 × Int × Int × List (List UInt8) × Int × Int) × Int × List UInt8 × List UInt8 × Int × Int × List (List UInt8) × Int × Int) (b3d_9 : Int) (b3e_11 : List UInt8) (x14 : (Ty.str.cons (tI.cons (tI.cons (Ty.str.list.cons (tI.cons tI))))).agg.den) (v15 : List (List UInt8 × Int × Int × Int × List UInt8)) : (Int × (List ((List ((Int × (Int × Int))) × (Int × Bool))) × (List UInt8 × (List ((List ((Int × (Int × Int))) × (Int × Bool))) × List ((Int × (Int × Int))))))) → Option ((Int × (List ((List ((Int × (Int × Int))) × (Int × Bool))) × (List UInt8 × (List ((List ((Int × (Int × Int))) × (Int × Bool))) × List ((Int × (Int × Int))))))) ⊕ (List ((List ((Int × (Int × Int))) × (Int × Bool))) × (List UInt8 × (List ((List ((Int × (Int × Int))) × (Int × Bool))) × List ((Int × (Int × Int))))))) := fun (i_16, b3f_17, b5e_18, b5f_19, b8a_20) =>
 if decide (i_16 < (↑v15.length : Int)) = true then
  natOf i_16 fun n21 =>
  bnd (v15[n21]?) fun x22 =>
  bnd (F_ref06_Encode q_2.1 12 (x22.1, x22.2.1, x22.2.2.1, x22.2.2.2.1, x22.2.2.2.2)) fun v23 =>
  natOf i_16 fun n24 =>
  bnd (v15[n24]?) fun x25 =>
  bnd (F_ref06_TTL q_2.1 12 (x25.1, x25.2.1, x25.2.2.1, x25.2.2.2.1, x25.2.2.2.2)) fun v26 =>
  grd ((b8a_20.length + [((↑b5e_18.length : Int), IntKind.i64.wrap ((↑b5e_18.length : Int) + (↑v23.length : Int)), IntKind.i64.wrap ((↑b5e_18.length : Int) + v26))].length) * 24 ≤ roomLim) <|
  grd (b5e_18.length + v23.length ≤ maxStr) <|
  gq v15 <| g3 q_2 <| g9 c_3 <| gq (α := List UInt8) ([]) <| gz <| gz <| gz <| gq (α := List UInt8) ([]) <| g3 q_2 <| gq b3d_9 <| gq b3e_11 <| gq (α := List UInt8) ([]) <| gz <| gz <| gz <| gq (α := List UInt8) ([]) <| g3 q_2 <| gq b3d_9 <| g6 x14 <| gq (α := List UInt8) ([]) <| gz <| gz <| gz <| gq (α := List UInt8) ([]) <|
  grdEq (IntKind.i64.wrap (now_1 + x14.2.2.2.2.2)) (IntKind.i64.wrap (now_1 + x14.2.2.2.2.2)) <|
  gf <|
  some (.inl ((IntKind.i64.wrap (i_16 + 1), (b3f_17, (b5e_18 ++ v23, (b5f_19, b8a_20 ++ [((↑b5e_18.length : Int), IntKind.i64.wrap ((↑b5e_18.length : Int) + (↑v23.length : Int)), IntKind.i64.wrap ((↑b5e_18.length : Int) + v26))]))))))
 else
  g3 q_2 <| g9 c_3 <| gq (α := List UInt8) ([]) <| gz <| gz <| gz <| gq (α := List UInt8) ([]) <| g3 q_2 <| gq b3d_9 <| gq b3e_11 <| gq (α := List UInt8) ([]) <| gz <| gz <| gz <| gq (α := List UInt8) ([]) <| g3 q_2 <| gq b3d_9 <| g6 x14 <| gq (α := List UInt8) ([]) <| gz <| gz <| gz <| gq (α := List UInt8) ([]) <|
  grdEq (IntKind.i64.wrap (now_1 + x14.2.2.2.2.2)) (IntKind.i64.wrap (now_1 + x14.2.2.2.2.2)) <|
  gf <|
  some (.inr ((b3f_17, (b5e_18, (b5f_19, b8a_20)))))
def step_ref18_Make_0 (now_1 : Int) (q_2 : List UInt8 × Int × Int) (c_3 : List (List UInt8 × Int × Int × List (List UInt8) × Int × Int) × Int × List UInt8 × List UInt8 × Int × Int × List (List UInt8) × Int × Int) (b3d_9 : Int) : (Int × (List UInt8 × List ((List ((Int × (Int × Int))) × (Int × Bool))))) → Option ((Int × (List UInt8 × List ((List ((Int × (Int × Int))) × (Int × Bool))))) ⊕ ((Bool × (List UInt8 × List ((List ((Int × (Int × Int))) × (Int × Bool))))) ⊕ (List UInt8 × List ((List ((Int × (Int × Int))) × (Int × Bool)))))) := fun (i_10, b3e_11, b3f_12) =>
 if decide (i_10 < (↑(List.length c_3.1) : Int)) = true then
  natOf i_10 fun n13 =>
  bnd (c_3.1[n13]?) fun x14 =>
  bnd (F_ref10_Flat (x14.1, x14.2.1, x14.2.2.1, x14.2.2.2.1, x14.2.2.2.2.1) x14.2.2.2.2.2 0) fun v15 =>
  if ((↑v15.length : Int) == 0) = false then
   if decide (x14.2.2.2.2.2 < 1) = false then
    if decide (604800 < x14.2.2.2.2.2) = true then
     g3 q_2 <| g9 c_3 <| gq (α := List UInt8) ([]) <| gz <| gz <| gz <| gq (α := List UInt8) ([]) <| g3 q_2 <| gq b3d_9 <|
     some (.inr (.inl ((false, (b3e_11, b3f_12)))))
    else
     bnd (loopS (step_ref18_Make_1 now_1 q_2 c_3 b3d_9 b3e_11 x14 v15) ((0, (b3f_12, (b3e_11, (b3f_12, [])))))) fun (b3f_27, b5e_28, b5f_29, b8a_30) =>
     grd ((b5f_29.length + [(b8a_30, IntKind.i64.wrap (now_1 + x14.2.2.2.2.2), false)].length) * 40 ≤ roomLim) <|
     gq now_1 <| g3 q_2 <| g9 c_3 <| gq (α := List UInt8) ([]) <| gz <| gz <| gz <| gq (α := List UInt8) ([]) <| g3 q_2 <| gq b3d_9 <|
     some (.inl ((IntKind.i64.wrap (i_10 + 1), (b5e_28, b5f_29 ++ [(b8a_30, IntKind.i64.wrap (now_1 + x14.2.2.2.2.2), false)]))))
   else
    g3 q_2 <| g9 c_3 <| gq (α := List UInt8) ([]) <| gz <| gz <| gz <| gq (α := List UInt8) ([]) <| g3 q_2 <| gq b3d_9 <|
    some (.inr (.inl ((false, (b3e_11, b3f_12)))))
  else
   g3 q_2 <| g9 c_3 <| gq (α := List UInt8) ([]) <| gz <| gz <| gz <| gq (α := List UInt8) ([]) <| g3 q_2 <| gq b3d_9 <|
   some (.inr (.inl ((false, (b3e_11, b3f_12)))))
 else
  gq now_1 <| g3 q_2 <| g9 c_3 <| gq (α := List UInt8) ([]) <| gz <| gz <| gz <| gq (α := List UInt8) ([]) <| g3 q_2 <| gq b3d_9 <|
  some (.inr (.inr ((b3e_11, b3f_12))))
def step_ref18_Make_2 (now_1 : Int) (q_2 : List UInt8 × Int × Int) (c_3 : List (List UInt8 × Int × Int × List (List UInt8) × Int × Int) × Int × List UInt8 × List UInt8 × Int × Int × List (List UInt8) × Int × Int) (b3d_9 : Int) (b3e_35 : List UInt8) (v37 : List (List UInt8 × Int × Int × Int × List UInt8)) : (Int × (List ((List ((Int × (Int × Int))) × (Int × Bool))) × (List UInt8 × (List ((List ((Int × (Int × Int))) × (Int × Bool))) × List ((Int × (Int × Int))))))) → Option ((Int × (List ((List ((Int × (Int × Int))) × (Int × Bool))) × (List UInt8 × (List ((List ((Int × (Int × Int))) × (Int × Bool))) × List ((Int × (Int × Int))))))) ⊕ (List ((List ((Int × (Int × Int))) × (Int × Bool))) × (List UInt8 × (List ((List ((Int × (Int × Int))) × (Int × Bool))) × List ((Int × (Int × Int))))))) := fun (i_47, b3f_48, b4e_49, b4f_50, b7a_51) =>
 if decide (i_47 < (↑v37.length : Int)) = true then
  natOf i_47 fun n52 =>
  bnd (v37[n52]?) fun x53 =>
  bnd (F_ref06_Encode q_2.1 12 (x53.1, x53.2.1, x53.2.2.1, x53.2.2.2.1, x53.2.2.2.2)) fun v54 =>
  natOf i_47 fun n55 =>
  bnd (v37[n55]?) fun x56 =>
  bnd (F_ref06_TTL q_2.1 12 (x56.1, x56.2.1, x56.2.2.1, x56.2.2.2.1, x56.2.2.2.2)) fun v57 =>
  grd ((b7a_51.length + [((↑b4e_49.length : Int), IntKind.i64.wrap ((↑b4e_49.length : Int) + (↑v54.length : Int)), IntKind.i64.wrap ((↑b4e_49.length : Int) + v57))].length) * 24 ≤ roomLim) <|
  grd (b4e_49.length + v54.length ≤ maxStr) <|
  gq v37 <| g3 q_2 <| g9 c_3 <| gq (α := List UInt8) ([]) <| gz <| gz <| gz <| gq (α := List UInt8) ([]) <| g3 q_2 <| gq b3d_9 <| gq b3e_35 <| g3 q_2 <| gq b3d_9 <| gq c_3.2.2.2.1 <| gq c_3.2.2.2.2.1 <| gq c_3.2.2.2.2.2.1 <| gq c_3.2.2.2.2.2.2.1 <| gq c_3.2.2.2.2.2.2.2.1 <| gq c_3.2.2.2.2.2.2.2.2 <| gq (α := List UInt8) ([]) <| gz <| gz <| gz <| gq (α := List UInt8) ([]) <|
  grdEq (IntKind.i64.wrap (now_1 + c_3.2.2.2.2.2.2.2.2)) (IntKind.i64.wrap (now_1 + c_3.2.2.2.2.2.2.2.2)) <|
  gq (α := Bool) true <|
  some (.inl ((IntKind.i64.wrap (i_47 + 1), (b3f_48, (b4e_49 ++ v54, (b4f_50, b7a_51 ++ [((↑b4e_49.length : Int), IntKind.i64.wrap ((↑b4e_49.length : Int) + (↑v54.length : Int)), IntKind.i64.wrap ((↑b4e_49.length : Int) + v57))]))))))
 else
  g3 q_2 <| g9 c_3 <| gq (α := List UInt8) ([]) <| gz <| gz <| gz <| gq (α := List UInt8) ([]) <| g3 q_2 <| gq b3d_9 <| gq b3e_35 <| g3 q_2 <| gq b3d_9 <| gq c_3.2.2.2.1 <| gq c_3.2.2.2.2.1 <| gq c_3.2.2.2.2.2.1 <| gq c_3.2.2.2.2.2.2.1 <| gq c_3.2.2.2.2.2.2.2.1 <| gq c_3.2.2.2.2.2.2.2.2 <| gq (α := List UInt8) ([]) <| gz <| gz <| gz <| gq (α := List UInt8) ([]) <|
  grdEq (IntKind.i64.wrap (now_1 + c_3.2.2.2.2.2.2.2.2)) (IntKind.i64.wrap (now_1 + c_3.2.2.2.2.2.2.2.2)) <|
  gq (α := Bool) true <|
  some (.inr ((b3f_48, (b4e_49, (b4f_50, b7a_51)))))
def F_ref18_Make (now_1 : Int) (q_2 : (List UInt8 × (Int × Int))) (c_3 : (List ((List UInt8 × (Int × (Int × (List (List UInt8) × (Int × Int)))))) × (Int × (List UInt8 × (List UInt8 × (Int × (Int × (List (List UInt8) × (Int × Int))))))))) : Option (((List UInt8 × (Int × (Int × (Int × (List UInt8 × List ((List ((Int × (Int × Int))) × (Int × Bool)))))))) × Bool)) :=
 bnd (α := (Bool ⊕ Unit)) (bnd (α := Bool) (bnd (F_ref12_Time now_1) fun v4 =>
   if (!v4) = false then
    bnd (F_ref10_Asked (q_2.1, q_2.2.1, q_2.2.2)) fun v5 =>
    if (!v5) = false then
     if decide (c_3.2.1 < 0) = false then
      gq now_1 <| g3 q_2 <| g9 c_3 <| gq (α := List UInt8) ([]) <| gz <| gz <| gz <| gq (α := List UInt8) ([]) <|
      some (decide (2 < c_3.2.1))
     else
      gq now_1 <| g3 q_2 <| g9 c_3 <| gq (α := List UInt8) ([]) <| gz <| gz <| gz <| gq (α := List UInt8) ([]) <|
      some true
    else
     gq now_1 <| g3 q_2 <| g9 c_3 <| gq (α := List UInt8) ([]) <| gz <| gz <| gz <| gq (α := List UInt8) ([]) <|
     some true
   else
    gq now_1 <| g3 q_2 <| g9 c_3 <| gq (α := List UInt8) ([]) <| gz <| gz <| gz <| gq (α := List UInt8) ([]) <|
    some true) fun s29_6 =>
  if s29_6 = true then
   g3 q_2 <| g9 c_3 <| gq (α := List UInt8) ([]) <| gz <| gz <| gz <| gq (α := List UInt8) ([]) <|
   some (.inl false)
  else
   gq now_1 <| g3 q_2 <| g9 c_3 <| gq (α := List UInt8) ([]) <| gz <| gz <| gz <| gq (α := List UInt8) ([]) <|
   some (.inr (()))) fun o7 =>
 match o7 with
 | .inl s7_8 =>
  some ((([], (0, (0, (0, ([], []))))), s7_8))
 | .inr _ =>
  bnd (α := Int) (if (c_3.2.1 == 2) = true then
    gq now_1 <| g3 q_2 <| g9 c_3 <| gq (α := List UInt8) ([]) <| gz <| gz <| gz <| gq (α := List UInt8) ([]) <| g3 q_2 <| gq (α := List UInt8) ([]) <|
    some 3
   else
    gq now_1 <| g3 q_2 <| g9 c_3 <| gq (α := List UInt8) ([]) <| gz <| gz <| gz <| gq (α := List UInt8) ([]) <| g3 q_2 <| gq (α := List UInt8) ([]) <|
    some 0) fun b3d_9 =>
  bnd (loopS (step_ref18_Make_0 now_1 q_2 c_3 b3d_9) ((0, ([], [])))) fun o31 =>
  match o31 with
  | .inl (s7_32, b3e_33, b3f_34) =>
   some ((([], (0, (0, (0, ([], []))))), s7_32))
  | .inr (b3e_35, b3f_36) =>
   if (c_3.2.1 == 0) = true then
    some (((q_2.1, (q_2.2.1, (q_2.2.2, (b3d_9, (b3e_35, b3f_36))))), true))
   else
    bnd (F_ref10_Flat (c_3.2.2.2.1, c_3.2.2.2.2.1, c_3.2.2.2.2.2.1, c_3.2.2.2.2.2.2.1, c_3.2.2.2.2.2.2.2.1) c_3.2.2.2.2.2.2.2.2 0) fun v37 =>
    bnd (α := ((Bool × (List ((List ((Int × (Int × Int))) × (Int × Bool))) × List ((List ((Int × (Int × Int))) × (Int × Bool))))) ⊕ (List ((List ((Int × (Int × Int))) × (Int × Bool))) × List ((List ((Int × (Int × Int))) × (Int × Bool)))))) (bnd (α := (Bool × (List ((List ((Int × (Int × Int))) × (Int × Bool))) × List ((List ((Int × (Int × Int))) × (Int × Bool)))))) (if ((↑v37.length : Int) == 0) = false then
       if decide (c_3.2.2.2.2.2.2.2.2 < 1) = false then
        gq v37 <| g3 q_2 <| g9 c_3 <| gq (α := List UInt8) ([]) <| gz <| gz <| gz <| gq (α := List UInt8) ([]) <| g3 q_2 <| gq b3d_9 <| gq b3e_35 <| g3 q_2 <| gq b3d_9 <| gq b3e_35 <| gq c_3.2.2.2.1 <| gq c_3.2.2.2.2.1 <| gq c_3.2.2.2.2.2.1 <| gq c_3.2.2.2.2.2.2.1 <| gq c_3.2.2.2.2.2.2.2.1 <| gq c_3.2.2.2.2.2.2.2.2 <| gq (α := List UInt8) ([]) <| gz <| gz <| gz <| gq (α := List UInt8) ([]) <|
        grdEq (IntKind.i64.wrap (now_1 + c_3.2.2.2.2.2.2.2.2)) (IntKind.i64.wrap (now_1 + c_3.2.2.2.2.2.2.2.2)) <|
        gq (α := Bool) true <|
        some ((decide (604800 < c_3.2.2.2.2.2.2.2.2), (b3f_36, b3f_36)))
       else
        gq v37 <| g3 q_2 <| g9 c_3 <| gq (α := List UInt8) ([]) <| gz <| gz <| gz <| gq (α := List UInt8) ([]) <| g3 q_2 <| gq b3d_9 <| gq b3e_35 <| g3 q_2 <| gq b3d_9 <| gq b3e_35 <| gq c_3.2.2.2.1 <| gq c_3.2.2.2.2.1 <| gq c_3.2.2.2.2.2.1 <| gq c_3.2.2.2.2.2.2.1 <| gq c_3.2.2.2.2.2.2.2.1 <| gq c_3.2.2.2.2.2.2.2.2 <| gq (α := List UInt8) ([]) <| gz <| gz <| gz <| gq (α := List UInt8) ([]) <|
        grdEq (IntKind.i64.wrap (now_1 + c_3.2.2.2.2.2.2.2.2)) (IntKind.i64.wrap (now_1 + c_3.2.2.2.2.2.2.2.2)) <|
        gq (α := Bool) true <|
        some ((true, (b3f_36, b3f_36)))
      else
       gq v37 <| g3 q_2 <| g9 c_3 <| gq (α := List UInt8) ([]) <| gz <| gz <| gz <| gq (α := List UInt8) ([]) <| g3 q_2 <| gq b3d_9 <| gq b3e_35 <| g3 q_2 <| gq b3d_9 <| gq b3e_35 <| gq c_3.2.2.2.1 <| gq c_3.2.2.2.2.1 <| gq c_3.2.2.2.2.2.1 <| gq c_3.2.2.2.2.2.2.1 <| gq c_3.2.2.2.2.2.2.2.1 <| gq c_3.2.2.2.2.2.2.2.2 <| gq (α := List UInt8) ([]) <| gz <| gz <| gz <| gq (α := List UInt8) ([]) <|
       grdEq (IntKind.i64.wrap (now_1 + c_3.2.2.2.2.2.2.2.2)) (IntKind.i64.wrap (now_1 + c_3.2.2.2.2.2.2.2.2)) <|
       gq (α := Bool) true <|
       some ((true, (b3f_36, b3f_36)))) fun (s40_38, b3f_39, b4f_40) =>
     if s40_38 = true then
      g3 q_2 <| g9 c_3 <| gq (α := List UInt8) ([]) <| gz <| gz <| gz <| gq (α := List UInt8) ([]) <| g3 q_2 <| gq b3d_9 <| gq b3e_35 <| g3 q_2 <| gq b3d_9 <| gq b3e_35 <| gq c_3.2.2.2.1 <| gq c_3.2.2.2.2.1 <| gq c_3.2.2.2.2.2.1 <| gq c_3.2.2.2.2.2.2.1 <| gq c_3.2.2.2.2.2.2.2.1 <| gq c_3.2.2.2.2.2.2.2.2 <| gq (α := List UInt8) ([]) <| gz <| gz <| gz <| gq (α := List UInt8) ([]) <|
      grdEq (IntKind.i64.wrap (now_1 + c_3.2.2.2.2.2.2.2.2)) (IntKind.i64.wrap (now_1 + c_3.2.2.2.2.2.2.2.2)) <|
      gq (α := Bool) true <|
      some (.inl ((false, (b3f_39, b4f_40))))
     else
      gq v37 <| g3 q_2 <| g9 c_3 <| gq (α := List UInt8) ([]) <| gz <| gz <| gz <| gq (α := List UInt8) ([]) <| g3 q_2 <| gq b3d_9 <| gq b3e_35 <| g3 q_2 <| gq b3d_9 <| gq b3e_35 <| gq c_3.2.2.2.1 <| gq c_3.2.2.2.2.1 <| gq c_3.2.2.2.2.2.1 <| gq c_3.2.2.2.2.2.2.1 <| gq c_3.2.2.2.2.2.2.2.1 <| gq c_3.2.2.2.2.2.2.2.2 <| gq (α := List UInt8) ([]) <| gz <| gz <| gz <| gq (α := List UInt8) ([]) <|
      grdEq (IntKind.i64.wrap (now_1 + c_3.2.2.2.2.2.2.2.2)) (IntKind.i64.wrap (now_1 + c_3.2.2.2.2.2.2.2.2)) <|
      gq (α := Bool) true <|
      some (.inr ((b3f_39, b4f_40)))) fun o41 =>
    match o41 with
    | .inl (s9_42, b3f_43, b4f_44) =>
     some ((([], (0, (0, (0, ([], []))))), s9_42))
    | .inr (b3f_45, b4f_46) =>
     bnd (loopS (step_ref18_Make_2 now_1 q_2 c_3 b3d_9 b3e_35 v37) ((0, (b3f_45, (b3e_35, (b4f_46, [])))))) fun (b3f_58, b4e_59, b4f_60, b7a_61) =>
     grd ((b4f_60.length + [(b7a_61, IntKind.i64.wrap (now_1 + c_3.2.2.2.2.2.2.2.2), true)].length) * 40 ≤ roomLim) <|
     some (((q_2.1, (q_2.2.1, (q_2.2.2, (b3d_9, (b4e_59, b4f_60 ++ [(b7a_61, IntKind.i64.wrap (now_1 + c_3.2.2.2.2.2.2.2.2), true)]))))), true))
def ann_ref18_Make : List (List Nat × Ann) := [([2], ⟨none, [(.ret, ⟨(anyN 6 (.cons (.ptr 2 0) (.cons (.ty .bool) (anyN 62 .nil)))), [.cells 23 true (.cons kS (.cons kI (.cons kI .nil))), .cells 31 true (.cons (.keep (.list (.agg (.cons .str (.cons tI (.cons tI (.cons (.list .str) (.cons tI tI)))))))) (.cons kI (.cons kS (.cons kS (.cons kI (.cons kI (.cons (.keep (.list .str)) (.cons kI (.cons kI .nil))))))))), .cells 46 true (.cons kS (.cons kI (.cons kI (.cons kI (.cons kS (.cons .nill .nil))))))], [], []⟩), (.normal, ⟨(.cons kI (anyN 3 (.cons (.ptr 0 0) (.cons (.ptr 1 0) (.cons (.ptr 2 0) (anyN 63 .nil)))))), [.cells 23 true (.cons kS (.cons kI (.cons kI .nil))), .cells 31 true (.cons (.keep (.list (.agg (.cons .str (.cons tI (.cons tI (.cons (.list .str) (.cons tI tI)))))))) (.cons kI (.cons kS (.cons kS (.cons kI (.cons kI (.cons (.keep (.list .str)) (.cons kI (.cons kI .nil))))))))), .cells 46 true (.cons kS (.cons kI (.cons kI (.cons kI (.cons kS (.cons .nill .nil))))))], [], []⟩)]⟩), ([3], ⟨none, [(.normal, ⟨(.cons kI (anyN 3 (.cons (.ptr 0 0) (.cons (.ptr 1 0) (.cons (.ptr 2 0) (anyN 22 (.cons (.ty .bool) (anyN 40 .nil)))))))), [.cells 23 true (.cons kS (.cons kI (.cons kI .nil))), .cells 31 true (.cons (.keep (.list (.agg (.cons .str (.cons tI (.cons tI (.cons (.list .str) (.cons tI tI)))))))) (.cons kI (.cons kS (.cons kS (.cons kI (.cons kI (.cons (.keep (.list .str)) (.cons kI (.cons kI .nil))))))))), .cells 46 true (.cons kS (.cons kI (.cons kI (.cons kI (.cons kS (.cons .nill .nil))))))], [], []⟩)]⟩), ([12], ⟨none, [(.normal, ⟨(.cons kI (anyN 4 (.cons (.ptr 1 0) (.cons (.ptr 2 0) (anyN 1 (.cons (.ptr 3 0) (anyN 61 .nil))))))), [.cells 23 true (.cons kS (.cons kI (.cons kI .nil))), .cells 31 true (.cons (.keep (.list (.agg (.cons .str (.cons tI (.cons tI (.cons (.list .str) (.cons tI tI)))))))) (.cons kI (.cons kS (.cons kS (.cons kI (.cons kI (.cons (.keep (.list .str)) (.cons kI (.cons kI .nil))))))))), .cells 46 true (.cons kS (.cons kI (.cons kI (.cons kI (.cons kS (.cons .nill .nil)))))), .cells 46 true (.cons kS (.cons kI (.cons kI (.cons yI (.cons kS (.cons .nill .nil))))))], [], []⟩)]⟩), ([6, 32, 4, 52], ⟨none, [(.ret, ⟨(anyN 8 (.cons (.ptr 6 0) (.cons (.ty .bool) (anyN 86 .nil)))), [.cells 23 true (.cons kS (.cons kI (.cons kI .nil))), .cells 31 true (.cons (.keep (.list (.agg (.cons .str (.cons tI (.cons tI (.cons (.list .str) (.cons tI tI)))))))) (.cons kI (.cons kS (.cons kS (.cons kI (.cons kI (.cons (.keep (.list .str)) (.cons kI (.cons kI .nil))))))))), .cells 46 true (.cons kS (.cons kI (.cons kI (.cons kI (.cons kS (.cons .nill .nil)))))), .cells 46 true (.cons kS (.cons kI (.cons kI (.cons kI (.cons kS (.cons (.own (.agg (.cons (.list (.agg (.cons tI (.cons tI tI)))) (.cons tI .bool))) 0 true) .nil)))))), .cells 46 true (.cons kS (.cons kI (.cons kI (.cons kI (.cons kS (.cons (.own (.agg (.cons (.list (.agg (.cons tI (.cons tI tI)))) (.cons tI .bool))) 0 true) .nil)))))), .cells 29 true (.cons kS (.cons kI (.cons kI (.cons (.keep (.list .str)) (.cons kI (.cons kI .nil)))))), .cells 46 true (.cons kS (.cons kI (.cons kI (.cons kI (.cons kS (.cons .nill .nil)))))), .cells 74 true (.cons .nill (.cons kI (.cons kB .nil)))], [⟨⟨0, (.agg (.cons (.list (.agg (.cons tI (.cons tI tI)))) (.cons tI .bool))), 74, true, true⟩, false⟩], []⟩), (.normal, ⟨(anyN 4 (.cons (.ptr 4 0) (anyN 3 (.cons (.ptr 6 0) (anyN 1 (.cons (.ptr 7 0) (.cons (.keep (.list tRR)) (anyN 84 .nil)))))))), [.cells 23 true (.cons kS (.cons kI (.cons kI .nil))), .cells 31 true (.cons (.keep (.list (.agg (.cons .str (.cons tI (.cons tI (.cons (.list .str) (.cons tI tI)))))))) (.cons kI (.cons kS (.cons kS (.cons kI (.cons kI (.cons (.keep (.list .str)) (.cons kI (.cons kI .nil))))))))), .cells 46 true (.cons kS (.cons kI (.cons kI (.cons kI (.cons kS (.cons .nill .nil)))))), .cells 46 true (.cons kS (.cons kI (.cons kI (.cons kI (.cons kS (.cons (.own (.agg (.cons (.list (.agg (.cons tI (.cons tI tI)))) (.cons tI .bool))) 0 true) .nil)))))), .cells 46 true (.cons kS (.cons kI (.cons kI (.cons kI (.cons kS (.cons (.own (.agg (.cons (.list (.agg (.cons tI (.cons tI tI)))) (.cons tI .bool))) 0 true) .nil)))))), .cells 29 true (.cons kS (.cons kI (.cons kI (.cons (.keep (.list .str)) (.cons kI (.cons kI .nil)))))), .cells 46 true (.cons kS (.cons kI (.cons kI (.cons kI (.cons kS (.cons .nill .nil)))))), .cells 74 true (.cons .nill (.cons kI (.cons kB .nil)))], [⟨⟨0, (.agg (.cons (.list (.agg (.cons tI (.cons tI tI)))) (.cons tI .bool))), 74, true, true⟩, false⟩], []⟩)]⟩), ([7, 32, 4, 52], ⟨none, [(.normal, ⟨(anyN 4 (.cons (.ptr 4 0) (anyN 3 (.cons (.ptr 6 0) (anyN 1 (.cons (.ptr 7 0) (.cons (.keep (.list tRR)) (anyN 28 (.cons (.ty .bool) (anyN 55 .nil)))))))))), [.cells 23 true (.cons kS (.cons kI (.cons kI .nil))), .cells 31 true (.cons (.keep (.list (.agg (.cons .str (.cons tI (.cons tI (.cons (.list .str) (.cons tI tI)))))))) (.cons kI (.cons kS (.cons kS (.cons kI (.cons kI (.cons (.keep (.list .str)) (.cons kI (.cons kI .nil))))))))), .cells 46 true (.cons kS (.cons kI (.cons kI (.cons kI (.cons kS (.cons .nill .nil)))))), .cells 46 true (.cons kS (.cons kI (.cons kI (.cons kI (.cons kS (.cons (.own (.agg (.cons (.list (.agg (.cons tI (.cons tI tI)))) (.cons tI .bool))) 0 true) .nil)))))), .cells 46 true (.cons kS (.cons kI (.cons kI (.cons kI (.cons kS (.cons (.own (.agg (.cons (.list (.agg (.cons tI (.cons tI tI)))) (.cons tI .bool))) 0 true) .nil)))))), .cells 29 true (.cons kS (.cons kI (.cons kI (.cons (.keep (.list .str)) (.cons kI (.cons kI .nil)))))), .cells 46 true (.cons kS (.cons kI (.cons kI (.cons kI (.cons kS (.cons .nill .nil)))))), .cells 74 true (.cons .nill (.cons kI (.cons kB .nil)))], [⟨⟨0, (.agg (.cons (.list (.agg (.cons tI (.cons tI tI)))) (.cons tI .bool))), 74, true, true⟩, false⟩], []⟩)]⟩), ([22], ⟨some ⟨(.cons kI (anyN 4 (.cons (.ptr 1 0) (.cons (.ptr 2 0) (anyN 1 (.cons (.ptr 3 0) (.cons yI (anyN 60 .nil)))))))), [.cells 23 true (.cons kS (.cons kI (.cons kI .nil))), .cells 31 true (.cons (.keep (.list (.agg (.cons .str (.cons tI (.cons tI (.cons (.list .str) (.cons tI tI)))))))) (.cons kI (.cons kS (.cons kS (.cons kI (.cons kI (.cons (.keep (.list .str)) (.cons kI (.cons kI .nil))))))))), .cells 46 true (.cons kS (.cons kI (.cons kI (.cons kI (.cons kS (.cons .nill .nil)))))), .cells 46 true (.cons kS (.cons kI (.cons kI (.cons kI (.cons (.ty .str) (.cons (.own (.agg (.cons (.list (.agg (.cons tI (.cons tI tI)))) (.cons tI .bool))) 0 true) .nil))))))], [⟨⟨0, (.agg (.cons (.list (.agg (.cons tI (.cons tI tI)))) (.cons tI .bool))), 74, true, true⟩, true⟩], []⟩, [(.ret, ⟨(anyN 6 (.cons (.ptr 2 0) (.cons (.ty .bool) (anyN 62 .nil)))), [.cells 23 true (.cons kS (.cons kI (.cons kI .nil))), .cells 31 true (.cons (.keep (.list (.agg (.cons .str (.cons tI (.cons tI (.cons (.list .str) (.cons tI tI)))))))) (.cons kI (.cons kS (.cons kS (.cons kI (.cons kI (.cons (.keep (.list .str)) (.cons kI (.cons kI .nil))))))))), .cells 46 true (.cons kS (.cons kI (.cons kI (.cons kI (.cons kS (.cons .nill .nil)))))), .cells 46 true (.cons kS (.cons kI (.cons kI (.cons kI (.cons (.ty .str) (.cons (.own (.agg (.cons (.list (.agg (.cons tI (.cons tI tI)))) (.cons tI .bool))) 0 true) .nil))))))], [⟨⟨0, (.agg (.cons (.list (.agg (.cons tI (.cons tI tI)))) (.cons tI .bool))), 74, true, true⟩, false⟩], []⟩), (.exit 0, ⟨(.cons kI (anyN 4 (.cons (.ptr 1 0) (.cons (.ptr 2 0) (anyN 1 (.cons (.ptr 3 0) (anyN 61 .nil))))))), [.cells 23 true (.cons kS (.cons kI (.cons kI .nil))), .cells 31 true (.cons (.keep (.list (.agg (.cons .str (.cons tI (.cons tI (.cons (.list .str) (.cons tI tI)))))))) (.cons kI (.cons kS (.cons kS (.cons kI (.cons kI (.cons (.keep (.list .str)) (.cons kI (.cons kI .nil))))))))), .cells 46 true (.cons kS (.cons kI (.cons kI (.cons kI (.cons kS (.cons .nill .nil)))))), .cells 46 true (.cons kS (.cons kI (.cons kI (.cons kI (.cons (.ty .str) (.cons (.own (.agg (.cons (.list (.agg (.cons tI (.cons tI tI)))) (.cons tI .bool))) 0 true) .nil))))))], [⟨⟨0, (.agg (.cons (.list (.agg (.cons tI (.cons tI tI)))) (.cons tI .bool))), 74, true, true⟩, false⟩], []⟩)]⟩), ([18, 32, 8, 32], ⟨some ⟨(anyN 4 (.cons (.ptr 5 0) (anyN 3 (.cons (.ptr 7 0) (anyN 1 (.cons (.ptr 8 0) (.cons (.keep (.list tRR)) (.cons yI (anyN 83 .nil))))))))), [.cells 23 false (.cons kS (.cons kI (.cons kI .nil))), .cells 31 false (.cons (.keep (.list (.agg (.cons .str (.cons tI (.cons tI (.cons (.list .str) (.cons tI tI)))))))) (.cons kI (.cons kS (.cons kS (.cons kI (.cons kI (.cons (.keep (.list .str)) (.cons kI (.cons kI .nil))))))))), .cells 46 false (.cons kS (.cons kI (.cons kI (.cons kI (.cons kS (.cons .nill .nil)))))), .cells 46 false (.cons kS (.cons kI (.cons kI (.cons kI (.cons kS (.cons (.own (.agg (.cons (.list (.agg (.cons tI (.cons tI tI)))) (.cons tI .bool))) 0 true) .nil)))))), .cells 46 false (.cons kS (.cons kI (.cons kI (.cons kI (.cons kS (.cons .nill .nil)))))), .cells 46 true (.cons kS (.cons kI (.cons kI (.cons kI (.cons (.ty .str) (.cons (.own (.agg (.cons (.list (.agg (.cons tI (.cons tI tI)))) (.cons tI .bool))) 0 true) .nil)))))), .cells 29 true (.cons kS (.cons kI (.cons kI (.cons (.keep (.list .str)) (.cons kI (.cons kI .nil)))))), .cells 46 true (.cons kS (.cons kI (.cons kI (.cons kI (.cons kS (.cons .nill .nil)))))), .cells 74 true (.cons (.own (.agg (.cons tI (.cons tI tI))) 1 true) (.cons kI (.cons kB .nil)))], [⟨⟨0, (.agg (.cons (.list (.agg (.cons tI (.cons tI tI)))) (.cons tI .bool))), 74, true, true⟩, false⟩, ⟨⟨0, (.agg (.cons tI (.cons tI tI))), 80, true, true⟩, true⟩], []⟩, [(.exit 0, ⟨(anyN 4 (.cons (.ptr 5 0) (anyN 3 (.cons (.ptr 7 0) (anyN 1 (.cons (.ptr 8 0) (anyN 85 .nil))))))), [.cells 23 false (.cons kS (.cons kI (.cons kI .nil))), .cells 31 false (.cons (.keep (.list (.agg (.cons .str (.cons tI (.cons tI (.cons (.list .str) (.cons tI tI)))))))) (.cons kI (.cons kS (.cons kS (.cons kI (.cons kI (.cons (.keep (.list .str)) (.cons kI (.cons kI .nil))))))))), .cells 46 false (.cons kS (.cons kI (.cons kI (.cons kI (.cons kS (.cons .nill .nil)))))), .cells 46 false (.cons kS (.cons kI (.cons kI (.cons kI (.cons kS (.cons (.own (.agg (.cons (.list (.agg (.cons tI (.cons tI tI)))) (.cons tI .bool))) 0 true) .nil)))))), .cells 46 false (.cons kS (.cons kI (.cons kI (.cons kI (.cons kS (.cons .nill .nil)))))), .cells 46 true (.cons kS (.cons kI (.cons kI (.cons kI (.cons (.ty .str) (.cons (.own (.agg (.cons (.list (.agg (.cons tI (.cons tI tI)))) (.cons tI .bool))) 0 true) .nil)))))), .cells 29 true (.cons kS (.cons kI (.cons kI (.cons (.keep (.list .str)) (.cons kI (.cons kI .nil)))))), .cells 46 true (.cons kS (.cons kI (.cons kI (.cons kI (.cons kS (.cons .nill .nil)))))), .cells 74 true (.cons (.own (.agg (.cons tI (.cons tI tI))) 1 true) (.cons kI (.cons kB .nil)))], [⟨⟨0, (.agg (.cons (.list (.agg (.cons tI (.cons tI tI)))) (.cons tI .bool))), 74, true, true⟩, false⟩, ⟨⟨0, (.agg (.cons tI (.cons tI tI))), 80, true, true⟩, false⟩], []⟩)]⟩), ([18, 32, 4, 52], ⟨some ⟨(anyN 4 (.cons (.ptr 4 0) (anyN 3 (.cons (.ptr 6 0) (anyN 1 (.cons (.ptr 7 0) (.cons (.keep (.list tRR)) (.cons yI (anyN 83 .nil))))))))), [.cells 23 true (.cons kS (.cons kI (.cons kI .nil))), .cells 31 true (.cons (.keep (.list (.agg (.cons .str (.cons tI (.cons tI (.cons (.list .str) (.cons tI tI)))))))) (.cons kI (.cons kS (.cons kS (.cons kI (.cons kI (.cons (.keep (.list .str)) (.cons kI (.cons kI .nil))))))))), .cells 46 true (.cons kS (.cons kI (.cons kI (.cons kI (.cons kS (.cons .nill .nil)))))), .cells 46 true (.cons kS (.cons kI (.cons kI (.cons kI (.cons kS (.cons (.own (.agg (.cons (.list (.agg (.cons tI (.cons tI tI)))) (.cons tI .bool))) 0 true) .nil)))))), .cells 46 true (.cons kS (.cons kI (.cons kI (.cons kI (.cons (.ty .str) (.cons (.own (.agg (.cons (.list (.agg (.cons tI (.cons tI tI)))) (.cons tI .bool))) 0 true) .nil)))))), .cells 29 true (.cons kS (.cons kI (.cons kI (.cons (.keep (.list .str)) (.cons kI (.cons kI .nil)))))), .cells 46 true (.cons kS (.cons kI (.cons kI (.cons kI (.cons kS (.cons .nill .nil)))))), .cells 74 true (.cons (.own (.agg (.cons tI (.cons tI tI))) 1 true) (.cons kI (.cons kB .nil)))], [⟨⟨0, (.agg (.cons (.list (.agg (.cons tI (.cons tI tI)))) (.cons tI .bool))), 74, true, true⟩, false⟩, ⟨⟨0, (.agg (.cons tI (.cons tI tI))), 80, true, true⟩, true⟩], []⟩, [(.exit 0, ⟨(anyN 4 (.cons (.ptr 4 0) (anyN 3 (.cons (.ptr 6 0) (anyN 1 (.cons (.ptr 7 0) (anyN 85 .nil))))))), [.cells 23 true (.cons kS (.cons kI (.cons kI .nil))), .cells 31 true (.cons (.keep (.list (.agg (.cons .str (.cons tI (.cons tI (.cons (.list .str) (.cons tI tI)))))))) (.cons kI (.cons kS (.cons kS (.cons kI (.cons kI (.cons (.keep (.list .str)) (.cons kI (.cons kI .nil))))))))), .cells 46 true (.cons kS (.cons kI (.cons kI (.cons kI (.cons kS (.cons .nill .nil)))))), .cells 46 true (.cons kS (.cons kI (.cons kI (.cons kI (.cons kS (.cons (.own (.agg (.cons (.list (.agg (.cons tI (.cons tI tI)))) (.cons tI .bool))) 0 true) .nil)))))), .cells 46 true (.cons kS (.cons kI (.cons kI (.cons kI (.cons (.ty .str) (.cons (.own (.agg (.cons (.list (.agg (.cons tI (.cons tI tI)))) (.cons tI .bool))) 0 true) .nil)))))), .cells 29 true (.cons kS (.cons kI (.cons kI (.cons (.keep (.list .str)) (.cons kI (.cons kI .nil)))))), .cells 46 true (.cons kS (.cons kI (.cons kI (.cons kI (.cons kS (.cons .nill .nil)))))), .cells 74 true (.cons (.own (.agg (.cons tI (.cons tI tI))) 1 true) (.cons kI (.cons kB .nil)))], [⟨⟨0, (.agg (.cons (.list (.agg (.cons tI (.cons tI tI)))) (.cons tI .bool))), 74, true, true⟩, false⟩, ⟨⟨0, (.agg (.cons tI (.cons tI tI))), 80, true, true⟩, false⟩], []⟩)]⟩)]
@[reducible] def fs_ref18_Make : List (Nat × SFn) := [(25, .pure [.str, tI, tRR] [.str] (fun x => F_ref06_Encode x.1 x.2.1 x.2.2)), (54, .pure [.str, tI, tRR] [tI] (fun x => F_ref06_TTL x.1 x.2.1 x.2.2)), (24, .pure [(.agg (.cons .str (.cons tI (.cons tI (.cons (.list .str) tI))))), tI, tI] [(.list tRR)] (fun x => F_ref10_Flat x.1 x.2.1 x.2.2)), (30, .pure [tI] [.bool] (fun x => F_ref12_Time x)), (31, .pure [tQ] [.bool] (fun x => F_ref10_Asked x))]
def cfg_ref18_Make : SCfg := SCfg.of (fs_ref18_Make ++ inlL) ann_ref18_Make keepL
theorem eq_ref18_Make (x : HL [tI, tQ, (.agg (.cons (.list (.agg (.cons .str (.cons tI (.cons tI (.cons (.list .str) (.cons tI tI))))))) (.cons tI (.cons .str (.cons .str (.cons tI (.cons tI (.cons (.list .str) (.cons tI tI)))))))))]) : fnK cfg_ref18_Make Try.prog 100000 13 [tI, tQ, (.agg (.cons (.list (.agg (.cons .str (.cons tI (.cons tI (.cons (.list .str) (.cons tI tI))))))) (.cons tI (.cons .str (.cons .str (.cons tI (.cons tI (.cons (.list .str) (.cons tI tI)))))))))] [(.agg (.cons .str (.cons tI (.cons tI (.cons tI (.cons .str (.list (.agg (.cons (.list (.agg (.cons tI (.cons tI tI)))) (.cons tI .bool)))))))))), .bool] x = (fun x => F_ref18_Make x.1 x.2.1 x.2.2) x := by kernel_rfl
theorem told_ref18_Make : Told CC Try.prog 13 [tI, tQ, (.agg (.cons (.list (.agg (.cons .str (.cons tI (.cons tI (.cons (.list .str) (.cons tI tI))))))) (.cons tI (.cons .str (.cons .str (.cons tI (.cons tI (.cons (.list .str) (.cons tI tI)))))))))] [(.agg (.cons .str (.cons tI (.cons tI (.cons tI (.cons .str (.list (.agg (.cons (.list (.agg (.cons tI (.cons tI tI)))) (.cons tI .bool)))))))))), .bool] (fun x => F_ref18_Make x.1 x.2.1 x.2.2) := told_of (gok (an := ann_ref18_Make) (fs := fs_ref18_Make) ⟨told_ref06_Encode, told_ref06_TTL, told_ref10_Flat, told_ref12_Time, told_ref10_Asked, trivial⟩) rfl rfl eq_ref18_Make
end
end Go.Abs
