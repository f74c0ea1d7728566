/- Part of a proof. -/
import Derived.Test.YthlcfhkcbmikcaaGreatSnC
set_option linter.unusedSimpArgs false
set_option linter.unusedVariables false
set_option linter.unusedSectionVars false
set_option maxRecDepth 100000
namespace Go.Abs
open Go Go.Proofs
noncomputable section
def F_law17_live : Option (Bool) :=
 bnd (F_ref08_Encode (7, 256, [([1, 65, 0], 1, 1)], [], [], [])) fun (v1, v2) =>
 bnd (F_reply_Read v1) fun (v3, v4, v5) =>
 bnd (F_reply_Read [115, 104, 111, 114, 116]) fun (v6, v7, v8) =>
 grd (v1.length + 1 ≤ maxStr) <|
 bnd (F_reply_Read (v1 ++ [122])) fun (v9, v10, v11) =>
 bnd (F_reply_Build (v3.1, v3.2.1, v3.2.2.1, v3.2.2.2.1, v3.2.2.2.2.1, v3.2.2.2.2.2.1, v3.2.2.2.2.2.2.1, v3.2.2.2.2.2.2.2.1, v3.2.2.2.2.2.2.2.2.1, v3.2.2.2.2.2.2.2.2.2) ([([1, 97, 0], 1, 1, [[49, 49, 49, 49], [50, 50, 50, 50]], 9, 4)], 0, [1, 97, 0], [], 0, 0, [], 0, 0) 1) fun v12 =>
 bnd (F_ref08_Decode v12) fun (v13, v14) =>
 bnd (F_reply_Refuse (v3.1, v3.2.1, v3.2.2.1, v3.2.2.2.1, v3.2.2.2.2.1, v3.2.2.2.2.2.1, v3.2.2.2.2.2.2.1, v3.2.2.2.2.2.2.2.1, v3.2.2.2.2.2.2.2.2.1, v3.2.2.2.2.2.2.2.2.2) 2) fun v15 =>
 bnd (F_ref08_Decode v15) fun (v16, v17) =>
 bnd (F_reply_Build (v3.1, v3.2.1, v3.2.2.1, v3.2.2.2.1, v3.2.2.2.2.1, v3.2.2.2.2.2.1, v3.2.2.2.2.2.2.1, v3.2.2.2.2.2.2.2.1, v3.2.2.2.2.2.2.2.2.1, v3.2.2.2.2.2.2.2.2.2) ([], 3, [], [], 0, 0, [], 0, 0) 0) fun v18 =>
 bnd (F_ref08_Decode v18) fun (v19, v20) =>
 bnd (α := (Bool ⊕ Unit)) (if ((↑(List.length v13.2.2.2.1) : Int) != 2) = false then
   if ((↑(List.length v13.2.2.1) : Int) != 1) = false then
    if ((↑(List.length v16.2.2.1) : Int) != 1) = true then
     grdEq (α := List UInt8) ([1, 65, 0]) ([1, 65, 0]) <|
     gq (α := Int) 1 <| gq (α := Int) 1 <| g10 v3 <| g10 v6 <| g10 v9 <|
     grdEq (α := List ((List UInt8 × (Int × (Int × (List (List UInt8) × (Int × Int))))))) ([([1, 97, 0], 1, 1, [[49, 49, 49, 49], [50, 50, 50, 50]], 9, 4)]) ([([1, 97, 0], 1, 1, [[49, 49, 49, 49], [50, 50, 50, 50]], 9, 4)]) <|
     gz <|
     grdEq (α := List UInt8) ([1, 97, 0]) ([1, 97, 0]) <|
     gq (α := List UInt8) ([]) <| gz <| gz <| gz <| gz <| g6 v13 <| g6 v16 <| g6 v19 <|
     some (.inl false)
    else
     gq v4 <| gq v5 <| gq v7 <| gq v10 <| gq v11 <| gq v14 <| gq v17 <| gq v20 <|
     grdEq (α := List UInt8) ([1, 65, 0]) ([1, 65, 0]) <|
     gq (α := Int) 1 <| gq (α := Int) 1 <| g10 v3 <| g10 v6 <| g10 v9 <|
     grdEq (α := List ((List UInt8 × (Int × (Int × (List (List UInt8) × (Int × Int))))))) ([([1, 97, 0], 1, 1, [[49, 49, 49, 49], [50, 50, 50, 50]], 9, 4)]) ([([1, 97, 0], 1, 1, [[49, 49, 49, 49], [50, 50, 50, 50]], 9, 4)]) <|
     gz <|
     grdEq (α := List UInt8) ([1, 97, 0]) ([1, 97, 0]) <|
     gq (α := List UInt8) ([]) <| gz <| gz <| gz <| gz <| g6 v13 <| g6 v16 <| g6 v19 <|
     some (.inr (()))
   else
    grdEq (α := List UInt8) ([1, 65, 0]) ([1, 65, 0]) <|
    gq (α := Int) 1 <| gq (α := Int) 1 <| g10 v3 <| g10 v6 <| g10 v9 <|
    grdEq (α := List ((List UInt8 × (Int × (Int × (List (List UInt8) × (Int × Int))))))) ([([1, 97, 0], 1, 1, [[49, 49, 49, 49], [50, 50, 50, 50]], 9, 4)]) ([([1, 97, 0], 1, 1, [[49, 49, 49, 49], [50, 50, 50, 50]], 9, 4)]) <|
    gz <|
    grdEq (α := List UInt8) ([1, 97, 0]) ([1, 97, 0]) <|
    gq (α := List UInt8) ([]) <| gz <| gz <| gz <| gz <| g6 v13 <| g6 v16 <| g6 v19 <|
    some (.inl false)
  else
   grdEq (α := List UInt8) ([1, 65, 0]) ([1, 65, 0]) <|
   gq (α := Int) 1 <| gq (α := Int) 1 <| g10 v3 <| g10 v6 <| g10 v9 <|
   grdEq (α := List ((List UInt8 × (Int × (Int × (List (List UInt8) × (Int × Int))))))) ([([1, 97, 0], 1, 1, [[49, 49, 49, 49], [50, 50, 50, 50]], 9, 4)]) ([([1, 97, 0], 1, 1, [[49, 49, 49, 49], [50, 50, 50, 50]], 9, 4)]) <|
   gz <|
   grdEq (α := List UInt8) ([1, 97, 0]) ([1, 97, 0]) <|
   gq (α := List UInt8) ([]) <| gz <| gz <| gz <| gz <| g6 v13 <| g6 v16 <| g6 v19 <|
   some (.inl false)) fun o21 =>
 match o21 with
 | .inl s0_22 =>
  some s0_22
 | .inr _ =>
  if (v3.1 == 7) = true then
   if (v3.2.1 == 256) = true then
    if (v3.2.2.1 == [1, 65, 0] && (v3.2.2.2.1 == 1 && (v3.2.2.2.2.1 == 1 && true))) = true then
     if (v4 == 2) = true then
      if (v5 == 0) = true then
       if (v7 == 0) = true then
        if (v10 == 1) = true then
         if (v11 == 1) = true then
          if (v9.1 == 7) = true then
           if (v9.2.2.1 == [] && (v9.2.2.2.1 == 0 && (v9.2.2.2.2.1 == 0 && true))) = true then
            if (v14 == 0) = true then
             if (v13.1 == 7) = true then
              if (v13.2.1 == 33152) = true then
               bnd (v13.2.2.1[0]?) fun x23 =>
               if (x23.1 == [1, 65, 0] && (x23.2.1 == 1 && (x23.2.2 == 1 && true))) = true then
                bnd (v13.2.2.2.1[0]?) fun x24 =>
                if (x24.1 == [1, 65, 0] && (x24.2.1 == 1 && (x24.2.2.1 == 1 && (x24.2.2.2.1 == 4 && (x24.2.2.2.2 == [50, 50, 50, 50] && true))))) = true then
                 if (v17 == 0) = true then
                  if (v16.2.1 == 33154) = true then
                   if (v20 == 0) = true then
                    if (v19.2.1 == 33154) = true then
                     if ((↑(List.length v19.2.2.2.1) : Int) == 0) = true then
                      bnd (F_reply_Refuse (v3.1, v3.2.1, v3.2.2.1, v3.2.2.2.1, v3.2.2.2.2.1, v3.2.2.2.2.2.1, v3.2.2.2.2.2.2.1, v3.2.2.2.2.2.2.2.1, v3.2.2.2.2.2.2.2.2.1, v3.2.2.2.2.2.2.2.2.2) 256) fun v25 =>
                      some (v25 == [])
                     else
                      some false
                    else
                     some false
                   else
                    some false
                  else
                   some false
                 else
                  some false
                else
                 some false
               else
                some false
              else
               some false
             else
              some false
            else
             some false
           else
            some false
          else
           some false
         else
          some false
        else
         some false
       else
        some false
      else
       some false
     else
      some false
    else
     some false
   else
    some false
  else
   some false
def ann_law17_live : List (List Nat × Ann) := [([20], ⟨none, [(.ret, ⟨(.cons (.ty .bool) (anyN 191 .nil)), [.cells 24 true yS41, .cells 52 true yS2, .cells 52 true yS2, .cells 52 true yS2, .cells 48 true (.cons (.keep (.list yT15)) yS29), .cells 63 true yS0, .cells 63 true yS0, .cells 63 true yS0], [], []⟩), (.normal, ⟨(anyN 1 (.cons (.ptr 0 0) (anyN 2 (.cons (.ptr 1 0) (.cons kI (.cons kI (anyN 1 (.cons kI (anyN 1 (.cons (.ptr 3 0) (.cons kI (.cons kI (anyN 1 (.cons (.ptr 5 0) (.cons kI (.cons (.ptr 6 0) (.cons kI (.cons (.ptr 7 0) (.cons kI (anyN 172 .nil)))))))))))))))))))), [.cells 24 true yS41, .cells 52 true yS2, .cells 52 true yS2, .cells 52 true yS2, .cells 48 true (.cons (.keep (.list yT15)) yS29), .cells 63 true yS0, .cells 63 true yS0, .cells 63 true yS0], [], []⟩)]⟩)]
@[reducible] def fs_law17_live : List (Nat × SFn) := [(40, .pure [tM] [.str, tI] (fun x => F_ref08_Encode x)), (30, .pure [.str] [yT5, tI, tI] (fun x => F_reply_Read x)), (34, .pure [yT5, yT3, tI] [.str] (fun x => F_reply_Build x.1 x.2.1 x.2.2)), (25, .pure [.str] [tM, tI] (fun x => F_ref08_Decode x)), (38, .pure [yT5, tI] [.str] (fun x => F_reply_Refuse x.1 x.2))]
theorem told_law17_live : Told CC Tryz.prog 29 [] [.bool] (fun x => F_law17_live) := told_of (n := 100000) (gok (an := ann_law17_live) (fs := fs_law17_live) ⟨told_ref08_Encode, told_reply_Read, told_reply_Build, told_ref08_Decode, told_reply_Refuse, trivial⟩) rfl rfl (fun x => by kernel_rfl)
end
end Go.Abs

set_option maxRecDepth 100000
namespace Go.Abs
open Go Go.Proofs
noncomputable section
def step_law17_plain_0 (c_1 : List (List UInt8 × Int × Int × List (List UInt8) × Int × Int) × Int × List UInt8 × List UInt8 × Int × Int × List (List UInt8) × Int × Int) : Int → Option (Int ⊕ (Bool ⊕ Unit)) := fun i_2 =>
 if decide (i_2 < (↑(List.length c_1.1) : Int)) = true then
  natOf i_2 fun n3 =>
  bnd (c_1.1[n3]?) fun x4 =>
  if (x4.2.1 == 41) = true then
   g9 c_1 <|
   some (.inr (.inl false))
  else
   g9 c_1 <|
   some (.inl (IntKind.i64.wrap (i_2 + 1)))
 else
  g9 c_1 <|
  some (.inr (.inr (())))
def F_law17_plain (c_1 : (List ((List UInt8 × (Int × (Int × (List (List UInt8) × (Int × Int)))))) × (Int × (List UInt8 × (List UInt8 × (Int × (Int × (List (List UInt8) × (Int × Int))))))))) : Option (Bool) :=
 bnd (loopS (step_law17_plain_0 c_1) 0) fun o5 =>
 match o5 with
 | .inl s2_6 =>
  some s2_6
 | .inr _ =>
  some (c_1.2.2.2.2.1 != 41)
def ann_law17_plain : List (List Nat × Ann) := [([6], ⟨some ⟨(anyN 1 (.cons (.ptr 0 0) (anyN 1 (.cons yI (anyN 22 .nil))))), [.cells 36 true yS1], [], []⟩, [(.ret, ⟨(anyN 2 (.cons (.ty .bool) (anyN 23 .nil))), [.cells 36 true yS1], [], []⟩), (.exit 0, ⟨(anyN 1 (.cons (.ptr 0 0) (anyN 24 .nil))), [.cells 36 true yS1], [], []⟩)]⟩)]
theorem told_law17_plain : Told CC Tryz.prog 33 [yT3] [.bool] (fun x => F_law17_plain x) := told_of (n := 100000) (gok (an := ann_law17_plain) (fs := []) trivial) rfl rfl (fun x => by kernel_rfl)
end
end Go.Abs

set_option maxRecDepth 100000
namespace Go.Abs
open Go Go.Proofs
noncomputable section
def F_law17_ReplyMore (a_1 : (Int × (Int × (List UInt8 × (Int × (Int × (Bool × (Int × (Int × (Int × Bool)))))))))) (c_2 : (List ((List UInt8 × (Int × (Int × (List (List UInt8) × (Int × Int)))))) × (Int × (List UInt8 × (List UInt8 × (Int × (Int × (List (List UInt8) × (Int × Int))))))))) (more_3 : Int) : Option (Bool) :=
 bnd (α := (Bool ⊕ Unit)) (bnd (α := Bool) (bnd (F_ref17_Small (c_2.1, c_2.2.1, c_2.2.2.1, c_2.2.2.2.1, c_2.2.2.2.2.1, c_2.2.2.2.2.2.1, c_2.2.2.2.2.2.2.1, c_2.2.2.2.2.2.2.2.1, c_2.2.2.2.2.2.2.2.2)) fun v4 =>
   if (!v4) = false then
    if decide (300 < (↑(List.length a_1.2.2.1) : Int)) = false then
     bnd (F_law17_plain (c_2.1, c_2.2.1, c_2.2.2.1, c_2.2.2.2.1, c_2.2.2.2.2.1, c_2.2.2.2.2.2.1, c_2.2.2.2.2.2.2.1, c_2.2.2.2.2.2.2.2.1, c_2.2.2.2.2.2.2.2.2)) fun v5 =>
     if (!v5) = false then
      if decide (more_3 < 0) = false then
       if decide (70000 < more_3) = false then
        if decide (a_1.2.2.2.2.2.2.1 < 0) = false then
         gq more_3 <| g10 a_1 <| g9 c_2 <|
         some (decide (65535 < a_1.2.2.2.2.2.2.1))
        else
         gq more_3 <| g10 a_1 <| g9 c_2 <|
         some true
       else
        gq more_3 <| g10 a_1 <| g9 c_2 <|
        some true
      else
       gq more_3 <| g10 a_1 <| g9 c_2 <|
       some true
     else
      gq more_3 <| g10 a_1 <| g9 c_2 <|
      some true
    else
     gq more_3 <| g10 a_1 <| g9 c_2 <|
     some true
   else
    gq more_3 <| g10 a_1 <| g9 c_2 <|
    some true) fun s48_6 =>
  if s48_6 = true then
   bnd F_law17_live fun v7 =>
   g10 a_1 <| g9 c_2 <|
   some (.inl v7)
  else
   gq more_3 <| g10 a_1 <| g9 c_2 <|
   some (.inr (()))) fun o8 =>
 match o8 with
 | .inl s6_9 =>
  some s6_9
 | .inr _ =>
  bnd (F_law17_Own (a_1.1, a_1.2.1, a_1.2.2.1, a_1.2.2.2.1, a_1.2.2.2.2.1, a_1.2.2.2.2.2.1, a_1.2.2.2.2.2.2.1, a_1.2.2.2.2.2.2.2.1, a_1.2.2.2.2.2.2.2.2.1, a_1.2.2.2.2.2.2.2.2.2)) fun v10 =>
  bnd (F_law17_Chain (c_2.1, c_2.2.1, c_2.2.2.1, c_2.2.2.2.1, c_2.2.2.2.2.1, c_2.2.2.2.2.2.1, c_2.2.2.2.2.2.2.1, c_2.2.2.2.2.2.2.2.1, c_2.2.2.2.2.2.2.2.2)) fun v11 =>
  bnd (F_reply_Build (v10.1, v10.2.1, v10.2.2.1, v10.2.2.2.1, v10.2.2.2.2.1, v10.2.2.2.2.2.1, v10.2.2.2.2.2.2.1, v10.2.2.2.2.2.2.2.1, v10.2.2.2.2.2.2.2.2.1, v10.2.2.2.2.2.2.2.2.2) (v11.1, v11.2.1, v11.2.2.1, v11.2.2.2.1, v11.2.2.2.2.1, v11.2.2.2.2.2.1, v11.2.2.2.2.2.2.1, v11.2.2.2.2.2.2.2.1, v11.2.2.2.2.2.2.2.2) 0) fun v12 =>
  bnd (F_law17_Own (a_1.1, a_1.2.1, a_1.2.2.1, a_1.2.2.2.1, a_1.2.2.2.2.1, a_1.2.2.2.2.2.1, IntKind.i64.wrap (a_1.2.2.2.2.2.2.1 + more_3), a_1.2.2.2.2.2.2.2.1, a_1.2.2.2.2.2.2.2.2.1, a_1.2.2.2.2.2.2.2.2.2)) fun v13 =>
  bnd (F_law17_Chain (c_2.1, c_2.2.1, c_2.2.2.1, c_2.2.2.2.1, c_2.2.2.2.2.1, c_2.2.2.2.2.2.1, c_2.2.2.2.2.2.2.1, c_2.2.2.2.2.2.2.2.1, c_2.2.2.2.2.2.2.2.2)) fun v14 =>
  bnd (F_reply_Build (v13.1, v13.2.1, v13.2.2.1, v13.2.2.2.1, v13.2.2.2.2.1, v13.2.2.2.2.2.1, v13.2.2.2.2.2.2.1, v13.2.2.2.2.2.2.2.1, v13.2.2.2.2.2.2.2.2.1, v13.2.2.2.2.2.2.2.2.2) (v14.1, v14.2.1, v14.2.2.1, v14.2.2.2.1, v14.2.2.2.2.1, v14.2.2.2.2.2.1, v14.2.2.2.2.2.2.1, v14.2.2.2.2.2.2.2.1, v14.2.2.2.2.2.2.2.2) 0) fun v15 =>
  bnd (α := (Bool ⊕ Unit)) (if (!(v12 == []) == (v15 == [])) = false then
    if decide ((↑v15.length : Int) < (↑v12.length : Int)) = true then
     g10 a_1 <| g9 c_2 <| gq a_1.1 <| gq a_1.2.1 <| gq a_1.2.2.1 <| gq a_1.2.2.2.1 <| gq a_1.2.2.2.2.1 <| gq a_1.2.2.2.2.2.1 <|
     grdEq (IntKind.i64.wrap (a_1.2.2.2.2.2.2.1 + more_3)) (IntKind.i64.wrap (a_1.2.2.2.2.2.2.1 + more_3)) <|
     gq a_1.2.2.2.2.2.2.2.1 <| gq a_1.2.2.2.2.2.2.2.2.1 <| gq a_1.2.2.2.2.2.2.2.2.2 <|
     some (.inl false)
    else
     gq v12 <| gq v15 <| g10 a_1 <| g9 c_2 <| gq a_1.1 <| gq a_1.2.1 <| gq a_1.2.2.1 <| gq a_1.2.2.2.1 <| gq a_1.2.2.2.2.1 <| gq a_1.2.2.2.2.2.1 <|
     grdEq (IntKind.i64.wrap (a_1.2.2.2.2.2.2.1 + more_3)) (IntKind.i64.wrap (a_1.2.2.2.2.2.2.1 + more_3)) <|
     gq a_1.2.2.2.2.2.2.2.1 <| gq a_1.2.2.2.2.2.2.2.2.1 <| gq a_1.2.2.2.2.2.2.2.2.2 <|
     some (.inr (()))
   else
    g10 a_1 <| g9 c_2 <| gq a_1.1 <| gq a_1.2.1 <| gq a_1.2.2.1 <| gq a_1.2.2.2.1 <| gq a_1.2.2.2.2.1 <| gq a_1.2.2.2.2.2.1 <|
    grdEq (IntKind.i64.wrap (a_1.2.2.2.2.2.2.1 + more_3)) (IntKind.i64.wrap (a_1.2.2.2.2.2.2.1 + more_3)) <|
    gq a_1.2.2.2.2.2.2.2.1 <| gq a_1.2.2.2.2.2.2.2.2.1 <| gq a_1.2.2.2.2.2.2.2.2.2 <|
    some (.inl false)) fun o16 =>
  match o16 with
  | .inl s6_17 =>
   some s6_17
  | .inr _ =>
   bnd (F_ref08_Decode v12) fun (v18, v19) =>
   bnd (F_ref08_Decode v15) fun (v20, v21) =>
   if (v12 == []) = true then
    bnd F_law17_live fun v22 =>
    some v22
   else
    if (v19 == 0) = true then
     if (v21 == 0) = true then
      if decide ((↑(List.length v18.2.2.2.1) : Int) ≤ (↑(List.length v20.2.2.2.1) : Int)) = true then
       if decide ((↑(List.length v18.2.2.2.2.1) : Int) ≤ (↑(List.length v20.2.2.2.2.1) : Int)) = true then
        bnd (F_ref07_Of 3 v20.2.1) fun v23 =>
        if (v23 == 0) = false then
         bnd (F_ref07_Of 3 v18.2.1) fun v24 =>
         if (v24 == 1) = true then
          bnd F_law17_live fun v25 =>
          some v25
         else
          some false
        else
         bnd F_law17_live fun v26 =>
         some v26
       else
        some false
      else
       some false
     else
      some false
    else
     some false
def ann_law17_ReplyMore : List (List Nat × Ann) := [([2], ⟨none, [(.ret, ⟨(anyN 6 (.cons (.ty .bool) (anyN 125 .nil))), [.cells 28 true yS2, .cells 36 true yS1], [], []⟩), (.normal, ⟨(anyN 2 (.cons kI (.cons (.ptr 0 0) (.cons (.ptr 1 0) (anyN 127 .nil))))), [.cells 28 true yS2, .cells 36 true yS1], [], []⟩)]⟩), ([3], ⟨none, [(.normal, ⟨(anyN 2 (.cons kI (.cons (.ptr 0 0) (.cons (.ptr 1 0) (anyN 43 (.cons (.ty .bool) (anyN 83 .nil))))))), [.cells 28 true yS2, .cells 36 true yS1], [], []⟩)]⟩), ([18], ⟨none, [(.ret, ⟨(anyN 6 (.cons (.ty .bool) (anyN 125 .nil))), [.cells 28 true yS2, .cells 36 true yS1, .cells 28 true yS2], [], []⟩), (.normal, ⟨(anyN 8 (.cons kS (.cons kS (anyN 122 .nil)))), [.cells 28 true yS2, .cells 36 true yS1, .cells 28 true yS2], [], []⟩)]⟩)]
@[reducible] def fs_law17_ReplyMore : List (Nat × SFn) := [(15, .pure [yT3] [.bool] (fun x => F_ref17_Small x)), (33, .pure [yT3] [.bool] (fun x => F_law17_plain x)), (29, .pure [] [.bool] (fun x => F_law17_live)), (20, .pure [yT5] [yT5] (fun x => F_law17_Own x)), (19, .pure [yT3] [yT3] (fun x => F_law17_Chain x)), (34, .pure [yT5, yT3, tI] [.str] (fun x => F_reply_Build x.1 x.2.1 x.2.2)), (25, .pure [.str] [tM, tI] (fun x => F_ref08_Decode x)), (35, .pure [tI, tI] [tI] (fun x => F_ref07_Of x.1 x.2))]
theorem told_law17_ReplyMore : Told CC Tryz.prog 12 [yT5, yT3, tI] [.bool] (fun x => F_law17_ReplyMore x.1 x.2.1 x.2.2) := told_of (n := 100000) (gok (an := ann_law17_ReplyMore) (fs := fs_law17_ReplyMore) ⟨told_ref17_Small, told_law17_plain, told_law17_live, told_law17_Own, told_law17_Chain, told_reply_Build, told_ref08_Decode, told_ref07_Of, trivial⟩) rfl rfl (fun x => by kernel_rfl)
end
end Go.Abs

set_option maxRecDepth 100000
namespace Go.Abs
open Go Go.Proofs
noncomputable section
end
end Go.Abs

