/- Part of a proof. -/
import Derived.Test.YthlcfhkcbmikcaaGreatSnC
set_option linter.unusedSimpArgs false
set_option linter.unusedVariables false
set_option linter.unusedSectionVars false
set_option maxRecDepth 100000
namespace Go.Abs
open Go Go.Proofs
noncomputable section
def F_law17_live : Option (Bool) :=
 bnd (F_ref08_Encode (7, 256, [([1, 65, 0], 1, 1)], [], [], [])) fun (v1, v2) =>
 bnd (F_reply_Read v1) fun (v3, v4, v5) =>
 bnd (F_reply_Read [115, 104, 111, 114, 116]) fun (v6, v7, v8) =>
 grd (v1.length + 1 ≤ maxStr) <|
 bnd (F_reply_Read (v1 ++ [122])) fun (v9, v10, v11) =>
 bnd (F_reply_Build (v3.1, v3.2.1, v3.2.2.1, v3.2.2.2.1, v3.2.2.2.2.1, v3.2.2.2.2.2.1, v3.2.2.2.2.2.2.1, v3.2.2.2.2.2.2.2.1, v3.2.2.2.2.2.2.2.2.1, v3.2.2.2.2.2.2.2.2.2) ([([1, 97, 0], 1, 1, [[49, 49, 49, 49], [50, 50, 50, 50]], 9, 4)], 0, [1, 97, 0], [], 0, 0, [], 0, 0) 1) fun v12 =>
 bnd (F_ref08_Decode v12) fun (v13, v14) =>
 bnd (F_reply_Refuse (v3.1, v3.2.1, v3.2.2.1, v3.2.2.2.1, v3.2.2.2.2.1, v3.2.2.2.2.2.1, v3.2.2.2.2.2.2.1, v3.2.2.2.2.2.2.2.1, v3.2.2.2.2.2.2.2.2.1, v3.2.2.2.2.2.2.2.2.2) 2) fun v15 =>
 bnd (F_ref08_Decode v15) fun (v16, v17) =>
 bnd (F_reply_Build (v3.1, v3.2.1, v3.2.2.1, v3.2.2.2.1, v3.2.2.2.2.1, v3.2.2.2.2.2.1, v3.2.2.2.2.2.2.1, v3.2.2.2.2.2.2.2.1, v3.2.2.2.2.2.2.2.2.1, v3.2.2.2.2.2.2.2.2.2) ([], 3, [], [], 0, 0, [], 0, 0) 0) fun v18 =>
 bnd (F_ref08_Decode v18) fun (v19, v20) =>
 bnd (α := (Bool ⊕ Unit)) (if ((↑(List.length v13.2.2.2.1) : Int) != 2) = false then
   if ((↑(List.length v13.2.2.1) : Int) != 1) = false then
    if ((↑(List.length v16.2.2.1) : Int) != 1) = true then
     grdEq (α := List UInt8) ([1, 65, 0]) ([1, 65, 0]) <|
     gq (α := Int) 1 <| gq (α := Int) 1 <| g10 v3 <| g10 v6 <| g10 v9 <|
     grdEq (α := List ((List UInt8 × (Int × (Int × (List (List UInt8) × (Int × Int))))))) ([([1, 97, 0], 1, 1, [[49, 49, 49, 49], [50, 50, 50, 50]], 9, 4)]) ([([1, 97, 0], 1, 1, [[49, 49, 49, 49], [50, 50, 50, 50]], 9, 4)]) <|
     gz <|
     grdEq (α := List UInt8) ([1, 97, 0]) ([1, 97, 0]) <|
     gq (α := List UInt8) ([]) <| gz <| gz <| gz <| gz <| g6 v13 <| g6 v16 <| g6 v19 <|
     some (.inl false)
    else
     gq v4 <| gq v5 <| gq v7 <| gq v10 <| gq v11 <| gq v14 <| gq v17 <| gq v20 <|
     grdEq (α := List UInt8) ([1, 65, 0]) ([1, 65, 0]) <|
     gq (α := Int) 1 <| gq (α := Int) 1 <| g10 v3 <| g10 v6 <| g10 v9 <|
     grdEq (α := List ((List UInt8 × (Int × (Int × (List (List UInt8) × (Int × Int))))))) ([([1, 97, 0], 1, 1, [[49, 49, 49, 49], [50, 50, 50, 50]], 9, 4)]) ([([1, 97, 0], 1, 1, [[49, 49, 49, 49], [50, 50, 50, 50]], 9, 4)]) <|
     gz <|
     grdEq (α := List UInt8) ([1, 97, 0]) ([1, 97, 0]) <|
     gq (α := List UInt8) ([]) <| gz <| gz <| gz <| gz <| g6 v13 <| g6 v16 <| g6 v19 <|
     some (.inr (()))
   else
    grdEq (α := List UInt8) ([1, 65, 0]) ([1, 65, 0]) <|
    gq (α := Int) 1 <| gq (α := Int) 1 <| g10 v3 <| g10 v6 <| g10 v9 <|
    grdEq (α := List ((List UInt8 × (Int × (Int × (List (List UInt8) × (Int × Int))))))) ([([1, 97, 0], 1, 1, [[49, 49, 49, 49], [50, 50, 50, 50]], 9, 4)]) ([([1, 97, 0], 1, 1, [[49, 49, 49, 49], [50, 50, 50, 50]], 9, 4)]) <|
    gz <|
    grdEq (α := List UInt8) ([1, 97, 0]) ([1, 97, 0]) <|
    gq (α := List UInt8) ([]) <| gz <| gz <| gz <| gz <| g6 v13 <| g6 v16 <| g6 v19 <|
    some (.inl false)
  else
   grdEq (α := List UInt8) ([1, 65, 0]) ([1, 65, 0]) <|
   gq (α := Int) 1 <| gq (α := Int) 1 <| g10 v3 <| g10 v6 <| g10 v9 <|
   grdEq (α := List ((List UInt8 × (Int × (Int × (List (List UInt8) × (Int × Int))))))) ([([1, 97, 0], 1, 1, [[49, 49, 49, 49], [50, 50, 50, 50]], 9, 4)]) ([([1, 97, 0], 1, 1, [[49, 49, 49, 49], [50, 50, 50, 50]], 9, 4)]) <|
   gz <|
   grdEq (α := List UInt8) ([1, 97, 0]) ([1, 97, 0]) <|
   gq (α := List UInt8) ([]) <| gz <| gz <| gz <| gz <| g6 v13 <| g6 v16 <| g6 v19 <|
   some (.inl false)) fun o21 =>
 match o21 with
 | .inl s0_22 =>
  some s0_22
 | .inr _ =>
  if (v3.1 == 7) = true then
   if (v3.2.1 == 256) = true then
    if (v3.2.2.1 == [1, 65, 0] && (v3.2.2.2.1 == 1 && (v3.2.2.2.2.1 == 1 && true))) = true then
     if (v4 == 2) = true then
      if (v5 == 0) = true then
       if (v7 == 0) = true then
        if (v10 == 1) = true then
         if (v11 == 1) = true then
          if (v9.1 == 7) = true then
           if (v9.2.2.1 == [] && (v9.2.2.2.1 == 0 && (v9.2.2.2.2.1 == 0 && true))) = true then
            if (v14 == 0) = true then
             if (v13.1 == 7) = true then
              if (v13.2.1 == 33152) = true then
               bnd (v13.2.2.1[0]?) fun x23 =>
               if (x23.1 == [1, 65, 0] && (x23.2.1 == 1 && (x23.2.2 == 1 && true))) = true then
                bnd (v13.2.2.2.1[0]?) fun x24 =>
                if (x24.1 == [1, 65, 0] && (x24.2.1 == 1 && (x24.2.2.1 == 1 && (x24.2.2.2.1 == 4 && (x24.2.2.2.2 == [50, 50, 50, 50] && true))))) = true then
                 if (v17 == 0) = true then
                  if (v16.2.1 == 33154) = true then
                   if (v20 == 0) = true then
                    if (v19.2.1 == 33154) = true then
                     if ((↑(List.length v19.2.2.2.1) : Int) == 0) = true then
                      bnd (F_reply_Refuse (v3.1, v3.2.1, v3.2.2.1, v3.2.2.2.1, v3.2.2.2.2.1, v3.2.2.2.2.2.1, v3.2.2.2.2.2.2.1, v3.2.2.2.2.2.2.2.1, v3.2.2.2.2.2.2.2.2.1, v3.2.2.2.2.2.2.2.2.2) 256) fun v25 =>
                      some (v25 == [])
                     else
                      some false
                    else
                     some false
                   else
                    some false
                  else
                   some false
                 else
                  some false
                else
                 some false
               else
                some false
              else
               some false
             else
              some false
            else
             some false
           else
            some false
          else
           some false
         else
          some false
        else
         some false
       else
        some false
      else
       some false
     else
      some false
    else
     some false
   else
    some false
  else
   some false
def ann_law17_live : List (List Nat × Ann) := [([20], ⟨none, [(.ret, ⟨(.cons (.ty .bool) (anyN 191 .nil)), [.cells 24 true yS41, .cells 52 true yS2, .cells 52 true yS2, .cells 52 true yS2, .cells 48 true (.cons (.keep (.list yT15)) yS29), .cells 63 true yS0, .cells 63 true yS0, .cells 63 true yS0], [], []⟩), (.normal, ⟨(anyN 1 (.cons (.ptr 0 0) (anyN 2 (.cons (.ptr 1 0) (.cons kI (.cons kI (anyN 1 (.cons kI (anyN 1 (.cons (.ptr 3 0) (.cons kI (.cons kI (anyN 1 (.cons (.ptr 5 0) (.cons kI (.cons (.ptr 6 0) (.cons kI (.cons (.ptr 7 0) (.cons kI (anyN 172 .nil)))))))))))))))))))), [.cells 24 true yS41, .cells 52 true yS2, .cells 52 true yS2, .cells 52 true yS2, .cells 48 true (.cons (.keep (.list yT15)) yS29), .cells 63 true yS0, .cells 63 true yS0, .cells 63 true yS0], [], []⟩)]⟩)]
@[reducible] def fs_law17_live : List (Nat × SFn) := [(40, .pure [tM] [.str, tI] (fun x => F_ref08_Encode x)), (30, .pure [.str] [yT5, tI, tI] (fun x => F_reply_Read x)), (34, .pure [yT5, yT3, tI] [.str] (fun x => F_reply_Build x.1 x.2.1 x.2.2)), (25, .pure [.str] [tM, tI] (fun x => F_ref08_Decode x)), (38, .pure [yT5, tI] [.str] (fun x => F_reply_Refuse x.1 x.2))]
theorem told_law17_live : Told CC Tryz.prog 29 [] [.bool] (fun x => F_law17_live) := told_of (n := 100000) (gok (an := ann_law17_live) (fs := fs_law17_live) ⟨told_ref08_Encode, told_reply_Read, told_reply_Build, told_ref08_Decode, told_reply_Refuse, trivial⟩) rfl rfl (fun x => by kernel_rfl)
end
end Go.Abs

set_option maxRecDepth 100000
namespace Go.Abs
open Go Go.Proofs
noncomputable section
def F_law17_ReplyServ (a_1 : (Int × (Int × (List UInt8 × (Int × (Int × (Bool × (Int × (Int × (Int × Bool)))))))))) (c_2 : (List ((List UInt8 × (Int × (Int × (List (List UInt8) × (Int × Int)))))) × (Int × (List UInt8 × (List UInt8 × (Int × (Int × (List (List UInt8) × (Int × Int))))))))) (turn_3 : Int) : Option (Bool) :=
 bnd (α := (Bool ⊕ Unit)) (bnd (α := Bool) (bnd (F_ref17_Small (c_2.1, c_2.2.1, c_2.2.2.1, c_2.2.2.2.1, c_2.2.2.2.2.1, c_2.2.2.2.2.2.1, c_2.2.2.2.2.2.2.1, c_2.2.2.2.2.2.2.2.1, c_2.2.2.2.2.2.2.2.2)) fun v4 =>
   if (!v4) = false then
    if decide (300 < (↑(List.length a_1.2.2.1) : Int)) = false then
     if decide (0 ≤ c_2.2.1) = true then
      gq turn_3 <| g10 a_1 <| g9 c_2 <|
      some (decide (c_2.2.1 ≤ 2))
     else
      gq turn_3 <| g10 a_1 <| g9 c_2 <|
      some false
    else
     gq turn_3 <| g10 a_1 <| g9 c_2 <|
     some true
   else
    gq turn_3 <| g10 a_1 <| g9 c_2 <|
    some true) fun s26_5 =>
  if s26_5 = true then
   bnd F_law17_live fun v6 =>
   g10 a_1 <| g9 c_2 <|
   some (.inl v6)
  else
   gq turn_3 <| g10 a_1 <| g9 c_2 <|
   some (.inr (()))) fun o7 =>
 match o7 with
 | .inl s6_8 =>
  some s6_8
 | .inr _ =>
  bnd (F_law17_Own (a_1.1, a_1.2.1, a_1.2.2.1, a_1.2.2.2.1, a_1.2.2.2.2.1, a_1.2.2.2.2.2.1, a_1.2.2.2.2.2.2.1, a_1.2.2.2.2.2.2.2.1, a_1.2.2.2.2.2.2.2.2.1, a_1.2.2.2.2.2.2.2.2.2)) fun v9 =>
  bnd (F_law17_Chain (c_2.1, c_2.2.1, c_2.2.2.1, c_2.2.2.2.1, c_2.2.2.2.2.1, c_2.2.2.2.2.2.1, c_2.2.2.2.2.2.2.1, c_2.2.2.2.2.2.2.2.1, c_2.2.2.2.2.2.2.2.2)) fun v10 =>
  bnd (F_reply_Build (v9.1, v9.2.1, v9.2.2.1, v9.2.2.2.1, v9.2.2.2.2.1, v9.2.2.2.2.2.1, v9.2.2.2.2.2.2.1, v9.2.2.2.2.2.2.2.1, v9.2.2.2.2.2.2.2.2.1, v9.2.2.2.2.2.2.2.2.2) (v10.1, v10.2.1, v10.2.2.1, v10.2.2.2.1, v10.2.2.2.2.1, v10.2.2.2.2.2.1, v10.2.2.2.2.2.2.1, v10.2.2.2.2.2.2.2.1, v10.2.2.2.2.2.2.2.2) turn_3) fun v11 =>
  bnd (F_law17_Own (a_1.1, a_1.2.1, a_1.2.2.1, a_1.2.2.2.1, a_1.2.2.2.2.1, a_1.2.2.2.2.2.1, a_1.2.2.2.2.2.2.1, a_1.2.2.2.2.2.2.2.1, a_1.2.2.2.2.2.2.2.2.1, a_1.2.2.2.2.2.2.2.2.2)) fun v12 =>
  bnd (F_reply_Refuse (v12.1, v12.2.1, v12.2.2.1, v12.2.2.2.1, v12.2.2.2.2.1, v12.2.2.2.2.2.1, v12.2.2.2.2.2.2.1, v12.2.2.2.2.2.2.2.1, v12.2.2.2.2.2.2.2.2.1, v12.2.2.2.2.2.2.2.2.2) 2) fun v13 =>
  if (v11 == v13) = true then
   bnd F_law17_live fun v14 =>
   some v14
  else
   some false
def ann_law17_ReplyServ : List (List Nat × Ann) := [([2], ⟨none, [(.ret, ⟨(anyN 6 (.cons (.ty .bool) (anyN 34 .nil))), [.cells 28 true yS2, .cells 36 true yS1], [], []⟩), (.normal, ⟨(anyN 2 (.cons kI (.cons (.ptr 0 0) (.cons (.ptr 1 0) (anyN 36 .nil))))), [.cells 28 true yS2, .cells 36 true yS1], [], []⟩)]⟩), ([3], ⟨none, [(.normal, ⟨(anyN 2 (.cons kI (.cons (.ptr 0 0) (.cons (.ptr 1 0) (anyN 21 (.cons (.ty .bool) (anyN 14 .nil))))))), [.cells 28 true yS2, .cells 36 true yS1], [], []⟩)]⟩)]
@[reducible] def fs_law17_ReplyServ : List (Nat × SFn) := [(15, .pure [yT3] [.bool] (fun x => F_ref17_Small x)), (29, .pure [] [.bool] (fun x => F_law17_live)), (20, .pure [yT5] [yT5] (fun x => F_law17_Own x)), (19, .pure [yT3] [yT3] (fun x => F_law17_Chain x)), (34, .pure [yT5, yT3, tI] [.str] (fun x => F_reply_Build x.1 x.2.1 x.2.2)), (38, .pure [yT5, tI] [.str] (fun x => F_reply_Refuse x.1 x.2))]
theorem told_law17_ReplyServ : Told CC Tryz.prog 13 [yT5, yT3, tI] [.bool] (fun x => F_law17_ReplyServ x.1 x.2.1 x.2.2) := told_of (n := 100000) (gok (an := ann_law17_ReplyServ) (fs := fs_law17_ReplyServ) ⟨told_ref17_Small, told_law17_live, told_law17_Own, told_law17_Chain, told_reply_Build, told_reply_Refuse, trivial⟩) rfl rfl (fun x => by kernel_rfl)
end
end Go.Abs

set_option maxRecDepth 100000
namespace Go.Abs
open Go Go.Proofs
noncomputable section
end
end Go.Abs

set_option maxRecDepth 100000
namespace Go.Abs
open Go Go.Proofs
noncomputable section
end
end Go.Abs

