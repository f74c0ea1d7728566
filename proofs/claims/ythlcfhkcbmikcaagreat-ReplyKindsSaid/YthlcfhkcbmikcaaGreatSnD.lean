/- Part of a proof. -/
import Derived.Test.YthlcfhkcbmikcaaGreatSnC
set_option linter.unusedSimpArgs false
set_option linter.unusedVariables false
set_option linter.unusedSectionVars false
set_option maxRecDepth 100000
namespace Go.Abs
open Go Go.Proofs
noncomputable section
def F_law17_live : Option (Bool) :=
 bnd (F_ref08_Encode (7, 256, [([1, 65, 0], 1, 1)], [], [], [])) fun (v1, v2) =>
 bnd (F_reply_Read v1) fun (v3, v4, v5) =>
 bnd (F_reply_Read [115, 104, 111, 114, 116]) fun (v6, v7, v8) =>
 grd (v1.length + 1 ≤ maxStr) <|
 bnd (F_reply_Read (v1 ++ [122])) fun (v9, v10, v11) =>
 bnd (F_reply_Build (v3.1, v3.2.1, v3.2.2.1, v3.2.2.2.1, v3.2.2.2.2.1, v3.2.2.2.2.2.1, v3.2.2.2.2.2.2.1, v3.2.2.2.2.2.2.2.1, v3.2.2.2.2.2.2.2.2.1, v3.2.2.2.2.2.2.2.2.2) ([([1, 97, 0], 1, 1, [[49, 49, 49, 49], [50, 50, 50, 50]], 9, 4)], 0, [1, 97, 0], [], 0, 0, [], 0, 0) 1) fun v12 =>
 bnd (F_ref08_Decode v12) fun (v13, v14) =>
 bnd (F_reply_Refuse (v3.1, v3.2.1, v3.2.2.1, v3.2.2.2.1, v3.2.2.2.2.1, v3.2.2.2.2.2.1, v3.2.2.2.2.2.2.1, v3.2.2.2.2.2.2.2.1, v3.2.2.2.2.2.2.2.2.1, v3.2.2.2.2.2.2.2.2.2) 2) fun v15 =>
 bnd (F_ref08_Decode v15) fun (v16, v17) =>
 bnd (F_reply_Build (v3.1, v3.2.1, v3.2.2.1, v3.2.2.2.1, v3.2.2.2.2.1, v3.2.2.2.2.2.1, v3.2.2.2.2.2.2.1, v3.2.2.2.2.2.2.2.1, v3.2.2.2.2.2.2.2.2.1, v3.2.2.2.2.2.2.2.2.2) ([], 3, [], [], 0, 0, [], 0, 0) 0) fun v18 =>
 bnd (F_ref08_Decode v18) fun (v19, v20) =>
 bnd (α := (Bool ⊕ Unit)) (if ((↑(List.length v13.2.2.2.1) : Int) != 2) = false then
   if ((↑(List.length v13.2.2.1) : Int) != 1) = false then
    if ((↑(List.length v16.2.2.1) : Int) != 1) = true then
     grdEq (α := List UInt8) ([1, 65, 0]) ([1, 65, 0]) <|
     gq (α := Int) 1 <| gq (α := Int) 1 <| g10 v3 <| g10 v6 <| g10 v9 <|
     grdEq (α := List ((List UInt8 × (Int × (Int × (List (List UInt8) × (Int × Int))))))) ([([1, 97, 0], 1, 1, [[49, 49, 49, 49], [50, 50, 50, 50]], 9, 4)]) ([([1, 97, 0], 1, 1, [[49, 49, 49, 49], [50, 50, 50, 50]], 9, 4)]) <|
     gz <|
     grdEq (α := List UInt8) ([1, 97, 0]) ([1, 97, 0]) <|
     gq (α := List UInt8) ([]) <| gz <| gz <| gz <| gz <| g6 v13 <| g6 v16 <| g6 v19 <|
     some (.inl false)
    else
     gq v4 <| gq v5 <| gq v7 <| gq v10 <| gq v11 <| gq v14 <| gq v17 <| gq v20 <|
     grdEq (α := List UInt8) ([1, 65, 0]) ([1, 65, 0]) <|
     gq (α := Int) 1 <| gq (α := Int) 1 <| g10 v3 <| g10 v6 <| g10 v9 <|
     grdEq (α := List ((List UInt8 × (Int × (Int × (List (List UInt8) × (Int × Int))))))) ([([1, 97, 0], 1, 1, [[49, 49, 49, 49], [50, 50, 50, 50]], 9, 4)]) ([([1, 97, 0], 1, 1, [[49, 49, 49, 49], [50, 50, 50, 50]], 9, 4)]) <|
     gz <|
     grdEq (α := List UInt8) ([1, 97, 0]) ([1, 97, 0]) <|
     gq (α := List UInt8) ([]) <| gz <| gz <| gz <| gz <| g6 v13 <| g6 v16 <| g6 v19 <|
     some (.inr (()))
   else
    grdEq (α := List UInt8) ([1, 65, 0]) ([1, 65, 0]) <|
    gq (α := Int) 1 <| gq (α := Int) 1 <| g10 v3 <| g10 v6 <| g10 v9 <|
    grdEq (α := List ((List UInt8 × (Int × (Int × (List (List UInt8) × (Int × Int))))))) ([([1, 97, 0], 1, 1, [[49, 49, 49, 49], [50, 50, 50, 50]], 9, 4)]) ([([1, 97, 0], 1, 1, [[49, 49, 49, 49], [50, 50, 50, 50]], 9, 4)]) <|
    gz <|
    grdEq (α := List UInt8) ([1, 97, 0]) ([1, 97, 0]) <|
    gq (α := List UInt8) ([]) <| gz <| gz <| gz <| gz <| g6 v13 <| g6 v16 <| g6 v19 <|
    some (.inl false)
  else
   grdEq (α := List UInt8) ([1, 65, 0]) ([1, 65, 0]) <|
   gq (α := Int) 1 <| gq (α := Int) 1 <| g10 v3 <| g10 v6 <| g10 v9 <|
   grdEq (α := List ((List UInt8 × (Int × (Int × (List (List UInt8) × (Int × Int))))))) ([([1, 97, 0], 1, 1, [[49, 49, 49, 49], [50, 50, 50, 50]], 9, 4)]) ([([1, 97, 0], 1, 1, [[49, 49, 49, 49], [50, 50, 50, 50]], 9, 4)]) <|
   gz <|
   grdEq (α := List UInt8) ([1, 97, 0]) ([1, 97, 0]) <|
   gq (α := List UInt8) ([]) <| gz <| gz <| gz <| gz <| g6 v13 <| g6 v16 <| g6 v19 <|
   some (.inl false)) fun o21 =>
 match o21 with
 | .inl s0_22 =>
  some s0_22
 | .inr _ =>
  if (v3.1 == 7) = true then
   if (v3.2.1 == 256) = true then
    if (v3.2.2.1 == [1, 65, 0] && (v3.2.2.2.1 == 1 && (v3.2.2.2.2.1 == 1 && true))) = true then
     if (v4 == 2) = true then
      if (v5 == 0) = true then
       if (v7 == 0) = true then
        if (v10 == 1) = true then
         if (v11 == 1) = true then
          if (v9.1 == 7) = true then
           if (v9.2.2.1 == [] && (v9.2.2.2.1 == 0 && (v9.2.2.2.2.1 == 0 && true))) = true then
            if (v14 == 0) = true then
             if (v13.1 == 7) = true then
              if (v13.2.1 == 33152) = true then
               bnd (v13.2.2.1[0]?) fun x23 =>
               if (x23.1 == [1, 65, 0] && (x23.2.1 == 1 && (x23.2.2 == 1 && true))) = true then
                bnd (v13.2.2.2.1[0]?) fun x24 =>
                if (x24.1 == [1, 65, 0] && (x24.2.1 == 1 && (x24.2.2.1 == 1 && (x24.2.2.2.1 == 4 && (x24.2.2.2.2 == [50, 50, 50, 50] && true))))) = true then
                 if (v17 == 0) = true then
                  if (v16.2.1 == 33154) = true then
                   if (v20 == 0) = true then
                    if (v19.2.1 == 33154) = true then
                     if ((↑(List.length v19.2.2.2.1) : Int) == 0) = true then
                      bnd (F_reply_Refuse (v3.1, v3.2.1, v3.2.2.1, v3.2.2.2.1, v3.2.2.2.2.1, v3.2.2.2.2.2.1, v3.2.2.2.2.2.2.1, v3.2.2.2.2.2.2.2.1, v3.2.2.2.2.2.2.2.2.1, v3.2.2.2.2.2.2.2.2.2) 256) fun v25 =>
                      some (v25 == [])
                     else
                      some false
                    else
                     some false
                   else
                    some false
                  else
                   some false
                 else
                  some false
                else
                 some false
               else
                some false
              else
               some false
             else
              some false
            else
             some false
           else
            some false
          else
           some false
         else
          some false
        else
         some false
       else
        some false
      else
       some false
     else
      some false
    else
     some false
   else
    some false
  else
   some false
def ann_law17_live : List (List Nat × Ann) := [([20], ⟨none, [(.ret, ⟨(.cons (.ty .bool) (anyN 191 .nil)), [.cells 24 true (.cons kS (.cons kI (.cons kI .nil))), .cells 52 true (.cons kI (.cons kI (.cons kS (.cons kI (.cons kI (.cons kB (.cons kI (.cons kI (.cons kI (.cons kB .nil)))))))))), .cells 52 true (.cons kI (.cons kI (.cons kS (.cons kI (.cons kI (.cons kB (.cons kI (.cons kI (.cons kI (.cons kB .nil)))))))))), .cells 52 true (.cons kI (.cons kI (.cons kS (.cons kI (.cons kI (.cons kB (.cons kI (.cons kI (.cons kI (.cons kB .nil)))))))))), .cells 48 true (.cons (.keep (.list (.agg (.cons .str (.cons tI (.cons tI (.cons (.list .str) (.cons tI tI)))))))) (.cons kI (.cons kS (.cons kS (.cons kI (.cons kI (.cons .nill (.cons kI (.cons kI .nil))))))))), .cells 63 true (.cons kI (.cons kI (.cons (.keep (.list tQ)) (.cons (.keep (.list tRR)) (.cons (.keep (.list tRR)) (.cons (.keep (.list tRR)) .nil)))))), .cells 63 true (.cons kI (.cons kI (.cons (.keep (.list tQ)) (.cons (.keep (.list tRR)) (.cons (.keep (.list tRR)) (.cons (.keep (.list tRR)) .nil)))))), .cells 63 true (.cons kI (.cons kI (.cons (.keep (.list tQ)) (.cons (.keep (.list tRR)) (.cons (.keep (.list tRR)) (.cons (.keep (.list tRR)) .nil))))))], [], []⟩), (.normal, ⟨(anyN 1 (.cons (.ptr 0 0) (anyN 2 (.cons (.ptr 1 0) (.cons kI (.cons kI (anyN 1 (.cons kI (anyN 1 (.cons (.ptr 3 0) (.cons kI (.cons kI (anyN 1 (.cons (.ptr 5 0) (.cons kI (.cons (.ptr 6 0) (.cons kI (.cons (.ptr 7 0) (.cons kI (anyN 172 .nil)))))))))))))))))))), [.cells 24 true (.cons kS (.cons kI (.cons kI .nil))), .cells 52 true (.cons kI (.cons kI (.cons kS (.cons kI (.cons kI (.cons kB (.cons kI (.cons kI (.cons kI (.cons kB .nil)))))))))), .cells 52 true (.cons kI (.cons kI (.cons kS (.cons kI (.cons kI (.cons kB (.cons kI (.cons kI (.cons kI (.cons kB .nil)))))))))), .cells 52 true (.cons kI (.cons kI (.cons kS (.cons kI (.cons kI (.cons kB (.cons kI (.cons kI (.cons kI (.cons kB .nil)))))))))), .cells 48 true (.cons (.keep (.list (.agg (.cons .str (.cons tI (.cons tI (.cons (.list .str) (.cons tI tI)))))))) (.cons kI (.cons kS (.cons kS (.cons kI (.cons kI (.cons .nill (.cons kI (.cons kI .nil))))))))), .cells 63 true (.cons kI (.cons kI (.cons (.keep (.list tQ)) (.cons (.keep (.list tRR)) (.cons (.keep (.list tRR)) (.cons (.keep (.list tRR)) .nil)))))), .cells 63 true (.cons kI (.cons kI (.cons (.keep (.list tQ)) (.cons (.keep (.list tRR)) (.cons (.keep (.list tRR)) (.cons (.keep (.list tRR)) .nil)))))), .cells 63 true (.cons kI (.cons kI (.cons (.keep (.list tQ)) (.cons (.keep (.list tRR)) (.cons (.keep (.list tRR)) (.cons (.keep (.list tRR)) .nil))))))], [], []⟩)]⟩)]
@[reducible] def fs_law17_live : List (Nat × SFn) := [(40, .pure [tM] [.str, tI] (fun x => F_ref08_Encode x)), (30, .pure [.str] [(.agg (.cons tI (.cons tI (.cons .str (.cons tI (.cons tI (.cons .bool (.cons tI (.cons tI (.cons tI .bool)))))))))), tI, tI] (fun x => F_reply_Read x)), (34, .pure [(.agg (.cons tI (.cons tI (.cons .str (.cons tI (.cons tI (.cons .bool (.cons tI (.cons tI (.cons tI .bool)))))))))), (.agg (.cons (.list (.agg (.cons .str (.cons tI (.cons tI (.cons (.list .str) (.cons tI tI))))))) (.cons tI (.cons .str (.cons .str (.cons tI (.cons tI (.cons (.list .str) (.cons tI tI))))))))), tI] [.str] (fun x => F_reply_Build x.1 x.2.1 x.2.2)), (25, .pure [.str] [tM, tI] (fun x => F_ref08_Decode x)), (38, .pure [(.agg (.cons tI (.cons tI (.cons .str (.cons tI (.cons tI (.cons .bool (.cons tI (.cons tI (.cons tI .bool)))))))))), tI] [.str] (fun x => F_reply_Refuse x.1 x.2))]
def cfg_law17_live : SCfg := SCfg.of (fs_law17_live ++ inlL) ann_law17_live keepL
theorem eq_law17_live (x : HL []) : fnK cfg_law17_live Tryz.prog 100000 29 [] [.bool] x = (fun x => F_law17_live) x := by kernel_rfl
theorem told_law17_live : Told CC Tryz.prog 29 [] [.bool] (fun x => F_law17_live) := told_of (gok (an := ann_law17_live) (fs := fs_law17_live) ⟨told_ref08_Encode, told_reply_Read, told_reply_Build, told_ref08_Decode, told_reply_Refuse, trivial⟩) rfl rfl eq_law17_live
end
end Go.Abs

set_option maxRecDepth 100000
namespace Go.Abs
open Go Go.Proofs
noncomputable section
def F_law17_ReplyKinds (s_1 : List UInt8) : Option (Bool) :=
 if decide (70000 < (↑s_1.length : Int)) = true then
  bnd F_law17_live fun v2 =>
  some v2
 else
  bnd (F_reply_Read s_1) fun (v3, v4, v5) =>
  if (v4 == 2) = true then
   if (v3.2.2.2.2.1 == 1) = true then
    if decide (0 < v3.2.2.2.1) = true then
     if (v3.2.2.2.1 != 41) = true then
      if decide (v3.2.2.2.1 < 128) = false then
       if decide (255 < v3.2.2.2.1) = true then
        if (v3.2.2.2.2.2.2.2.2.1 == 0) = true then
         if (v5 == 0) = true then
          if (!v3.2.2.1 == []) = true then
           bnd F_law17_live fun v6 =>
           some v6
          else
           some false
         else
          some false
        else
         some false
       else
        some false
      else
       if (v3.2.2.2.2.2.2.2.2.1 == 0) = true then
        if (v5 == 0) = true then
         if (!v3.2.2.1 == []) = true then
          bnd F_law17_live fun v7 =>
          some v7
         else
          some false
        else
         some false
       else
        some false
     else
      some false
    else
     some false
   else
    some false
  else
   if (v4 == 1) = true then
    if (v5 == 1) = false then
     if (v5 == 4) = false then
      if (v5 == 5) = false then
       if (v5 == 16) = true then
        bnd F_law17_live fun v8 =>
        some v8
       else
        some false
      else
       bnd F_law17_live fun v9 =>
       some v9
     else
      bnd F_law17_live fun v10 =>
      some v10
    else
     bnd F_law17_live fun v11 =>
     some v11
   else
    if (v4 == 0) = true then
     if (v3.1 == 0 && (v3.2.1 == 0 && (v3.2.2.1 == [] && (v3.2.2.2.1 == 0 && (v3.2.2.2.2.1 == 0 && true)) && (v3.2.2.2.2.2.1 == false && (v3.2.2.2.2.2.2.1 == 0 && (v3.2.2.2.2.2.2.2.1 == 0 && (v3.2.2.2.2.2.2.2.2.1 == 0 && (v3.2.2.2.2.2.2.2.2.2 == false && true)))) && true)))) = true then
      if (v5 == 0) = true then
       bnd F_law17_live fun v12 =>
       some v12
      else
       some false
     else
      some false
    else
     some false
def ann_law17_ReplyKinds : List (List Nat × Ann) := []
@[reducible] def fs_law17_ReplyKinds : List (Nat × SFn) := [(29, .pure [] [.bool] (fun x => F_law17_live)), (30, .pure [.str] [(.agg (.cons tI (.cons tI (.cons .str (.cons tI (.cons tI (.cons .bool (.cons tI (.cons tI (.cons tI .bool)))))))))), tI, tI] (fun x => F_reply_Read x))]
def cfg_law17_ReplyKinds : SCfg := SCfg.of (fs_law17_ReplyKinds ++ inlL) ann_law17_ReplyKinds keepL
theorem eq_law17_ReplyKinds (x : HL [.str]) : fnK cfg_law17_ReplyKinds Tryz.prog 100000 11 [.str] [.bool] x = (fun x => F_law17_ReplyKinds x) x := by kernel_rfl
theorem told_law17_ReplyKinds : Told CC Tryz.prog 11 [.str] [.bool] (fun x => F_law17_ReplyKinds x) := told_of (gok (an := ann_law17_ReplyKinds) (fs := fs_law17_ReplyKinds) ⟨told_law17_live, told_reply_Read, trivial⟩) rfl rfl eq_law17_ReplyKinds
end
end Go.Abs

set_option maxRecDepth 100000
namespace Go.Abs
open Go Go.Proofs
noncomputable section
end
end Go.Abs

set_option maxRecDepth 100000
namespace Go.Abs
open Go Go.Proofs
noncomputable section
end
end Go.Abs

