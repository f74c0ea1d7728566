/- Part of a proof. -/
import Derived.Test.YthlcfhkcbmikcaaGreatSnC
set_option linter.unusedSimpArgs false
set_option linter.unusedVariables false
set_option linter.unusedSectionVars false
set_option maxRecDepth 100000
namespace Go.Abs
open Go Go.Proofs
noncomputable section
def F_law17_live : Option (Bool) :=
 bnd (F_ref08_Encode (7, 256, [([1, 65, 0], 1, 1)], [], [], [])) fun (v1, v2) =>
 bnd (F_reply_Read v1) fun (v3, v4, v5) =>
 bnd (F_reply_Read [115, 104, 111, 114, 116]) fun (v6, v7, v8) =>
 grd (v1.length + 1 ≤ maxStr) <|
 bnd (F_reply_Read (v1 ++ [122])) fun (v9, v10, v11) =>
 bnd (F_reply_Build (v3.1, v3.2.1, v3.2.2.1, v3.2.2.2.1, v3.2.2.2.2.1, v3.2.2.2.2.2.1, v3.2.2.2.2.2.2.1, v3.2.2.2.2.2.2.2.1, v3.2.2.2.2.2.2.2.2.1, v3.2.2.2.2.2.2.2.2.2) ([([1, 97, 0], 1, 1, [[49, 49, 49, 49], [50, 50, 50, 50]], 9, 4)], 0, [1, 97, 0], [], 0, 0, [], 0, 0) 1) fun v12 =>
 bnd (F_ref08_Decode v12) fun (v13, v14) =>
 bnd (F_reply_Refuse (v3.1, v3.2.1, v3.2.2.1, v3.2.2.2.1, v3.2.2.2.2.1, v3.2.2.2.2.2.1, v3.2.2.2.2.2.2.1, v3.2.2.2.2.2.2.2.1, v3.2.2.2.2.2.2.2.2.1, v3.2.2.2.2.2.2.2.2.2) 2) fun v15 =>
 bnd (F_ref08_Decode v15) fun (v16, v17) =>
 bnd (F_reply_Build (v3.1, v3.2.1, v3.2.2.1, v3.2.2.2.1, v3.2.2.2.2.1, v3.2.2.2.2.2.1, v3.2.2.2.2.2.2.1, v3.2.2.2.2.2.2.2.1, v3.2.2.2.2.2.2.2.2.1, v3.2.2.2.2.2.2.2.2.2) ([], 3, [], [], 0, 0, [], 0, 0) 0) fun v18 =>
 bnd (F_ref08_Decode v18) fun (v19, v20) =>
 bnd (α := (Bool ⊕ Unit)) (if ((↑(List.length v13.2.2.2.1) : Int) != 2) = false then
   if ((↑(List.length v13.2.2.1) : Int) != 1) = false then
    if ((↑(List.length v16.2.2.1) : Int) != 1) = true then
     grdEq (α := List UInt8) ([1, 65, 0]) ([1, 65, 0]) <|
     gq (α := Int) 1 <| gq (α := Int) 1 <| g10 v3 <| g10 v6 <| g10 v9 <|
     grdEq (α := List ((List UInt8 × (Int × (Int × (List (List UInt8) × (Int × Int))))))) ([([1, 97, 0], 1, 1, [[49, 49, 49, 49], [50, 50, 50, 50]], 9, 4)]) ([([1, 97, 0], 1, 1, [[49, 49, 49, 49], [50, 50, 50, 50]], 9, 4)]) <|
     gz <|
     grdEq (α := List UInt8) ([1, 97, 0]) ([1, 97, 0]) <|
     gq (α := List UInt8) ([]) <| gz <| gz <| gz <| gz <| g6 v13 <| g6 v16 <| g6 v19 <|
     some (.inl false)
    else
     gq v4 <| gq v5 <| gq v7 <| gq v10 <| gq v11 <| gq v14 <| gq v17 <| gq v20 <|
     grdEq (α := List UInt8) ([1, 65, 0]) ([1, 65, 0]) <|
     gq (α := Int) 1 <| gq (α := Int) 1 <| g10 v3 <| g10 v6 <| g10 v9 <|
     grdEq (α := List ((List UInt8 × (Int × (Int × (List (List UInt8) × (Int × Int))))))) ([([1, 97, 0], 1, 1, [[49, 49, 49, 49], [50, 50, 50, 50]], 9, 4)]) ([([1, 97, 0], 1, 1, [[49, 49, 49, 49], [50, 50, 50, 50]], 9, 4)]) <|
     gz <|
     grdEq (α := List UInt8) ([1, 97, 0]) ([1, 97, 0]) <|
     gq (α := List UInt8) ([]) <| gz <| gz <| gz <| gz <| g6 v13 <| g6 v16 <| g6 v19 <|
     some (.inr (()))
   else
    grdEq (α := List UInt8) ([1, 65, 0]) ([1, 65, 0]) <|
    gq (α := Int) 1 <| gq (α := Int) 1 <| g10 v3 <| g10 v6 <| g10 v9 <|
    grdEq (α := List ((List UInt8 × (Int × (Int × (List (List UInt8) × (Int × Int))))))) ([([1, 97, 0], 1, 1, [[49, 49, 49, 49], [50, 50, 50, 50]], 9, 4)]) ([([1, 97, 0], 1, 1, [[49, 49, 49, 49], [50, 50, 50, 50]], 9, 4)]) <|
    gz <|
    grdEq (α := List UInt8) ([1, 97, 0]) ([1, 97, 0]) <|
    gq (α := List UInt8) ([]) <| gz <| gz <| gz <| gz <| g6 v13 <| g6 v16 <| g6 v19 <|
    some (.inl false)
  else
   grdEq (α := List UInt8) ([1, 65, 0]) ([1, 65, 0]) <|
   gq (α := Int) 1 <| gq (α := Int) 1 <| g10 v3 <| g10 v6 <| g10 v9 <|
   grdEq (α := List ((List UInt8 × (Int × (Int × (List (List UInt8) × (Int × Int))))))) ([([1, 97, 0], 1, 1, [[49, 49, 49, 49], [50, 50, 50, 50]], 9, 4)]) ([([1, 97, 0], 1, 1, [[49, 49, 49, 49], [50, 50, 50, 50]], 9, 4)]) <|
   gz <|
   grdEq (α := List UInt8) ([1, 97, 0]) ([1, 97, 0]) <|
   gq (α := List UInt8) ([]) <| gz <| gz <| gz <| gz <| g6 v13 <| g6 v16 <| g6 v19 <|
   some (.inl false)) fun o21 =>
 match o21 with
 | .inl s0_22 =>
  some s0_22
 | .inr _ =>
  if (v3.1 == 7) = true then
   if (v3.2.1 == 256) = true then
    if (v3.2.2.1 == [1, 65, 0] && (v3.2.2.2.1 == 1 && (v3.2.2.2.2.1 == 1 && true))) = true then
     if (v4 == 2) = true then
      if (v5 == 0) = true then
       if (v7 == 0) = true then
        if (v10 == 1) = true then
         if (v11 == 1) = true then
          if (v9.1 == 7) = true then
           if (v9.2.2.1 == [] && (v9.2.2.2.1 == 0 && (v9.2.2.2.2.1 == 0 && true))) = true then
            if (v14 == 0) = true then
             if (v13.1 == 7) = true then
              if (v13.2.1 == 33152) = true then
               bnd (v13.2.2.1[0]?) fun x23 =>
               if (x23.1 == [1, 65, 0] && (x23.2.1 == 1 && (x23.2.2 == 1 && true))) = true then
                bnd (v13.2.2.2.1[0]?) fun x24 =>
                if (x24.1 == [1, 65, 0] && (x24.2.1 == 1 && (x24.2.2.1 == 1 && (x24.2.2.2.1 == 4 && (x24.2.2.2.2 == [50, 50, 50, 50] && true))))) = true then
                 if (v17 == 0) = true then
                  if (v16.2.1 == 33154) = true then
                   if (v20 == 0) = true then
                    if (v19.2.1 == 33154) = true then
                     if ((↑(List.length v19.2.2.2.1) : Int) == 0) = true then
                      bnd (F_reply_Refuse (v3.1, v3.2.1, v3.2.2.1, v3.2.2.2.1, v3.2.2.2.2.1, v3.2.2.2.2.2.1, v3.2.2.2.2.2.2.1, v3.2.2.2.2.2.2.2.1, v3.2.2.2.2.2.2.2.2.1, v3.2.2.2.2.2.2.2.2.2) 256) fun v25 =>
                      some (v25 == [])
                     else
                      some false
                    else
                     some false
                   else
                    some false
                  else
                   some false
                 else
                  some false
                else
                 some false
               else
                some false
              else
               some false
             else
              some false
            else
             some false
           else
            some false
          else
           some false
         else
          some false
        else
         some false
       else
        some false
      else
       some false
     else
      some false
    else
     some false
   else
    some false
  else
   some false
def ann_law17_live : List (List Nat × Ann) := [([20], ⟨none, [(.ret, ⟨(.cons (.ty .bool) (anyN 191 .nil)), [.cells 24 true yS40, .cells 52 true yS4, .cells 52 true yS4, .cells 52 true yS4, .cells 48 true (.cons yS31 (.cons kI (.cons kS (.cons kS (.cons kI (.cons kI (.cons .nill yS6))))))), .cells 63 true yS0, .cells 63 true yS0, .cells 63 true yS0], [], []⟩), (.normal, ⟨(anyN 1 (.cons (.ptr 0 0) (anyN 2 (.cons (.ptr 1 0) (.cons kI (.cons kI (anyN 1 (.cons kI (anyN 1 (.cons (.ptr 3 0) (.cons kI (.cons kI (anyN 1 (.cons (.ptr 5 0) (.cons kI (.cons (.ptr 6 0) (.cons kI (.cons (.ptr 7 0) (.cons kI (anyN 172 .nil)))))))))))))))))))), [.cells 24 true yS40, .cells 52 true yS4, .cells 52 true yS4, .cells 52 true yS4, .cells 48 true (.cons yS31 (.cons kI (.cons kS (.cons kS (.cons kI (.cons kI (.cons .nill yS6))))))), .cells 63 true yS0, .cells 63 true yS0, .cells 63 true yS0], [], []⟩)]⟩)]
@[reducible] def fs_law17_live : List (Nat × SFn) := [(40, .pure [tM] [.str, tI] (fun x => F_ref08_Encode x)), (30, .pure [.str] [yT14, tI, tI] (fun x => F_reply_Read x)), (34, .pure [yT14, yT8, tI] [.str] (fun x => F_reply_Build x.1 x.2.1 x.2.2)), (25, .pure [.str] [tM, tI] (fun x => F_ref08_Decode x)), (38, .pure [yT14, tI] [.str] (fun x => F_reply_Refuse x.1 x.2))]
theorem told_law17_live : Told CC Tryz.prog 29 [] [.bool] (fun x => F_law17_live) := told_of (n := 100000) (gok (an := ann_law17_live) (fs := fs_law17_live) ⟨told_ref08_Encode, told_reply_Read, told_reply_Build, told_ref08_Decode, told_reply_Refuse, trivial⟩) rfl rfl (fun x => by kernel_rfl)
def F_law17_ReplyRefuses (s_1 : List UInt8) (code_2 : Int) : Option (Bool) :=
 if decide (2000 < (↑s_1.length : Int)) = true then
  bnd F_law17_live fun v3 =>
  some v3
 else
  bnd (F_reply_Read s_1) fun (v4, v5, v6) =>
  if (v5 == 0) = true then
   if (v4.1 == 0 && (v4.2.1 == 0 && (v4.2.2.1 == [] && (v4.2.2.2.1 == 0 && (v4.2.2.2.2.1 == 0 && true)) && (v4.2.2.2.2.2.1 == false && (v4.2.2.2.2.2.2.1 == 0 && (v4.2.2.2.2.2.2.2.1 == 0 && (v4.2.2.2.2.2.2.2.2.1 == 0 && (v4.2.2.2.2.2.2.2.2.2 == false && true)))) && true)))) = true then
    if (v6 == 0) = true then
     bnd F_law17_live fun v7 =>
     some v7
    else
     some false
   else
    some false
  else
   bnd (F_reply_Refuse (v4.1, v4.2.1, v4.2.2.1, v4.2.2.2.1, v4.2.2.2.2.1, v4.2.2.2.2.2.1, v4.2.2.2.2.2.2.1, v4.2.2.2.2.2.2.2.1, v4.2.2.2.2.2.2.2.2.1, v4.2.2.2.2.2.2.2.2.2) code_2) fun v8 =>
   bnd (α := (Bool ⊕ Unit)) (bnd (α := Bool) (if decide (code_2 < 0) = false then
      gq code_2 <| gq v8 <| g10 v4 <|
      some (decide (255 < code_2))
     else
      gq code_2 <| gq v8 <| g10 v4 <|
      some true) fun s43_9 =>
    if s43_9 = true then
     if (v8 == []) = true then
      bnd F_law17_live fun v10 =>
      g10 v4 <|
      some (.inl v10)
     else
      g10 v4 <|
      some (.inl false)
    else
     gq code_2 <| gq v8 <| g10 v4 <|
     some (.inr (()))) fun o11 =>
   match o11 with
   | .inl s4_12 =>
    some s4_12
   | .inr _ =>
    bnd (F_ref08_Decode v8) fun (v13, v14) =>
    bnd (α := (Bool ⊕ Unit)) (if (v14 != 0) = false then
      if (v13.1 != v4.1) = false then
       if ((↑(List.length v13.2.2.2.1) : Int) != 0) = false then
        if ((↑(List.length v13.2.2.2.2.1) : Int) != 0) = false then
         if decide (512 < (↑v8.length : Int)) = true then
          g10 v4 <| g6 v13 <|
          some (.inl false)
         else
          gq code_2 <| g10 v4 <| g6 v13 <|
          some (.inr (()))
        else
         g10 v4 <| g6 v13 <|
         some (.inl false)
       else
        g10 v4 <| g6 v13 <|
        some (.inl false)
      else
       g10 v4 <| g6 v13 <|
       some (.inl false)
     else
      g10 v4 <| g6 v13 <|
      some (.inl false)) fun o15 =>
    match o15 with
    | .inl s4_16 =>
     some s4_16
    | .inr _ =>
     bnd (F_ref09_Find (v13.1, v13.2.1, v13.2.2.1, v13.2.2.2.1, v13.2.2.2.2.1, v13.2.2.2.2.2)) fun (v17, v18) =>
     bnd (α := (Bool ⊕ Unit)) (if (v18 != 0) = false then
       if (!v17.1 == v4.2.2.2.2.2.1) = true then
        g10 v4 <| g6 v13 <| g5 v17 <|
        some (.inl false)
       else
        gq code_2 <| g10 v4 <| g6 v13 <| g5 v17 <|
        some (.inr (()))
      else
       g10 v4 <| g6 v13 <| g5 v17 <|
       some (.inl false)) fun o19 =>
     match o19 with
     | .inl s4_20 =>
      some s4_20
     | .inr _ =>
      if v17.1 = true then
       bnd (F_ref07_Of 8 v13.2.1) fun v21 =>
       if (IntKind.i64.wrap (v21 + IntKind.i64.wrap (16 * v17.2.2.1)) == code_2) = true then
        if (v17.2.2.2.1 == 0) = true then
         if (v17.2.1 == 4096) = true then
          bnd F_law17_live fun v22 =>
          some v22
         else
          some false
        else
         some false
       else
        some false
      else
       bnd (F_ref07_Of 8 v13.2.1) fun v23 =>
       if (v23 == code_2.tmod 16) = true then
        bnd F_law17_live fun v24 =>
        some v24
       else
        some false
def ann_law17_ReplyRefuses : List (List Nat × Ann) := [([22], ⟨none, [(.ret, ⟨(anyN 4 (.cons (.ty .bool) (anyN 123 .nil))), [.cells 52 true yS4], [], []⟩), (.normal, ⟨(anyN 1 (.cons kI (anyN 3 (.cons (.ptr 0 0) (anyN 2 (.cons kS (anyN 119 .nil))))))), [.cells 52 true yS4], [], []⟩)]⟩), ([23], ⟨none, [(.normal, ⟨(anyN 1 (.cons kI (anyN 3 (.cons (.ptr 0 0) (anyN 2 (.cons kS (anyN 34 (.cons (.ty .bool) (anyN 84 .nil))))))))), [.cells 52 true yS4], [], []⟩)]⟩), ([32], ⟨none, [(.ret, ⟨(anyN 4 (.cons (.ty .bool) (anyN 123 .nil))), [.cells 52 true yS4, .cells 63 true yS0], [], []⟩), (.normal, ⟨(anyN 1 (.cons kI (anyN 3 (.cons (.ptr 0 0) (anyN 3 (.cons (.ptr 1 0) (anyN 118 .nil))))))), [.cells 52 true yS4, .cells 63 true yS0], [], []⟩)]⟩), ([42], ⟨none, [(.ret, ⟨(anyN 4 (.cons (.ty .bool) (anyN 123 .nil))), [.cells 52 true yS4, .cells 63 true yS0, .cells 26 true yS1], [], []⟩), (.normal, ⟨(anyN 1 (.cons kI (anyN 7 (.cons (.ptr 1 0) (anyN 1 (.cons (.ptr 2 0) (anyN 116 .nil))))))), [.cells 52 true yS4, .cells 63 true yS0, .cells 26 true yS1], [], []⟩)]⟩)]
@[reducible] def fs_law17_ReplyRefuses : List (Nat × SFn) := [(29, .pure [] [.bool] (fun x => F_law17_live)), (30, .pure [.str] [yT14, tI, tI] (fun x => F_reply_Read x)), (38, .pure [yT14, tI] [.str] (fun x => F_reply_Refuse x.1 x.2)), (25, .pure [.str] [tM, tI] (fun x => F_ref08_Decode x)), (36, .pure [tM] [(.agg yT9), tI] (fun x => F_ref09_Find x)), (35, .pure [tI, tI] [tI] (fun x => F_ref07_Of x.1 x.2))]
theorem told_law17_ReplyRefuses : Told CC Tryz.prog 9 [.str, tI] [.bool] (fun x => F_law17_ReplyRefuses x.1 x.2) := told_of (n := 100000) (gok (an := ann_law17_ReplyRefuses) (fs := fs_law17_ReplyRefuses) ⟨told_law17_live, told_reply_Read, told_reply_Refuse, told_ref08_Decode, told_ref09_Find, told_ref07_Of, trivial⟩) rfl rfl (fun x => by kernel_rfl)
end
end Go.Abs

set_option maxRecDepth 100000
namespace Go.Abs
open Go Go.Proofs
noncomputable section
end
end Go.Abs

set_option maxRecDepth 100000
namespace Go.Abs
open Go Go.Proofs
noncomputable section
end
end Go.Abs

set_option maxRecDepth 100000
namespace Go.Abs
open Go Go.Proofs
noncomputable section
end
end Go.Abs

