/- Part of a proof. -/
import Derived.Test.YthlcfhkcbmikcaaGreatSnC
set_option linter.unusedSimpArgs false
set_option linter.unusedVariables false
set_option linter.unusedSectionVars false
set_option maxRecDepth 100000
namespace Go.Abs
open Go Go.Proofs
noncomputable section
def F_law17_live:Option (Bool) :=
 bnd (F_ref08_Encode (7,256,[([1,65,0],1,1)],[],[],[])) fun (v1,v2) =>
 bnd (F_reply_Read v1) fun (v3,v4,v5) =>
 bnd (F_reply_Read [115,104,111,114,116]) fun (v6,v7,v8) =>
 grd (v1.length+1≤maxStr) <|
 bnd (F_reply_Read (v1++[122])) fun (v9,v10,v11) =>
 bnd (F_reply_Build (v3.1,v3.2.1,v3.2.2.1,v3.2.2.2.1,v3.2.2.2.2.1,v3.2.2.2.2.2.1,v3.2.2.2.2.2.2.1,v3.2.2.2.2.2.2.2.1,v3.2.2.2.2.2.2.2.2.1,v3.2.2.2.2.2.2.2.2.2) ([([1,97,0],1,1,[[49,49,49,49],[50,50,50,50]],9,4)],0,[1,97,0],[],0,0,[],0,0) 1) fun v12 =>
 bnd (F_ref08_Decode v12) fun (v13,v14) =>
 bnd (F_reply_Refuse (v3.1,v3.2.1,v3.2.2.1,v3.2.2.2.1,v3.2.2.2.2.1,v3.2.2.2.2.2.1,v3.2.2.2.2.2.2.1,v3.2.2.2.2.2.2.2.1,v3.2.2.2.2.2.2.2.2.1,v3.2.2.2.2.2.2.2.2.2) 2) fun v15 =>
 bnd (F_ref08_Decode v15) fun (v16,v17) =>
 bnd (F_reply_Build (v3.1,v3.2.1,v3.2.2.1,v3.2.2.2.1,v3.2.2.2.2.1,v3.2.2.2.2.2.1,v3.2.2.2.2.2.2.1,v3.2.2.2.2.2.2.2.1,v3.2.2.2.2.2.2.2.2.1,v3.2.2.2.2.2.2.2.2.2) ([],3,[],[],0,0,[],0,0) 0) fun v18 =>
 bnd (F_ref08_Decode v18) fun (v19,v20) =>
 bnd (α:=(Bool ⊕ Unit)) (if ((↑(List.length v13.2.2.2.1):Int) != 2)=false then
   if ((↑(List.length v13.2.2.1):Int) != 1)=false then
    if ((↑(List.length v16.2.2.1):Int) != 1)=true then
     grdEq (α:=List UInt8) ([1,65,0]) ([1,65,0]) <|
     gq (α:=Int) 1<|gq (α:=Int) 1<|g10 v3<|g10 v6<|g10 v9 <|
     grdEq (α:=List ((List UInt8×(Int×(Int×(List (List UInt8)×(Int×Int))))))) ([([1,97,0],1,1,[[49,49,49,49],[50,50,50,50]],9,4)]) ([([1,97,0],1,1,[[49,49,49,49],[50,50,50,50]],9,4)]) <|
     gz <|
     grdEq (α:=List UInt8) ([1,97,0]) ([1,97,0]) <|
     gq (α:=List UInt8) ([])<|gz<|gz<|gz<|gz<|g6 v13<|g6 v16<|g6 v19 <|
     some (.inl false)
    else
     gq v4<|gq v5<|gq v7<|gq v10<|gq v11<|gq v14<|gq v17<|gq v20 <|
     grdEq (α:=List UInt8) ([1,65,0]) ([1,65,0]) <|
     gq (α:=Int) 1<|gq (α:=Int) 1<|g10 v3<|g10 v6<|g10 v9 <|
     grdEq (α:=List ((List UInt8×(Int×(Int×(List (List UInt8)×(Int×Int))))))) ([([1,97,0],1,1,[[49,49,49,49],[50,50,50,50]],9,4)]) ([([1,97,0],1,1,[[49,49,49,49],[50,50,50,50]],9,4)]) <|
     gz <|
     grdEq (α:=List UInt8) ([1,97,0]) ([1,97,0]) <|
     gq (α:=List UInt8) ([])<|gz<|gz<|gz<|gz<|g6 v13<|g6 v16<|g6 v19 <|
     some (.inr (()))
   else
    grdEq (α:=List UInt8) ([1,65,0]) ([1,65,0]) <|
    gq (α:=Int) 1<|gq (α:=Int) 1<|g10 v3<|g10 v6<|g10 v9 <|
    grdEq (α:=List ((List UInt8×(Int×(Int×(List (List UInt8)×(Int×Int))))))) ([([1,97,0],1,1,[[49,49,49,49],[50,50,50,50]],9,4)]) ([([1,97,0],1,1,[[49,49,49,49],[50,50,50,50]],9,4)]) <|
    gz <|
    grdEq (α:=List UInt8) ([1,97,0]) ([1,97,0]) <|
    gq (α:=List UInt8) ([])<|gz<|gz<|gz<|gz<|g6 v13<|g6 v16<|g6 v19 <|
    some (.inl false)
  else
   grdEq (α:=List UInt8) ([1,65,0]) ([1,65,0]) <|
   gq (α:=Int) 1<|gq (α:=Int) 1<|g10 v3<|g10 v6<|g10 v9 <|
   grdEq (α:=List ((List UInt8×(Int×(Int×(List (List UInt8)×(Int×Int))))))) ([([1,97,0],1,1,[[49,49,49,49],[50,50,50,50]],9,4)]) ([([1,97,0],1,1,[[49,49,49,49],[50,50,50,50]],9,4)]) <|
   gz <|
   grdEq (α:=List UInt8) ([1,97,0]) ([1,97,0]) <|
   gq (α:=List UInt8) ([])<|gz<|gz<|gz<|gz<|g6 v13<|g6 v16<|g6 v19 <|
   some (.inl false)) fun o21 =>
 match o21 with
 | .inl s0_22 =>
  some s0_22
 | .inr _ =>
  if (v3.1==7)=true then
   if (v3.2.1==256)=true then
    if (v3.2.2.1==[1,65,0]&&(v3.2.2.2.1==1&&(v3.2.2.2.2.1==1&&true)))=true then
     if (v4==2)=true then
      if (v5==0)=true then
       if (v7==0)=true then
        if (v10==1)=true then
         if (v11==1)=true then
          if (v9.1==7)=true then
           if (v9.2.2.1==[]&&(v9.2.2.2.1==0&&(v9.2.2.2.2.1==0&&true)))=true then
            if (v14==0)=true then
             if (v13.1==7)=true then
              if (v13.2.1==33152)=true then
               bnd (v13.2.2.1[0]?) fun x23 =>
               if (x23.1==[1,65,0]&&(x23.2.1==1&&(x23.2.2==1&&true)))=true then
                bnd (v13.2.2.2.1[0]?) fun x24 =>
                if (x24.1==[1,65,0]&&(x24.2.1==1&&(x24.2.2.1==1&&(x24.2.2.2.1==4&&(x24.2.2.2.2==[50,50,50,50]&&true)))))=true then
                 if (v17==0)=true then
                  if (v16.2.1==33154)=true then
                   if (v20==0)=true then
                    if (v19.2.1==33154)=true then
                     if ((↑(List.length v19.2.2.2.1):Int)==0)=true then
                      bnd (F_reply_Refuse (v3.1,v3.2.1,v3.2.2.1,v3.2.2.2.1,v3.2.2.2.2.1,v3.2.2.2.2.2.1,v3.2.2.2.2.2.2.1,v3.2.2.2.2.2.2.2.1,v3.2.2.2.2.2.2.2.2.1,v3.2.2.2.2.2.2.2.2.2) 256) fun v25 =>
                      some (v25==[])
                     else
                      some false
                    else
                     some false
                   else
                    some false
                  else
                   some false
                 else
                  some false
                else
                 some false
               else
                some false
              else
               some false
             else
              some false
            else
             some false
           else
            some false
          else
           some false
         else
          some false
        else
         some false
       else
        some false
      else
       some false
     else
      some false
    else
     some false
   else
    some false
  else
   some false
def ann_law17_live:List (List Nat×Ann):=[([20],⟨none,[(.ret,⟨(.cons (.ty .bool) (anyN 191 .nil)),[.cells 24 true yS40,.cells 52 true yS1,.cells 52 true yS1,.cells 52 true yS1,.cells 48 true (.cons yS31 (.cons kI (.cons kS (.cons kS (.cons kI (.cons kI (.cons .nill yS7))))))),.cells 63 true yS0,.cells 63 true yS0,.cells 63 true yS0],[],[]⟩),(.normal,⟨(anyN 1 (.cons (.ptr 0 0) (anyN 2 (.cons (.ptr 1 0) (.cons kI (.cons kI (anyN 1 (.cons kI (anyN 1 (.cons (.ptr 3 0) (.cons kI (.cons kI (anyN 1 (.cons (.ptr 5 0) (.cons kI (.cons (.ptr 6 0) (.cons kI (.cons (.ptr 7 0) (.cons kI (anyN 172 .nil)))))))))))))))))))),[.cells 24 true yS40,.cells 52 true yS1,.cells 52 true yS1,.cells 52 true yS1,.cells 48 true (.cons yS31 (.cons kI (.cons kS (.cons kS (.cons kI (.cons kI (.cons .nill yS7))))))),.cells 63 true yS0,.cells 63 true yS0,.cells 63 true yS0],[],[]⟩)]⟩)]
@[reducible] def fs_law17_live:List (Nat×SFn):=[(40,.pure [tM] [.str,tI] (fun x=>F_ref08_Encode x)),(30,.pure [.str] [yT9,tI,tI] (fun x=>F_reply_Read x)),(34,.pure [yT9,yT6,tI] [.str] (fun x=>F_reply_Build x.1 x.2.1 x.2.2)),(25,.pure [.str] [tM,tI] (fun x=>F_ref08_Decode x)),(38,.pure [yT9,tI] [.str] (fun x=>F_reply_Refuse x.1 x.2))]
theorem told_law17_live:Told CC Tryz.prog 29 [] [.bool] (fun x=>F_law17_live):=told_of (n:=100000) (gok (an:=ann_law17_live) (fs:=fs_law17_live) ⟨told_ref08_Encode,told_reply_Read,told_reply_Build,told_ref08_Decode,told_reply_Refuse,trivial⟩) rfl rfl (fun x=>by kernel_rfl)
end
end Go.Abs

set_option maxRecDepth 100000
namespace Go.Abs
open Go Go.Proofs
noncomputable section
def F_law17_ReplyEchoes (m_1:(Int×(Int×(List ((List UInt8×(Int×Int)))×(List ((List UInt8×(Int×(Int×(Int×List UInt8)))))×(List ((List UInt8×(Int×(Int×(Int×List UInt8)))))×List ((List UInt8×(Int×(Int×(Int×List UInt8))))))))))) (id_2:Int):Option (Bool) :=
 bnd (α:=(Bool ⊕ Unit)) (bnd (α:=Bool) (bnd (F_ref08_Small (m_1.1,m_1.2.1,m_1.2.2.1,m_1.2.2.2.1,m_1.2.2.2.2.1,m_1.2.2.2.2.2)) fun v3 =>
   if (!v3)=false then
    if decide (id_2<0)=false then
     gq id_2<|g6 m_1 <|
     some (decide (65535<id_2))
    else
     gq id_2<|g6 m_1 <|
     some true
   else
    gq id_2<|g6 m_1 <|
    some true) fun s26_4 =>
  if s26_4=true then
   bnd F_law17_live fun v5 =>
   g6 m_1 <|
   some (.inl v5)
  else
   gq id_2<|g6 m_1 <|
   some (.inr (()))) fun o6 =>
 match o6 with
 | .inl s4_7 =>
  some s4_7
 | .inr _ =>
  bnd (F_ref08_Encode (m_1.1,m_1.2.1,m_1.2.2.1,m_1.2.2.2.1,m_1.2.2.2.2.1,m_1.2.2.2.2.2)) fun (v8,v9) =>
  bnd (F_ref08_Encode (id_2,m_1.2.1,m_1.2.2.1,m_1.2.2.2.1,m_1.2.2.2.2.1,m_1.2.2.2.2.2)) fun (v10,v11) =>
  bnd (α:=(Bool ⊕ Unit)) (bnd (α:=Bool) (if (v9 != 0)=false then
     gq id_2<|gq v8<|gq v10<|g6 m_1<|gq id_2<|gq m_1.2.1<|gq m_1.2.2.1<|gq m_1.2.2.2.1<|gq m_1.2.2.2.2.1<|gq m_1.2.2.2.2.2 <|
     some (v11 != 0)
    else
     gq id_2<|gq v8<|gq v10<|g6 m_1<|gq id_2<|gq m_1.2.1<|gq m_1.2.2.1<|gq m_1.2.2.2.1<|gq m_1.2.2.2.2.1<|gq m_1.2.2.2.2.2 <|
     some true) fun s46_12 =>
   if s46_12=true then
    bnd F_law17_live fun v13 =>
    g6 m_1<|gq id_2<|gq m_1.2.1<|gq m_1.2.2.1<|gq m_1.2.2.2.1<|gq m_1.2.2.2.2.1<|gq m_1.2.2.2.2.2 <|
    some (.inl v13)
   else
    gq id_2<|gq v8<|gq v10<|g6 m_1<|gq id_2<|gq m_1.2.1<|gq m_1.2.2.1<|gq m_1.2.2.2.1<|gq m_1.2.2.2.2.1<|gq m_1.2.2.2.2.2 <|
    some (.inr (()))) fun o14 =>
  match o14 with
  | .inl s4_15 =>
   some s4_15
  | .inr _ =>
   bnd (F_reply_Read v8) fun (v16,v17,v18) =>
   bnd (F_reply_Read v10) fun (v19,v20,v21) =>
   bnd (α:=(Bool ⊕ Unit)) (if (v17 != 0)=true then
     if (v16.1 != m_1.1)=false then
      if (v19.1 != id_2)=true then
       g6 m_1<|gq id_2<|gq m_1.2.1<|gq m_1.2.2.1<|gq m_1.2.2.2.1<|gq m_1.2.2.2.2.1<|gq m_1.2.2.2.2.2<|g10 v16<|g10 v19 <|
       some (.inl false)
      else
       gq v17<|gq v18<|gq v20<|gq v21<|g6 m_1<|gq id_2<|gq m_1.2.1<|gq m_1.2.2.1<|gq m_1.2.2.2.1<|gq m_1.2.2.2.2.1<|gq m_1.2.2.2.2.2<|g10 v16<|g10 v19 <|
       some (.inr (()))
     else
      g6 m_1<|gq id_2<|gq m_1.2.1<|gq m_1.2.2.1<|gq m_1.2.2.2.1<|gq m_1.2.2.2.2.1<|gq m_1.2.2.2.2.2<|g10 v16<|g10 v19 <|
      some (.inl false)
    else
     gq v17<|gq v18<|gq v20<|gq v21<|g6 m_1<|gq id_2<|gq m_1.2.1<|gq m_1.2.2.1<|gq m_1.2.2.2.1<|gq m_1.2.2.2.2.1<|gq m_1.2.2.2.2.2<|g10 v16<|g10 v19 <|
     some (.inr (()))) fun o22 =>
   match o22 with
   | .inl s4_23 =>
    some s4_23
   | .inr _ =>
    if (v16.1==v16.1&&(v19.2.1==v16.2.1&&(v19.2.2.1==v16.2.2.1&&(v19.2.2.2.1==v16.2.2.2.1&&(v19.2.2.2.2.1==v16.2.2.2.2.1&&true))&&(v19.2.2.2.2.2.1==v16.2.2.2.2.2.1&&(v19.2.2.2.2.2.2.1==v16.2.2.2.2.2.2.1&&(v19.2.2.2.2.2.2.2.1==v16.2.2.2.2.2.2.2.1&&(v19.2.2.2.2.2.2.2.2.1==v16.2.2.2.2.2.2.2.2.1&&(v19.2.2.2.2.2.2.2.2.2==v16.2.2.2.2.2.2.2.2.2&&true))))&&true))))=true then
     if (v20==v17)=true then
      if (v21==v18)=true then
       bnd F_law17_live fun v24 =>
       some v24
      else
       some false
     else
      some false
    else
     some false
def ann_law17_ReplyEchoes:List (List Nat×Ann):=[([2],⟨none,[(.ret,⟨(anyN 4 (.cons (.ty .bool) (anyN 89 .nil))),[.cells 63 true yS0],[],[]⟩),(.normal,⟨(anyN 1 (.cons kI (.cons (.ptr 0 0) (anyN 91 .nil)))),[.cells 63 true yS0],[],[]⟩)]⟩),([3],⟨none,[(.normal,⟨(anyN 1 (.cons kI (.cons (.ptr 0 0) (anyN 23 (.cons (.ty .bool) (anyN 67 .nil)))))),[.cells 63 true yS0],[],[]⟩)]⟩),([18],⟨none,[(.ret,⟨(anyN 4 (.cons (.ty .bool) (anyN 89 .nil))),[.cells 63 true yS0,.cells 63 true yS0],[],[]⟩),(.normal,⟨(anyN 1 (.cons kI (.cons (.ptr 0 0) (anyN 2 (.cons kS (anyN 2 (.cons kS (anyN 85 .nil)))))))),[.cells 63 true yS0,.cells 63 true yS0],[],[]⟩)]⟩),([19],⟨none,[(.normal,⟨(anyN 1 (.cons kI (.cons (.ptr 0 0) (anyN 2 (.cons kS (anyN 2 (.cons kS (anyN 37 (.cons (.ty .bool) (anyN 47 .nil)))))))))),[.cells 63 true yS0,.cells 63 true yS0],[],[]⟩)]⟩),([30],⟨none,[(.ret,⟨(anyN 4 (.cons (.ty .bool) (anyN 89 .nil))),[.cells 63 true yS0,.cells 63 true yS0,.cells 52 true yS1,.cells 52 true yS1],[],[]⟩),(.normal,⟨(anyN 10 (.cons (.ptr 2 0) (.cons kI (.cons kI (.cons (.ptr 3 0) (.cons kI (.cons kI (anyN 78 .nil)))))))),[.cells 63 true yS0,.cells 63 true yS0,.cells 52 true yS1,.cells 52 true yS1],[],[]⟩)]⟩)]
@[reducible] def fs_law17_ReplyEchoes:List (Nat×SFn):=[(39,.pure [tM] [.bool] (fun x=>F_ref08_Small x)),(29,.pure [] [.bool] (fun x=>F_law17_live)),(40,.pure [tM] [.str,tI] (fun x=>F_ref08_Encode x)),(30,.pure [.str] [yT9,tI,tI] (fun x=>F_reply_Read x))]
theorem told_law17_ReplyEchoes:Told CC Tryz.prog 10 [tM,tI] [.bool] (fun x=>F_law17_ReplyEchoes x.1 x.2):=told_of (n:=100000) (gok (an:=ann_law17_ReplyEchoes) (fs:=fs_law17_ReplyEchoes) ⟨told_ref08_Small,told_law17_live,told_ref08_Encode,told_reply_Read,trivial⟩) rfl rfl (fun x=>by kernel_rfl)
end
end Go.Abs

set_option maxRecDepth 100000
namespace Go.Abs
open Go Go.Proofs
noncomputable section
end
end Go.Abs

set_option maxRecDepth 100000
namespace Go.Abs
open Go Go.Proofs
noncomputable section
end
end Go.Abs

