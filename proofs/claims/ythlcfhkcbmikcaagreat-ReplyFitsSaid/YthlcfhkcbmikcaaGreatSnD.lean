/- Part of a proof. -/
import Derived.Test.YthlcfhkcbmikcaaGreatSnC
set_option linter.unusedSimpArgs false
set_option linter.unusedVariables false
set_option linter.unusedSectionVars false
set_option maxRecDepth 100000
namespace Go.Abs
open Go Go.Proofs
noncomputable section
def step_ref10_Flat_0 (s_1:List UInt8×Int×Int×List (List UInt8)×Int) (ttl_2:Int) (turn_3:Int):(List ((List UInt8×(Int×(Int×(Int×List UInt8)))))×Int)→Option ((List ((List UInt8×(Int×(Int×(Int×List UInt8)))))×Int) ⊕ List ((List UInt8×(Int×(Int×(Int×List UInt8)))))):=fun (out_6,i_7) =>
 if decide (i_7<(↑(List.length s_1.2.2.2.1):Int))=true then
  if (↑(List.length s_1.2.2.2.1):Int)=0 then
   none
  else
   if (↑(List.length s_1.2.2.2.1):Int)=0 then
    none
   else
    natOf ((IntKind.i64.wrap (turn_3.tmod (↑(List.length s_1.2.2.2.1):Int)+i_7)).tmod (↑(List.length s_1.2.2.2.1):Int)) fun n8 =>
    bnd (s_1.2.2.2.1[n8]?) fun x9 =>
    grd ((out_6.length+[(s_1.1,s_1.2.1,s_1.2.2.1,ttl_2,x9)].length)*56≤roomLim) <|
    gq ttl_2<|gq turn_3<|g5 s_1 <|
    some (.inl ((out_6++[(s_1.1,s_1.2.1,s_1.2.2.1,ttl_2,x9)],IntKind.i64.wrap (i_7+1))))
 else
  g5 s_1 <|
  some (.inr out_6)
def F_ref10_Flat (s_1:(List UInt8×(Int×(Int×(List (List UInt8)×Int))))) (ttl_2:Int) (turn_3:Int):Option (List ((List UInt8×(Int×(Int×(Int×List UInt8)))))) :=
 bnd (α:=(Unit ⊕ Unit)) (bnd (F_ref10_Check (s_1.1,s_1.2.1,s_1.2.2.1,s_1.2.2.2.1,s_1.2.2.2.2)) fun v4 =>
  if (!v4)=false then
   if decide (ttl_2<0)=false then
    if decide (2147483648≤ttl_2)=false then
     if decide (turn_3<0)=true then
      g5 s_1 <|
      some (.inl (()))
     else
      gq ttl_2<|gq turn_3<|g5 s_1 <|
      some (.inr (()))
    else
     g5 s_1 <|
     some (.inl (()))
   else
    g5 s_1 <|
    some (.inl (()))
  else
   g5 s_1 <|
   some (.inl (()))) fun o5 =>
 match o5 with
 | .inl _ =>
  some ([])
 | .inr _ =>
  bnd (loopS (step_ref10_Flat_0 s_1 ttl_2 turn_3) (([],0))) fun out_10 =>
  some out_10
def ann_ref10_Flat:List (List Nat×Ann):=[([4],⟨none,[(.ret,⟨(anyN 6 (.cons .nill (anyN 57 .nil))),[.cells 32 true yS6],[],[]⟩),(.normal,⟨(anyN 1 (.cons kI (.cons kI (.cons (.ptr 0 0) (anyN 3 (.cons .nill (anyN 56 .nil))))))),[.cells 32 true yS6],[],[]⟩)]⟩),([16],⟨some ⟨(anyN 1 (.cons kI (.cons kI (.cons (.ptr 0 0) (anyN 3 (.cons (.own tRR 0 true) (.cons yI (anyN 55 .nil)))))))),[.cells 32 true yS6],[⟨⟨0,tRR,101,true,true⟩,true⟩],[]⟩,[(.exit 0,⟨(anyN 7 (.cons (.own tRR 0 true) (anyN 56 .nil))),[.cells 32 true yS6],[⟨⟨1,tRR,101,true,true⟩,true⟩],[]⟩)]⟩)]
@[reducible] def fs_ref10_Flat:List (Nat×SFn):=[(157,.pure [yT12] [.bool] (fun x=>F_ref10_Check x))]
theorem told_ref10_Flat:Told CC Tryz.prog 136 [yT12,tI,tI] [(.list tRR)] (fun x=>F_ref10_Flat x.1 x.2.1 x.2.2):=told_of (n:=100000) (gok (an:=ann_ref10_Flat) (fs:=fs_ref10_Flat) ⟨told_ref10_Check,trivial⟩) rfl rfl (fun x=>by kernel_rfl)
def F_ref17_Records (s_1:(List UInt8×(Int×(Int×(List (List UInt8)×Int))))) (ttl_2:Int):Option (List ((List UInt8×(Int×(Int×(Int×List UInt8)))))) :=
 bnd (F_ref10_Flat (s_1.1,s_1.2.1,s_1.2.2.1,s_1.2.2.2.1,s_1.2.2.2.2) ttl_2 0) fun v3 =>
 some v3
def ann_ref17_Records:List (List Nat×Ann):=[]
@[reducible] def fs_ref17_Records:List (Nat×SFn):=[(136,.pure [yT12,tI,tI] [(.list tRR)] (fun x=>F_ref10_Flat x.1 x.2.1 x.2.2))]
theorem told_ref17_Records:Told CC Tryz.prog 105 [yT12,tI] [(.list tRR)] (fun x=>F_ref17_Records x.1 x.2):=told_of (n:=100000) (gok (an:=ann_ref17_Records) (fs:=fs_ref17_Records) ⟨told_ref10_Flat,trivial⟩) rfl rfl (fun x=>by kernel_rfl)
def F_law17_live:Option (Bool) :=
 bnd (F_ref08_Encode (7,256,[([1,65,0],1,1)],[],[],[])) fun (v1,v2) =>
 bnd (F_reply_Read v1) fun (v3,v4,v5) =>
 bnd (F_reply_Read [115,104,111,114,116]) fun (v6,v7,v8) =>
 grd (v1.length+1≤maxStr) <|
 bnd (F_reply_Read (v1++[122])) fun (v9,v10,v11) =>
 bnd (F_reply_Build (v3.1,v3.2.1,v3.2.2.1,v3.2.2.2.1,v3.2.2.2.2.1,v3.2.2.2.2.2.1,v3.2.2.2.2.2.2.1,v3.2.2.2.2.2.2.2.1,v3.2.2.2.2.2.2.2.2.1,v3.2.2.2.2.2.2.2.2.2) ([([1,97,0],1,1,[[49,49,49,49],[50,50,50,50]],9,4)],0,[1,97,0],[],0,0,[],0,0) 1) fun v12 =>
 bnd (F_ref08_Decode v12) fun (v13,v14) =>
 bnd (F_reply_Refuse (v3.1,v3.2.1,v3.2.2.1,v3.2.2.2.1,v3.2.2.2.2.1,v3.2.2.2.2.2.1,v3.2.2.2.2.2.2.1,v3.2.2.2.2.2.2.2.1,v3.2.2.2.2.2.2.2.2.1,v3.2.2.2.2.2.2.2.2.2) 2) fun v15 =>
 bnd (F_ref08_Decode v15) fun (v16,v17) =>
 bnd (F_reply_Build (v3.1,v3.2.1,v3.2.2.1,v3.2.2.2.1,v3.2.2.2.2.1,v3.2.2.2.2.2.1,v3.2.2.2.2.2.2.1,v3.2.2.2.2.2.2.2.1,v3.2.2.2.2.2.2.2.2.1,v3.2.2.2.2.2.2.2.2.2) ([],3,[],[],0,0,[],0,0) 0) fun v18 =>
 bnd (F_ref08_Decode v18) fun (v19,v20) =>
 bnd (α:=(Bool ⊕ Unit)) (if ((↑(List.length v13.2.2.2.1):Int) != 2)=false then
   if ((↑(List.length v13.2.2.1):Int) != 1)=false then
    if ((↑(List.length v16.2.2.1):Int) != 1)=true then
     grdEq (α:=List UInt8) ([1,65,0]) ([1,65,0]) <|
     gq (α:=Int) 1<|gq (α:=Int) 1<|g10 v3<|g10 v6<|g10 v9 <|
     grdEq (α:=List ((List UInt8×(Int×(Int×(List (List UInt8)×(Int×Int))))))) ([([1,97,0],1,1,[[49,49,49,49],[50,50,50,50]],9,4)]) ([([1,97,0],1,1,[[49,49,49,49],[50,50,50,50]],9,4)]) <|
     gz <|
     grdEq (α:=List UInt8) ([1,97,0]) ([1,97,0]) <|
     gq (α:=List UInt8) ([])<|gz<|gz<|gz<|gz<|g6 v13<|g6 v16<|g6 v19 <|
     some (.inl false)
    else
     gq v4<|gq v5<|gq v7<|gq v10<|gq v11<|gq v14<|gq v17<|gq v20 <|
     grdEq (α:=List UInt8) ([1,65,0]) ([1,65,0]) <|
     gq (α:=Int) 1<|gq (α:=Int) 1<|g10 v3<|g10 v6<|g10 v9 <|
     grdEq (α:=List ((List UInt8×(Int×(Int×(List (List UInt8)×(Int×Int))))))) ([([1,97,0],1,1,[[49,49,49,49],[50,50,50,50]],9,4)]) ([([1,97,0],1,1,[[49,49,49,49],[50,50,50,50]],9,4)]) <|
     gz <|
     grdEq (α:=List UInt8) ([1,97,0]) ([1,97,0]) <|
     gq (α:=List UInt8) ([])<|gz<|gz<|gz<|gz<|g6 v13<|g6 v16<|g6 v19 <|
     some (.inr (()))
   else
    grdEq (α:=List UInt8) ([1,65,0]) ([1,65,0]) <|
    gq (α:=Int) 1<|gq (α:=Int) 1<|g10 v3<|g10 v6<|g10 v9 <|
    grdEq (α:=List ((List UInt8×(Int×(Int×(List (List UInt8)×(Int×Int))))))) ([([1,97,0],1,1,[[49,49,49,49],[50,50,50,50]],9,4)]) ([([1,97,0],1,1,[[49,49,49,49],[50,50,50,50]],9,4)]) <|
    gz <|
    grdEq (α:=List UInt8) ([1,97,0]) ([1,97,0]) <|
    gq (α:=List UInt8) ([])<|gz<|gz<|gz<|gz<|g6 v13<|g6 v16<|g6 v19 <|
    some (.inl false)
  else
   grdEq (α:=List UInt8) ([1,65,0]) ([1,65,0]) <|
   gq (α:=Int) 1<|gq (α:=Int) 1<|g10 v3<|g10 v6<|g10 v9 <|
   grdEq (α:=List ((List UInt8×(Int×(Int×(List (List UInt8)×(Int×Int))))))) ([([1,97,0],1,1,[[49,49,49,49],[50,50,50,50]],9,4)]) ([([1,97,0],1,1,[[49,49,49,49],[50,50,50,50]],9,4)]) <|
   gz <|
   grdEq (α:=List UInt8) ([1,97,0]) ([1,97,0]) <|
   gq (α:=List UInt8) ([])<|gz<|gz<|gz<|gz<|g6 v13<|g6 v16<|g6 v19 <|
   some (.inl false)) fun o21 =>
 match o21 with
 | .inl s0_22 =>
  some s0_22
 | .inr _ =>
  if (v3.1==7)=true then
   if (v3.2.1==256)=true then
    if (v3.2.2.1==[1,65,0]&&(v3.2.2.2.1==1&&(v3.2.2.2.2.1==1&&true)))=true then
     if (v4==2)=true then
      if (v5==0)=true then
       if (v7==0)=true then
        if (v10==1)=true then
         if (v11==1)=true then
          if (v9.1==7)=true then
           if (v9.2.2.1==[]&&(v9.2.2.2.1==0&&(v9.2.2.2.2.1==0&&true)))=true then
            if (v14==0)=true then
             if (v13.1==7)=true then
              if (v13.2.1==33152)=true then
               bnd (v13.2.2.1[0]?) fun x23 =>
               if (x23.1==[1,65,0]&&(x23.2.1==1&&(x23.2.2==1&&true)))=true then
                bnd (v13.2.2.2.1[0]?) fun x24 =>
                if (x24.1==[1,65,0]&&(x24.2.1==1&&(x24.2.2.1==1&&(x24.2.2.2.1==4&&(x24.2.2.2.2==[50,50,50,50]&&true)))))=true then
                 if (v17==0)=true then
                  if (v16.2.1==33154)=true then
                   if (v20==0)=true then
                    if (v19.2.1==33154)=true then
                     if ((↑(List.length v19.2.2.2.1):Int)==0)=true then
                      bnd (F_reply_Refuse (v3.1,v3.2.1,v3.2.2.1,v3.2.2.2.1,v3.2.2.2.2.1,v3.2.2.2.2.2.1,v3.2.2.2.2.2.2.1,v3.2.2.2.2.2.2.2.1,v3.2.2.2.2.2.2.2.2.1,v3.2.2.2.2.2.2.2.2.2) 256) fun v25 =>
                      some (v25==[])
                     else
                      some false
                    else
                     some false
                   else
                    some false
                  else
                   some false
                 else
                  some false
                else
                 some false
               else
                some false
              else
               some false
             else
              some false
            else
             some false
           else
            some false
          else
           some false
         else
          some false
        else
         some false
       else
        some false
      else
       some false
     else
      some false
    else
     some false
   else
    some false
  else
   some false
def ann_law17_live:List (List Nat×Ann):=[([20],⟨none,[(.ret,⟨(.cons (.ty .bool) (anyN 191 .nil)),[.cells 24 true yS43,.cells 52 true yS4,.cells 52 true yS4,.cells 52 true yS4,.cells 48 true (.cons (.keep (.list yT13)) yS29),.cells 63 true yS0,.cells 63 true yS0,.cells 63 true yS0],[],[]⟩),(.normal,⟨(anyN 1 (.cons (.ptr 0 0) (anyN 2 (.cons (.ptr 1 0) (.cons kI (.cons kI (anyN 1 (.cons kI (anyN 1 (.cons (.ptr 3 0) (.cons kI (.cons kI (anyN 1 (.cons (.ptr 5 0) (.cons kI (.cons (.ptr 6 0) (.cons kI (.cons (.ptr 7 0) (.cons kI (anyN 172 .nil)))))))))))))))))))),[.cells 24 true yS43,.cells 52 true yS4,.cells 52 true yS4,.cells 52 true yS4,.cells 48 true (.cons (.keep (.list yT13)) yS29),.cells 63 true yS0,.cells 63 true yS0,.cells 63 true yS0],[],[]⟩)]⟩)]
@[reducible] def fs_law17_live:List (Nat×SFn):=[(40,.pure [tM] [.str,tI] (fun x=>F_ref08_Encode x)),(30,.pure [.str] [yT16,tI,tI] (fun x=>F_reply_Read x)),(34,.pure [yT16,yT3,tI] [.str] (fun x=>F_reply_Build x.1 x.2.1 x.2.2)),(25,.pure [.str] [tM,tI] (fun x=>F_ref08_Decode x)),(38,.pure [yT16,tI] [.str] (fun x=>F_reply_Refuse x.1 x.2))]
theorem told_law17_live:Told CC Tryz.prog 29 [] [.bool] (fun x=>F_law17_live):=told_of (n:=100000) (gok (an:=ann_law17_live) (fs:=fs_law17_live) ⟨told_ref08_Encode,told_reply_Read,told_reply_Build,told_ref08_Decode,told_reply_Refuse,trivial⟩) rfl rfl (fun x=>by kernel_rfl)
end
end Go.Abs

set_option maxRecDepth 100000
namespace Go.Abs
open Go Go.Proofs
noncomputable section
def step_law17_plain_0 (c_1:List (List UInt8×Int×Int×List (List UInt8)×Int×Int)×Int×List UInt8×List UInt8×Int×Int×List (List UInt8)×Int×Int):Int→Option (Int ⊕ (Bool ⊕ Unit)):=fun i_2 =>
 if decide (i_2<(↑(List.length c_1.1):Int))=true then
  natOf i_2 fun n3 =>
  bnd (c_1.1[n3]?) fun x4 =>
  if (x4.2.1==41)=true then
   g9 c_1 <|
   some (.inr (.inl false))
  else
   g9 c_1 <|
   some (.inl (IntKind.i64.wrap (i_2+1)))
 else
  g9 c_1 <|
  some (.inr (.inr (())))
def F_law17_plain (c_1:(List ((List UInt8×(Int×(Int×(List (List UInt8)×(Int×Int))))))×(Int×(List UInt8×(List UInt8×(Int×(Int×(List (List UInt8)×(Int×Int))))))))):Option (Bool) :=
 bnd (loopS (step_law17_plain_0 c_1) 0) fun o5 =>
 match o5 with
 | .inl s2_6 =>
  some s2_6
 | .inr _ =>
  some (c_1.2.2.2.2.1 != 41)
def ann_law17_plain:List (List Nat×Ann):=[([6],⟨some ⟨(anyN 1 (.cons (.ptr 0 0) (anyN 1 (.cons yI (anyN 22 .nil))))),[.cells 36 true yS1],[],[]⟩,[(.ret,⟨(anyN 2 (.cons (.ty .bool) (anyN 23 .nil))),[.cells 36 true yS1],[],[]⟩),(.exit 0,⟨(anyN 1 (.cons (.ptr 0 0) (anyN 24 .nil))),[.cells 36 true yS1],[],[]⟩)]⟩)]
theorem told_law17_plain:Told CC Tryz.prog 33 [yT3] [.bool] (fun x=>F_law17_plain x):=told_of (n:=100000) (gok (an:=ann_law17_plain) (fs:=[]) trivial) rfl rfl (fun x=>by kernel_rfl)
end
end Go.Abs

set_option maxRecDepth 100000
namespace Go.Abs
open Go Go.Proofs
noncomputable section
def F_law17_good (h_1:(List UInt8×(Int×(Int×(List (List UInt8)×(Int×Int)))))):Option (Bool) :=
 bnd (F_ref17_Records (h_1.1,h_1.2.1,h_1.2.2.1,h_1.2.2.2.1,h_1.2.2.2.2.1) h_1.2.2.2.2.2) fun v2 =>
 some (decide (0<(↑v2.length:Int)))
def ann_law17_good:List (List Nat×Ann):=[]
@[reducible] def fs_law17_good:List (Nat×SFn):=[(105,.pure [yT12,tI] [(.list tRR)] (fun x=>F_ref17_Records x.1 x.2))]
theorem told_law17_good:Told CC Tryz.prog 68 [yT13] [.bool] (fun x=>F_law17_good x):=told_of (n:=100000) (gok (an:=ann_law17_good) (fs:=fs_law17_good) ⟨told_ref17_Records,trivial⟩) rfl rfl (fun x=>by kernel_rfl)
def step_law17_sound_0 (c_1:List (List UInt8×Int×Int×List (List UInt8)×Int×Int)×Int×List UInt8×List UInt8×Int×Int×List (List UInt8)×Int×Int):Int→Option (Int ⊕ (Bool ⊕ Unit)):=fun i_2 =>
 if decide (i_2<(↑(List.length c_1.1):Int))=true then
  natOf i_2 fun n3 =>
  bnd (c_1.1[n3]?) fun x4 =>
  bnd (F_law17_good (x4.1,x4.2.1,x4.2.2.1,x4.2.2.2.1,x4.2.2.2.2.1,x4.2.2.2.2.2)) fun v5 =>
  if (!v5)=true then
   g9 c_1 <|
   some (.inr (.inl false))
  else
   g9 c_1 <|
   some (.inl (IntKind.i64.wrap (i_2+1)))
 else
  g9 c_1 <|
  some (.inr (.inr (())))
def F_law17_sound (c_1:(List ((List UInt8×(Int×(Int×(List (List UInt8)×(Int×Int))))))×(Int×(List UInt8×(List UInt8×(Int×(Int×(List (List UInt8)×(Int×Int))))))))):Option (Bool) :=
 bnd (loopS (step_law17_sound_0 c_1) 0) fun o6 =>
 match o6 with
 | .inl s2_7 =>
  some s2_7
 | .inr _ =>
  if (c_1.2.1==0)=false then
   bnd (F_law17_good (c_1.2.2.2.1,c_1.2.2.2.2.1,c_1.2.2.2.2.2.1,c_1.2.2.2.2.2.2.1,c_1.2.2.2.2.2.2.2.1,c_1.2.2.2.2.2.2.2.2)) fun v8 =>
   some v8
  else
   some true
def ann_law17_sound:List (List Nat×Ann):=[([6],⟨some ⟨(anyN 1 (.cons (.ptr 0 0) (anyN 1 (.cons yI (anyN 22 .nil))))),[.cells 36 true yS1],[],[]⟩,[(.ret,⟨(anyN 2 (.cons (.ty .bool) (anyN 23 .nil))),[.cells 36 true yS1],[],[]⟩),(.exit 0,⟨(anyN 1 (.cons (.ptr 0 0) (anyN 24 .nil))),[.cells 36 true yS1],[],[]⟩)]⟩)]
@[reducible] def fs_law17_sound:List (Nat×SFn):=[(68,.pure [yT13] [.bool] (fun x=>F_law17_good x))]
theorem told_law17_sound:Told CC Tryz.prog 37 [yT3] [.bool] (fun x=>F_law17_sound x):=told_of (n:=100000) (gok (an:=ann_law17_sound) (fs:=fs_law17_sound) ⟨told_law17_good,trivial⟩) rfl rfl (fun x=>by kernel_rfl)
end
end Go.Abs

set_option maxRecDepth 100000
namespace Go.Abs
open Go Go.Proofs
noncomputable section
def step_law17_ReplyFits_0 (c_2:List (List UInt8×Int×Int×List (List UInt8)×Int×Int)×Int×List UInt8×List UInt8×Int×Int×List (List UInt8)×Int×Int) (v10:Int×Int×List UInt8×Int×Int×Bool×Int×Int×Int×Bool) (v16:Int×Int×List (List UInt8×Int×Int)×List (List UInt8×Int×Int×Int×List UInt8)×List (List UInt8×Int×Int×Int×List UInt8)×List (List UInt8×Int×Int×Int×List UInt8)) (v23:Bool×Int×Int×Int×Bool):(Int×Int)→Option ((Int×Int) ⊕ Int):=fun (all_33,i_34) =>
 if decide (i_34<(↑(List.length c_2.1):Int))=true then
  natOf i_34 fun n35 =>
  bnd (c_2.1[n35]?) fun x36 =>
  g9 c_2<|g10 v10<|g6 v16<|g5 v23 <|
  some (.inl ((IntKind.i64.wrap (all_33+(↑(List.length x36.2.2.2.1):Int)),IntKind.i64.wrap (i_34+1))))
 else
  g9 c_2<|g10 v10<|g6 v16<|g5 v23 <|
  some (.inr all_33)
def F_law17_ReplyFits (s_1:List UInt8) (c_2:(List ((List UInt8×(Int×(Int×(List (List UInt8)×(Int×Int))))))×(Int×(List UInt8×(List UInt8×(Int×(Int×(List (List UInt8)×(Int×Int))))))))) (turn_3:Int):Option (Bool) :=
 bnd (α:=(Bool ⊕ Unit)) (bnd (α:=Bool) (if decide (2000<(↑s_1.length:Int))=false then
    bnd (F_ref17_Small (c_2.1,c_2.2.1,c_2.2.2.1,c_2.2.2.2.1,c_2.2.2.2.2.1,c_2.2.2.2.2.2.1,c_2.2.2.2.2.2.2.1,c_2.2.2.2.2.2.2.2.1,c_2.2.2.2.2.2.2.2.2)) fun v4 =>
    if (!v4)=false then
     if decide (turn_3<0)=false then
      bnd (F_law17_plain (c_2.1,c_2.2.1,c_2.2.2.1,c_2.2.2.2.1,c_2.2.2.2.2.1,c_2.2.2.2.2.2.1,c_2.2.2.2.2.2.2.1,c_2.2.2.2.2.2.2.2.1,c_2.2.2.2.2.2.2.2.2)) fun v5 =>
      gq s_1<|gq turn_3<|g9 c_2 <|
      some (!v5)
     else
      gq s_1<|gq turn_3<|g9 c_2 <|
      some true
    else
     gq s_1<|gq turn_3<|g9 c_2 <|
     some true
   else
    gq s_1<|gq turn_3<|g9 c_2 <|
    some true) fun s34_6 =>
  if s34_6=true then
   bnd F_law17_live fun v7 =>
   g9 c_2 <|
   some (.inl v7)
  else
   gq s_1<|gq turn_3<|g9 c_2 <|
   some (.inr (()))) fun o8 =>
 match o8 with
 | .inl s6_9 =>
  some s6_9
 | .inr _ =>
  bnd (F_reply_Read s_1) fun (v10,v11,v12) =>
  if (v11 != 2)=true then
   bnd F_law17_live fun v13 =>
   some v13
  else
   bnd (F_law17_Chain (c_2.1,c_2.2.1,c_2.2.2.1,c_2.2.2.2.1,c_2.2.2.2.2.1,c_2.2.2.2.2.2.1,c_2.2.2.2.2.2.2.1,c_2.2.2.2.2.2.2.2.1,c_2.2.2.2.2.2.2.2.2)) fun v14 =>
   bnd (F_reply_Build (v10.1,v10.2.1,v10.2.2.1,v10.2.2.2.1,v10.2.2.2.2.1,v10.2.2.2.2.2.1,v10.2.2.2.2.2.2.1,v10.2.2.2.2.2.2.2.1,v10.2.2.2.2.2.2.2.2.1,v10.2.2.2.2.2.2.2.2.2) (v14.1,v14.2.1,v14.2.2.1,v14.2.2.2.1,v14.2.2.2.2.1,v14.2.2.2.2.2.1,v14.2.2.2.2.2.2.1,v14.2.2.2.2.2.2.2.1,v14.2.2.2.2.2.2.2.2) turn_3) fun v15 =>
   bnd (F_ref08_Decode v15) fun (v16,v17) =>
   if (v15==[])=true then
    bnd F_law17_live fun v18 =>
    some v18
   else
    bnd (α:=(Bool ⊕ Unit)) (if (v17 != 0)=false then
      bnd (F_edns_Opt_Limit (v10.2.2.2.2.2.1,v10.2.2.2.2.2.2.1,v10.2.2.2.2.2.2.2.1,v10.2.2.2.2.2.2.2.2.1,v10.2.2.2.2.2.2.2.2.2)) fun v19 =>
      if decide (v19<(↑v15.length:Int))=false then
       if ((↑(List.length v16.2.2.1):Int) != 1)=false then
        if (v16.1 != v10.1)=false then
         bnd (F_ref07_Of 0 v16.2.1) fun v20 =>
         if (v20 != 1)=true then
          g9 c_2<|g10 v10<|g6 v16 <|
          some (.inl false)
         else
          g9 c_2<|g10 v10<|g6 v16 <|
          some (.inr (()))
        else
         g9 c_2<|g10 v10<|g6 v16 <|
         some (.inl false)
       else
        g9 c_2<|g10 v10<|g6 v16 <|
        some (.inl false)
      else
       g9 c_2<|g10 v10<|g6 v16 <|
       some (.inl false)
     else
      g9 c_2<|g10 v10<|g6 v16 <|
      some (.inl false)) fun o21 =>
    match o21 with
    | .inl s6_22 =>
     some s6_22
    | .inr _ =>
     bnd (F_ref09_Find (v16.1,v16.2.1,v16.2.2.1,v16.2.2.2.1,v16.2.2.2.2.1,v16.2.2.2.2.2)) fun (v23,v24) =>
     bnd (α:=(Bool ⊕ Unit)) (bnd (v16.2.2.1[0]?) fun x25 =>
      if (!(x25.1==v10.2.2.1&&(x25.2.1==v10.2.2.2.1&&(x25.2.2==v10.2.2.2.2.1&&true))))=false then
       if (v24 != 0)=false then
        if (!v23.1==v10.2.2.2.2.2.1)=false then
         if v10.2.2.2.2.2.1=true then
          if (!v23.2.2.2.2==v10.2.2.2.2.2.2.2.2.2)=true then
           g9 c_2<|g10 v10<|g6 v16<|g5 v23 <|
           some (.inl false)
          else
           g9 c_2<|g10 v10<|g6 v16<|g5 v23 <|
           some (.inr (()))
         else
          if (!v23.2.2.2.2==false)=true then
           g9 c_2<|g10 v10<|g6 v16<|g5 v23 <|
           some (.inl false)
          else
           g9 c_2<|g10 v10<|g6 v16<|g5 v23 <|
           some (.inr (()))
        else
         g9 c_2<|g10 v10<|g6 v16<|g5 v23 <|
         some (.inl false)
       else
        g9 c_2<|g10 v10<|g6 v16<|g5 v23 <|
        some (.inl false)
      else
       g9 c_2<|g10 v10<|g6 v16<|g5 v23 <|
       some (.inl false)) fun o26 =>
     match o26 with
     | .inl s6_27 =>
      some s6_27
     | .inr _ =>
      bnd (α:=(Bool ⊕ Unit)) (bnd (α:=Bool) (if decide (c_2.2.1<0)=false then
         g9 c_2<|g10 v10<|g6 v16<|g5 v23 <|
         some (decide (2<c_2.2.1))
        else
         g9 c_2<|g10 v10<|g6 v16<|g5 v23 <|
         some true) fun s131_28 =>
       if s131_28=true then
        bnd (F_ref07_Of 8 v16.2.1) fun v29 =>
        if (v29==2)=true then
         if ((↑(List.length v16.2.2.2.1):Int)==0)=true then
          if ((↑(List.length v16.2.2.2.2.1):Int)==0)=true then
           bnd F_law17_live fun v30 =>
           g9 c_2<|g10 v10<|g6 v16<|g5 v23 <|
           some (.inl v30)
          else
           g9 c_2<|g10 v10<|g6 v16<|g5 v23 <|
           some (.inl false)
         else
          g9 c_2<|g10 v10<|g6 v16<|g5 v23 <|
          some (.inl false)
        else
         g9 c_2<|g10 v10<|g6 v16<|g5 v23 <|
         some (.inl false)
       else
        g9 c_2<|g10 v10<|g6 v16<|g5 v23 <|
        some (.inr (()))) fun o31 =>
      match o31 with
      | .inl s6_32 =>
       some s6_32
      | .inr _ =>
       bnd (loopS (step_law17_ReplyFits_0 c_2 v10 v16 v23) ((0,0))) fun all_37 =>
       bnd (α:=Int) (if (c_2.2.1 != 0)=true then
         g9 c_2<|g10 v10<|g6 v16<|g5 v23 <|
         some (IntKind.i64.wrap (all_37+(↑(List.length c_2.2.2.2.2.2.2.1):Int)))
        else
         g9 c_2<|g10 v10<|g6 v16<|g5 v23 <|
         some all_37) fun all_38 =>
       bnd (F_ref07_Of 3 v16.2.1) fun v39 =>
       if decide (IntKind.i64.wrap ((↑(List.length v16.2.2.2.1):Int)+(↑(List.length v16.2.2.2.2.1):Int))≤all_38)=true then
        if (v39==1)=false then
         if (IntKind.i64.wrap ((↑(List.length v16.2.2.2.1):Int)+(↑(List.length v16.2.2.2.2.1):Int))==all_38)=false then
          bnd (F_law17_sound (c_2.1,c_2.2.1,c_2.2.2.1,c_2.2.2.2.1,c_2.2.2.2.2.1,c_2.2.2.2.2.2.1,c_2.2.2.2.2.2.2.1,c_2.2.2.2.2.2.2.2.1,c_2.2.2.2.2.2.2.2.2)) fun v40 =>
          if (!v40)=true then
           bnd F_law17_live fun v41 =>
           some v41
          else
           some false
         else
          bnd F_law17_live fun v42 =>
          some v42
        else
         bnd F_law17_live fun v43 =>
         some v43
       else
        some false
def ann_law17_ReplyFits:List (List Nat×Ann):=[([2],⟨none,[(.ret,⟨yS40,[.cells 36 true yS1],[],[]⟩),(.normal,⟨(.cons kS (anyN 1 (.cons kI (anyN 1 (.cons (.ptr 0 0) (anyN 208 .nil)))))),[.cells 36 true yS1],[],[]⟩)]⟩),([3],⟨none,[(.normal,⟨(.cons kS (anyN 1 (.cons kI (anyN 1 (.cons (.ptr 0 0) (anyN 29 (.cons (.ty .bool) (anyN 178 .nil)))))))),[.cells 36 true yS1],[],[]⟩)]⟩),([32],⟨none,[(.ret,⟨yS40,[.cells 36 true yS1,.cells 52 true yS4,.cells 63 true yS0],[],[]⟩),(.normal,⟨(anyN 4 (.cons (.ptr 0 0) (anyN 2 (.cons (.ptr 1 0) (anyN 3 (.cons (.ptr 2 0) (anyN 201 .nil))))))),[.cells 36 true yS1,.cells 52 true yS4,.cells 63 true yS0],[],[]⟩)]⟩),([42],⟨none,[(.ret,⟨yS40,[.cells 36 true yS1,.cells 52 true yS4,.cells 63 true yS0,.cells 26 true yS2],[],[]⟩),(.normal,⟨(anyN 4 (.cons (.ptr 0 0) (anyN 6 (.cons (.ptr 2 0) (anyN 201 .nil))))),[.cells 36 true yS1,.cells 52 true yS4,.cells 63 true yS0,.cells 26 true yS2],[],[]⟩)]⟩),([50],⟨none,[(.ret,⟨yS40,[.cells 36 true yS1,.cells 52 true yS4,.cells 63 true yS0,.cells 26 true yS2],[],[]⟩),(.normal,⟨(anyN 4 (.cons (.ptr 0 0) (anyN 6 (.cons (.ptr 2 0) (anyN 201 .nil))))),[.cells 36 true yS1,.cells 52 true yS4,.cells 63 true yS0,.cells 26 true yS2],[],[]⟩)]⟩),([51],⟨none,[(.normal,⟨(anyN 4 (.cons (.ptr 0 0) (anyN 6 (.cons (.ptr 2 0) (anyN 119 (.cons (.ty .bool) (anyN 81 .nil))))))),[.cells 36 true yS1,.cells 52 true yS4,.cells 63 true yS0,.cells 26 true yS2],[],[]⟩)]⟩),([75],⟨none,[(.normal,⟨(anyN 4 (.cons (.ptr 0 0) (anyN 6 (.cons (.ptr 2 0) (anyN 3 (.cons yI (anyN 197 .nil))))))),[.cells 36 true yS1,.cells 52 true yS4,.cells 63 true yS0,.cells 26 true yS2],[],[]⟩)]⟩),([64],⟨some ⟨(anyN 4 (.cons (.ptr 0 0) (anyN 6 (.cons (.ptr 2 0) (anyN 3 (.cons yI (.cons yI (anyN 196 .nil)))))))),[.cells 36 true yS1,.cells 52 true yS4,.cells 63 true yS0,.cells 26 true yS2],[],[]⟩,[(.exit 0,⟨(anyN 4 (.cons (.ptr 0 0) (anyN 6 (.cons (.ptr 2 0) (anyN 3 (.cons yI (anyN 197 .nil))))))),[.cells 36 true yS1,.cells 52 true yS4,.cells 63 true yS0,.cells 26 true yS2],[],[]⟩)]⟩)]
@[reducible] def fs_law17_ReplyFits:List (Nat×SFn):=[(15,.pure [yT3] [.bool] (fun x=>F_ref17_Small x)),(33,.pure [yT3] [.bool] (fun x=>F_law17_plain x)),(29,.pure [] [.bool] (fun x=>F_law17_live)),(30,.pure [.str] [yT16,tI,tI] (fun x=>F_reply_Read x)),(19,.pure [yT3] [yT3] (fun x=>F_law17_Chain x)),(34,.pure [yT16,yT3,tI] [.str] (fun x=>F_reply_Build x.1 x.2.1 x.2.2)),(25,.pure [.str] [tM,tI] (fun x=>F_ref08_Decode x)),(26,.pure [(.agg yT9)] [tI] (fun x=>F_edns_Opt_Limit x)),(35,.pure [tI,tI] [tI] (fun x=>F_ref07_Of x.1 x.2)),(36,.pure [tM] [(.agg yT9),tI] (fun x=>F_ref09_Find x)),(37,.pure [yT3] [.bool] (fun x=>F_law17_sound x))]
theorem told_law17_ReplyFits:Told CC Tryz.prog 8 [.str,yT3,tI] [.bool] (fun x=>F_law17_ReplyFits x.1 x.2.1 x.2.2):=told_of (n:=100000) (gok (an:=ann_law17_ReplyFits) (fs:=fs_law17_ReplyFits) ⟨told_ref17_Small,told_law17_plain,told_law17_live,told_reply_Read,told_law17_Chain,told_reply_Build,told_ref08_Decode,told_edns_Opt_Limit,told_ref07_Of,told_ref09_Find,told_law17_sound,trivial⟩) rfl rfl (fun x=>by kernel_rfl)
end
end Go.Abs

