/- Part of a proof. -/
import Derived.Test.YthlcfhkcbmikcaaGreatSnB
set_option linter.unusedSimpArgs false
set_option linter.unusedVariables false
set_option linter.unusedSectionVars false
set_option maxRecDepth 100000
namespace Go.Abs
open Go Go.Proofs
noncomputable section
def step_law17_Chain_0 (k_1:List (List UInt8×Int×Int×List (List UInt8)×Int×Int)×Int×List UInt8×List UInt8×Int×Int×List (List UInt8)×Int×Int):(Int×List ((List UInt8×(Int×(Int×(List (List UInt8)×(Int×Int)))))))→Option ((Int×List ((List UInt8×(Int×(Int×(List (List UInt8)×(Int×Int))))))) ⊕ List ((List UInt8×(Int×(Int×(List (List UInt8)×(Int×Int))))))):=fun (i_2,b2a_3) =>
 if decide (i_2<(↑(List.length k_1.1):Int))=true then
  natOf i_2 fun n4 =>
  bnd (k_1.1[n4]?) fun x5 =>
  grd ((b2a_3.length+[(x5.1,x5.2.1,x5.2.2.1,x5.2.2.2.1,x5.2.2.2.2.1,x5.2.2.2.2.2)].length)*72≤roomLim) <|
  g9 k_1<|gz<|gq (α:=List UInt8) ([])<|gq (α:=List UInt8) ([])<|gz<|gz<|gz<|gz<|gq k_1.2.1<|gq k_1.2.2.1<|gq k_1.2.2.2.1<|gq k_1.2.2.2.2.1<|gq k_1.2.2.2.2.2.1<|gq k_1.2.2.2.2.2.2.1<|gq k_1.2.2.2.2.2.2.2.1<|gq k_1.2.2.2.2.2.2.2.2 <|
  some (.inl ((IntKind.i64.wrap (i_2+1),b2a_3++[(x5.1,x5.2.1,x5.2.2.1,x5.2.2.2.1,x5.2.2.2.2.1,x5.2.2.2.2.2)])))
 else
  g9 k_1<|gz<|gq (α:=List UInt8) ([])<|gq (α:=List UInt8) ([])<|gz<|gz<|gz<|gz<|gq k_1.2.1<|gq k_1.2.2.1<|gq k_1.2.2.2.1<|gq k_1.2.2.2.2.1<|gq k_1.2.2.2.2.2.1<|gq k_1.2.2.2.2.2.2.1<|gq k_1.2.2.2.2.2.2.2.1<|gq k_1.2.2.2.2.2.2.2.2 <|
  some (.inr b2a_3)
def F_law17_Chain (k_1:(List ((List UInt8×(Int×(Int×(List (List UInt8)×(Int×Int))))))×(Int×(List UInt8×(List UInt8×(Int×(Int×(List (List UInt8)×(Int×Int))))))))):Option ((List ((List UInt8×(Int×(Int×(List (List UInt8)×(Int×Int))))))×(Int×(List UInt8×(List UInt8×(Int×(Int×(List (List UInt8)×(Int×Int))))))))) :=
 bnd (loopS (step_law17_Chain_0 k_1) ((0,[]))) fun b2a_6 =>
 some ((b2a_6,(k_1.2.1,(k_1.2.2.1,(k_1.2.2.2.1,(k_1.2.2.2.2.1,(k_1.2.2.2.2.2.1,(k_1.2.2.2.2.2.2.1,(k_1.2.2.2.2.2.2.2.1,k_1.2.2.2.2.2.2.2.2)))))))))
def ann_law17_Chain:List (List Nat×Ann):=[([8],⟨some ⟨(anyN 1 (.cons (.ptr 0 0) (.cons (.ptr 1 0) (.cons (.ptr 2 0) (.cons yI (anyN 25 .nil)))))),[.cells 36 true yS0,.cells 48 true yS29,.cells 48 true yS39],[⟨⟨0,yT16,46,true,true⟩,true⟩],[]⟩,[(.exit 0,⟨(anyN 2 (.cons (.ptr 1 0) (.cons (.ptr 2 0) (anyN 26 .nil)))),[.cells 36 true yS0,.cells 48 true yS29,.cells 48 true yS39],[⟨⟨1,yT16,46,true,true⟩,true⟩],[]⟩)]⟩)]
theorem told_law17_Chain:Told CC Tryz.prog 19 [yT2] [yT2] (fun x=>F_law17_Chain x):=told_of (n:=100000) (gok (an:=ann_law17_Chain) (fs:=[]) trivial) rfl rfl (fun x=>by kernel_rfl)
def F_law19_live:Option (Bool) :=
 bnd (F_law17_Chain ([([1,97,0],1,1,[[49,49,49,49],[50,50,50,50]],9,5)],0,[],[],0,0,[],0,0)) fun v1 =>
 bnd (F_tmpl_Make 10 ([1,97,0],1,1) (v1.1,v1.2.1,v1.2.2.1,v1.2.2.2.1,v1.2.2.2.2.1,v1.2.2.2.2.2.1,v1.2.2.2.2.2.2.1,v1.2.2.2.2.2.2.2.1,v1.2.2.2.2.2.2.2.2)) fun (v2,v3) =>
 bnd (F_patch_Copy (v2.1,v2.2.1,v2.2.2.1,v2.2.2.2.1,v2.2.2.2.2.1,v2.2.2.2.2.2) (7,256,[1,65,0],1,1,false,0,0,0,false) 12 1) fun (v4,v5) =>
 bnd (F_patch_Copy (v2.1,v2.2.1,v2.2.2.1,v2.2.2.2.1,v2.2.2.2.2.1,v2.2.2.2.2.2) (7,256,[1,65,0],1,1,false,0,0,0,false) 15 1) fun (v6,v7) =>
 bnd (F_patch_Size (v2.1,v2.2.1,v2.2.2.1,v2.2.2.2.1,v2.2.2.2.2.1,v2.2.2.2.2.2) (7,256,[1,65,0],1,1,false,0,0,0,false) 12) fun (v8,v9) =>
 bnd (F_ref08_Decode v4) fun (v10,v11) =>
 if ((↑(List.length v10.2.2.2.1):Int) != 2)=true then
  some false
 else
  if v5=true then
   if (!v7)=true then
    if (v8==1)=true then
     if (v9==(↑v4.length:Int))=true then
      if (v9==51)=true then
       if (v11==0)=true then
        if (v10.1==7)=true then
         bnd (v10.2.2.2.1[0]?) fun x12 =>
         if (x12.1==[1,65,0]&&(x12.2.1==1&&(x12.2.2.1==1&&(x12.2.2.2.1==3&&(x12.2.2.2.2==[50,50,50,50]&&true)))))=true then
          bnd (F_patch_Fits (v2.1,v2.2.1,v2.2.2.1,v2.2.2.2.1,v2.2.2.2.2.1,v2.2.2.2.2.2) (7,256,[1,65,0],1,1,false,0,0,0,false) 14) fun v13 =>
          if v13=true then
           bnd (F_patch_Fits (v2.1,v2.2.1,v2.2.2.1,v2.2.2.2.1,v2.2.2.2.2.1,v2.2.2.2.2.2) (7,256,[1,65,0],1,1,false,0,0,0,false) 15) fun v14 =>
           if (!v14)=true then
            bnd (F_patch_Fits (v2.1,v2.2.1,v2.2.2.1,v2.2.2.2.1,v2.2.2.2.2.1,v2.2.2.2.2.2) (0,0,[],0,0,false,0,0,0,false) 12) fun v15 =>
            some (!v15)
           else
            some false
          else
           some false
         else
          some false
        else
         some false
       else
        some false
      else
       some false
     else
      some false
    else
     some false
   else
    some false
  else
   some false
def ann_law19_live:List (List Nat×Ann):=[]
@[reducible] def fs_law19_live:List (Nat×SFn):=[(19,.pure [yT2] [yT2] (fun x=>F_law17_Chain x)),(18,.pure [tI,tQ,yT2] [yT12,.bool] (fun x=>F_tmpl_Make x.1 x.2.1 x.2.2)),(23,.pure [yT12,yT8,tI,tI] [.str,.bool] (fun x=>F_patch_Copy x.1 x.2.1 x.2.2.1 x.2.2.2)),(24,.pure [yT12,yT8,tI] [tI,tI] (fun x=>F_patch_Size x.1 x.2.1 x.2.2)),(25,.pure [.str] [tM,tI] (fun x=>F_ref08_Decode x)),(21,.pure [yT12,yT8,tI] [.bool] (fun x=>F_patch_Fits x.1 x.2.1 x.2.2))]
theorem told_law19_live:Told CC Tryz.prog 16 [] [.bool] (fun x=>F_law19_live):=told_of (n:=100000) (gok (an:=ann_law19_live) (fs:=fs_law19_live) ⟨told_law17_Chain,told_tmpl_Make,told_patch_Copy,told_patch_Size,told_ref08_Decode,told_patch_Fits,trivial⟩) rfl rfl (fun x=>by kernel_rfl)
end
end Go.Abs

set_option maxRecDepth 100000
namespace Go.Abs
open Go Go.Proofs
noncomputable section
end
end Go.Abs

set_option maxRecDepth 100000
namespace Go.Abs
open Go Go.Proofs
noncomputable section
end
end Go.Abs

set_option maxRecDepth 100000
namespace Go.Abs
open Go Go.Proofs
noncomputable section
def F_reply_Refuse (a_1:(Int×(Int×(List UInt8×(Int×(Int×(Bool×(Int×(Int×(Int×Bool)))))))))) (code_2:Int):Option (List UInt8) :=
 bnd (α:=(List UInt8 ⊕ Unit)) (if decide (code_2<0)=false then
   if decide (255<code_2)=true then
    g10 a_1 <|
    some (.inl ([]))
   else
    gq code_2<|g10 a_1 <|
    some (.inr (()))
  else
   g10 a_1 <|
   some (.inl ([]))) fun o3 =>
 match o3 with
 | .inl s4_4 =>
  some s4_4
 | .inr _ =>
  bnd (α:=(Int×(Int×(List ((List UInt8×(Int×Int)))×List ((List UInt8×(Int×(Int×(Int×List UInt8))))))))) (bnd (F_flag_Answer a_1.2.1 code_2) fun v5 =>
   bnd (α:=List ((List UInt8×(Int×Int)))) (if (!a_1.2.2.1==[])=true then
     gq code_2<|g10 a_1<|g10 a_1<|gz<|gz<|gq a_1.1<|gq v5 <|
     some ([(a_1.2.2.1,a_1.2.2.2.1,a_1.2.2.2.2.1)])
    else
     gq code_2<|g10 a_1<|g10 a_1<|gz<|gz<|gq a_1.1<|gq v5 <|
     some ([])) fun b3c_6 =>
   if a_1.2.2.2.2.2.1=true then
    bnd (F_edns_Opt_Record (true,4096,IntKind.i64.wrap (code_2.tdiv 16),0,a_1.2.2.2.2.2.2.2.2.2)) fun (v7,v8) =>
    g10 a_1 <|
    some ((a_1.1,(v5,(b3c_6,[(v7.1,v7.2.1,v7.2.2.1,v7.2.2.2.1,v7.2.2.2.2)]))))
   else
    g10 a_1 <|
    some ((a_1.1,(v5,(b3c_6,[]))))) fun (a_9,a_10,a_11,a_12) =>
  bnd (F_msg_Encode (a_9,a_10,a_11,[],[],a_12)) fun (v13,v14) =>
  some v13
def ann_reply_Refuse:List (List Nat×Ann):=[([2],⟨none,[(.ret,⟨(anyN 4 (.cons (.ty .str) (anyN 16 .nil))),[.cells 52 true yS3],[],[]⟩),(.normal,⟨(anyN 1 (.cons kI (.cons (.ptr 0 0) (anyN 18 .nil)))),[.cells 52 true yS3],[],[]⟩)]⟩),([2000000,61,2,11],⟨none,[(.ret,⟨(.cons (.agg (.cons yI (.cons yI (.cons (.ty (.list tQ)) (.cons .nill (.cons .nill (.cons (.ty (.list tRR)) .nil))))))) .nil),[.cells 52 true yS3],[],[]⟩)]⟩),([4,61,2,11],⟨none,[(.normal,⟨(anyN 1 (.cons kI (.cons (.ptr 1 0) (anyN 1 (.cons (.ptr 2 0) (.cons (.ptr 3 0) (anyN 34 .nil))))))),[.cells 52 true yS3,.cells 52 true yS3,.cells 63 true yS31,.cells 63 true (.cons kI (.cons kI (.cons (.ty (.list tQ)) (.cons .nill (.cons .nill (.cons .nill .nil))))))],[],[]⟩)]⟩)]
@[reducible] def fs_reply_Refuse:List (Nat×SFn):=[(84,.pure [tI,tI] [tI] (fun x=>F_flag_Answer x.1 x.2)),(101,.pure [yT25] [tRR,.bool] (fun x=>F_edns_Opt_Record x)),(64,.pure [tM] [.str,tI] (fun x=>F_msg_Encode x))]
theorem told_reply_Refuse:Told CC Tryz.prog 38 [yT8,tI] [.str] (fun x=>F_reply_Refuse x.1 x.2):=told_of (n:=100000) (gok (an:=ann_reply_Refuse) (fs:=fs_reply_Refuse) ⟨told_flag_Answer,told_edns_Opt_Record,told_msg_Encode,trivial⟩) rfl rfl (fun x=>by kernel_rfl)
end
end Go.Abs

set_option maxRecDepth 100000
namespace Go.Abs
open Go Go.Proofs
noncomputable section
def step_reply_Build_1 (a_1:Int×Int×List UInt8×Int×Int×Bool×Int×Int×Int×Bool) (c_2:List (List UInt8×Int×Int×List (List UInt8)×Int×Int)×Int×List UInt8×List UInt8×Int×Int×List (List UInt8)×Int×Int) (v8:List (List (List UInt8×Int×Int×Int×List UInt8)×Bool)) (many_9:Int) (a_15:Int) (a_16:Int) (a_17:List (List UInt8×Int×Int)) (a_18:List (List UInt8×Int×Int×Int×List UInt8)) (n19:Nat):(Int×(List ((List UInt8×(Int×(Int×(Int×List UInt8)))))×List ((List UInt8×(Int×(Int×(Int×List UInt8)))))))→Option ((Int×(List ((List UInt8×(Int×(Int×(Int×List UInt8)))))×List ((List UInt8×(Int×(Int×(Int×List UInt8))))))) ⊕ (List ((List UInt8×(Int×(Int×(Int×List UInt8)))))×List ((List UInt8×(Int×(Int×(Int×List UInt8))))))):=fun (s18_20,b3d_21,b3e_22) =>
 if decide (s18_20<(↑(List.take n19 v8).length:Int))=true then
  natOf s18_20 fun n23 =>
  bnd ((List.take n19 v8)[n23]?) fun x24 =>
  if x24.2=true then
   gq many_9 <|
   grdEq (List.take n19 v8) (List.take n19 v8) <|
   grdEq ((↑(List.take n19 v8).length:Int)) ((↑(List.take n19 v8).length:Int)) <|
   g10 a_1<|g9 c_2<|gq v8<|gq a_15<|gq a_16<|gq a_17<|gq a_18 <|
   some (.inl ((IntKind.i64.wrap (s18_20+1),(b3d_21,x24.1))))
  else
   grd ((b3d_21.length+List.length x24.1)*56≤roomLim) <|
   gq many_9 <|
   grdEq (List.take n19 v8) (List.take n19 v8) <|
   grdEq ((↑(List.take n19 v8).length:Int)) ((↑(List.take n19 v8).length:Int)) <|
   g10 a_1<|g9 c_2<|gq v8<|gq a_15<|gq a_16<|gq a_17<|gq a_18 <|
   some (.inl ((IntKind.i64.wrap (s18_20+1),(b3d_21++x24.1,b3e_22))))
 else
  gq many_9<|g10 a_1<|g9 c_2<|gq v8<|gq a_15<|gq a_16<|gq a_17<|gq a_18 <|
  some (.inr ((b3d_21,b3e_22)))
def step_reply_Build_0 (a_1:Int×Int×List UInt8×Int×Int×Bool×Int×Int×Int×Bool) (c_2:List (List UInt8×Int×Int×List (List UInt8)×Int×Int)×Int×List UInt8×List UInt8×Int×Int×List (List UInt8)×Int×Int) (v8:List (List (List UInt8×Int×Int×Int×List UInt8)×Bool)):Int→Option (Int ⊕ (Unit ⊕ List UInt8)):=fun many_9 =>
 if decide (0≤many_9)=true then
  bnd (F_reply_code (c_2.1,c_2.2.1,c_2.2.2.1,c_2.2.2.2.1,c_2.2.2.2.2.1,c_2.2.2.2.2.2.1,c_2.2.2.2.2.2.2.1,c_2.2.2.2.2.2.2.2.1,c_2.2.2.2.2.2.2.2.2)) fun v10 =>
  bnd (α:=(Int×(Int×(List ((List UInt8×(Int×Int)))×List ((List UInt8×(Int×(Int×(Int×List UInt8))))))))) (bnd (F_flag_Answer a_1.2.1 v10) fun v11 =>
   bnd (α:=List ((List UInt8×(Int×Int)))) (if (!a_1.2.2.1==[])=true then
     gq v10<|g10 a_1<|g9 c_2<|gq v8<|gz<|gz<|g10 a_1<|gz<|gz<|gq a_1.1<|gq v11 <|
     some ([(a_1.2.2.1,a_1.2.2.2.1,a_1.2.2.2.2.1)])
    else
     gq v10<|g10 a_1<|g9 c_2<|gq v8<|gz<|gz<|g10 a_1<|gz<|gz<|gq a_1.1<|gq v11 <|
     some ([])) fun b6c_12 =>
   if a_1.2.2.2.2.2.1=true then
    bnd (F_edns_Opt_Record (true,4096,IntKind.i64.wrap (v10.tdiv 16),0,a_1.2.2.2.2.2.2.2.2.2)) fun (v13,v14) =>
    g10 a_1<|g9 c_2<|gq v8<|gz<|gz <|
    some ((a_1.1,(v11,(b6c_12,[(v13.1,v13.2.1,v13.2.2.1,v13.2.2.2.1,v13.2.2.2.2)]))))
   else
    g10 a_1<|g9 c_2<|gq v8<|gz<|gz <|
    some ((a_1.1,(v11,(b6c_12,[]))))) fun (a_15,a_16,a_17,a_18) =>
  natOf many_9 fun n19 =>
  grd (n19≤v8.length) <|
  bnd (loopS (step_reply_Build_1 a_1 c_2 v8 many_9 a_15 a_16 a_17 a_18 n19) ((0,([],[])))) fun (b3d_25,b3e_26) =>
  bnd (α:=(Int×(List ((List UInt8×(Int×(Int×(Int×List UInt8)))))×List ((List UInt8×(Int×(Int×(Int×List UInt8)))))))) (if decide (many_9<(↑v8.length:Int))=true then
    bnd (F_flag_Field_With 3 a_16 1) fun (v27,v28) =>
    g10 a_1<|g9 c_2<|gq v8<|gq a_15<|gq a_17<|gq a_18 <|
    some ((v27,(b3d_25,b3e_26)))
   else
    g10 a_1<|g9 c_2<|gq v8<|gq a_15<|gq a_17<|gq a_18 <|
    some ((a_16,(b3d_25,b3e_26)))) fun (b3b_29,b3d_30,b3e_31) =>
  bnd (F_msg_Encode (a_15,b3b_29,a_17,b3d_30,b3e_31,a_18)) fun (v32,v33) =>
  if (v33==1)=true then
   g10 a_1<|g9 c_2<|gq v8 <|
   some (.inr (.inr ([])))
  else
   if (v33==0)=true then
    bnd (F_edns_Opt_Limit (a_1.2.2.2.2.2.1,a_1.2.2.2.2.2.2.1,a_1.2.2.2.2.2.2.2.1,a_1.2.2.2.2.2.2.2.2.1,a_1.2.2.2.2.2.2.2.2.2)) fun v34 =>
    if decide ((↑v32.length:Int)≤v34)=true then
     g10 a_1<|g9 c_2<|gq v8 <|
     some (.inr (.inr v32))
    else
     g10 a_1<|g9 c_2<|gq v8 <|
     some (.inl (IntKind.i64.wrap (many_9-1)))
   else
    g10 a_1<|g9 c_2<|gq v8 <|
    some (.inl (IntKind.i64.wrap (many_9-1)))
 else
  g10 a_1<|g9 c_2<|gq v8 <|
  some (.inr (.inl (())))
def F_reply_Build (a_1:(Int×(Int×(List UInt8×(Int×(Int×(Bool×(Int×(Int×(Int×Bool)))))))))) (c_2:(List ((List UInt8×(Int×(Int×(List (List UInt8)×(Int×Int))))))×(Int×(List UInt8×(List UInt8×(Int×(Int×(List (List UInt8)×(Int×Int))))))))) (turn_3:Int):Option (List UInt8) :=
 bnd (α:=(List UInt8 ⊕ Unit)) (bnd (α:=Bool) (if decide (c_2.2.1<0)=false then
    gq turn_3<|g10 a_1<|g9 c_2 <|
    some (decide (2<c_2.2.1))
   else
    gq turn_3<|g10 a_1<|g9 c_2 <|
    some true) fun s19_4 =>
  if s19_4=true then
   bnd (F_reply_Refuse (a_1.1,a_1.2.1,a_1.2.2.1,a_1.2.2.2.1,a_1.2.2.2.2.1,a_1.2.2.2.2.2.1,a_1.2.2.2.2.2.2.1,a_1.2.2.2.2.2.2.2.1,a_1.2.2.2.2.2.2.2.2.1,a_1.2.2.2.2.2.2.2.2.2) 2) fun v5 =>
   g10 a_1<|g9 c_2 <|
   some (.inl v5)
  else
   gq turn_3<|g10 a_1<|g9 c_2 <|
   some (.inr (()))) fun o6 =>
 match o6 with
 | .inl s6_7 =>
  some s6_7
 | .inr _ =>
  bnd (F_reply_pieces (c_2.1,c_2.2.1,c_2.2.2.1,c_2.2.2.2.1,c_2.2.2.2.2.1,c_2.2.2.2.2.2.1,c_2.2.2.2.2.2.2.1,c_2.2.2.2.2.2.2.2.1,c_2.2.2.2.2.2.2.2.2) turn_3) fun v8 =>
  bnd (loopS (step_reply_Build_0 a_1 c_2 v8) ((↑v8.length:Int))) fun o35 =>
  match o35 with
  | .inl _ =>
   some ([])
  | .inr s6_36 =>
   some s6_36
def ann_reply_Build:List (List Nat×Ann):=[([2],⟨none,[(.ret,⟨yS43,[.cells 52 true yS3,.cells 48 true yS0],[],[]⟩),(.normal,⟨(anyN 2 (.cons kI (.cons (.ptr 0 0) (.cons (.ptr 1 0) (anyN 48 .nil))))),[.cells 52 true yS3,.cells 48 true yS0],[],[]⟩)]⟩),([3],⟨none,[(.normal,⟨(anyN 2 (.cons kI (.cons (.ptr 0 0) (.cons (.ptr 1 0) (anyN 14 (.cons (.ty .bool) (anyN 33 .nil))))))),[.cells 52 true yS3,.cells 48 true yS0],[],[]⟩)]⟩),([25,60,2,28],⟨none,[(.normal,⟨(anyN 7 (.cons (.ptr 3 0) (anyN 41 .nil))),[.cells 52 true yS3,.cells 48 true yS0,.cells 128 true yS33,.cells 63 true (.cons kI (.cons yI yS32))],[⟨⟨1,tRR,101,true,true⟩,true⟩],[]⟩)]⟩),([2000000,61,4,3,60,2,28],⟨none,[(.ret,⟨(.cons (.agg (.cons yI (.cons yI (.cons (.ty (.list tQ)) (.cons .nill (.cons .nill (.cons (.ty (.list tRR)) .nil))))))) .nil),[.cells 52 false yS3,.cells 48 false yS0,.cells 128 false yS33,.cells 63 false yS31],[],[]⟩)]⟩),([4,61,4,3,60,2,28],⟨none,[(.normal,⟨(anyN 1 (.cons kI (.cons (.ptr 4 0) (anyN 1 (.cons (.ptr 5 0) (.cons (.ptr 6 0) (anyN 34 .nil))))))),[.cells 52 false yS3,.cells 48 false yS0,.cells 128 false yS33,.cells 63 false yS31,.cells 52 true yS3,.cells 63 true yS31,.cells 63 true (.cons kI (.cons kI (.cons (.ty (.list tQ)) (.cons .nill (.cons .nill (.cons .nill .nil))))))],[],[]⟩)]⟩),([18],⟨some ⟨(anyN 3 (.cons (.ptr 0 0) (anyN 4 (.cons (.func 60 .nil (.cons (.ptr 0 0) (.cons (.ptr 1 0) (.cons (.ptr 2 0) .nil)))) (.cons yI (anyN 43 .nil)))))),[.cells 52 true yS3,.cells 48 true yS0,.cells 128 true yS33],[],[]⟩,[(.exit 0,⟨(anyN 53 .nil),[.cells 52 true yS3,.cells 48 true yS0,.cells 128 true yS33],[],[]⟩),(.ret,⟨yS43,[.cells 52 true yS3,.cells 48 true yS0,.cells 128 true yS33],[⟨⟨1,tRR,101,false,true⟩,false⟩],[]⟩)]⟩),([8,60,2,28],⟨some ⟨(.cons kI (anyN 2 (.cons (.ptr 2 0) (anyN 3 (.cons (.ptr 3 0) (anyN 8 (.cons (.keep (.list yT21)) (.cons kI (.cons yI (anyN 30 .nil)))))))))),[.cells 52 true yS3,.cells 48 true yS0,.cells 128 true yS33,.cells 63 true (.cons kI (.cons kI yS32))],[⟨⟨0,tRR,101,true,true⟩,true⟩],[]⟩,[(.exit 0,⟨(.cons kI (anyN 2 (.cons (.ptr 2 0) (anyN 3 (.cons (.ptr 3 0) (anyN 41 .nil)))))),[.cells 52 true yS3,.cells 48 true yS0,.cells 128 true yS33,.cells 63 true (.cons kI (.cons kI yS32))],[⟨⟨0,tRR,101,true,true⟩,false⟩],[]⟩)]⟩)]
@[reducible] def fs_reply_Build:List (Nat×SFn):=[(62,.pure [yT2] [tI] (fun x=>F_reply_code x)),(84,.pure [tI,tI] [tI] (fun x=>F_flag_Answer x.1 x.2)),(101,.pure [yT25] [tRR,.bool] (fun x=>F_edns_Opt_Record x)),(63,.pure [tI,tI,tI] [tI,.bool] (fun x=>F_flag_Field_With x.1 x.2.1 x.2.2)),(64,.pure [tM] [.str,tI] (fun x=>F_msg_Encode x)),(26,.pure [yT25] [tI] (fun x=>F_edns_Opt_Limit x)),(38,.pure [yT8,tI] [.str] (fun x=>F_reply_Refuse x.1 x.2)),(59,.pure [yT2,tI] [(.list yT21)] (fun x=>F_reply_pieces x.1 x.2))]
theorem told_reply_Build:Told CC Tryz.prog 34 [yT8,yT2,tI] [.str] (fun x=>F_reply_Build x.1 x.2.1 x.2.2):=told_of (n:=100000) (gok (an:=ann_reply_Build) (fs:=fs_reply_Build) ⟨told_reply_code,told_flag_Answer,told_edns_Opt_Record,told_flag_Field_With,told_msg_Encode,told_edns_Opt_Limit,told_reply_Refuse,told_reply_pieces,trivial⟩) rfl rfl (fun x=>by kernel_rfl)
end
end Go.Abs

set_option maxRecDepth 100000
namespace Go.Abs
open Go Go.Proofs
noncomputable section
def F_law19_PatchBuilt (at_1:(Int×(Int×Int))) (a_2:(Int×(Int×(List UInt8×(Int×(Int×(Bool×(Int×(Int×(Int×Bool)))))))))) (c_3:(List ((List UInt8×(Int×(Int×(List (List UInt8)×(Int×Int))))))×(Int×(List UInt8×(List UInt8×(Int×(Int×(List (List UInt8)×(Int×Int))))))))):Option (Bool) :=
 bnd (α:=(Bool ⊕ Unit)) (bnd (α:=Bool) (bnd (F_ref17_Small (c_3.1,c_3.2.1,c_3.2.2.1,c_3.2.2.2.1,c_3.2.2.2.2.1,c_3.2.2.2.2.2.1,c_3.2.2.2.2.2.2.1,c_3.2.2.2.2.2.2.2.1,c_3.2.2.2.2.2.2.2.2)) fun v4 =>
   if (!v4)=false then
    if decide (300<(↑(List.length a_2.2.2.1):Int))=false then
     if decide (at_1.2.1<0)=false then
      if decide (1099511627776<at_1.2.1)=false then
       if decide (at_1.1<0)=false then
        if decide (1099511627776<at_1.1)=false then
         g3 at_1<|g3 at_1<|g10 a_2<|g9 c_3 <|
         some (decide (at_1.2.2<0))
        else
         g3 at_1<|g3 at_1<|g10 a_2<|g9 c_3 <|
         some true
       else
        g3 at_1<|g3 at_1<|g10 a_2<|g9 c_3 <|
        some true
      else
       g3 at_1<|g3 at_1<|g10 a_2<|g9 c_3 <|
       some true
     else
      g3 at_1<|g3 at_1<|g10 a_2<|g9 c_3 <|
      some true
    else
     g3 at_1<|g3 at_1<|g10 a_2<|g9 c_3 <|
     some true
   else
    g3 at_1<|g3 at_1<|g10 a_2<|g9 c_3 <|
    some true) fun s51_5 =>
  if s51_5=true then
   bnd F_law19_live fun v6 =>
   g3 at_1<|g10 a_2<|g9 c_3 <|
   some (.inl v6)
  else
   g3 at_1<|g3 at_1<|g10 a_2<|g9 c_3 <|
   some (.inr (()))) fun o7 =>
 match o7 with
 | .inl s6_8 =>
  some s6_8
 | .inr _ =>
  bnd (F_ref02_Low a_2.2.2.1) fun v9 =>
  bnd (F_law17_Chain (c_3.1,c_3.2.1,c_3.2.2.1,c_3.2.2.2.1,c_3.2.2.2.2.1,c_3.2.2.2.2.2.1,c_3.2.2.2.2.2.2.1,c_3.2.2.2.2.2.2.2.1,c_3.2.2.2.2.2.2.2.2)) fun v10 =>
  bnd (F_tmpl_Make at_1.1 (v9,a_2.2.2.2.1,a_2.2.2.2.2.1) (v10.1,v10.2.1,v10.2.2.1,v10.2.2.2.1,v10.2.2.2.2.1,v10.2.2.2.2.2.1,v10.2.2.2.2.2.2.1,v10.2.2.2.2.2.2.2.1,v10.2.2.2.2.2.2.2.2)) fun (v11,v12) =>
  bnd (F_law17_Own (a_2.1,a_2.2.1,a_2.2.2.1,a_2.2.2.2.1,a_2.2.2.2.2.1,a_2.2.2.2.2.2.1,a_2.2.2.2.2.2.2.1,a_2.2.2.2.2.2.2.2.1,a_2.2.2.2.2.2.2.2.2.1,a_2.2.2.2.2.2.2.2.2.2)) fun v13 =>
  bnd (α:=(Bool ⊕ Unit)) (bnd (α:=Bool) (if (!v12)=false then
     bnd (F_patch_Fits (v11.1,v11.2.1,v11.2.2.1,v11.2.2.2.1,v11.2.2.2.2.1,v11.2.2.2.2.2) (v13.1,v13.2.1,v13.2.2.1,v13.2.2.2.1,v13.2.2.2.2.1,v13.2.2.2.2.2.1,v13.2.2.2.2.2.2.1,v13.2.2.2.2.2.2.2.1,v13.2.2.2.2.2.2.2.2.1,v13.2.2.2.2.2.2.2.2.2) (IntKind.i64.wrap (at_1.1+at_1.2.1))) fun v14 =>
     g3 at_1<|g3 at_1<|g10 a_2<|g9 c_3<|gq v9<|gq a_2.2.2.2.1<|gq a_2.2.2.2.2.1<|g6 v11<|g10 v13 <|
     some (!v14)
    else
     g3 at_1<|g3 at_1<|g10 a_2<|g9 c_3<|gq v9<|gq a_2.2.2.2.1<|gq a_2.2.2.2.2.1<|g6 v11<|g10 v13 <|
     some true) fun s80_15 =>
   if s80_15=true then
    bnd F_law19_live fun v16 =>
    g3 at_1<|g10 a_2<|g9 c_3<|gq v9<|gq a_2.2.2.2.1<|gq a_2.2.2.2.2.1<|g6 v11<|g10 v13 <|
    some (.inl v16)
   else
    g3 at_1<|g3 at_1<|g10 a_2<|g9 c_3<|gq v9<|gq a_2.2.2.2.1<|gq a_2.2.2.2.2.1<|g6 v11<|g10 v13 <|
    some (.inr (()))) fun o17 =>
  match o17 with
  | .inl s6_18 =>
   some s6_18
  | .inr _ =>
   bnd (F_patch_Copy (v11.1,v11.2.1,v11.2.2.1,v11.2.2.2.1,v11.2.2.2.2.1,v11.2.2.2.2.2) (v13.1,v13.2.1,v13.2.2.1,v13.2.2.2.1,v13.2.2.2.2.1,v13.2.2.2.2.2.1,v13.2.2.2.2.2.2.1,v13.2.2.2.2.2.2.2.1,v13.2.2.2.2.2.2.2.2.1,v13.2.2.2.2.2.2.2.2.2) (IntKind.i64.wrap (at_1.1+at_1.2.1)) at_1.2.2) fun (v19,v20) =>
   if v20=true then
    if (!v19==[])=true then
     bnd (F_law19_later (c_3.1,c_3.2.1,c_3.2.2.1,c_3.2.2.2.1,c_3.2.2.2.2.1,c_3.2.2.2.2.2.1,c_3.2.2.2.2.2.2.1,c_3.2.2.2.2.2.2.2.1,c_3.2.2.2.2.2.2.2.2) at_1.2.1) fun v21 =>
     bnd (F_law17_Chain (v21.1,v21.2.1,v21.2.2.1,v21.2.2.2.1,v21.2.2.2.2.1,v21.2.2.2.2.2.1,v21.2.2.2.2.2.2.1,v21.2.2.2.2.2.2.2.1,v21.2.2.2.2.2.2.2.2)) fun v22 =>
     bnd (F_reply_Build (v13.1,v13.2.1,v13.2.2.1,v13.2.2.2.1,v13.2.2.2.2.1,v13.2.2.2.2.2.1,v13.2.2.2.2.2.2.1,v13.2.2.2.2.2.2.2.1,v13.2.2.2.2.2.2.2.2.1,v13.2.2.2.2.2.2.2.2.2) (v22.1,v22.2.1,v22.2.2.1,v22.2.2.2.1,v22.2.2.2.2.1,v22.2.2.2.2.2.1,v22.2.2.2.2.2.2.1,v22.2.2.2.2.2.2.2.1,v22.2.2.2.2.2.2.2.2) at_1.2.2) fun v23 =>
     if (v19==v23)=true then
      bnd F_law19_live fun v24 =>
      some v24
     else
      some false
    else
     some false
   else
    some false
def ann_law19_PatchBuilt:List (List Nat×Ann):=[([8],⟨none,[(.ret,⟨(anyN 6 (.cons (.ty .bool) (anyN 104 .nil))),[.cells 22 true yS24,.cells 28 true yS3,.cells 36 true yS0],[],[]⟩),(.normal,⟨(anyN 4 (.cons (.ptr 1 0) (.cons (.ptr 2 0) (anyN 1 (.cons kI (.cons kI (.cons kI (anyN 101 .nil)))))))),[.cells 22 true yS24,.cells 28 true yS3,.cells 36 true yS0],[],[]⟩)]⟩),([9],⟨none,[(.normal,⟨(anyN 4 (.cons (.ptr 1 0) (.cons (.ptr 2 0) (anyN 1 (.cons kI (.cons kI (.cons kI (anyN 41 (.cons (.ty .bool) (anyN 59 .nil)))))))))),[.cells 22 true yS24,.cells 28 true yS3,.cells 36 true yS0],[],[]⟩)]⟩),([24],⟨none,[(.ret,⟨(anyN 6 (.cons (.ty .bool) (anyN 104 .nil))),[.cells 22 true yS24,.cells 28 true yS3,.cells 36 true yS0,.cells 24 true yS28,.cells 42 true yS10,.cells 52 true yS3],[],[]⟩),(.normal,⟨(anyN 5 (.cons (.ptr 2 0) (anyN 1 (.cons kI (.cons kI (.cons kI (anyN 1 (.cons (.ptr 4 0) (anyN 1 (.cons (.ptr 5 0) (anyN 97 .nil))))))))))),[.cells 22 true yS24,.cells 28 true yS3,.cells 36 true yS0,.cells 24 true yS28,.cells 42 true yS10,.cells 52 true yS3],[],[]⟩)]⟩),([25],⟨none,[(.normal,⟨(anyN 5 (.cons (.ptr 2 0) (anyN 1 (.cons kI (.cons kI (.cons kI (anyN 1 (.cons (.ptr 4 0) (anyN 1 (.cons (.ptr 5 0) (anyN 66 (.cons (.ty .bool) (anyN 30 .nil))))))))))))),[.cells 22 true yS24,.cells 28 true yS3,.cells 36 true yS0,.cells 24 true yS28,.cells 42 true yS10,.cells 52 true yS3],[],[]⟩)]⟩)]
@[reducible] def fs_law19_PatchBuilt:List (Nat×SFn):=[(15,.pure [yT2] [.bool] (fun x=>F_ref17_Small x)),(16,.pure [] [.bool] (fun x=>F_law19_live)),(17,.pure [.str] [.str] (fun x=>F_ref02_Low x)),(19,.pure [yT2] [yT2] (fun x=>F_law17_Chain x)),(18,.pure [tI,tQ,yT2] [yT12,.bool] (fun x=>F_tmpl_Make x.1 x.2.1 x.2.2)),(20,.pure [yT8] [yT8] (fun x=>F_law17_Own x)),(21,.pure [yT12,yT8,tI] [.bool] (fun x=>F_patch_Fits x.1 x.2.1 x.2.2)),(23,.pure [yT12,yT8,tI,tI] [.str,.bool] (fun x=>F_patch_Copy x.1 x.2.1 x.2.2.1 x.2.2.2)),(41,.pure [yT2,tI] [yT2] (fun x=>F_law19_later x.1 x.2)),(34,.pure [yT8,yT2,tI] [.str] (fun x=>F_reply_Build x.1 x.2.1 x.2.2))]
theorem told_law19_PatchBuilt:Told CC Tryz.prog 14 [yT15,yT8,yT2] [.bool] (fun x=>F_law19_PatchBuilt x.1 x.2.1 x.2.2):=told_of (n:=100000) (gok (an:=ann_law19_PatchBuilt) (fs:=fs_law19_PatchBuilt) ⟨told_ref17_Small,told_law19_live,told_ref02_Low,told_law17_Chain,told_tmpl_Make,told_law17_Own,told_patch_Fits,told_patch_Copy,told_law19_later,told_reply_Build,trivial⟩) rfl rfl (fun x=>by kernel_rfl)
end
end Go.Abs
