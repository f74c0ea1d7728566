/- Part of a proof. -/
import Derived.Test.YthlcfhkcbmikcaaGreatSnB
set_option linter.unusedSimpArgs false
set_option linter.unusedVariables false
set_option linter.unusedSectionVars false
set_option maxRecDepth 100000
namespace Go.Abs
open Go Go.Proofs
noncomputable section
def step_law17_Chain_0 (k_1:List (List UInt8×Int×Int×List (List UInt8)×Int×Int)×Int×List UInt8×List UInt8×Int×Int×List (List UInt8)×Int×Int):(Int×List ((List UInt8×(Int×(Int×(List (List UInt8)×(Int×Int)))))))→Option ((Int×List ((List UInt8×(Int×(Int×(List (List UInt8)×(Int×Int))))))) ⊕ List ((List UInt8×(Int×(Int×(List (List UInt8)×(Int×Int))))))):=fun (i_2,b2a_3) =>
 if decide (i_2<(↑(List.length k_1.1):Int))=true then
  natOf i_2 fun n4 =>
  bnd (k_1.1[n4]?) fun x5 =>
  grd ((b2a_3.length+[(x5.1,x5.2.1,x5.2.2.1,x5.2.2.2.1,x5.2.2.2.2.1,x5.2.2.2.2.2)].length)*72≤roomLim) <|
  g9 k_1<|gz<|gq (α:=List UInt8) ([])<|gq (α:=List UInt8) ([])<|gz<|gz<|gz<|gz<|gq k_1.2.1<|gq k_1.2.2.1<|gq k_1.2.2.2.1<|gq k_1.2.2.2.2.1<|gq k_1.2.2.2.2.2.1<|gq k_1.2.2.2.2.2.2.1<|gq k_1.2.2.2.2.2.2.2.1<|gq k_1.2.2.2.2.2.2.2.2 <|
  some (.inl ((IntKind.i64.wrap (i_2+1),b2a_3++[(x5.1,x5.2.1,x5.2.2.1,x5.2.2.2.1,x5.2.2.2.2.1,x5.2.2.2.2.2)])))
 else
  g9 k_1<|gz<|gq (α:=List UInt8) ([])<|gq (α:=List UInt8) ([])<|gz<|gz<|gz<|gz<|gq k_1.2.1<|gq k_1.2.2.1<|gq k_1.2.2.2.1<|gq k_1.2.2.2.2.1<|gq k_1.2.2.2.2.2.1<|gq k_1.2.2.2.2.2.2.1<|gq k_1.2.2.2.2.2.2.2.1<|gq k_1.2.2.2.2.2.2.2.2 <|
  some (.inr b2a_3)
def F_law17_Chain (k_1:(List ((List UInt8×(Int×(Int×(List (List UInt8)×(Int×Int))))))×(Int×(List UInt8×(List UInt8×(Int×(Int×(List (List UInt8)×(Int×Int))))))))):Option ((List ((List UInt8×(Int×(Int×(List (List UInt8)×(Int×Int))))))×(Int×(List UInt8×(List UInt8×(Int×(Int×(List (List UInt8)×(Int×Int))))))))) :=
 bnd (loopS (step_law17_Chain_0 k_1) ((0,[]))) fun b2a_6 =>
 some ((b2a_6,(k_1.2.1,(k_1.2.2.1,(k_1.2.2.2.1,(k_1.2.2.2.2.1,(k_1.2.2.2.2.2.1,(k_1.2.2.2.2.2.2.1,(k_1.2.2.2.2.2.2.2.1,k_1.2.2.2.2.2.2.2.2)))))))))
def ann_law17_Chain:List (List Nat×Ann):=[([8],⟨some ⟨(anyN 1 (.cons (.ptr 0 0) (.cons (.ptr 1 0) (.cons (.ptr 2 0) (.cons yI (anyN 25 .nil)))))),[.cells 36 true yS1,.cells 48 true (.cons .nill (.cons kI (.cons kS (.cons kS (.cons kI (.cons kI (.cons .nill yS5))))))),.cells 48 true (.cons (.own yT20 0 true) (.cons kI (.cons kS yS13)))],[⟨⟨0,yT20,46,true,true⟩,true⟩],[]⟩,[(.exit 0,⟨(anyN 2 (.cons (.ptr 1 0) (.cons (.ptr 2 0) (anyN 26 .nil)))),[.cells 36 true yS1,.cells 48 true (.cons .nill (.cons kI (.cons kS (.cons kS (.cons kI (.cons kI (.cons .nill yS5))))))),.cells 48 true (.cons (.own yT20 0 true) (.cons kI (.cons kS yS13)))],[⟨⟨1,yT20,46,true,true⟩,true⟩],[]⟩)]⟩)]
theorem told_law17_Chain:Told CC Tryz.prog 19 [yT4] [yT4] (fun x=>F_law17_Chain x):=told_of (n:=100000) (gok (an:=ann_law17_Chain) (fs:=[]) trivial) rfl rfl (fun x=>by kernel_rfl)
def F_law19_live:Option (Bool) :=
 bnd (F_law17_Chain ([([1,97,0],1,1,[[49,49,49,49],[50,50,50,50]],9,5)],0,[],[],0,0,[],0,0)) fun v1 =>
 bnd (F_tmpl_Make 10 ([1,97,0],1,1) (v1.1,v1.2.1,v1.2.2.1,v1.2.2.2.1,v1.2.2.2.2.1,v1.2.2.2.2.2.1,v1.2.2.2.2.2.2.1,v1.2.2.2.2.2.2.2.1,v1.2.2.2.2.2.2.2.2)) fun (v2,v3) =>
 bnd (F_patch_Copy (v2.1,v2.2.1,v2.2.2.1,v2.2.2.2.1,v2.2.2.2.2.1,v2.2.2.2.2.2) (7,256,[1,65,0],1,1,false,0,0,0,false) 12 1) fun (v4,v5) =>
 bnd (F_patch_Copy (v2.1,v2.2.1,v2.2.2.1,v2.2.2.2.1,v2.2.2.2.2.1,v2.2.2.2.2.2) (7,256,[1,65,0],1,1,false,0,0,0,false) 15 1) fun (v6,v7) =>
 bnd (F_patch_Size (v2.1,v2.2.1,v2.2.2.1,v2.2.2.2.1,v2.2.2.2.2.1,v2.2.2.2.2.2) (7,256,[1,65,0],1,1,false,0,0,0,false) 12) fun (v8,v9) =>
 bnd (F_ref08_Decode v4) fun (v10,v11) =>
 if ((↑(List.length v10.2.2.2.1):Int) != 2)=true then
  some false
 else
  if v5=true then
   if (!v7)=true then
    if (v8==1)=true then
     if (v9==(↑v4.length:Int))=true then
      if (v9==51)=true then
       if (v11==0)=true then
        if (v10.1==7)=true then
         bnd (v10.2.2.2.1[0]?) fun x12 =>
         if (x12.1==[1,65,0]&&(x12.2.1==1&&(x12.2.2.1==1&&(x12.2.2.2.1==3&&(x12.2.2.2.2==[50,50,50,50]&&true)))))=true then
          bnd (F_patch_Fits (v2.1,v2.2.1,v2.2.2.1,v2.2.2.2.1,v2.2.2.2.2.1,v2.2.2.2.2.2) (7,256,[1,65,0],1,1,false,0,0,0,false) 14) fun v13 =>
          if v13=true then
           bnd (F_patch_Fits (v2.1,v2.2.1,v2.2.2.1,v2.2.2.2.1,v2.2.2.2.2.1,v2.2.2.2.2.2) (7,256,[1,65,0],1,1,false,0,0,0,false) 15) fun v14 =>
           if (!v14)=true then
            bnd (F_patch_Fits (v2.1,v2.2.1,v2.2.2.1,v2.2.2.2.1,v2.2.2.2.2.1,v2.2.2.2.2.2) (0,0,[],0,0,false,0,0,0,false) 12) fun v15 =>
            some (!v15)
           else
            some false
          else
           some false
         else
          some false
        else
         some false
       else
        some false
      else
       some false
     else
      some false
    else
     some false
   else
    some false
  else
   some false
def ann_law19_live:List (List Nat×Ann):=[]
@[reducible] def fs_law19_live:List (Nat×SFn):=[(19,.pure [yT4] [yT4] (fun x=>F_law17_Chain x)),(18,.pure [tI,tQ,yT4] [yT9,.bool] (fun x=>F_tmpl_Make x.1 x.2.1 x.2.2)),(23,.pure [yT9,yT8,tI,tI] [.str,.bool] (fun x=>F_patch_Copy x.1 x.2.1 x.2.2.1 x.2.2.2)),(24,.pure [yT9,yT8,tI] [tI,tI] (fun x=>F_patch_Size x.1 x.2.1 x.2.2)),(25,.pure [.str] [tM,tI] (fun x=>F_ref08_Decode x)),(21,.pure [yT9,yT8,tI] [.bool] (fun x=>F_patch_Fits x.1 x.2.1 x.2.2))]
theorem told_law19_live:Told CC Tryz.prog 16 [] [.bool] (fun x=>F_law19_live):=told_of (n:=100000) (gok (an:=ann_law19_live) (fs:=fs_law19_live) ⟨told_law17_Chain,told_tmpl_Make,told_patch_Copy,told_patch_Size,told_ref08_Decode,told_patch_Fits,trivial⟩) rfl rfl (fun x=>by kernel_rfl)
end
end Go.Abs

set_option maxRecDepth 100000
namespace Go.Abs
open Go Go.Proofs
noncomputable section
end
end Go.Abs

set_option maxRecDepth 100000
namespace Go.Abs
open Go Go.Proofs
noncomputable section
def F_law19_PatchSpeaks (at_1:(Int×Int)) (a_2:(Int×(Int×(List UInt8×(Int×(Int×(Bool×(Int×(Int×(Int×Bool)))))))))) (c_3:(List ((List UInt8×(Int×(Int×(List (List UInt8)×(Int×Int))))))×(Int×(List UInt8×(List UInt8×(Int×(Int×(List (List UInt8)×(Int×Int))))))))):Option (Bool) :=
 bnd (α:=(Bool ⊕ Unit)) (bnd (α:=Bool) (bnd (F_ref17_Small (c_3.1,c_3.2.1,c_3.2.2.1,c_3.2.2.2.1,c_3.2.2.2.2.1,c_3.2.2.2.2.2.1,c_3.2.2.2.2.2.2.1,c_3.2.2.2.2.2.2.2.1,c_3.2.2.2.2.2.2.2.2)) fun v4 =>
   if (!v4)=false then
    g2 at_1<|g10 a_2<|g9 c_3 <|
    some (decide (300<(↑(List.length a_2.2.2.1):Int)))
   else
    g2 at_1<|g10 a_2<|g9 c_3 <|
    some true) fun s26_5 =>
  if s26_5=true then
   bnd F_law19_live fun v6 =>
   g2 at_1<|g10 a_2<|g9 c_3 <|
   some (.inl v6)
  else
   g2 at_1<|g10 a_2<|g9 c_3 <|
   some (.inr (()))) fun o7 =>
 match o7 with
 | .inl s6_8 =>
  some s6_8
 | .inr _ =>
  bnd (F_ref02_Low a_2.2.2.1) fun v9 =>
  bnd (F_law17_Chain (c_3.1,c_3.2.1,c_3.2.2.1,c_3.2.2.2.1,c_3.2.2.2.2.1,c_3.2.2.2.2.2.1,c_3.2.2.2.2.2.2.1,c_3.2.2.2.2.2.2.2.1,c_3.2.2.2.2.2.2.2.2)) fun v10 =>
  bnd (F_tmpl_Make at_1.1 (v9,a_2.2.2.2.1,a_2.2.2.2.2.1) (v10.1,v10.2.1,v10.2.2.1,v10.2.2.2.1,v10.2.2.2.2.1,v10.2.2.2.2.2.1,v10.2.2.2.2.2.2.1,v10.2.2.2.2.2.2.2.1,v10.2.2.2.2.2.2.2.2)) fun (v11,v12) =>
  if (!v12)=true then
   bnd F_law19_live fun v13 =>
   some v13
  else
   bnd (F_law17_Own (a_2.1,a_2.2.1,a_2.2.2.1,a_2.2.2.2.1,a_2.2.2.2.2.1,a_2.2.2.2.2.2.1,a_2.2.2.2.2.2.2.1,a_2.2.2.2.2.2.2.2.1,a_2.2.2.2.2.2.2.2.2.1,a_2.2.2.2.2.2.2.2.2.2)) fun v14 =>
   bnd (F_patch_Copy (v11.1,v11.2.1,v11.2.2.1,v11.2.2.2.1,v11.2.2.2.2.1,v11.2.2.2.2.2) (v14.1,v14.2.1,v14.2.2.1,v14.2.2.2.1,v14.2.2.2.2.1,v14.2.2.2.2.2.1,v14.2.2.2.2.2.2.1,v14.2.2.2.2.2.2.2.1,v14.2.2.2.2.2.2.2.2.1,v14.2.2.2.2.2.2.2.2.2) at_1.1 at_1.2) fun (v15,v16) =>
   bnd (F_patch_Copy (v11.1,v11.2.1,v11.2.2.1,v11.2.2.2.1,v11.2.2.2.2.1,v11.2.2.2.2.2) (9,v14.2.1,v9,v14.2.2.2.1,v14.2.2.2.2.1,v14.2.2.2.2.2.1,v14.2.2.2.2.2.2.1,v14.2.2.2.2.2.2.2.1,v14.2.2.2.2.2.2.2.2.1,v14.2.2.2.2.2.2.2.2.2) at_1.1 at_1.2) fun (v17,v18) =>
   if (!v16)=true then
    if (v15==[])=true then
     bnd F_law19_live fun v19 =>
     some v19
    else
     some false
   else
    bnd (α:=(Bool ⊕ Unit)) (if (!v18)=false then
      if ((↑v15.length:Int) != (↑v17.length:Int))=false then
       if decide ((↑v15.length:Int)<IntKind.i64.wrap (16+(↑v9.length:Int)))=true then
        g2 at_1<|g10 a_2<|g9 c_3<|gq v9<|gq a_2.2.2.2.1<|gq a_2.2.2.2.2.1<|g6 v11<|g10 v14<|gq (α:=Int) 9<|gq v14.2.1<|gq v9<|gq v14.2.2.2.1<|gq v14.2.2.2.2.1<|gq v14.2.2.2.2.2.1<|gq v14.2.2.2.2.2.2.1<|gq v14.2.2.2.2.2.2.2.1<|gq v14.2.2.2.2.2.2.2.2.1<|gq v14.2.2.2.2.2.2.2.2.2 <|
        some (.inl false)
       else
        gq v15<|gq v17<|g2 at_1<|g10 a_2<|g9 c_3<|gq v9<|gq a_2.2.2.2.1<|gq a_2.2.2.2.2.1<|g6 v11<|g10 v14<|gq (α:=Int) 9<|gq v14.2.1<|gq v9<|gq v14.2.2.2.1<|gq v14.2.2.2.2.1<|gq v14.2.2.2.2.2.1<|gq v14.2.2.2.2.2.2.1<|gq v14.2.2.2.2.2.2.2.1<|gq v14.2.2.2.2.2.2.2.2.1<|gq v14.2.2.2.2.2.2.2.2.2 <|
        some (.inr (()))
      else
       g2 at_1<|g10 a_2<|g9 c_3<|gq v9<|gq a_2.2.2.2.1<|gq a_2.2.2.2.2.1<|g6 v11<|g10 v14<|gq (α:=Int) 9<|gq v14.2.1<|gq v9<|gq v14.2.2.2.1<|gq v14.2.2.2.2.1<|gq v14.2.2.2.2.2.1<|gq v14.2.2.2.2.2.2.1<|gq v14.2.2.2.2.2.2.2.1<|gq v14.2.2.2.2.2.2.2.2.1<|gq v14.2.2.2.2.2.2.2.2.2 <|
       some (.inl false)
     else
      g2 at_1<|g10 a_2<|g9 c_3<|gq v9<|gq a_2.2.2.2.1<|gq a_2.2.2.2.2.1<|g6 v11<|g10 v14<|gq (α:=Int) 9<|gq v14.2.1<|gq v9<|gq v14.2.2.2.1<|gq v14.2.2.2.2.1<|gq v14.2.2.2.2.2.1<|gq v14.2.2.2.2.2.2.1<|gq v14.2.2.2.2.2.2.2.1<|gq v14.2.2.2.2.2.2.2.2.1<|gq v14.2.2.2.2.2.2.2.2.2 <|
      some (.inl false)) fun o20 =>
    match o20 with
    | .inl s6_21 =>
     some s6_21
    | .inr _ =>
     grd (12≤v15.length) <|
     grd (2≤12) <|
     grd (12≤v17.length) <|
     grd (2≤12) <|
     if (List.drop 2 (List.take 12 v15)==List.drop 2 (List.take 12 v17))=true then
      natOf (IntKind.i64.wrap (12+(↑v9.length:Int))) fun n22 =>
      grd (n22≤v15.length) <|
      natOf (IntKind.i64.wrap (12+(↑v9.length:Int))) fun n23 =>
      grd (n23≤v17.length) <|
      if (List.drop n22 v15==List.drop n23 v17)=true then
       natOf (IntKind.i64.wrap (12+(↑v9.length:Int))) fun n24 =>
       grd (n24≤v15.length) <|
       grd (12≤n24) <|
       if (List.drop 12 (List.take n24 v15)==a_2.2.2.1)=true then
        natOf (IntKind.i64.wrap (12+(↑v9.length:Int))) fun n25 =>
        grd (n25≤v17.length) <|
        grd (12≤n25) <|
        if (List.drop 12 (List.take n25 v17)==v9)=true then
         bnd F_law19_live fun v26 =>
         some v26
        else
         some false
       else
        some false
      else
       some false
     else
      some false
def ann_law19_PatchSpeaks:List (List Nat×Ann):=[([2],⟨none,[(.ret,⟨(anyN 6 (.cons (.ty .bool) (anyN 131 .nil))),[.cells 72 true yS5,.cells 28 true yS11,.cells 36 true yS1],[],[]⟩),(.normal,⟨(anyN 3 (.cons (.ptr 0 0) (.cons (.ptr 1 0) (.cons (.ptr 2 0) (anyN 132 .nil))))),[.cells 72 true yS5,.cells 28 true yS11,.cells 36 true yS1],[],[]⟩)]⟩),([3],⟨none,[(.normal,⟨(anyN 3 (.cons (.ptr 0 0) (.cons (.ptr 1 0) (.cons (.ptr 2 0) (anyN 20 (.cons (.ty .bool) (anyN 111 .nil))))))),[.cells 72 true yS5,.cells 28 true yS11,.cells 36 true yS1],[],[]⟩)]⟩),([44],⟨none,[(.ret,⟨(anyN 6 (.cons (.ty .bool) (anyN 131 .nil))),[.cells 72 true yS5,.cells 28 true yS11,.cells 36 true yS1,.cells 24 true yS24,.cells 42 true yS7,.cells 52 true yS11,.cells 52 true yS11],[],[]⟩),(.normal,⟨(anyN 4 (.cons (.ptr 1 0) (anyN 2 (.cons (.ptr 3 0) (anyN 4 (.cons kS (anyN 1 (.cons kS (anyN 123 .nil))))))))),[.cells 72 true yS5,.cells 28 true yS11,.cells 36 true yS1,.cells 24 true yS24,.cells 42 true yS7,.cells 52 true yS11,.cells 52 true yS11],[],[]⟩)]⟩)]
@[reducible] def fs_law19_PatchSpeaks:List (Nat×SFn):=[(15,.pure [yT4] [.bool] (fun x=>F_ref17_Small x)),(16,.pure [] [.bool] (fun x=>F_law19_live)),(17,.pure [.str] [.str] (fun x=>F_ref02_Low x)),(19,.pure [yT4] [yT4] (fun x=>F_law17_Chain x)),(18,.pure [tI,tQ,yT4] [yT9,.bool] (fun x=>F_tmpl_Make x.1 x.2.1 x.2.2)),(20,.pure [yT8] [yT8] (fun x=>F_law17_Own x)),(23,.pure [yT9,yT8,tI,tI] [.str,.bool] (fun x=>F_patch_Copy x.1 x.2.1 x.2.2.1 x.2.2.2))]
theorem told_law19_PatchSpeaks:Told CC Tryz.prog 4 [(.agg (.cons tI tI)),yT8,yT4] [.bool] (fun x=>F_law19_PatchSpeaks x.1 x.2.1 x.2.2):=told_of (n:=100000) (gok (an:=ann_law19_PatchSpeaks) (fs:=fs_law19_PatchSpeaks) ⟨told_ref17_Small,told_law19_live,told_ref02_Low,told_law17_Chain,told_tmpl_Make,told_law17_Own,told_patch_Copy,trivial⟩) rfl rfl (fun x=>by kernel_rfl)
end
end Go.Abs

set_option maxRecDepth 100000
namespace Go.Abs
open Go Go.Proofs
noncomputable section
end
end Go.Abs

set_option maxRecDepth 100000
namespace Go.Abs
open Go Go.Proofs
noncomputable section
end
end Go.Abs

set_option maxRecDepth 100000
namespace Go.Abs
open Go Go.Proofs
noncomputable section
end
end Go.Abs
