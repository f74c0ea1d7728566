/- Part of a proof. -/
import Derived.Test.YthlcfhkcbmikcaaGreatSnB
set_option linter.unusedSimpArgs false
set_option linter.unusedVariables false
set_option linter.unusedSectionVars false
set_option maxRecDepth 100000
namespace Go.Abs
open Go Go.Proofs
noncomputable section
def step_law17_Chain_0 (k_1:List (List UInt8×Int×Int×List (List UInt8)×Int×Int)×Int×List UInt8×List UInt8×Int×Int×List (List UInt8)×Int×Int):(Int×List ((List UInt8×(Int×(Int×(List (List UInt8)×(Int×Int)))))))→Option ((Int×List ((List UInt8×(Int×(Int×(List (List UInt8)×(Int×Int))))))) ⊕ List ((List UInt8×(Int×(Int×(List (List UInt8)×(Int×Int))))))):=fun (i_2,b2a_3) =>
 if decide (i_2<(↑(List.length k_1.1):Int))=true then
  natOf i_2 fun n4 =>
  bnd (k_1.1[n4]?) fun x5 =>
  grd ((b2a_3.length+[(x5.1,x5.2.1,x5.2.2.1,x5.2.2.2.1,x5.2.2.2.2.1,x5.2.2.2.2.2)].length)*72≤roomLim) <|
  g9 k_1<|gz<|gq (α:=List UInt8) ([])<|gq (α:=List UInt8) ([])<|gz<|gz<|gz<|gz<|gq k_1.2.1<|gq k_1.2.2.1<|gq k_1.2.2.2.1<|gq k_1.2.2.2.2.1<|gq k_1.2.2.2.2.2.1<|gq k_1.2.2.2.2.2.2.1<|gq k_1.2.2.2.2.2.2.2.1<|gq k_1.2.2.2.2.2.2.2.2 <|
  some (.inl ((IntKind.i64.wrap (i_2+1),b2a_3++[(x5.1,x5.2.1,x5.2.2.1,x5.2.2.2.1,x5.2.2.2.2.1,x5.2.2.2.2.2)])))
 else
  g9 k_1<|gz<|gq (α:=List UInt8) ([])<|gq (α:=List UInt8) ([])<|gz<|gz<|gz<|gz<|gq k_1.2.1<|gq k_1.2.2.1<|gq k_1.2.2.2.1<|gq k_1.2.2.2.2.1<|gq k_1.2.2.2.2.2.1<|gq k_1.2.2.2.2.2.2.1<|gq k_1.2.2.2.2.2.2.2.1<|gq k_1.2.2.2.2.2.2.2.2 <|
  some (.inr b2a_3)
def F_law17_Chain (k_1:(List ((List UInt8×(Int×(Int×(List (List UInt8)×(Int×Int))))))×(Int×(List UInt8×(List UInt8×(Int×(Int×(List (List UInt8)×(Int×Int))))))))):Option ((List ((List UInt8×(Int×(Int×(List (List UInt8)×(Int×Int))))))×(Int×(List UInt8×(List UInt8×(Int×(Int×(List (List UInt8)×(Int×Int))))))))) :=
 bnd (loopS (step_law17_Chain_0 k_1) ((0,[]))) fun b2a_6 =>
 some ((b2a_6,(k_1.2.1,(k_1.2.2.1,(k_1.2.2.2.1,(k_1.2.2.2.2.1,(k_1.2.2.2.2.2.1,(k_1.2.2.2.2.2.2.1,(k_1.2.2.2.2.2.2.2.1,k_1.2.2.2.2.2.2.2.2)))))))))
def ann_law17_Chain:List (List Nat×Ann):=[([8],⟨some ⟨(anyN 1 (.cons (.ptr 0 0) (.cons (.ptr 1 0) (.cons (.ptr 2 0) (.cons yI (anyN 25 .nil)))))),[.cells 36 true yS1,.cells 48 true (.cons .nill (.cons kI (.cons kS (.cons kS (.cons kI (.cons kI (.cons .nill yS7))))))),.cells 48 true (.cons (.own (.agg yT9) 0 true) (.cons kI (.cons kS yS11)))],[⟨⟨0,(.agg yT9),46,true,true⟩,true⟩],[]⟩,[(.exit 0,⟨(anyN 2 (.cons (.ptr 1 0) (.cons (.ptr 2 0) (anyN 26 .nil)))),[.cells 36 true yS1,.cells 48 true (.cons .nill (.cons kI (.cons kS (.cons kS (.cons kI (.cons kI (.cons .nill yS7))))))),.cells 48 true (.cons (.own (.agg yT9) 0 true) (.cons kI (.cons kS yS11)))],[⟨⟨1,(.agg yT9),46,true,true⟩,true⟩],[]⟩)]⟩)]
theorem told_law17_Chain:Told CC Tryz.prog 19 [yT19] [yT19] (fun x=>F_law17_Chain x):=told_of (n:=100000) (gok (an:=ann_law17_Chain) (fs:=[]) trivial) rfl rfl (fun x=>by kernel_rfl)
def F_law19_live:Option (Bool) :=
 bnd (F_law17_Chain ([([1,97,0],1,1,[[49,49,49,49],[50,50,50,50]],9,5)],0,[],[],0,0,[],0,0)) fun v1 =>
 bnd (F_tmpl_Make 10 ([1,97,0],1,1) (v1.1,v1.2.1,v1.2.2.1,v1.2.2.2.1,v1.2.2.2.2.1,v1.2.2.2.2.2.1,v1.2.2.2.2.2.2.1,v1.2.2.2.2.2.2.2.1,v1.2.2.2.2.2.2.2.2)) fun (v2,v3) =>
 bnd (F_patch_Copy (v2.1,v2.2.1,v2.2.2.1,v2.2.2.2.1,v2.2.2.2.2.1,v2.2.2.2.2.2) (7,256,[1,65,0],1,1,false,0,0,0,false) 12 1) fun (v4,v5) =>
 bnd (F_patch_Copy (v2.1,v2.2.1,v2.2.2.1,v2.2.2.2.1,v2.2.2.2.2.1,v2.2.2.2.2.2) (7,256,[1,65,0],1,1,false,0,0,0,false) 15 1) fun (v6,v7) =>
 bnd (F_patch_Size (v2.1,v2.2.1,v2.2.2.1,v2.2.2.2.1,v2.2.2.2.2.1,v2.2.2.2.2.2) (7,256,[1,65,0],1,1,false,0,0,0,false) 12) fun (v8,v9) =>
 bnd (F_ref08_Decode v4) fun (v10,v11) =>
 if ((↑(List.length v10.2.2.2.1):Int) != 2)=true then
  some false
 else
  if v5=true then
   if (!v7)=true then
    if (v8==1)=true then
     if (v9==(↑v4.length:Int))=true then
      if (v9==51)=true then
       if (v11==0)=true then
        if (v10.1==7)=true then
         bnd (v10.2.2.2.1[0]?) fun x12 =>
         if (x12.1==[1,65,0]&&(x12.2.1==1&&(x12.2.2.1==1&&(x12.2.2.2.1==3&&(x12.2.2.2.2==[50,50,50,50]&&true)))))=true then
          bnd (F_patch_Fits (v2.1,v2.2.1,v2.2.2.1,v2.2.2.2.1,v2.2.2.2.2.1,v2.2.2.2.2.2) (7,256,[1,65,0],1,1,false,0,0,0,false) 14) fun v13 =>
          if v13=true then
           bnd (F_patch_Fits (v2.1,v2.2.1,v2.2.2.1,v2.2.2.2.1,v2.2.2.2.2.1,v2.2.2.2.2.2) (7,256,[1,65,0],1,1,false,0,0,0,false) 15) fun v14 =>
           if (!v14)=true then
            bnd (F_patch_Fits (v2.1,v2.2.1,v2.2.2.1,v2.2.2.2.1,v2.2.2.2.2.1,v2.2.2.2.2.2) (0,0,[],0,0,false,0,0,0,false) 12) fun v15 =>
            some (!v15)
           else
            some false
          else
           some false
         else
          some false
        else
         some false
       else
        some false
      else
       some false
     else
      some false
    else
     some false
   else
    some false
  else
   some false
def ann_law19_live:List (List Nat×Ann):=[]
@[reducible] def fs_law19_live:List (Nat×SFn):=[(19,.pure [yT19] [yT19] (fun x=>F_law17_Chain x)),(18,.pure [tI,tQ,yT19] [yT5,.bool] (fun x=>F_tmpl_Make x.1 x.2.1 x.2.2)),(23,.pure [yT5,yT8,tI,tI] [.str,.bool] (fun x=>F_patch_Copy x.1 x.2.1 x.2.2.1 x.2.2.2)),(24,.pure [yT5,yT8,tI] [tI,tI] (fun x=>F_patch_Size x.1 x.2.1 x.2.2)),(25,.pure [.str] [tM,tI] (fun x=>F_ref08_Decode x)),(21,.pure [yT5,yT8,tI] [.bool] (fun x=>F_patch_Fits x.1 x.2.1 x.2.2))]
theorem told_law19_live:Told CC Tryz.prog 16 [] [.bool] (fun x=>F_law19_live):=told_of (n:=100000) (gok (an:=ann_law19_live) (fs:=fs_law19_live) ⟨told_law17_Chain,told_tmpl_Make,told_patch_Copy,told_patch_Size,told_ref08_Decode,told_patch_Fits,trivial⟩) rfl rfl (fun x=>by kernel_rfl)
end
end Go.Abs

set_option maxRecDepth 100000
namespace Go.Abs
open Go Go.Proofs
noncomputable section
end
end Go.Abs

set_option maxRecDepth 100000
namespace Go.Abs
open Go Go.Proofs
noncomputable section
def F_law19_PatchMore (t_1:(List UInt8×(Int×(Int×(Int×(List UInt8×List ((List ((Int×(Int×Int)))×(Int×Bool))))))))) (a_2:(Int×(Int×(List UInt8×(Int×(Int×(Bool×(Int×(Int×(Int×Bool)))))))))) (at_3:(Int×Int)):Option (Bool) :=
 bnd (α:=(Bool ⊕ Unit)) (bnd (α:=Bool) (bnd (F_ref18_Small (t_1.1,t_1.2.1,t_1.2.2.1,t_1.2.2.2.1,t_1.2.2.2.2.1,t_1.2.2.2.2.2)) fun v4 =>
   if (!v4)=false then
    if decide (300<(↑(List.length a_2.2.2.1):Int))=false then
     if decide (at_3.2<0)=false then
      if decide (70000<at_3.2)=false then
       if decide (a_2.2.2.2.2.2.2.1<0)=false then
        g6 t_1<|g10 a_2<|g2 at_3 <|
        some (decide (65535<a_2.2.2.2.2.2.2.1))
       else
        g6 t_1<|g10 a_2<|g2 at_3 <|
        some true
      else
       g6 t_1<|g10 a_2<|g2 at_3 <|
       some true
     else
      g6 t_1<|g10 a_2<|g2 at_3 <|
      some true
    else
     g6 t_1<|g10 a_2<|g2 at_3 <|
     some true
   else
    g6 t_1<|g10 a_2<|g2 at_3 <|
    some true) fun s44_5 =>
  if s44_5=true then
   bnd F_law19_live fun v6 =>
   g6 t_1<|g10 a_2<|g2 at_3 <|
   some (.inl v6)
  else
   g6 t_1<|g10 a_2<|g2 at_3 <|
   some (.inr (()))) fun o7 =>
 match o7 with
 | .inl s6_8 =>
  some s6_8
 | .inr _ =>
  bnd (F_law18_Own (t_1.1,t_1.2.1,t_1.2.2.1,t_1.2.2.2.1,t_1.2.2.2.2.1,t_1.2.2.2.2.2)) fun v9 =>
  bnd (F_law17_Own (a_2.1,a_2.2.1,a_2.2.2.1,a_2.2.2.2.1,a_2.2.2.2.2.1,a_2.2.2.2.2.2.1,a_2.2.2.2.2.2.2.1,a_2.2.2.2.2.2.2.2.1,a_2.2.2.2.2.2.2.2.2.1,a_2.2.2.2.2.2.2.2.2.2)) fun v10 =>
  bnd (F_patch_Size (v9.1,v9.2.1,v9.2.2.1,v9.2.2.2.1,v9.2.2.2.2.1,v9.2.2.2.2.2) (v10.1,v10.2.1,v10.2.2.1,v10.2.2.2.1,v10.2.2.2.2.1,v10.2.2.2.2.2.1,v10.2.2.2.2.2.2.1,v10.2.2.2.2.2.2.2.1,v10.2.2.2.2.2.2.2.2.1,v10.2.2.2.2.2.2.2.2.2) at_3.1) fun (v11,v12) =>
  bnd (F_patch_Size (v9.1,v9.2.1,v9.2.2.1,v9.2.2.2.1,v9.2.2.2.2.1,v9.2.2.2.2.2) (v10.1,v10.2.1,v10.2.2.1,v10.2.2.2.1,v10.2.2.2.2.1,v10.2.2.2.2.2.1,IntKind.i64.wrap (v10.2.2.2.2.2.2.1+at_3.2),v10.2.2.2.2.2.2.2.1,v10.2.2.2.2.2.2.2.2.1,v10.2.2.2.2.2.2.2.2.2) at_3.1) fun (v13,v14) =>
  if decide (v11≤v13)=true then
   if decide (v12≤v14)=true then
    if decide (v11<v13)=false then
     if (v12==v14)=true then
      bnd F_law19_live fun v15 =>
      some v15
     else
      some false
    else
     bnd F_law19_live fun v16 =>
     some v16
   else
    some false
  else
   some false
def ann_law19_PatchMore:List (List Nat×Ann):=[([2],⟨none,[(.ret,⟨(anyN 6 (.cons (.ty .bool) (anyN 88 .nil))),[.cells 76 true yS4,.cells 28 true yS25,.cells 72 true yS7],[],[]⟩),(.normal,⟨(anyN 3 (.cons (.ptr 0 0) (.cons (.ptr 1 0) (.cons (.ptr 2 0) (anyN 89 .nil))))),[.cells 76 true yS4,.cells 28 true yS25,.cells 72 true yS7],[],[]⟩)]⟩),([3],⟨none,[(.normal,⟨(anyN 3 (.cons (.ptr 0 0) (.cons (.ptr 1 0) (.cons (.ptr 2 0) (anyN 38 (.cons (.ty .bool) (anyN 50 .nil))))))),[.cells 76 true yS4,.cells 28 true yS25,.cells 72 true yS7],[],[]⟩)]⟩)]
@[reducible] def fs_law19_PatchMore:List (Nat×SFn):=[(27,.pure [yT5] [.bool] (fun x=>F_ref18_Small x)),(16,.pure [] [.bool] (fun x=>F_law19_live)),(28,.pure [yT5] [yT5] (fun x=>F_law18_Own x)),(20,.pure [yT8] [yT8] (fun x=>F_law17_Own x)),(24,.pure [yT5,yT8,tI] [tI,tI] (fun x=>F_patch_Size x.1 x.2.1 x.2.2))]
theorem told_law19_PatchMore:Told CC Tryz.prog 5 [yT5,yT8,(.agg (.cons tI tI))] [.bool] (fun x=>F_law19_PatchMore x.1 x.2.1 x.2.2):=told_of (n:=100000) (gok (an:=ann_law19_PatchMore) (fs:=fs_law19_PatchMore) ⟨told_ref18_Small,told_law19_live,told_law18_Own,told_law17_Own,told_patch_Size,trivial⟩) rfl rfl (fun x=>by kernel_rfl)
end
end Go.Abs

set_option maxRecDepth 100000
namespace Go.Abs
open Go Go.Proofs
noncomputable section
end
end Go.Abs

set_option maxRecDepth 100000
namespace Go.Abs
open Go Go.Proofs
noncomputable section
end
end Go.Abs

set_option maxRecDepth 100000
namespace Go.Abs
open Go Go.Proofs
noncomputable section
end
end Go.Abs
