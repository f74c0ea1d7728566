/- Part of a proof. -/
import Derived.Test.YthlcfhkcbmikcaaGreatSnB
set_option linter.unusedSimpArgs false
set_option linter.unusedVariables false
set_option linter.unusedSectionVars false
set_option maxRecDepth 100000
namespace Go.Abs
open Go Go.Proofs
noncomputable section
def step_law17_Chain_0 (k_1:List (List UInt8×Int×Int×List (List UInt8)×Int×Int)×Int×List UInt8×List UInt8×Int×Int×List (List UInt8)×Int×Int):(Int×List ((List UInt8×(Int×(Int×(List (List UInt8)×(Int×Int)))))))→Option ((Int×List ((List UInt8×(Int×(Int×(List (List UInt8)×(Int×Int))))))) ⊕ List ((List UInt8×(Int×(Int×(List (List UInt8)×(Int×Int))))))):=fun (i_2,b2a_3) =>
 if decide (i_2<(↑(List.length k_1.1):Int))=true then
  natOf i_2 fun n4 =>
  bnd (k_1.1[n4]?) fun x5 =>
  grd ((b2a_3.length+[(x5.1,x5.2.1,x5.2.2.1,x5.2.2.2.1,x5.2.2.2.2.1,x5.2.2.2.2.2)].length)*72≤roomLim) <|
  g9 k_1<|gz<|gq (α:=List UInt8) ([])<|gq (α:=List UInt8) ([])<|gz<|gz<|gz<|gz<|gq k_1.2.1<|gq k_1.2.2.1<|gq k_1.2.2.2.1<|gq k_1.2.2.2.2.1<|gq k_1.2.2.2.2.2.1<|gq k_1.2.2.2.2.2.2.1<|gq k_1.2.2.2.2.2.2.2.1<|gq k_1.2.2.2.2.2.2.2.2 <|
  some (.inl ((IntKind.i64.wrap (i_2+1),b2a_3++[(x5.1,x5.2.1,x5.2.2.1,x5.2.2.2.1,x5.2.2.2.2.1,x5.2.2.2.2.2)])))
 else
  g9 k_1<|gz<|gq (α:=List UInt8) ([])<|gq (α:=List UInt8) ([])<|gz<|gz<|gz<|gz<|gq k_1.2.1<|gq k_1.2.2.1<|gq k_1.2.2.2.1<|gq k_1.2.2.2.2.1<|gq k_1.2.2.2.2.2.1<|gq k_1.2.2.2.2.2.2.1<|gq k_1.2.2.2.2.2.2.2.1<|gq k_1.2.2.2.2.2.2.2.2 <|
  some (.inr b2a_3)
def F_law17_Chain (k_1:(List ((List UInt8×(Int×(Int×(List (List UInt8)×(Int×Int))))))×(Int×(List UInt8×(List UInt8×(Int×(Int×(List (List UInt8)×(Int×Int))))))))):Option ((List ((List UInt8×(Int×(Int×(List (List UInt8)×(Int×Int))))))×(Int×(List UInt8×(List UInt8×(Int×(Int×(List (List UInt8)×(Int×Int))))))))) :=
 bnd (loopS (step_law17_Chain_0 k_1) ((0,[]))) fun b2a_6 =>
 some ((b2a_6,(k_1.2.1,(k_1.2.2.1,(k_1.2.2.2.1,(k_1.2.2.2.2.1,(k_1.2.2.2.2.2.1,(k_1.2.2.2.2.2.2.1,(k_1.2.2.2.2.2.2.2.1,k_1.2.2.2.2.2.2.2.2)))))))))
def ann_law17_Chain:List (List Nat×Ann):=[([8],⟨some ⟨(anyN 1 (.cons (.ptr 0 0) (.cons (.ptr 1 0) (.cons (.ptr 2 0) (.cons yI (anyN 25 .nil)))))),[.cells 36 true yS1,.cells 48 true (.cons .nill (.cons kI (.cons kS (.cons kS (.cons kI (.cons kI (.cons .nill yS6))))))),.cells 48 true (.cons (.own yT23 0 true) (.cons kI (.cons kS yS13)))],[⟨⟨0,yT23,46,true,true⟩,true⟩],[]⟩,[(.exit 0,⟨(anyN 2 (.cons (.ptr 1 0) (.cons (.ptr 2 0) (anyN 26 .nil)))),[.cells 36 true yS1,.cells 48 true (.cons .nill (.cons kI (.cons kS (.cons kS (.cons kI (.cons kI (.cons .nill yS6))))))),.cells 48 true (.cons (.own yT23 0 true) (.cons kI (.cons kS yS13)))],[⟨⟨1,yT23,46,true,true⟩,true⟩],[]⟩)]⟩)]
theorem told_law17_Chain:Told CC Tryz.prog 19 [yT4] [yT4] (fun x=>F_law17_Chain x):=told_of (n:=100000) (gok (an:=ann_law17_Chain) (fs:=[]) trivial) rfl rfl (fun x=>by kernel_rfl)
def F_law19_live:Option (Bool) :=
 bnd (F_law17_Chain ([([1,97,0],1,1,[[49,49,49,49],[50,50,50,50]],9,5)],0,[],[],0,0,[],0,0)) fun v1 =>
 bnd (F_tmpl_Make 10 ([1,97,0],1,1) (v1.1,v1.2.1,v1.2.2.1,v1.2.2.2.1,v1.2.2.2.2.1,v1.2.2.2.2.2.1,v1.2.2.2.2.2.2.1,v1.2.2.2.2.2.2.2.1,v1.2.2.2.2.2.2.2.2)) fun (v2,v3) =>
 bnd (F_patch_Copy (v2.1,v2.2.1,v2.2.2.1,v2.2.2.2.1,v2.2.2.2.2.1,v2.2.2.2.2.2) (7,256,[1,65,0],1,1,false,0,0,0,false) 12 1) fun (v4,v5) =>
 bnd (F_patch_Copy (v2.1,v2.2.1,v2.2.2.1,v2.2.2.2.1,v2.2.2.2.2.1,v2.2.2.2.2.2) (7,256,[1,65,0],1,1,false,0,0,0,false) 15 1) fun (v6,v7) =>
 bnd (F_patch_Size (v2.1,v2.2.1,v2.2.2.1,v2.2.2.2.1,v2.2.2.2.2.1,v2.2.2.2.2.2) (7,256,[1,65,0],1,1,false,0,0,0,false) 12) fun (v8,v9) =>
 bnd (F_ref08_Decode v4) fun (v10,v11) =>
 if ((↑(List.length v10.2.2.2.1):Int) != 2)=true then
  some false
 else
  if v5=true then
   if (!v7)=true then
    if (v8==1)=true then
     if (v9==(↑v4.length:Int))=true then
      if (v9==51)=true then
       if (v11==0)=true then
        if (v10.1==7)=true then
         bnd (v10.2.2.2.1[0]?) fun x12 =>
         if (x12.1==[1,65,0]&&(x12.2.1==1&&(x12.2.2.1==1&&(x12.2.2.2.1==3&&(x12.2.2.2.2==[50,50,50,50]&&true)))))=true then
          bnd (F_patch_Fits (v2.1,v2.2.1,v2.2.2.1,v2.2.2.2.1,v2.2.2.2.2.1,v2.2.2.2.2.2) (7,256,[1,65,0],1,1,false,0,0,0,false) 14) fun v13 =>
          if v13=true then
           bnd (F_patch_Fits (v2.1,v2.2.1,v2.2.2.1,v2.2.2.2.1,v2.2.2.2.2.1,v2.2.2.2.2.2) (7,256,[1,65,0],1,1,false,0,0,0,false) 15) fun v14 =>
           if (!v14)=true then
            bnd (F_patch_Fits (v2.1,v2.2.1,v2.2.2.1,v2.2.2.2.1,v2.2.2.2.2.1,v2.2.2.2.2.2) (0,0,[],0,0,false,0,0,0,false) 12) fun v15 =>
            some (!v15)
           else
            some false
          else
           some false
         else
          some false
        else
         some false
       else
        some false
      else
       some false
     else
      some false
    else
     some false
   else
    some false
  else
   some false
def ann_law19_live:List (List Nat×Ann):=[]
@[reducible] def fs_law19_live:List (Nat×SFn):=[(19,.pure [yT4] [yT4] (fun x=>F_law17_Chain x)),(18,.pure [tI,tQ,yT4] [yT9,.bool] (fun x=>F_tmpl_Make x.1 x.2.1 x.2.2)),(23,.pure [yT9,yT8,tI,tI] [.str,.bool] (fun x=>F_patch_Copy x.1 x.2.1 x.2.2.1 x.2.2.2)),(24,.pure [yT9,yT8,tI] [tI,tI] (fun x=>F_patch_Size x.1 x.2.1 x.2.2)),(25,.pure [.str] [tM,tI] (fun x=>F_ref08_Decode x)),(21,.pure [yT9,yT8,tI] [.bool] (fun x=>F_patch_Fits x.1 x.2.1 x.2.2))]
theorem told_law19_live:Told CC Tryz.prog 16 [] [.bool] (fun x=>F_law19_live):=told_of (n:=100000) (gok (an:=ann_law19_live) (fs:=fs_law19_live) ⟨told_law17_Chain,told_tmpl_Make,told_patch_Copy,told_patch_Size,told_ref08_Decode,told_patch_Fits,trivial⟩) rfl rfl (fun x=>by kernel_rfl)
end
end Go.Abs

set_option maxRecDepth 100000
namespace Go.Abs
open Go Go.Proofs
noncomputable section
def step_law19_PatchFits_0 (at_1:Int×Int×Int) (a_2:Int×Int×List UInt8×Int×Int×Bool×Int×Int×Int×Bool) (c_3:List (List UInt8×Int×Int×List (List UInt8)×Int×Int)×Int×List UInt8×List UInt8×Int×Int×List (List UInt8)×Int×Int) (v9:List UInt8) (v11:List UInt8×Int×Int×Int×List UInt8×List (List (Int×Int×Int)×Int×Bool)) (v14:Int×Int×List UInt8×Int×Int×Bool×Int×Int×Int×Bool) (v19:List UInt8) (v21:Int) (v22:Int) (v26:Int×Int×List (List UInt8×Int×Int)×List (List UInt8×Int×Int×Int×List UInt8)×List (List UInt8×Int×Int×Int×List UInt8)×List (List UInt8×Int×Int×Int×List UInt8)) (v27:Int):(Int×Int)→Option ((Int×Int) ⊕ Int):=fun (records_28,i_29) =>
 bnd (α:=(Unit ⊕ Unit)) (if decide (i_29<v21)=true then
   if decide (i_29<(↑(List.length v11.2.2.2.2.2):Int))=true then
    gq v19<|gq v21<|gq v22<|gq v27<|gq records_28<|gq i_29<|g3 at_1<|g10 a_2<|g9 c_3<|gq v9<|gq a_2.2.2.2.1<|gq a_2.2.2.2.2.1<|g6 v11<|g10 v14<|g6 v26 <|
    some (.inl (()))
   else
    gq v19<|gq v21<|gq v22<|gq v27<|gq records_28<|g3 at_1<|g10 a_2<|g9 c_3<|gq v9<|gq a_2.2.2.2.1<|gq a_2.2.2.2.2.1<|g6 v11<|g10 v14<|g6 v26 <|
    some (.inr (()))
  else
   gq v19<|gq v21<|gq v22<|gq v27<|gq records_28<|g3 at_1<|g10 a_2<|g9 c_3<|gq v9<|gq a_2.2.2.2.1<|gq a_2.2.2.2.2.1<|g6 v11<|g10 v14<|g6 v26 <|
   some (.inr (()))) fun o30 =>
 match o30 with
 | .inl _ =>
  natOf i_29 fun n31 =>
  bnd (v11.2.2.2.2.2[n31]?) fun x32 =>
  gq v19<|gq v21<|gq v22<|gq v27<|g3 at_1<|g10 a_2<|g9 c_3<|gq v9<|gq a_2.2.2.2.1<|gq a_2.2.2.2.2.1<|g6 v11<|g10 v14<|g6 v26 <|
  some (.inl ((IntKind.i64.wrap (records_28+(↑(List.length x32.1):Int)),IntKind.i64.wrap (i_29+1))))
 | .inr _ =>
  gq v19<|gq v21<|gq v22<|gq v27<|g3 at_1<|g10 a_2<|g9 c_3<|gq v9<|gq a_2.2.2.2.1<|gq a_2.2.2.2.2.1<|g6 v11<|g10 v14<|g6 v26 <|
  some (.inr records_28)
def F_law19_PatchFits (at_1:(Int×(Int×Int))) (a_2:(Int×(Int×(List UInt8×(Int×(Int×(Bool×(Int×(Int×(Int×Bool)))))))))) (c_3:(List ((List UInt8×(Int×(Int×(List (List UInt8)×(Int×Int))))))×(Int×(List UInt8×(List UInt8×(Int×(Int×(List (List UInt8)×(Int×Int))))))))):Option (Bool) :=
 bnd (α:=(Bool ⊕ Unit)) (bnd (α:=Bool) (bnd (F_ref17_Small (c_3.1,c_3.2.1,c_3.2.2.1,c_3.2.2.2.1,c_3.2.2.2.2.1,c_3.2.2.2.2.2.1,c_3.2.2.2.2.2.2.1,c_3.2.2.2.2.2.2.2.1,c_3.2.2.2.2.2.2.2.2)) fun v4 =>
   if (!v4)=false then
    g3 at_1<|g10 a_2<|g9 c_3 <|
    some (decide (300<(↑(List.length a_2.2.2.1):Int)))
   else
    g3 at_1<|g10 a_2<|g9 c_3 <|
    some true) fun s29_5 =>
  if s29_5=true then
   bnd F_law19_live fun v6 =>
   g3 at_1<|g10 a_2<|g9 c_3 <|
   some (.inl v6)
  else
   g3 at_1<|g10 a_2<|g9 c_3 <|
   some (.inr (()))) fun o7 =>
 match o7 with
 | .inl s6_8 =>
  some s6_8
 | .inr _ =>
  bnd (F_ref02_Low a_2.2.2.1) fun v9 =>
  bnd (F_law17_Chain (c_3.1,c_3.2.1,c_3.2.2.1,c_3.2.2.2.1,c_3.2.2.2.2.1,c_3.2.2.2.2.2.1,c_3.2.2.2.2.2.2.1,c_3.2.2.2.2.2.2.2.1,c_3.2.2.2.2.2.2.2.2)) fun v10 =>
  bnd (F_tmpl_Make at_1.1 (v9,a_2.2.2.2.1,a_2.2.2.2.2.1) (v10.1,v10.2.1,v10.2.2.1,v10.2.2.2.1,v10.2.2.2.2.1,v10.2.2.2.2.2.1,v10.2.2.2.2.2.2.1,v10.2.2.2.2.2.2.2.1,v10.2.2.2.2.2.2.2.2)) fun (v11,v12) =>
  if (!v12)=true then
   bnd F_law19_live fun v13 =>
   some v13
  else
   bnd (F_law17_Own (a_2.1,a_2.2.1,a_2.2.2.1,a_2.2.2.2.1,a_2.2.2.2.2.1,a_2.2.2.2.2.2.1,a_2.2.2.2.2.2.2.1,a_2.2.2.2.2.2.2.2.1,a_2.2.2.2.2.2.2.2.2.1,a_2.2.2.2.2.2.2.2.2.2)) fun v14 =>
   bnd (F_patch_Fits (v11.1,v11.2.1,v11.2.2.1,v11.2.2.2.1,v11.2.2.2.2.1,v11.2.2.2.2.2) (v14.1,v14.2.1,v14.2.2.1,v14.2.2.2.1,v14.2.2.2.2.1,v14.2.2.2.2.2.1,v14.2.2.2.2.2.2.1,v14.2.2.2.2.2.2.2.1,v14.2.2.2.2.2.2.2.2.1,v14.2.2.2.2.2.2.2.2.2) at_1.2.1) fun v15 =>
   bnd (α:=(Bool ⊕ Unit)) (bnd (F_tmpl_Template_Live (v11.1,v11.2.1,v11.2.2.1,v11.2.2.2.1,v11.2.2.2.2.1,v11.2.2.2.2.2) at_1.2.1) fun v16 =>
    if v16=true then
     if decide (0≤a_2.1)=true then
      if (!v15==decide (a_2.1≤65535))=true then
       g3 at_1<|g10 a_2<|g9 c_3<|gq v9<|gq a_2.2.2.2.1<|gq a_2.2.2.2.2.1<|g6 v11<|g10 v14 <|
       some (.inl false)
      else
       gq v15<|g3 at_1<|g10 a_2<|g9 c_3<|gq v9<|gq a_2.2.2.2.1<|gq a_2.2.2.2.2.1<|g6 v11<|g10 v14 <|
       some (.inr (()))
     else
      if (!v15==false)=true then
       g3 at_1<|g10 a_2<|g9 c_3<|gq v9<|gq a_2.2.2.2.1<|gq a_2.2.2.2.2.1<|g6 v11<|g10 v14 <|
       some (.inl false)
      else
       gq v15<|g3 at_1<|g10 a_2<|g9 c_3<|gq v9<|gq a_2.2.2.2.1<|gq a_2.2.2.2.2.1<|g6 v11<|g10 v14 <|
       some (.inr (()))
    else
     if (!v15==false)=true then
      g3 at_1<|g10 a_2<|g9 c_3<|gq v9<|gq a_2.2.2.2.1<|gq a_2.2.2.2.2.1<|g6 v11<|g10 v14 <|
      some (.inl false)
     else
      gq v15<|g3 at_1<|g10 a_2<|g9 c_3<|gq v9<|gq a_2.2.2.2.1<|gq a_2.2.2.2.2.1<|g6 v11<|g10 v14 <|
      some (.inr (()))) fun o17 =>
   match o17 with
   | .inl s6_18 =>
    some s6_18
   | .inr _ =>
    bnd (F_patch_Copy (v11.1,v11.2.1,v11.2.2.1,v11.2.2.2.1,v11.2.2.2.2.1,v11.2.2.2.2.2) (v14.1,v14.2.1,v14.2.2.1,v14.2.2.2.1,v14.2.2.2.2.1,v14.2.2.2.2.2.1,v14.2.2.2.2.2.2.1,v14.2.2.2.2.2.2.2.1,v14.2.2.2.2.2.2.2.2.1,v14.2.2.2.2.2.2.2.2.2) at_1.2.1 at_1.2.2) fun (v19,v20) =>
    bnd (F_patch_Size (v11.1,v11.2.1,v11.2.2.1,v11.2.2.2.1,v11.2.2.2.2.1,v11.2.2.2.2.2) (v14.1,v14.2.1,v14.2.2.1,v14.2.2.2.1,v14.2.2.2.2.1,v14.2.2.2.2.2.1,v14.2.2.2.2.2.2.1,v14.2.2.2.2.2.2.2.1,v14.2.2.2.2.2.2.2.2.1,v14.2.2.2.2.2.2.2.2.2) at_1.2.1) fun (v21,v22) =>
    bnd (α:=(Bool ⊕ Unit)) (if v15=true then
      if (!v20==decide (0≤at_1.2.2))=true then
       g3 at_1<|g10 a_2<|g9 c_3<|gq v9<|gq a_2.2.2.2.1<|gq a_2.2.2.2.2.1<|g6 v11<|g10 v14 <|
       some (.inl false)
      else
       gq v19<|gq v20<|gq v21<|gq v22<|g3 at_1<|g10 a_2<|g9 c_3<|gq v9<|gq a_2.2.2.2.1<|gq a_2.2.2.2.2.1<|g6 v11<|g10 v14 <|
       some (.inr (()))
     else
      if (!v20==false)=true then
       g3 at_1<|g10 a_2<|g9 c_3<|gq v9<|gq a_2.2.2.2.1<|gq a_2.2.2.2.2.1<|g6 v11<|g10 v14 <|
       some (.inl false)
      else
       gq v19<|gq v20<|gq v21<|gq v22<|g3 at_1<|g10 a_2<|g9 c_3<|gq v9<|gq a_2.2.2.2.1<|gq a_2.2.2.2.2.1<|g6 v11<|g10 v14 <|
       some (.inr (()))) fun o23 =>
    match o23 with
    | .inl s6_24 =>
     some s6_24
    | .inr _ =>
     if (!v20)=true then
      if (v19==[])=true then
       bnd F_law19_live fun v25 =>
       some v25
      else
       some false
     else
      bnd (F_ref08_Decode v19) fun (v26,v27) =>
      bnd (loopS (step_law19_PatchFits_0 at_1 a_2 c_3 v9 v11 v14 v19 v21 v22 v26 v27) ((0,0))) fun records_33 =>
      if (v27==0)=true then
       if ((↑v19.length:Int)==v22)=true then
        bnd (F_edns_Opt_Limit (v14.2.2.2.2.2.1,v14.2.2.2.2.2.2.1,v14.2.2.2.2.2.2.2.1,v14.2.2.2.2.2.2.2.2.1,v14.2.2.2.2.2.2.2.2.2)) fun v34 =>
        if decide (v22≤v34)=true then
         if decide (v21≤(↑(List.length v11.2.2.2.2.2):Int))=true then
          if (IntKind.i64.wrap ((↑(List.length v26.2.2.2.1):Int)+(↑(List.length v26.2.2.2.2.1):Int))==records_33)=true then
           if ((↑(List.length v26.2.2.1):Int)==1)=true then
            if (v26.1==a_2.1)=true then
             bnd F_law19_live fun v35 =>
             some v35
            else
             some false
           else
            some false
          else
           some false
         else
          some false
        else
         some false
       else
        some false
      else
       some false
def ann_law19_PatchFits:List (List Nat×Ann):=[([2],⟨none,[(.ret,⟨(anyN 6 (.cons (.ty .bool) (anyN 174 .nil))),[.cells 22 true yS19,.cells 28 true yS5,.cells 36 true yS1],[],[]⟩),(.normal,⟨(anyN 3 (.cons (.ptr 0 0) (.cons (.ptr 1 0) (.cons (.ptr 2 0) (anyN 175 .nil))))),[.cells 22 true yS19,.cells 28 true yS5,.cells 36 true yS1],[],[]⟩)]⟩),([3],⟨none,[(.normal,⟨(anyN 3 (.cons (.ptr 0 0) (.cons (.ptr 1 0) (.cons (.ptr 2 0) (anyN 23 (.cons (.ty .bool) (anyN 151 .nil))))))),[.cells 22 true yS19,.cells 28 true yS5,.cells 36 true yS1],[],[]⟩)]⟩),([28],⟨none,[(.ret,⟨(anyN 6 (.cons (.ty .bool) (anyN 174 .nil))),[.cells 22 true yS19,.cells 28 true yS5,.cells 36 true yS1,.cells 24 true yS22,.cells 42 true yS7,.cells 52 true yS5],[],[]⟩),(.normal,⟨(anyN 3 (.cons (.ptr 0 0) (.cons (.ptr 1 0) (anyN 3 (.cons (.ptr 4 0) (anyN 1 (.cons (.ptr 5 0) (.cons kB (anyN 169 .nil))))))))),[.cells 22 true yS19,.cells 28 true yS5,.cells 36 true yS1,.cells 24 true yS22,.cells 42 true yS7,.cells 52 true yS5],[],[]⟩)]⟩),([40],⟨none,[(.ret,⟨(anyN 6 (.cons (.ty .bool) (anyN 174 .nil))),[.cells 22 true yS19,.cells 28 true yS5,.cells 36 true yS1,.cells 24 true yS22,.cells 42 true yS7,.cells 52 true yS5],[],[]⟩),(.normal,⟨(anyN 4 (.cons (.ptr 1 0) (anyN 3 (.cons (.ptr 4 0) (anyN 1 (.cons (.ptr 5 0) (anyN 1 (.cons kS (.cons kB (.cons kI (.cons kI (anyN 165 .nil)))))))))))),[.cells 22 true yS19,.cells 28 true yS5,.cells 36 true yS1,.cells 24 true yS22,.cells 42 true yS7,.cells 52 true yS5],[],[]⟩)]⟩),([65],⟨none,[(.normal,⟨(anyN 4 (.cons (.ptr 1 0) (anyN 3 (.cons (.ptr 4 0) (anyN 1 (.cons (.ptr 5 0) (anyN 1 (.cons kS (anyN 1 (.cons kI (.cons kI (.cons (.ptr 6 0) (.cons kI (.cons kI (.cons kI (anyN 161 .nil)))))))))))))))),[.cells 22 true yS19,.cells 28 true yS5,.cells 36 true yS1,.cells 24 true yS22,.cells 42 true yS7,.cells 52 true yS5,.cells 63 true yS18],[],[]⟩),(.exit 0,⟨(anyN 4 (.cons (.ptr 1 0) (anyN 3 (.cons (.ptr 4 0) (anyN 1 (.cons (.ptr 5 0) (anyN 1 (.cons kS (anyN 1 (.cons kI (.cons kI (.cons (.ptr 6 0) (.cons kI (.cons kI (anyN 162 .nil))))))))))))))),[.cells 22 true yS19,.cells 28 true yS5,.cells 36 true yS1,.cells 24 true yS22,.cells 42 true yS7,.cells 52 true yS5,.cells 63 true yS18],[],[]⟩)]⟩),([64],⟨some ⟨(anyN 4 (.cons (.ptr 1 0) (anyN 3 (.cons (.ptr 4 0) (anyN 1 (.cons (.ptr 5 0) (anyN 1 (.cons kS (anyN 1 (.cons kI (.cons kI (.cons (.ptr 6 0) (.cons kI (.cons yI (.cons yI (anyN 161 .nil)))))))))))))))),[.cells 22 true yS19,.cells 28 true yS5,.cells 36 true yS1,.cells 24 true yS22,.cells 42 true yS7,.cells 52 true yS5,.cells 63 true yS18],[],[]⟩,[(.exit 0,⟨(anyN 4 (.cons (.ptr 1 0) (anyN 3 (.cons (.ptr 4 0) (anyN 1 (.cons (.ptr 5 0) (anyN 1 (.cons kS (anyN 1 (.cons kI (.cons kI (.cons (.ptr 6 0) (.cons kI (.cons yI (anyN 162 .nil))))))))))))))),[.cells 22 true yS19,.cells 28 true yS5,.cells 36 true yS1,.cells 24 true yS22,.cells 42 true yS7,.cells 52 true yS5,.cells 63 true yS18],[],[]⟩)]⟩)]
@[reducible] def fs_law19_PatchFits:List (Nat×SFn):=[(15,.pure [yT4] [.bool] (fun x=>F_ref17_Small x)),(16,.pure [] [.bool] (fun x=>F_law19_live)),(17,.pure [.str] [.str] (fun x=>F_ref02_Low x)),(19,.pure [yT4] [yT4] (fun x=>F_law17_Chain x)),(18,.pure [tI,tQ,yT4] [yT9,.bool] (fun x=>F_tmpl_Make x.1 x.2.1 x.2.2)),(20,.pure [yT8] [yT8] (fun x=>F_law17_Own x)),(21,.pure [yT9,yT8,tI] [.bool] (fun x=>F_patch_Fits x.1 x.2.1 x.2.2)),(22,.pure [yT9,tI] [.bool] (fun x=>F_tmpl_Template_Live x.1 x.2)),(23,.pure [yT9,yT8,tI,tI] [.str,.bool] (fun x=>F_patch_Copy x.1 x.2.1 x.2.2.1 x.2.2.2)),(24,.pure [yT9,yT8,tI] [tI,tI] (fun x=>F_patch_Size x.1 x.2.1 x.2.2)),(25,.pure [.str] [tM,tI] (fun x=>F_ref08_Decode x)),(26,.pure [yT26] [tI] (fun x=>F_edns_Opt_Limit x))]
theorem told_law19_PatchFits:Told CC Tryz.prog 3 [yT12,yT8,yT4] [.bool] (fun x=>F_law19_PatchFits x.1 x.2.1 x.2.2):=told_of (n:=100000) (gok (an:=ann_law19_PatchFits) (fs:=fs_law19_PatchFits) ⟨told_ref17_Small,told_law19_live,told_ref02_Low,told_law17_Chain,told_tmpl_Make,told_law17_Own,told_patch_Fits,told_tmpl_Template_Live,told_patch_Copy,told_patch_Size,told_ref08_Decode,told_edns_Opt_Limit,trivial⟩) rfl rfl (fun x=>by kernel_rfl)
end
end Go.Abs

set_option maxRecDepth 100000
namespace Go.Abs
open Go Go.Proofs
noncomputable section
end
end Go.Abs

set_option maxRecDepth 100000
namespace Go.Abs
open Go Go.Proofs
noncomputable section
end
end Go.Abs

set_option maxRecDepth 100000
namespace Go.Abs
open Go Go.Proofs
noncomputable section
end
end Go.Abs

set_option maxRecDepth 100000
namespace Go.Abs
open Go Go.Proofs
noncomputable section
end
end Go.Abs
