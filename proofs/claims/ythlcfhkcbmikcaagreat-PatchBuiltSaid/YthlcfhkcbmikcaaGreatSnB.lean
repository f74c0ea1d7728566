/- Part of a proof. -/
import Derived.Test.YthlcfhkcbmikcaaGreatSnA
set_option linter.unusedSimpArgs false
set_option linter.unusedVariables false
set_option linter.unusedSectionVars false
set_option maxRecDepth 100000
namespace Go.Abs
open Go Go.Proofs
noncomputable section
def F_name_Up (n_1:List UInt8):Option ((List UInt8×Bool)) :=
 bnd (F_name_Check n_1) fun v2 =>
 if (!v2)=false then
  if (n_1==[0])=true then
   some (([],false))
  else
   bnd (n_1[0]?) fun x3 =>
   natOf (IntKind.i64.wrap (1+IntKind.i64.wrap (↑x3.toNat:Int))) fun n4 =>
   grd (n4≤n_1.length) <|
   some ((List.drop n4 n_1,true))
 else
  some (([],false))
def ann_name_Up:List (List Nat×Ann):=[]
@[reducible] def fs_name_Up:List (Nat×SFn):=[(75,.pure [.str] [.bool] (fun x=>F_name_Check x))]
theorem told_name_Up:Told CC Tryz.prog 145 [.str] [.str,.bool] (fun x=>F_name_Up x):=told_of (n:=100000) (gok (an:=ann_name_Up) (fs:=fs_name_Up) ⟨told_name_Check,trivial⟩) rfl rfl (fun x=>by kernel_rfl)
def F_record_in (n_1:Int) (most_2:Int):Option (Bool) :=
 if decide (0≤n_1)=true then
  some (decide (n_1≤most_2))
 else
  some false
def ann_record_in:List (List Nat×Ann):=[]
theorem told_record_in:Told CC Tryz.prog 148 [tI,tI] [.bool] (fun x=>F_record_in x.1 x.2):=told_of (n:=100000) (gok (an:=ann_record_in) (fs:=[]) trivial) rfl rfl (fun x=>by kernel_rfl)
def F_ref05_shape (kind_1:Int):Option ((Int×(Int×Int))) :=
 bnd (α:=Bool) (if (kind_1==2)=true then
   gq kind_1<|gz<|gz<|gz <|
   some (kind_1==2)
  else
   if (kind_1==5)=true then
    gq kind_1<|gz<|gz<|gz <|
    some (kind_1==5)
   else
    gq kind_1<|gz<|gz<|gz <|
    some (kind_1==12)) fun s4_2 =>
 if s4_2=true then
  some ((0,(1,0)))
 else
  if (kind_1==6)=true then
   some ((0,(2,20)))
  else
   if (kind_1==15)=true then
    some ((2,(1,0)))
   else
    if (kind_1==33)=true then
     some ((6,(1,0)))
    else
     if (kind_1==1)=true then
      some ((4,(0,0)))
     else
      if (kind_1==28)=true then
       some ((16,(0,0)))
      else
       some ((0,(0,0)))
def ann_ref05_shape:List (List Nat×Ann):=[([6],⟨none,[(.normal,⟨(anyN 2 (.cons (.ptr 0 0) (.cons kI (.cons (.ty .bool) (anyN 20 .nil))))),[.cells 22 true yS24],[],[]⟩)]⟩)]
theorem told_ref05_shape:Told CC Tryz.prog 151 [tI] [yT15] (fun x=>F_ref05_shape x):=told_of (n:=100000) (gok (an:=ann_ref05_shape) (fs:=[]) trivial) rfl rfl (fun x=>by kernel_rfl)
def step_ref05_texts_0 (d_1:List UInt8):Int→Option (Int ⊕ Int):=fun i_2 =>
 if decide (i_2<(↑d_1.length:Int))=true then
  natOf i_2 fun n3 =>
  bnd (d_1[n3]?) fun x4 =>
  grdEq d_1 d_1 <|
  some (.inl (IntKind.i64.wrap (IntKind.i64.wrap (i_2+1)+IntKind.i64.wrap (↑x4.toNat:Int))))
 else
  grdEq d_1 d_1 <|
  some (.inr i_2)
def F_ref05_texts (d_1:List UInt8):Option (Bool) :=
 bnd (loopS (step_ref05_texts_0 d_1) 0) fun i_5 =>
 if (i_5==(↑d_1.length:Int))=true then
  some (decide (0<i_5))
 else
  some false
def ann_ref05_texts:List (List Nat×Ann):=[([6],⟨some ⟨(.cons kS (anyN 2 (.cons yI (anyN 19 .nil)))),[],[],[]⟩,[(.exit 0,⟨(.cons kS (anyN 2 (.cons yI (anyN 19 .nil)))),[],[],[]⟩)]⟩)]
theorem told_ref05_texts:Told CC Tryz.prog 152 [.str] [.bool] (fun x=>F_ref05_texts x):=told_of (n:=100000) (gok (an:=ann_ref05_texts) (fs:=[]) trivial) rfl rfl (fun x=>by kernel_rfl)
def step_ref05_Expand_0 (msg_1:List UInt8) (at_2:Int) (size_3:Int) (v7:Int×Int×Int):(List UInt8×(Int×Int))→Option ((List UInt8×(Int×Int)) ⊕ ((List UInt8×Int) ⊕ (List UInt8×Int))):=fun (out_10,i_11,k_12) =>
 if decide (k_12<v7.2.1)=true then
  bnd (F_ref04_Read msg_1 i_11) fun (v13,v14,v15) =>
  if (v15 != 0)=true then
   g3 v7 <|
   some (.inr (.inl (([],4))))
  else
   grd (out_10.length+v13.length≤maxStr) <|
   gq msg_1<|gq at_2<|gq size_3<|g3 v7 <|
   some (.inl ((out_10++v13,(v14,IntKind.i64.wrap (k_12+1)))))
 else
  gq msg_1<|gq at_2<|gq size_3<|g3 v7 <|
  some (.inr (.inr ((out_10,i_11))))
def F_ref05_Expand (msg_1:List UInt8) (at_2:Int) (size_3:Int) (kind_4:Int):Option ((List UInt8×Int)) :=
 bnd (F_ref01_Take msg_1 at_2 size_3) fun (v5,v6) =>
 if (!v6)=true then
  some (([],2))
 else
  bnd (F_ref05_shape kind_4) fun v7 =>
  if (v7.1==0&&(v7.2.1==0&&(v7.2.2==0&&true)))=true then
   if (kind_4==16)=true then
    bnd (F_ref05_texts v5) fun v8 =>
    if (!v8)=false then
     if decide (65535<(↑v5.length:Int))=true then
      some (([],4))
     else
      some ((v5,0))
    else
     some (([],4))
   else
    if decide (65535<(↑v5.length:Int))=true then
     some (([],4))
    else
     some ((v5,0))
  else
   if decide (size_3<v7.1)=true then
    some (([],4))
   else
    natOf v7.1 fun n9 =>
    grd (n9≤v5.length) <|
    bnd (loopS (step_ref05_Expand_0 msg_1 at_2 size_3 v7) ((List.take n9 v5,(IntKind.i64.wrap (at_2+v7.1),0)))) fun o16 =>
    match o16 with
    | .inl (s8_17,s9_18) =>
     some ((s8_17,s9_18))
    | .inr (out_19,i_20) =>
     if (IntKind.i64.wrap (i_20+v7.2.2) != IntKind.i64.wrap (at_2+size_3))=true then
      some (([],4))
     else
      natOf (IntKind.i64.wrap (at_2+size_3)) fun n21 =>
      grd (n21≤msg_1.length) <|
      natOf i_20 fun n22 =>
      grd (n22≤n21) <|
      grd (out_19.length+(List.drop n22 (List.take n21 msg_1)).length≤maxStr) <|
      if decide (65535<(↑(out_19++List.drop n22 (List.take n21 msg_1)).length:Int))=true then
       some (([],4))
      else
       some ((out_19++List.drop n22 (List.take n21 msg_1),0))
def ann_ref05_Expand:List (List Nat×Ann):=[([46],⟨some ⟨(.cons kS (.cons kI (.cons kI (anyN 9 (.cons (.ptr 0 0) (.cons (.ty .str) (.cons yI (.cons yI (anyN 81 .nil))))))))),[.cells 22 true yS24],[],[]⟩,[(.ret,⟨(anyN 8 (.cons (.ty .str) (.cons yI (anyN 87 .nil)))),[.cells 22 true yS24],[],[]⟩),(.exit 0,⟨(.cons kS (.cons kI (.cons kI (anyN 9 (.cons (.ptr 0 0) (.cons (.ty .str) (.cons yI (anyN 82 .nil)))))))),[.cells 22 true yS24],[],[]⟩)]⟩)]
@[reducible] def fs_ref05_Expand:List (Nat×SFn):=[(93,.pure [.str,tI] [.str,tI,tI] (fun x=>F_ref04_Read x.1 x.2)),(92,.pure [.str,tI,tI] [.str,.bool] (fun x=>F_ref01_Take x.1 x.2.1 x.2.2)),(151,.pure [tI] [yT15] (fun x=>F_ref05_shape x)),(152,.pure [.str] [.bool] (fun x=>F_ref05_texts x))]
theorem told_ref05_Expand:Told CC Tryz.prog 122 [.str,tI,tI,tI] [.str,tI] (fun x=>F_ref05_Expand x.1 x.2.1 x.2.2.1 x.2.2.2):=told_of (n:=100000) (gok (an:=ann_ref05_Expand) (fs:=fs_ref05_Expand) ⟨told_ref04_Read,told_ref01_Take,told_ref05_shape,told_ref05_texts,trivial⟩) rfl rfl (fun x=>by kernel_rfl)
def F_ref06_Decode (msg_1:List UInt8) (at_2:Int):Option (((List UInt8×(Int×(Int×(Int×List UInt8))))×(Int×Int))) :=
 bnd (F_ref04_Read msg_1 at_2) fun (v3,v4,v5) =>
 if (v5 != 0)=true then
  some ((([],(0,(0,(0,[])))),(0,v5)))
 else
  bnd (F_ref01_Take msg_1 v4 10) fun (v6,v7) =>
  if (!v7)=true then
   some ((([],(0,(0,(0,[])))),(0,2)))
  else
   bnd (F_ref01_Get msg_1 v4 2) fun (v8,v9) =>
   bnd (F_ref01_Get msg_1 (IntKind.i64.wrap (v4+2)) 2) fun (v10,v11) =>
   bnd (F_ref01_Get msg_1 (IntKind.i64.wrap (v4+4)) 4) fun (v12,v13) =>
   bnd (F_ref01_Get msg_1 (IntKind.i64.wrap (v4+8)) 2) fun (v14,v15) =>
   bnd (α:=Int) (if decide (2147483648≤v12)=true then
     gq msg_1<|gq v3<|gq v4<|gq v8<|gq v10<|gq v14<|gq (α:=List UInt8) ([])<|gz<|gz<|gz<|gq (α:=List UInt8) ([]) <|
     some 0
    else
     gq msg_1<|gq v3<|gq v4<|gq v8<|gq v10<|gq v14<|gq (α:=List UInt8) ([])<|gz<|gz<|gz<|gq (α:=List UInt8) ([]) <|
     some v12) fun ttl_16 =>
   bnd (F_ref05_Expand msg_1 (IntKind.i64.wrap (v4+10)) v14 v8) fun (v17,v18) =>
   if (v18 != 0)=true then
    some ((([],(0,(0,(0,[])))),(0,v18)))
   else
    some (((v3,(v8,(v10,(ttl_16,v17)))),(IntKind.i64.wrap (IntKind.i64.wrap (v4+10)+v14),0)))
def ann_ref06_Decode:List (List Nat×Ann):=[([30],⟨none,[(.normal,⟨(.cons kS (anyN 3 (.cons (.ptr 0 0) (anyN 2 (.cons kS (.cons kI (anyN 3 (.cons kI (anyN 1 (.cons kI (anyN 1 (.cons yI (anyN 1 (.cons kI (anyN 75 .nil))))))))))))))),[.cells 101 true yS27],[],[]⟩)]⟩)]
@[reducible] def fs_ref06_Decode:List (Nat×SFn):=[(93,.pure [.str,tI] [.str,tI,tI] (fun x=>F_ref04_Read x.1 x.2)),(92,.pure [.str,tI,tI] [.str,.bool] (fun x=>F_ref01_Take x.1 x.2.1 x.2.2)),(53,.pure [.str,tI,tI] [tI,.bool] (fun x=>F_ref01_Get x.1 x.2.1 x.2.2)),(122,.pure [.str,tI,tI,tI] [.str,tI] (fun x=>F_ref05_Expand x.1 x.2.1 x.2.2.1 x.2.2.2))]
theorem told_ref06_Decode:Told CC Tryz.prog 94 [.str,tI] [tRR,tI,tI] (fun x=>F_ref06_Decode x.1 x.2):=told_of (n:=100000) (gok (an:=ann_ref06_Decode) (fs:=fs_ref06_Decode) ⟨told_ref04_Read,told_ref01_Take,told_ref01_Get,told_ref05_Expand,trivial⟩) rfl rfl (fun x=>by kernel_rfl)
def step_ref08_section_0 (s_1:List UInt8) (many_3:Int):(Int×(List ((List UInt8×(Int×(Int×(Int×List UInt8)))))×Int))→Option ((Int×(List ((List UInt8×(Int×(Int×(Int×List UInt8)))))×Int)) ⊕ ((Int×Int) ⊕ (Int×List ((List UInt8×(Int×(Int×(Int×List UInt8)))))))):=fun (at_4,out_5,i_6) =>
 if decide (i_6<many_3)=true then
  bnd (F_ref06_Decode s_1 at_4) fun (v7,v8,v9) =>
  if (v9 != 0)=true then
   some (.inr (.inl ((0,v9))))
  else
   grd ((out_5.length+[(v7.1,v7.2.1,v7.2.2.1,v7.2.2.2.1,v7.2.2.2.2)].length)*56≤roomLim) <|
   gq s_1<|gq many_3 <|
   some (.inl ((v8,(out_5++[(v7.1,v7.2.1,v7.2.2.1,v7.2.2.2.1,v7.2.2.2.2)],IntKind.i64.wrap (i_6+1)))))
 else
  some (.inr (.inr ((at_4,out_5))))
def F_ref08_section (s_1:List UInt8) (at_2:Int) (many_3:Int):Option ((List ((List UInt8×(Int×(Int×(Int×List UInt8)))))×(Int×Int))) :=
 bnd (loopS (step_ref08_section_0 s_1 many_3) ((at_2,([],0)))) fun o10 =>
 match o10 with
 | .inl (s7_11,s8_12) =>
  some (([],(s7_11,s8_12)))
 | .inr (at_13,out_14) =>
  some ((out_14,(at_13,0)))
def ann_ref08_section:List (List Nat×Ann):=[([8],⟨some ⟨(.cons kS (.cons yI (.cons kI (anyN 6 (.cons (.own tRR 0 true) (.cons yI (anyN 25 .nil))))))),[],[⟨⟨0,tRR,101,true,true⟩,true⟩],[]⟩,[(.ret,⟨(anyN 6 (.cons .nill (.cons yI (.cons yI (anyN 27 .nil))))),[],[⟨⟨0,tRR,101,true,true⟩,false⟩],[]⟩),(.exit 0,⟨(anyN 1 (.cons yI (anyN 7 (.cons (.own tRR 0 true) (anyN 26 .nil))))),[],[⟨⟨0,tRR,101,true,true⟩,false⟩],[]⟩)]⟩)]
@[reducible] def fs_ref08_section:List (Nat×SFn):=[(94,.pure [.str,tI] [tRR,tI,tI] (fun x=>F_ref06_Decode x.1 x.2))]
theorem told_ref08_section:Told CC Tryz.prog 55 [.str,tI,tI] [(.list tRR),tI,tI] (fun x=>F_ref08_section x.1 x.2.1 x.2.2):=told_of (n:=100000) (gok (an:=ann_ref08_section) (fs:=fs_ref08_section) ⟨told_ref06_Decode,trivial⟩) rfl rfl (fun x=>by kernel_rfl)
def F_ref08_Decode (s_1:List UInt8):Option (((Int×(Int×(List ((List UInt8×(Int×Int)))×(List ((List UInt8×(Int×(Int×(Int×List UInt8)))))×(List ((List UInt8×(Int×(Int×(Int×List UInt8)))))×List ((List UInt8×(Int×(Int×(Int×List UInt8))))))))))×Int)) :=
 if decide (65535<(↑s_1.length:Int))=true then
  some (((0,(0,([],([],([],[]))))),6))
 else
  bnd (F_ref08_Head s_1) fun (v2,v3,v4) =>
  if (!v4)=true then
   some (((0,(0,([],([],([],[]))))),2))
  else
   bnd (F_ref01_Get s_1 4 2) fun (v5,v6) =>
   bnd (F_ref01_Get s_1 6 2) fun (v7,v8) =>
   bnd (F_ref01_Get s_1 8 2) fun (v9,v10) =>
   bnd (F_ref01_Get s_1 10 2) fun (v11,v12) =>
   bnd (F_ref08_questions s_1 12 v5) fun (v13,v14,v15) =>
   if (v15 != 0)=true then
    some (((0,(0,([],([],([],[]))))),v15))
   else
    bnd (F_ref08_section s_1 v14 v7) fun (v16,v17,v18) =>
    if (v18 != 0)=true then
     some (((0,(0,([],([],([],[]))))),v18))
    else
     bnd (F_ref08_section s_1 v17 v9) fun (v19,v20,v21) =>
     if (v21 != 0)=true then
      some (((0,(0,([],([],([],[]))))),v21))
     else
      bnd (F_ref08_section s_1 v20 v11) fun (v22,v23,v24) =>
      if (v24 != 0)=true then
       some (((0,(0,([],([],([],[]))))),v24))
      else
       if (v23 != (↑s_1.length:Int))=true then
        some (((0,(0,([],([],([],[]))))),5))
       else
        some (((v2,(v3,(v13,(v16,(v19,v22))))),0))
def ann_ref08_Decode:List (List Nat×Ann):=[([26],⟨none,[]⟩),([26,1000000],⟨none,[]⟩),([26,1000000,1000000],⟨none,[]⟩),([26,1000000,1000000,1000000],⟨none,[]⟩),([26,1000000,1000000,1000000,1000000],⟨none,[]⟩)]
@[reducible] def fs_ref08_Decode:List (Nat×SFn):=[(52,.pure [.str] [tI,tI,.bool] (fun x=>F_ref08_Head x)),(53,.pure [.str,tI,tI] [tI,.bool] (fun x=>F_ref01_Get x.1 x.2.1 x.2.2)),(54,.pure [.str,tI,tI] [(.list tQ),tI,tI] (fun x=>F_ref08_questions x.1 x.2.1 x.2.2)),(55,.pure [.str,tI,tI] [(.list tRR),tI,tI] (fun x=>F_ref08_section x.1 x.2.1 x.2.2))]
theorem told_ref08_Decode:Told CC Tryz.prog 25 [.str] [tM,tI] (fun x=>F_ref08_Decode x):=told_of (n:=100000) (gok (an:=ann_ref08_Decode) (fs:=fs_ref08_Decode) ⟨told_ref08_Head,told_ref01_Get,told_ref08_questions,told_ref08_section,trivial⟩) rfl rfl (fun x=>by kernel_rfl)
def step_comp_Read_0 (msg_1:List UInt8):(Int×(Int×(Int×(Int×List (Int)))))→Option ((Int×(Int×(Int×(Int×List (Int))))) ⊕ ((Int×(Int×(Int×(Int×List (Int))))) ⊕ (List UInt8×(Int×(Int×(Int×(Int×(Int×List (Int))))))))):=fun (e_3,b0b_4,b0c_5,b0d_6,b0f_7) =>
 if (e_3==0)=true then
  bnd (F_octet_Get msg_1 b0b_4 1) fun (v8,v9) =>
  if (!v9)=true then
   gq msg_1 <|
   some (.inr (.inl ((2,(b0b_4,(b0c_5,(b0d_6,b0f_7)))))))
  else
   if (v8==0)=true then
    bnd (α:=(Int×List (Int))) (if (b0d_6==-1)=true then
      gq msg_1<|gq b0b_4<|gq b0c_5 <|
      some ((IntKind.i64.wrap (b0b_4+1),b0f_7))
     else
      gq msg_1<|gq b0b_4<|gq b0c_5 <|
      some ((b0d_6,b0f_7))) fun (b0d_10,b0f_11) =>
    grd (b0f_11.length≤9223372036854775807) <|
    grd (∀(n:(Ty.int IntKind.u8).den),n∈b0f_11→0≤n∧n<256) <|
    grd ((List.map (fun n=>UInt8.ofNat (Int.toNat n)) b0f_11).length+1≤maxStr) <|
    gq msg_1 <|
    some (.inr (.inr ((List.map (fun n=>UInt8.ofNat (Int.toNat n)) b0f_11++[0],(b0d_10,(0,(b0b_4,(b0c_5,(b0d_10,b0f_11)))))))))
   else
    if decide (192≤v8)=true then
     bnd (F_octet_Get msg_1 b0b_4 2) fun (v12,v13) =>
     if (!v13)=true then
      gq msg_1 <|
      some (.inl ((2,(b0b_4,(b0c_5,(b0d_6,b0f_7))))))
     else
      if decide (b0c_5≤IntKind.i64.wrap (v12-49152))=true then
       gq msg_1 <|
       some (.inl ((3,(b0b_4,(b0c_5,(b0d_6,b0f_7))))))
      else
       bnd (α:=(Int×List (Int))) (if (b0d_6==-1)=true then
         gq v12<|gq msg_1<|gq b0b_4<|gq b0c_5 <|
         some ((IntKind.i64.wrap (b0b_4+2),b0f_7))
        else
         gq v12<|gq msg_1<|gq b0b_4<|gq b0c_5 <|
         some ((b0d_6,b0f_7))) fun (b0d_14,b0f_15) =>
       gq msg_1 <|
       some (.inl ((0,(IntKind.i64.wrap (v12-49152),(IntKind.i64.wrap (v12-49152),(b0d_14,b0f_15))))))
    else
     if decide (63<v8)=true then
      gq msg_1 <|
      some (.inl ((3,(b0b_4,(b0c_5,(b0d_6,b0f_7))))))
     else
      bnd (F_octet_Take msg_1 b0b_4 (IntKind.i64.wrap (1+v8))) fun (v16,v17) =>
      if (!v17)=true then
       gq msg_1 <|
       some (.inl ((2,(b0b_4,(b0c_5,(b0d_6,b0f_7))))))
      else
       if decide (255≤IntKind.i64.wrap ((↑b0f_7.length:Int)+(↑v16.length:Int)))=true then
        gq msg_1 <|
        some (.inl ((3,(b0b_4,(b0c_5,(b0d_6,b0f_7))))))
       else
        grd ((b0f_7.length+(List.map (fun b=>(↑b.toNat:Int)) v16).length)*1≤roomLim) <|
        gq msg_1 <|
        some (.inl ((0,(IntKind.i64.wrap (b0b_4+(↑v16.length:Int)),(b0c_5,(b0d_6,b0f_7++List.map (fun b=>(↑b.toNat:Int)) v16))))))
 else
  gq msg_1 <|
  some (.inr (.inl ((e_3,(b0b_4,(b0c_5,(b0d_6,b0f_7)))))))
def F_comp_Read (msg_1:List UInt8) (at_2:Int):Option ((List UInt8×(Int×Int))) :=
 bnd (loopS (step_comp_Read_0 msg_1) ((0,(at_2,(at_2,(-1,[])))))) fun o18 =>
 match o18 with
 | .inl (e_19,b0b_20,b0c_21,b0d_22,b0f_23) =>
  some (([],(0,e_19)))
 | .inr (s4_24,s5_25,s6_26,b0b_27,b0c_28,b0d_29,b0f_30) =>
  some ((s4_24,(s5_25,s6_26)))
def ann_comp_Read:List (List Nat×Ann):=[([2,164,1,32],⟨none,[(.normal,⟨(.cons (.ptr 0 0) (anyN 26 .nil)),[.cells 226 true (.cons kS (.cons kI (.cons kI yS36)))],[⟨⟨0,(.int .u8),5,false,false⟩,false⟩],[]⟩)]⟩),([19,165,1,37],⟨none,[(.normal,⟨(.cons (.ptr 0 0) (anyN 2 (.cons kI (anyN 47 .nil)))),[.cells 226 true (.cons kS (.cons kI (.cons kI yS36)))],[⟨⟨0,(.int .u8),5,false,false⟩,false⟩],[]⟩)]⟩),([11],⟨some ⟨(anyN 7 (.cons (.ptr 0 0) (.cons yI (anyN 44 .nil)))),[.cells 226 true (.cons kS (.cons yI (.cons yI yS36)))],[⟨⟨0,(.int .u8),5,false,false⟩,true⟩],[]⟩,[(.exit 0,⟨(anyN 8 (.cons yI (anyN 44 .nil))),[.cells 226 true (.cons kS (.cons yI (.cons yI yS36)))],[⟨⟨0,(.int .u8),5,false,false⟩,false⟩],[]⟩),(.ret,⟨(anyN 4 (.cons (.ty .str) (.cons yI (.cons yI (anyN 46 .nil))))),[.cells 226 true (.cons kS (.cons yI (.cons yI yS36)))],[⟨⟨0,(.int .u8),5,false,false⟩,false⟩],[]⟩)]⟩)]
@[reducible] def fs_comp_Read:List (Nat×SFn):=[(95,.pure [.str,tI,tI] [tI,.bool] (fun x=>F_octet_Get x.1 x.2.1 x.2.2)),(123,.pure [.str,tI,tI] [.str,.bool] (fun x=>F_octet_Take x.1 x.2.1 x.2.2))]
theorem told_comp_Read:Told CC Tryz.prog 153 [.str,tI] [.str,tI,tI] (fun x=>F_comp_Read x.1 x.2):=told_of (n:=100000) (gok (an:=ann_comp_Read) (fs:=fs_comp_Read) ⟨told_octet_Get,told_octet_Take,trivial⟩) rfl rfl (fun x=>by kernel_rfl)
end
end Go.Abs

set_option maxRecDepth 100000
namespace Go.Abs
open Go Go.Proofs
noncomputable section
def F_data_parts_whole (p_1:(List UInt8×(List UInt8×List (List UInt8)))):Option (List UInt8) :=
 bnd (F_strings_Join p_1.2.2 []) fun v2 =>
 grd (List.length p_1.1+v2.length≤maxStr) <|
 grd ((p_1.1++v2).length+List.length p_1.2.1≤maxStr) <|
 some (p_1.1++v2++p_1.2.1)
def ann_data_parts_whole:List (List Nat×Ann):=[]
@[reducible] def fs_data_parts_whole:List (Nat×SFn):=[(173,.pure [.list .str,.str] [.str] (fun x=>F_strings_Join x.1 x.2))]
theorem told_data_parts_whole:Told CC Tryz.prog 160 [(.agg (.cons .str (.cons .str (.list .str))))] [.str] (fun x=>F_data_parts_whole x):=told_of (n:=100000) (gok (an:=ann_data_parts_whole) (fs:=fs_data_parts_whole) ⟨told_strings_Join,trivial⟩) rfl rfl (fun x=>by kernel_rfl)
def step_slices_Index_string_0 (s_1:List (List UInt8)) (v_2:List UInt8):Int→Option (Int ⊕ (Int ⊕ Unit)):=fun s8_3 =>
 if decide (s8_3<(↑s_1.length:Int))=true then
  natOf s8_3 fun n4 =>
  bnd (s_1[n4]?) fun x5 =>
  if (v_2==x5)=true then
   some (.inr (.inl s8_3))
  else
   gq s_1<|gq v_2 <|
   grdEq ((↑s_1.length:Int)) ((↑s_1.length:Int)) <|
   some (.inl (IntKind.i64.wrap (s8_3+1)))
 else
  some (.inr (.inr (())))
def F_slices_Index_string (s_1:List (List UInt8)) (v_2:List UInt8):Option (Int) :=
 bnd (loopS (step_slices_Index_string_0 s_1 v_2) 0) fun o6 =>
 match o6 with
 | .inl s4_7 =>
  some s4_7
 | .inr _ =>
  some (-1)
def ann_slices_Index_string:List (List Nat×Ann):=[([6],⟨some ⟨(.cons (.keep (.list .str)) (.cons kS (anyN 5 (.cons kI (.cons yI (anyN 10 .nil)))))),[],[],[]⟩,[(.ret,⟨yS41,[],[],[]⟩),(.exit 0,⟨(anyN 19 .nil),[],[],[]⟩)]⟩)]
theorem told_slices_Index_string:Told CC Tryz.prog 161 [(.list .str),.str] [tI] (fun x=>F_slices_Index_string x.1 x.2):=told_of (n:=100000) (gok (an:=ann_slices_Index_string) (fs:=[]) trivial) rfl rfl (fun x=>by kernel_rfl)
def F_slices_Contains_string (s_1:List (List UInt8)) (v_2:List UInt8):Option (Bool) :=
 bnd (F_slices_Index_string s_1 v_2) fun v3 =>
 some (decide (0≤v3))
def ann_slices_Contains_string:List (List Nat×Ann):=[]
@[reducible] def fs_slices_Contains_string:List (Nat×SFn):=[(161,.pure [(.list .str),.str] [tI] (fun x=>F_slices_Index_string x.1 x.2))]
theorem told_slices_Contains_string:Told CC Tryz.prog 143 [(.list .str),.str] [.bool] (fun x=>F_slices_Contains_string x.1 x.2):=told_of (n:=100000) (gok (an:=ann_slices_Contains_string) (fs:=fs_slices_Contains_string) ⟨told_slices_Index_string,trivial⟩) rfl rfl (fun x=>by kernel_rfl)
def F_name_Same (a_1:List UInt8) (b_2:List UInt8):Option (Bool) :=
 bnd (F_name_Check a_1) fun v3 =>
 if v3=true then
  bnd (F_name_Check b_2) fun v4 =>
  if v4=true then
   bnd (F_name_low a_1) fun v5 =>
   bnd (F_name_low b_2) fun v6 =>
   some (v5==v6)
  else
   some false
 else
  some false
def ann_name_Same:List (List Nat×Ann):=[]
@[reducible] def fs_name_Same:List (Nat×SFn):=[(75,.pure [.str] [.bool] (fun x=>F_name_Check x)),(111,.pure [.str] [.str] (fun x=>F_name_low x))]
theorem told_name_Same:Told CC Tryz.prog 162 [.str,.str] [.bool] (fun x=>F_name_Same x.1 x.2):=told_of (n:=100000) (gok (an:=ann_name_Same) (fs:=fs_name_Same) ⟨told_name_Check,told_name_low,trivial⟩) rfl rfl (fun x=>by kernel_rfl)
def step_comp_place_0 (base_1:List UInt8) (n_2:List UInt8):(List UInt8×Bool)→Option ((List UInt8×Bool) ⊕ (Int ⊕ Unit)):=fun (end_3,is_4) =>
 bnd (α:=(Unit ⊕ Unit)) (if is_4=true then
   if decide (1<(↑end_3.length:Int))=true then
    gq base_1<|gq n_2<|gq end_3 <|
    some (.inl (()))
   else
    some (.inr (()))
  else
   some (.inr (()))) fun o5 =>
 match o5 with
 | .inl _ =>
  bnd (F_name_Same end_3 n_2) fun v6 =>
  if v6=true then
   some (.inr (.inl (IntKind.i64.wrap ((↑base_1.length:Int)-(↑end_3.length:Int)))))
  else
   bnd (F_name_Up end_3) fun (v7,v8) =>
   gq base_1<|gq n_2 <|
   some (.inl ((v7,v8)))
 | .inr _ =>
  some (.inr (.inr (())))
def F_comp_place (base_1:List UInt8) (n_2:List UInt8):Option (Int) :=
 bnd (loopS (step_comp_place_0 base_1 n_2) ((base_1,true))) fun o9 =>
 match o9 with
 | .inl s4_10 =>
  some s4_10
 | .inr _ =>
  some (-1)
def ann_comp_place:List (List Nat×Ann):=[([7],⟨none,[(.normal,⟨(.cons kS (.cons kS (anyN 3 (.cons kS (anyN 21 .nil))))),[],[],[]⟩),(.exit 0,⟨(anyN 27 .nil),[],[],[]⟩)]⟩),([6],⟨some ⟨(.cons kS (.cons kS (anyN 3 (.cons (.ty .str) (.cons (.ty .bool) (anyN 20 .nil)))))),[],[],[]⟩,[(.ret,⟨(anyN 4 (.cons yI (anyN 22 .nil))),[],[],[]⟩),(.exit 0,⟨(anyN 27 .nil),[],[],[]⟩)]⟩)]
@[reducible] def fs_comp_place:List (Nat×SFn):=[(162,.pure [.str,.str] [.bool] (fun x=>F_name_Same x.1 x.2)),(145,.pure [.str] [.str,.bool] (fun x=>F_name_Up x))]
theorem told_comp_place:Told CC Tryz.prog 146 [.str,.str] [tI] (fun x=>F_comp_place x.1 x.2):=told_of (n:=100000) (gok (an:=ann_comp_place) (fs:=fs_comp_place) ⟨told_name_Same,told_name_Up,trivial⟩) rfl rfl (fun x=>by kernel_rfl)
def step_data_texts_0:List UInt8→Option (List UInt8 ⊕ (Bool ⊕ Unit)):=fun d_2 =>
 if (!d_2==[])=true then
  bnd (d_2[0]?) fun x3 =>
  if decide ((↑d_2.length:Int)<IntKind.i64.wrap (1+IntKind.i64.wrap (↑x3.toNat:Int)))=true then
   some (.inr (.inl false))
  else
   natOf (IntKind.i64.wrap (1+IntKind.i64.wrap (↑x3.toNat:Int))) fun n4 =>
   grd (n4≤d_2.length) <|
   some (.inl (List.drop n4 d_2))
 else
  some (.inr (.inr (())))
def F_data_texts (d_1:List UInt8):Option (Bool) :=
 if (d_1==[])=true then
  some false
 else
  bnd (loopS step_data_texts_0 d_1) fun o5 =>
  match o5 with
  | .inl s2_6 =>
   some s2_6
  | .inr _ =>
   some true
def ann_data_texts:List (List Nat×Ann):=[([12],⟨some ⟨(.cons (.ty .str) (anyN 18 .nil)),[],[],[]⟩,[(.ret,⟨(anyN 2 (.cons (.ty .bool) (anyN 16 .nil))),[],[],[]⟩),(.exit 0,⟨(anyN 19 .nil),[],[],[]⟩)]⟩)]
theorem told_data_texts:Told CC Tryz.prog 169 [.str] [.bool] (fun x=>F_data_texts x):=told_of (n:=100000) (gok (an:=ann_data_texts) (fs:=[]) trivial) rfl rfl (fun x=>by kernel_rfl)
def step_data_Expand_0 (msg_1:List UInt8) (at_2:Int) (size_3:Int) (kind_4:Int) (n8:Nat) (n9:Nat):(Int×(Int×(List ((Int×(Int×(Int×Int))))×List (List UInt8))))→Option ((Int×(Int×(List ((Int×(Int×(Int×Int))))×List (List UInt8)))) ⊕ ((Int×(List ((Int×(Int×(Int×Int))))×List (List UInt8))) ⊕ (Bool×(List ((Int×(Int×(Int×Int))))×List (List UInt8))))):=fun (at_10,s38_11,m0_12,b4c_13) =>
 if decide (s38_11<((shpF kind_4).getD (0,0,0)).2.1)=true then
  bnd (F_comp_Read msg_1 at_10) fun (v14,v15,v16) =>
  bnd (α:=((Bool×(List ((Int×(Int×(Int×Int))))×List (List UInt8))) ⊕ (List ((Int×(Int×(Int×Int))))×List (List UInt8)))) (if (v16 != 0)=false then
    if decide (IntKind.i64.wrap (at_2+size_3)<v15)=true then
     grdEq (((shpF kind_4).getD (0,0,0)).1) (((shpF kind_4).getD (0,0,0)).1) <|
     grdEq (((shpF kind_4).getD (0,0,0)).2.1) (((shpF kind_4).getD (0,0,0)).2.1) <|
     grdEq (((shpF kind_4).getD (0,0,0)).2.2) (((shpF kind_4).getD (0,0,0)).2.2) <|
     grdEq (((shpF kind_4).getD (0,0,0)).1) (((shpF kind_4).getD (0,0,0)).1) <|
     grdEq (((shpF kind_4).getD (0,0,0)).2.1) (((shpF kind_4).getD (0,0,0)).2.1) <|
     grdEq (((shpF kind_4).getD (0,0,0)).2.2) (((shpF kind_4).getD (0,0,0)).2.2) <|
     gq (α:=List UInt8) ([])<|gq (α:=List UInt8) ([]) <|
     grdEq (List.drop n9 (List.take n8 msg_1)) (List.drop n9 (List.take n8 msg_1)) <|
     gq (α:=List UInt8) ([]) <|
     some (.inl ((false,(m0_12,b4c_13))))
    else
     gq msg_1 <|
     grdEq (IntKind.i64.wrap (at_2+size_3)) (IntKind.i64.wrap (at_2+size_3)) <|
     gq v14<|gq v15 <|
     grdEq (((shpF kind_4).getD (0,0,0)).2.1) (((shpF kind_4).getD (0,0,0)).2.1) <|
     gq s38_11 <|
     grdEq (((shpF kind_4).getD (0,0,0)).1) (((shpF kind_4).getD (0,0,0)).1) <|
     grdEq (((shpF kind_4).getD (0,0,0)).2.1) (((shpF kind_4).getD (0,0,0)).2.1) <|
     grdEq (((shpF kind_4).getD (0,0,0)).2.2) (((shpF kind_4).getD (0,0,0)).2.2) <|
     grdEq (((shpF kind_4).getD (0,0,0)).1) (((shpF kind_4).getD (0,0,0)).1) <|
     grdEq (((shpF kind_4).getD (0,0,0)).2.1) (((shpF kind_4).getD (0,0,0)).2.1) <|
     grdEq (((shpF kind_4).getD (0,0,0)).2.2) (((shpF kind_4).getD (0,0,0)).2.2) <|
     gq (α:=List UInt8) ([])<|gq (α:=List UInt8) ([]) <|
     grdEq (List.drop n9 (List.take n8 msg_1)) (List.drop n9 (List.take n8 msg_1)) <|
     gq (α:=List UInt8) ([]) <|
     some (.inr ((m0_12,b4c_13)))
   else
    grdEq (((shpF kind_4).getD (0,0,0)).1) (((shpF kind_4).getD (0,0,0)).1) <|
    grdEq (((shpF kind_4).getD (0,0,0)).2.1) (((shpF kind_4).getD (0,0,0)).2.1) <|
    grdEq (((shpF kind_4).getD (0,0,0)).2.2) (((shpF kind_4).getD (0,0,0)).2.2) <|
    grdEq (((shpF kind_4).getD (0,0,0)).1) (((shpF kind_4).getD (0,0,0)).1) <|
    grdEq (((shpF kind_4).getD (0,0,0)).2.1) (((shpF kind_4).getD (0,0,0)).2.1) <|
    grdEq (((shpF kind_4).getD (0,0,0)).2.2) (((shpF kind_4).getD (0,0,0)).2.2) <|
    gq (α:=List UInt8) ([])<|gq (α:=List UInt8) ([]) <|
    grdEq (List.drop n9 (List.take n8 msg_1)) (List.drop n9 (List.take n8 msg_1)) <|
    gq (α:=List UInt8) ([]) <|
    some (.inl ((false,(m0_12,b4c_13))))) fun o17 =>
  match o17 with
  | .inl (s9_18,m0_19,b4c_20) =>
   grdEq (((shpF kind_4).getD (0,0,0)).1) (((shpF kind_4).getD (0,0,0)).1) <|
   grdEq (((shpF kind_4).getD (0,0,0)).2.1) (((shpF kind_4).getD (0,0,0)).2.1) <|
   grdEq (((shpF kind_4).getD (0,0,0)).2.2) (((shpF kind_4).getD (0,0,0)).2.2) <|
   grdEq (((shpF kind_4).getD (0,0,0)).1) (((shpF kind_4).getD (0,0,0)).1) <|
   grdEq (((shpF kind_4).getD (0,0,0)).2.1) (((shpF kind_4).getD (0,0,0)).2.1) <|
   grdEq (((shpF kind_4).getD (0,0,0)).2.2) (((shpF kind_4).getD (0,0,0)).2.2) <|
   gq (α:=List UInt8) ([])<|gq (α:=List UInt8) ([]) <|
   grdEq (List.drop n9 (List.take n8 msg_1)) (List.drop n9 (List.take n8 msg_1)) <|
   gq (α:=List UInt8) ([]) <|
   some (.inr (.inr ((s9_18,(m0_19,b4c_20)))))
  | .inr (m0_21,b4c_22) =>
   grd ((b4c_22.length+[v14].length)*16≤roomLim) <|
   gq msg_1 <|
   grdEq (IntKind.i64.wrap (at_2+size_3)) (IntKind.i64.wrap (at_2+size_3)) <|
   grdEq (((shpF kind_4).getD (0,0,0)).2.1) (((shpF kind_4).getD (0,0,0)).2.1) <|
   grdEq (((shpF kind_4).getD (0,0,0)).1) (((shpF kind_4).getD (0,0,0)).1) <|
   grdEq (((shpF kind_4).getD (0,0,0)).2.1) (((shpF kind_4).getD (0,0,0)).2.1) <|
   grdEq (((shpF kind_4).getD (0,0,0)).2.2) (((shpF kind_4).getD (0,0,0)).2.2) <|
   grdEq (((shpF kind_4).getD (0,0,0)).1) (((shpF kind_4).getD (0,0,0)).1) <|
   grdEq (((shpF kind_4).getD (0,0,0)).2.1) (((shpF kind_4).getD (0,0,0)).2.1) <|
   grdEq (((shpF kind_4).getD (0,0,0)).2.2) (((shpF kind_4).getD (0,0,0)).2.2) <|
   gq (α:=List UInt8) ([])<|gq (α:=List UInt8) ([]) <|
   grdEq (List.drop n9 (List.take n8 msg_1)) (List.drop n9 (List.take n8 msg_1)) <|
   gq (α:=List UInt8) ([]) <|
   some (.inl ((v15,(IntKind.i64.wrap (s38_11+1),(m0_21,b4c_22++[v14])))))
 else
  gq msg_1 <|
  grdEq (IntKind.i64.wrap (at_2+size_3)) (IntKind.i64.wrap (at_2+size_3)) <|
  grdEq (((shpF kind_4).getD (0,0,0)).1) (((shpF kind_4).getD (0,0,0)).1) <|
  grdEq (((shpF kind_4).getD (0,0,0)).2.1) (((shpF kind_4).getD (0,0,0)).2.1) <|
  grdEq (((shpF kind_4).getD (0,0,0)).2.2) (((shpF kind_4).getD (0,0,0)).2.2) <|
  grdEq (((shpF kind_4).getD (0,0,0)).1) (((shpF kind_4).getD (0,0,0)).1) <|
  grdEq (((shpF kind_4).getD (0,0,0)).2.1) (((shpF kind_4).getD (0,0,0)).2.1) <|
  grdEq (((shpF kind_4).getD (0,0,0)).2.2) (((shpF kind_4).getD (0,0,0)).2.2) <|
  gq (α:=List UInt8) ([])<|gq (α:=List UInt8) ([]) <|
  grdEq (List.drop n9 (List.take n8 msg_1)) (List.drop n9 (List.take n8 msg_1)) <|
  gq (α:=List UInt8) ([]) <|
  some (.inr (.inl ((at_10,(m0_12,b4c_13)))))
def F_data_Expand (msg_1:List UInt8) (at_2:Int) (size_3:Int) (kind_4:Int):Option ((List UInt8×Int)) :=
 bnd (F_octet_Take msg_1 at_2 size_3) fun (v5,v6) =>
 if (!v6)=true then
  some (([],2))
 else
  bnd (α:=(List UInt8×Bool)) (if (shpF kind_4).isSome=true then
    if (!decide (((shpF kind_4).getD (0,0,0)).1≤IntKind.i64.wrap (IntKind.i64.wrap (at_2+size_3)-at_2)))=true then
     bnd (F_data_parts_whole ([],[],[])) fun v7 =>
     gq kind_4 <|
     some ((v7,false))
    else
     natOf (IntKind.i64.wrap (at_2+((shpF kind_4).getD (0,0,0)).1)) fun n8 =>
     grd (n8≤msg_1.length) <|
     natOf at_2 fun n9 =>
     grd (n9≤n8) <|
     bnd (loopS (step_data_Expand_0 msg_1 at_2 size_3 kind_4 n8 n9) ((IntKind.i64.wrap (at_2+((shpF kind_4).getD (0,0,0)).1),(0,(sputM tI (.agg (.cons tI (.cons tI tI))) 33 (6,1,0) (sputM tI (.agg (.cons tI (.cons tI tI))) 15 (2,1,0) (sputM tI (.agg (.cons tI (.cons tI tI))) 6 (0,2,20) (sputM tI (.agg (.cons tI (.cons tI tI))) 12 (0,1,0) (sputM tI (.agg (.cons tI (.cons tI tI))) 5 (0,1,0) (sputM tI (.agg (.cons tI (.cons tI tI))) 2 (0,1,0) (sputM tI (.agg (.cons tI (.cons tI tI))) 28 (16,0,0) (sputM tI (.agg (.cons tI (.cons tI tI))) 1 (4,0,0) []))))))),[]))))) fun o23 =>
     match o23 with
     | .inl (at_24,m0_25,b4c_26) =>
      natOf (IntKind.i64.wrap (at_2+size_3)) fun n27 =>
      grd (n27≤msg_1.length) <|
      natOf at_24 fun n28 =>
      grd (n28≤n27) <|
      bnd (F_data_parts_whole (List.drop n9 (List.take n8 msg_1),List.drop n28 (List.take n27 msg_1),b4c_26)) fun v29 =>
      gq kind_4 <|
      some ((v29,(↑(List.drop n28 (List.take n27 msg_1)).length:Int)==((shpF kind_4).getD (0,0,0)).2.2))
     | .inr (s9_30,m0_31,b4c_32) =>
      bnd (F_data_parts_whole ([],[],[])) fun v33 =>
      gq kind_4 <|
      some ((v33,s9_30))
   else
    gq kind_4 <|
    some ((v5,v6))) fun (d_34,is_35) =>
  if (!is_35)=false then
   if (kind_4==16)=true then
    bnd (F_data_texts d_34) fun v36 =>
    if (!v36)=false then
     if decide (65535<(↑d_34.length:Int))=true then
      some (([],4))
     else
      some ((d_34,0))
    else
     some (([],4))
   else
    if decide (65535<(↑d_34.length:Int))=true then
     some (([],4))
    else
     some ((d_34,0))
  else
   some (([],4))
def ann_data_Expand:List (List Nat×Ann):=[([12],⟨none,[(.normal,⟨(anyN 3 (.cons kI (anyN 6 (.cons (.ty .str) (.cons (.ty .bool) (anyN 50 .nil)))))),[],[],[]⟩)]⟩),([33,168,6,19],⟨none,[(.ret,⟨(anyN 8 (.cons (.ptr 3 0) (.cons (.ty .bool) (anyN 65 .nil)))),[.mapo tI yT15 true,.cells 231 true yS24,.cells 231 true yS24,.cells 220 true yS19,.cells 220 true yS17],[⟨⟨0,.str,9,true,true⟩,false⟩],[]⟩),(.normal,⟨(.cons kS (anyN 1 (.cons kI (anyN 4 (.cons (.ptr 2 0) (.cons (.ptr 3 0) (anyN 1 (.cons (.ptr 4 0) (anyN 1 (.cons kS (.cons kI (anyN 23 (.cons kI (.cons kI (anyN 36 .nil))))))))))))))),[.mapo tI yT15 true,.cells 231 true yS24,.cells 231 true yS24,.cells 220 true yS19,.cells 220 true yS17],[⟨⟨0,.str,9,true,true⟩,false⟩],[]⟩)]⟩),([22,168,6,19],⟨some ⟨(.cons kS (.cons yI (.cons kI (anyN 4 (.cons (.ptr 2 0) (.cons (.ptr 3 0) (anyN 1 (.cons (.ptr 4 0) (anyN 26 (.cons kI (.cons yI (anyN 36 .nil)))))))))))),[.mapo tI yT15 true,.cells 231 true yS24,.cells 231 true yS24,.cells 220 true yS19,.cells 220 true yS17],[⟨⟨0,.str,9,true,true⟩,true⟩],[]⟩,[(.exit 0,⟨(.cons kS (.cons yI (.cons kI (anyN 4 (.cons (.ptr 2 0) (.cons (.ptr 3 0) (anyN 1 (.cons (.ptr 4 0) (anyN 64 .nil))))))))),[.mapo tI yT15 true,.cells 231 true yS24,.cells 231 true yS24,.cells 220 true yS19,.cells 220 true yS17],[⟨⟨0,.str,9,true,true⟩,false⟩],[]⟩),(.ret,⟨(anyN 8 (.cons (.ptr 3 0) (.cons (.ty .bool) (anyN 65 .nil)))),[.mapo tI yT15 true,.cells 231 true yS24,.cells 231 true yS24,.cells 220 true yS19,.cells 220 true yS17],[⟨⟨0,.str,9,true,true⟩,false⟩],[]⟩)]⟩)]
@[reducible] def fs_data_Expand:List (Nat×SFn):=[(153,.pure [.str,tI] [.str,tI,tI] (fun x=>F_comp_Read x.1 x.2)),(123,.pure [.str,tI,tI] [.str,.bool] (fun x=>F_octet_Take x.1 x.2.1 x.2.2)),(160,.pure [(.agg (.cons .str (.cons .str (.list .str))))] [.str] (fun x=>F_data_parts_whole x)),(169,.pure [.str] [.bool] (fun x=>F_data_texts x))]
theorem told_data_Expand:Told CC Tryz.prog 155 [.str,tI,tI,tI] [.str,tI] (fun x=>F_data_Expand x.1 x.2.1 x.2.2.1 x.2.2.2):=told_of (n:=100000) (gok (an:=ann_data_Expand) (fs:=fs_data_Expand) ⟨told_comp_Read,told_octet_Take,told_data_parts_whole,told_data_texts,trivial⟩) rfl rfl (fun x=>by kernel_rfl)
end
end Go.Abs

set_option maxRecDepth 100000
namespace Go.Abs
open Go Go.Proofs
noncomputable section
def F_data_Check (kind_1:Int) (d_2:List UInt8):Option (Bool) :=
 if decide (65535<(↑d_2.length:Int))=true then
  some false
 else
  bnd (F_data_Expand d_2 0 (↑d_2.length:Int) kind_1) fun (v3,v4) =>
  if (v4==0)=true then
   some (v3==d_2)
  else
   some false
def ann_data_Check:List (List Nat×Ann):=[]
@[reducible] def fs_data_Check:List (Nat×SFn):=[(155,.pure [.str,tI,tI,tI] [.str,tI] (fun x=>F_data_Expand x.1 x.2.1 x.2.2.1 x.2.2.2))]
theorem told_data_Check:Told CC Tryz.prog 141 [tI,.str] [.bool] (fun x=>F_data_Check x.1 x.2):=told_of (n:=100000) (gok (an:=ann_data_Check) (fs:=fs_data_Check) ⟨told_data_Expand,trivial⟩) rfl rfl (fun x=>by kernel_rfl)
def F_record_Check (r_1:(List UInt8×(Int×(Int×(Int×List UInt8))))):Option (Bool) :=
 bnd (F_name_Check r_1.1) fun v2 =>
 if v2=true then
  bnd (F_record_in r_1.2.1 65535) fun v3 =>
  if v3=true then
   bnd (F_record_in r_1.2.2.1 65535) fun v4 =>
   if v4=true then
    bnd (F_record_in r_1.2.2.2.1 2147483647) fun v5 =>
    if v5=true then
     bnd (F_data_Check r_1.2.1 r_1.2.2.2.2) fun v6 =>
     some v6
    else
     some false
   else
    some false
  else
   some false
 else
  some false
def ann_record_Check:List (List Nat×Ann):=[]
@[reducible] def fs_record_Check:List (Nat×SFn):=[(75,.pure [.str] [.bool] (fun x=>F_name_Check x)),(148,.pure [tI,tI] [.bool] (fun x=>F_record_in x.1 x.2)),(141,.pure [tI,.str] [.bool] (fun x=>F_data_Check x.1 x.2))]
theorem told_record_Check:Told CC Tryz.prog 116 [tRR] [.bool] (fun x=>F_record_Check x):=told_of (n:=100000) (gok (an:=ann_record_Check) (fs:=fs_record_Check) ⟨told_name_Check,told_record_in,told_data_Check,trivial⟩) rfl rfl (fun x=>by kernel_rfl)
def F_msg_Check_1 (r_1:(List UInt8×(Int×(Int×(Int×List UInt8))))):Option (Bool) :=
 bnd (F_record_Check (r_1.1,r_1.2.1,r_1.2.2.1,r_1.2.2.2.1,r_1.2.2.2.2)) fun v2 =>
 some (!v2)
def ann_msg_Check_1:List (List Nat×Ann):=[]
@[reducible] def fs_msg_Check_1:List (Nat×SFn):=[(116,.pure [tRR] [.bool] (fun x=>F_record_Check x))]
theorem told_msg_Check_1:Told CC Tryz.prog 133 [tRR] [.bool] (fun x=>F_msg_Check_1 x):=told_of (n:=100000) (gok (an:=ann_msg_Check_1) (fs:=fs_msg_Check_1) ⟨told_record_Check,trivial⟩) rfl rfl (fun x=>by kernel_rfl)
end
end Go.Abs

set_option maxRecDepth 100000
namespace Go.Abs
open Go Go.Proofs
noncomputable section
def step_msg_Check_0 (m_1:Int×Int×List (List UInt8×Int×Int)×List (List UInt8×Int×Int×Int×List UInt8)×List (List UInt8×Int×Int×Int×List UInt8)×List (List UInt8×Int×Int×Int×List UInt8)):Int→Option (Int ⊕ (Int ⊕ Unit)):=fun s8_3 =>
 if decide (s8_3<(↑(List.length m_1.2.2.2.1):Int))=true then
  natOf s8_3 fun n4 =>
  bnd (m_1.2.2.2.1[n4]?) fun x5 =>
  bnd (F_msg_Check_1 (x5.1,x5.2.1,x5.2.2.1,x5.2.2.2.1,x5.2.2.2.2)) fun v6 =>
  if v6=true then
   g6 m_1 <|
   some (.inr (.inl s8_3))
  else
   gq m_1.2.2.2.1 <|
   grdEq ((↑(List.length m_1.2.2.2.1):Int)) ((↑(List.length m_1.2.2.2.1):Int)) <|
   g6 m_1 <|
   some (.inl (IntKind.i64.wrap (s8_3+1)))
 else
  g6 m_1 <|
  some (.inr (.inr (())))
def step_msg_Check_1 (m_1:Int×Int×List (List UInt8×Int×Int)×List (List UInt8×Int×Int×Int×List UInt8)×List (List UInt8×Int×Int×Int×List UInt8)×List (List UInt8×Int×Int×Int×List UInt8)):Int→Option (Int ⊕ (Int ⊕ Unit)):=fun s8_10 =>
 if decide (s8_10<(↑(List.length m_1.2.2.2.2.1):Int))=true then
  natOf s8_10 fun n11 =>
  bnd (m_1.2.2.2.2.1[n11]?) fun x12 =>
  bnd (F_msg_Check_1 (x12.1,x12.2.1,x12.2.2.1,x12.2.2.2.1,x12.2.2.2.2)) fun v13 =>
  if v13=true then
   g6 m_1 <|
   some (.inr (.inl s8_10))
  else
   gq m_1.2.2.2.2.1 <|
   grdEq ((↑(List.length m_1.2.2.2.2.1):Int)) ((↑(List.length m_1.2.2.2.2.1):Int)) <|
   g6 m_1 <|
   some (.inl (IntKind.i64.wrap (s8_10+1)))
 else
  g6 m_1 <|
  some (.inr (.inr (())))
def step_msg_Check_2 (m_1:Int×Int×List (List UInt8×Int×Int)×List (List UInt8×Int×Int×Int×List UInt8)×List (List UInt8×Int×Int×Int×List UInt8)×List (List UInt8×Int×Int×Int×List UInt8)):Int→Option (Int ⊕ (Int ⊕ Unit)):=fun s8_17 =>
 if decide (s8_17<(↑(List.length m_1.2.2.2.2.2):Int))=true then
  natOf s8_17 fun n18 =>
  bnd (m_1.2.2.2.2.2[n18]?) fun x19 =>
  bnd (F_msg_Check_1 (x19.1,x19.2.1,x19.2.2.1,x19.2.2.2.1,x19.2.2.2.2)) fun v20 =>
  if v20=true then
   g6 m_1 <|
   some (.inr (.inl s8_17))
  else
   gq m_1.2.2.2.2.2 <|
   grdEq ((↑(List.length m_1.2.2.2.2.2):Int)) ((↑(List.length m_1.2.2.2.2.2):Int)) <|
   g6 m_1 <|
   some (.inl (IntKind.i64.wrap (s8_17+1)))
 else
  g6 m_1 <|
  some (.inr (.inr (())))
def step_msg_Check_3 (m_1:Int×Int×List (List UInt8×Int×Int)×List (List UInt8×Int×Int×Int×List UInt8)×List (List UInt8×Int×Int×Int×List UInt8)×List (List UInt8×Int×Int×Int×List UInt8)):Int→Option (Int ⊕ (Int ⊕ Unit)):=fun s8_26 =>
 if decide (s8_26<(↑(List.length m_1.2.2.1):Int))=true then
  natOf s8_26 fun n27 =>
  bnd (m_1.2.2.1[n27]?) fun x28 =>
  bnd (F_msg_Check_2 (x28.1,x28.2.1,x28.2.2)) fun v29 =>
  if v29=true then
   g6 m_1 <|
   some (.inr (.inl s8_26))
  else
   gq m_1.2.2.1 <|
   grdEq ((↑(List.length m_1.2.2.1):Int)) ((↑(List.length m_1.2.2.1):Int)) <|
   g6 m_1 <|
   some (.inl (IntKind.i64.wrap (s8_26+1)))
 else
  g6 m_1 <|
  some (.inr (.inr (())))
def step_msg_Check_4 (m_1:Int×Int×List (List UInt8×Int×Int)×List (List UInt8×Int×Int×Int×List UInt8)×List (List UInt8×Int×Int×Int×List UInt8)×List (List UInt8×Int×Int×Int×List UInt8)):Int→Option (Int ⊕ (Int ⊕ Unit)):=fun s8_35 =>
 if decide (s8_35<(↑(List.length m_1.2.2.1):Int))=true then
  natOf s8_35 fun n36 =>
  bnd (m_1.2.2.1[n36]?) fun x37 =>
  bnd (F_msg_Check_2 (x37.1,x37.2.1,x37.2.2)) fun v38 =>
  if v38=true then
   g6 m_1 <|
   some (.inr (.inl s8_35))
  else
   gq m_1.2.2.1 <|
   grdEq ((↑(List.length m_1.2.2.1):Int)) ((↑(List.length m_1.2.2.1):Int)) <|
   g6 m_1 <|
   some (.inl (IntKind.i64.wrap (s8_35+1)))
 else
  g6 m_1 <|
  some (.inr (.inr (())))
def step_msg_Check_5 (m_1:Int×Int×List (List UInt8×Int×Int)×List (List UInt8×Int×Int×Int×List UInt8)×List (List UInt8×Int×Int×Int×List UInt8)×List (List UInt8×Int×Int×Int×List UInt8)):Int→Option (Int ⊕ (Int ⊕ Unit)):=fun s8_42 =>
 if decide (s8_42<(↑(List.length m_1.2.2.2.2.2):Int))=true then
  natOf s8_42 fun n43 =>
  bnd (m_1.2.2.2.2.2[n43]?) fun x44 =>
  bnd (F_msg_Check_1 (x44.1,x44.2.1,x44.2.2.1,x44.2.2.2.1,x44.2.2.2.2)) fun v45 =>
  if v45=true then
   g6 m_1 <|
   some (.inr (.inl s8_42))
  else
   gq m_1.2.2.2.2.2 <|
   grdEq ((↑(List.length m_1.2.2.2.2.2):Int)) ((↑(List.length m_1.2.2.2.2.2):Int)) <|
   g6 m_1 <|
   some (.inl (IntKind.i64.wrap (s8_42+1)))
 else
  g6 m_1 <|
  some (.inr (.inr (())))
def step_msg_Check_6 (m_1:Int×Int×List (List UInt8×Int×Int)×List (List UInt8×Int×Int×Int×List UInt8)×List (List UInt8×Int×Int×Int×List UInt8)×List (List UInt8×Int×Int×Int×List UInt8)):Int→Option (Int ⊕ (Int ⊕ Unit)):=fun s8_51 =>
 if decide (s8_51<(↑(List.length m_1.2.2.1):Int))=true then
  natOf s8_51 fun n52 =>
  bnd (m_1.2.2.1[n52]?) fun x53 =>
  bnd (F_msg_Check_2 (x53.1,x53.2.1,x53.2.2)) fun v54 =>
  if v54=true then
   g6 m_1 <|
   some (.inr (.inl s8_51))
  else
   gq m_1.2.2.1 <|
   grdEq ((↑(List.length m_1.2.2.1):Int)) ((↑(List.length m_1.2.2.1):Int)) <|
   g6 m_1 <|
   some (.inl (IntKind.i64.wrap (s8_51+1)))
 else
  g6 m_1 <|
  some (.inr (.inr (())))
def step_msg_Check_7 (m_1:Int×Int×List (List UInt8×Int×Int)×List (List UInt8×Int×Int×Int×List UInt8)×List (List UInt8×Int×Int×Int×List UInt8)×List (List UInt8×Int×Int×Int×List UInt8)):Int→Option (Int ⊕ (Int ⊕ Unit)):=fun s8_60 =>
 if decide (s8_60<(↑(List.length m_1.2.2.1):Int))=true then
  natOf s8_60 fun n61 =>
  bnd (m_1.2.2.1[n61]?) fun x62 =>
  bnd (F_msg_Check_2 (x62.1,x62.2.1,x62.2.2)) fun v63 =>
  if v63=true then
   g6 m_1 <|
   some (.inr (.inl s8_60))
  else
   gq m_1.2.2.1 <|
   grdEq ((↑(List.length m_1.2.2.1):Int)) ((↑(List.length m_1.2.2.1):Int)) <|
   g6 m_1 <|
   some (.inl (IntKind.i64.wrap (s8_60+1)))
 else
  g6 m_1 <|
  some (.inr (.inr (())))
def step_msg_Check_8 (m_1:Int×Int×List (List UInt8×Int×Int)×List (List UInt8×Int×Int×Int×List UInt8)×List (List UInt8×Int×Int×Int×List UInt8)×List (List UInt8×Int×Int×Int×List UInt8)):Int→Option (Int ⊕ (Int ⊕ Unit)):=fun s8_67 =>
 if decide (s8_67<(↑(List.length m_1.2.2.2.2.1):Int))=true then
  natOf s8_67 fun n68 =>
  bnd (m_1.2.2.2.2.1[n68]?) fun x69 =>
  bnd (F_msg_Check_1 (x69.1,x69.2.1,x69.2.2.1,x69.2.2.2.1,x69.2.2.2.2)) fun v70 =>
  if v70=true then
   g6 m_1 <|
   some (.inr (.inl s8_67))
  else
   gq m_1.2.2.2.2.1 <|
   grdEq ((↑(List.length m_1.2.2.2.2.1):Int)) ((↑(List.length m_1.2.2.2.2.1):Int)) <|
   g6 m_1 <|
   some (.inl (IntKind.i64.wrap (s8_67+1)))
 else
  g6 m_1 <|
  some (.inr (.inr (())))
def step_msg_Check_9 (m_1:Int×Int×List (List UInt8×Int×Int)×List (List UInt8×Int×Int×Int×List UInt8)×List (List UInt8×Int×Int×Int×List UInt8)×List (List UInt8×Int×Int×Int×List UInt8)):Int→Option (Int ⊕ (Int ⊕ Unit)):=fun s8_74 =>
 if decide (s8_74<(↑(List.length m_1.2.2.2.2.2):Int))=true then
  natOf s8_74 fun n75 =>
  bnd (m_1.2.2.2.2.2[n75]?) fun x76 =>
  bnd (F_msg_Check_1 (x76.1,x76.2.1,x76.2.2.1,x76.2.2.2.1,x76.2.2.2.2)) fun v77 =>
  if v77=true then
   g6 m_1 <|
   some (.inr (.inl s8_74))
  else
   gq m_1.2.2.2.2.2 <|
   grdEq ((↑(List.length m_1.2.2.2.2.2):Int)) ((↑(List.length m_1.2.2.2.2.2):Int)) <|
   g6 m_1 <|
   some (.inl (IntKind.i64.wrap (s8_74+1)))
 else
  g6 m_1 <|
  some (.inr (.inr (())))
def step_msg_Check_10 (m_1:Int×Int×List (List UInt8×Int×Int)×List (List UInt8×Int×Int×Int×List UInt8)×List (List UInt8×Int×Int×Int×List UInt8)×List (List UInt8×Int×Int×Int×List UInt8)):Int→Option (Int ⊕ (Int ⊕ Unit)):=fun s8_83 =>
 if decide (s8_83<(↑(List.length m_1.2.2.1):Int))=true then
  natOf s8_83 fun n84 =>
  bnd (m_1.2.2.1[n84]?) fun x85 =>
  bnd (F_msg_Check_2 (x85.1,x85.2.1,x85.2.2)) fun v86 =>
  if v86=true then
   g6 m_1 <|
   some (.inr (.inl s8_83))
  else
   gq m_1.2.2.1 <|
   grdEq ((↑(List.length m_1.2.2.1):Int)) ((↑(List.length m_1.2.2.1):Int)) <|
   g6 m_1 <|
   some (.inl (IntKind.i64.wrap (s8_83+1)))
 else
  g6 m_1 <|
  some (.inr (.inr (())))
def step_msg_Check_11 (m_1:Int×Int×List (List UInt8×Int×Int)×List (List UInt8×Int×Int×Int×List UInt8)×List (List UInt8×Int×Int×Int×List UInt8)×List (List UInt8×Int×Int×Int×List UInt8)):Int→Option (Int ⊕ (Int ⊕ Unit)):=fun s8_92 =>
 if decide (s8_92<(↑(List.length m_1.2.2.1):Int))=true then
  natOf s8_92 fun n93 =>
  bnd (m_1.2.2.1[n93]?) fun x94 =>
  bnd (F_msg_Check_2 (x94.1,x94.2.1,x94.2.2)) fun v95 =>
  if v95=true then
   g6 m_1 <|
   some (.inr (.inl s8_92))
  else
   gq m_1.2.2.1 <|
   grdEq ((↑(List.length m_1.2.2.1):Int)) ((↑(List.length m_1.2.2.1):Int)) <|
   g6 m_1 <|
   some (.inl (IntKind.i64.wrap (s8_92+1)))
 else
  g6 m_1 <|
  some (.inr (.inr (())))
def step_msg_Check_12 (m_1:Int×Int×List (List UInt8×Int×Int)×List (List UInt8×Int×Int×Int×List UInt8)×List (List UInt8×Int×Int×Int×List UInt8)×List (List UInt8×Int×Int×Int×List UInt8)):Int→Option (Int ⊕ (Int ⊕ Unit)):=fun s8_99 =>
 if decide (s8_99<(↑(List.length m_1.2.2.2.2.2):Int))=true then
  natOf s8_99 fun n100 =>
  bnd (m_1.2.2.2.2.2[n100]?) fun x101 =>
  bnd (F_msg_Check_1 (x101.1,x101.2.1,x101.2.2.1,x101.2.2.2.1,x101.2.2.2.2)) fun v102 =>
  if v102=true then
   g6 m_1 <|
   some (.inr (.inl s8_99))
  else
   gq m_1.2.2.2.2.2 <|
   grdEq ((↑(List.length m_1.2.2.2.2.2):Int)) ((↑(List.length m_1.2.2.2.2.2):Int)) <|
   g6 m_1 <|
   some (.inl (IntKind.i64.wrap (s8_99+1)))
 else
  g6 m_1 <|
  some (.inr (.inr (())))
def step_msg_Check_13 (m_1:Int×Int×List (List UInt8×Int×Int)×List (List UInt8×Int×Int×Int×List UInt8)×List (List UInt8×Int×Int×Int×List UInt8)×List (List UInt8×Int×Int×Int×List UInt8)):Int→Option (Int ⊕ (Int ⊕ Unit)):=fun s8_108 =>
 if decide (s8_108<(↑(List.length m_1.2.2.1):Int))=true then
  natOf s8_108 fun n109 =>
  bnd (m_1.2.2.1[n109]?) fun x110 =>
  bnd (F_msg_Check_2 (x110.1,x110.2.1,x110.2.2)) fun v111 =>
  if v111=true then
   g6 m_1 <|
   some (.inr (.inl s8_108))
  else
   gq m_1.2.2.1 <|
   grdEq ((↑(List.length m_1.2.2.1):Int)) ((↑(List.length m_1.2.2.1):Int)) <|
   g6 m_1 <|
   some (.inl (IntKind.i64.wrap (s8_108+1)))
 else
  g6 m_1 <|
  some (.inr (.inr (())))
def step_msg_Check_14 (m_1:Int×Int×List (List UInt8×Int×Int)×List (List UInt8×Int×Int×Int×List UInt8)×List (List UInt8×Int×Int×Int×List UInt8)×List (List UInt8×Int×Int×Int×List UInt8)):Int→Option (Int ⊕ (Int ⊕ Unit)):=fun s8_117 =>
 if decide (s8_117<(↑(List.length m_1.2.2.1):Int))=true then
  natOf s8_117 fun n118 =>
  bnd (m_1.2.2.1[n118]?) fun x119 =>
  bnd (F_msg_Check_2 (x119.1,x119.2.1,x119.2.2)) fun v120 =>
  if v120=true then
   g6 m_1 <|
   some (.inr (.inl s8_117))
  else
   gq m_1.2.2.1 <|
   grdEq ((↑(List.length m_1.2.2.1):Int)) ((↑(List.length m_1.2.2.1):Int)) <|
   g6 m_1 <|
   some (.inl (IntKind.i64.wrap (s8_117+1)))
 else
  g6 m_1 <|
  some (.inr (.inr (())))
def F_msg_Check (m_1:(Int×(Int×(List ((List UInt8×(Int×Int)))×(List ((List UInt8×(Int×(Int×(Int×List UInt8)))))×(List ((List UInt8×(Int×(Int×(Int×List UInt8)))))×List ((List UInt8×(Int×(Int×(Int×List UInt8))))))))))):Option (Bool) :=
 bnd (F_msg_small (↑(List.length m_1.2.2.2.1):Int)) fun v2 =>
 if (!v2)=false then
  bnd (loopS (step_msg_Check_0 m_1) 0) fun o7 =>
  match o7 with
  | .inl s4_8 =>
   if decide (0≤s4_8)=true then
    some false
   else
    bnd (F_msg_small (↑(List.length m_1.2.2.2.2.1):Int)) fun v9 =>
    if (!v9)=false then
     bnd (loopS (step_msg_Check_1 m_1) 0) fun o14 =>
     match o14 with
     | .inl s4_15 =>
      if decide (0≤s4_15)=true then
       some false
      else
       bnd (F_msg_small (↑(List.length m_1.2.2.2.2.2):Int)) fun v16 =>
       if (!v16)=false then
        bnd (loopS (step_msg_Check_2 m_1) 0) fun o21 =>
        match o21 with
        | .inl s4_22 =>
         if decide (0≤s4_22)=true then
          some false
         else
          bnd (F_msg_small m_1.1) fun v23 =>
          if v23=true then
           bnd (F_msg_small m_1.2.1) fun v24 =>
           if v24=true then
            bnd (F_msg_small (↑(List.length m_1.2.2.1):Int)) fun v25 =>
            if v25=true then
             bnd (loopS (step_msg_Check_3 m_1) 0) fun o30 =>
             match o30 with
             | .inl s4_31 =>
              some (!decide (0≤s4_31))
             | .inr _ =>
              some true
            else
             some false
           else
            some false
          else
           some false
        | .inr _ =>
         bnd (F_msg_small m_1.1) fun v32 =>
         if v32=true then
          bnd (F_msg_small m_1.2.1) fun v33 =>
          if v33=true then
           bnd (F_msg_small (↑(List.length m_1.2.2.1):Int)) fun v34 =>
           if v34=true then
            bnd (loopS (step_msg_Check_4 m_1) 0) fun o39 =>
            match o39 with
            | .inl s4_40 =>
             some (!decide (0≤s4_40))
            | .inr _ =>
             some true
           else
            some false
          else
           some false
         else
          some false
       else
        some false
     | .inr _ =>
      bnd (F_msg_small (↑(List.length m_1.2.2.2.2.2):Int)) fun v41 =>
      if (!v41)=false then
       bnd (loopS (step_msg_Check_5 m_1) 0) fun o46 =>
       match o46 with
       | .inl s4_47 =>
        if decide (0≤s4_47)=true then
         some false
        else
         bnd (F_msg_small m_1.1) fun v48 =>
         if v48=true then
          bnd (F_msg_small m_1.2.1) fun v49 =>
          if v49=true then
           bnd (F_msg_small (↑(List.length m_1.2.2.1):Int)) fun v50 =>
           if v50=true then
            bnd (loopS (step_msg_Check_6 m_1) 0) fun o55 =>
            match o55 with
            | .inl s4_56 =>
             some (!decide (0≤s4_56))
            | .inr _ =>
             some true
           else
            some false
          else
           some false
         else
          some false
       | .inr _ =>
        bnd (F_msg_small m_1.1) fun v57 =>
        if v57=true then
         bnd (F_msg_small m_1.2.1) fun v58 =>
         if v58=true then
          bnd (F_msg_small (↑(List.length m_1.2.2.1):Int)) fun v59 =>
          if v59=true then
           bnd (loopS (step_msg_Check_7 m_1) 0) fun o64 =>
           match o64 with
           | .inl s4_65 =>
            some (!decide (0≤s4_65))
           | .inr _ =>
            some true
          else
           some false
         else
          some false
        else
         some false
      else
       some false
    else
     some false
  | .inr _ =>
   bnd (F_msg_small (↑(List.length m_1.2.2.2.2.1):Int)) fun v66 =>
   if (!v66)=false then
    bnd (loopS (step_msg_Check_8 m_1) 0) fun o71 =>
    match o71 with
    | .inl s4_72 =>
     if decide (0≤s4_72)=true then
      some false
     else
      bnd (F_msg_small (↑(List.length m_1.2.2.2.2.2):Int)) fun v73 =>
      if (!v73)=false then
       bnd (loopS (step_msg_Check_9 m_1) 0) fun o78 =>
       match o78 with
       | .inl s4_79 =>
        if decide (0≤s4_79)=true then
         some false
        else
         bnd (F_msg_small m_1.1) fun v80 =>
         if v80=true then
          bnd (F_msg_small m_1.2.1) fun v81 =>
          if v81=true then
           bnd (F_msg_small (↑(List.length m_1.2.2.1):Int)) fun v82 =>
           if v82=true then
            bnd (loopS (step_msg_Check_10 m_1) 0) fun o87 =>
            match o87 with
            | .inl s4_88 =>
             some (!decide (0≤s4_88))
            | .inr _ =>
             some true
           else
            some false
          else
           some false
         else
          some false
       | .inr _ =>
        bnd (F_msg_small m_1.1) fun v89 =>
        if v89=true then
         bnd (F_msg_small m_1.2.1) fun v90 =>
         if v90=true then
          bnd (F_msg_small (↑(List.length m_1.2.2.1):Int)) fun v91 =>
          if v91=true then
           bnd (loopS (step_msg_Check_11 m_1) 0) fun o96 =>
           match o96 with
           | .inl s4_97 =>
            some (!decide (0≤s4_97))
           | .inr _ =>
            some true
          else
           some false
         else
          some false
        else
         some false
      else
       some false
    | .inr _ =>
     bnd (F_msg_small (↑(List.length m_1.2.2.2.2.2):Int)) fun v98 =>
     if (!v98)=false then
      bnd (loopS (step_msg_Check_12 m_1) 0) fun o103 =>
      match o103 with
      | .inl s4_104 =>
       if decide (0≤s4_104)=true then
        some false
       else
        bnd (F_msg_small m_1.1) fun v105 =>
        if v105=true then
         bnd (F_msg_small m_1.2.1) fun v106 =>
         if v106=true then
          bnd (F_msg_small (↑(List.length m_1.2.2.1):Int)) fun v107 =>
          if v107=true then
           bnd (loopS (step_msg_Check_13 m_1) 0) fun o112 =>
           match o112 with
           | .inl s4_113 =>
            some (!decide (0≤s4_113))
           | .inr _ =>
            some true
          else
           some false
         else
          some false
        else
         some false
      | .inr _ =>
       bnd (F_msg_small m_1.1) fun v114 =>
       if v114=true then
        bnd (F_msg_small m_1.2.1) fun v115 =>
        if v115=true then
         bnd (F_msg_small (↑(List.length m_1.2.2.1):Int)) fun v116 =>
         if v116=true then
          bnd (loopS (step_msg_Check_14 m_1) 0) fun o121 =>
          match o121 with
          | .inl s4_122 =>
           some (!decide (0≤s4_122))
          | .inr _ =>
           some true
         else
          some false
        else
         some false
       else
        some false
     else
      some false
   else
    some false
 else
  some false
def ann_msg_Check:List (List Nat×Ann):=[([6],⟨none,[]⟩),([6,1000000],⟨none,[]⟩),([6,1000000,1000000],⟨none,[]⟩),([6,1000000,1000000,1000000],⟨none,[]⟩),([6,1000000,1000000,1000000,1000000],⟨none,[]⟩),([6,128,2,3,130,10,18],⟨some ⟨yS34,[.cells 63 true yS4,.cells 177 true yS7],[],[]⟩,[(.ret,⟨yS41,[.cells 63 true yS4,.cells 177 true yS7],[],[]⟩),(.exit 0,⟨(anyN 19 .nil),[.cells 63 true yS4,.cells 177 true yS7],[],[]⟩)]⟩),([6,128,2,3,130,10,18,1000000],⟨some ⟨yS34,[.cells 63 true yS4,.cells 177 true yS7],[],[]⟩,[(.ret,⟨yS41,[.cells 63 true yS4,.cells 177 true yS7],[],[]⟩),(.exit 0,⟨(anyN 19 .nil),[.cells 63 true yS4,.cells 177 true yS7],[],[]⟩)]⟩),([6,128,2,3,130,10,18,1000000,1000000],⟨some ⟨yS34,[.cells 63 true yS4,.cells 177 true yS7],[],[]⟩,[(.ret,⟨yS41,[.cells 63 true yS4,.cells 177 true yS7],[],[]⟩),(.exit 0,⟨(anyN 19 .nil),[.cells 63 true yS4,.cells 177 true yS7],[],[]⟩)]⟩),([6,156,2,3,135,18,28],⟨some ⟨(.cons (.keep (.list tQ)) (.cons (.func 134 .nil .nil) (anyN 5 (.cons kI (.cons yI (anyN 10 .nil)))))),[.cells 63 true yS4,.cells 177 true yS7],[],[]⟩,[(.ret,⟨yS41,[.cells 63 true yS4,.cells 177 true yS7],[],[]⟩),(.exit 0,⟨(anyN 19 .nil),[.cells 63 true yS4,.cells 177 true yS7],[],[]⟩)]⟩)]
@[reducible] def fs_msg_Check:List (Nat×SFn):=[(133,.pure [tRR] [.bool] (fun x=>F_msg_Check_1 x)),(134,.pure [tQ] [.bool] (fun x=>F_msg_Check_2 x)),(132,.pure [tI] [.bool] (fun x=>F_msg_small x))]
theorem told_msg_Check:Told CC Tryz.prog 102 [tM] [.bool] (fun x=>F_msg_Check x):=told_of (n:=100000) (gok (an:=ann_msg_Check) (fs:=fs_msg_Check) ⟨told_msg_Check_1,told_msg_Check_2,told_msg_small,trivial⟩) rfl rfl (fun x=>by kernel_rfl)
def step_data_Low_0 (kind_1:Int) (d_2:List UInt8) (n4:Nat):(Int×(Int×(List ((Int×(Int×(Int×Int))))×List (List UInt8))))→Option ((Int×(Int×(List ((Int×(Int×(Int×Int))))×List (List UInt8)))) ⊕ ((Int×(List ((Int×(Int×(Int×Int))))×List (List UInt8))) ⊕ (Bool×(List ((Int×(Int×(Int×Int))))×List (List UInt8))))):=fun (at_5,s38_6,m1_7,b5c_8) =>
 if decide (s38_6<((shpF kind_1).getD (0,0,0)).2.1)=true then
  bnd (F_comp_Read d_2 at_5) fun (v9,v10,v11) =>
  bnd (α:=((Bool×(List ((Int×(Int×(Int×Int))))×List (List UInt8))) ⊕ (List ((Int×(Int×(Int×Int))))×List (List UInt8)))) (if (v11 != 0)=false then
    if decide ((↑d_2.length:Int)<v10)=true then
     gq (α:=List UInt8) ([])<|gq (α:=List UInt8) ([]) <|
     grdEq (((shpF kind_1).getD (0,0,0)).1) (((shpF kind_1).getD (0,0,0)).1) <|
     grdEq (((shpF kind_1).getD (0,0,0)).2.1) (((shpF kind_1).getD (0,0,0)).2.1) <|
     grdEq (((shpF kind_1).getD (0,0,0)).2.2) (((shpF kind_1).getD (0,0,0)).2.2) <|
     grdEq (((shpF kind_1).getD (0,0,0)).1) (((shpF kind_1).getD (0,0,0)).1) <|
     grdEq (((shpF kind_1).getD (0,0,0)).2.1) (((shpF kind_1).getD (0,0,0)).2.1) <|
     grdEq (((shpF kind_1).getD (0,0,0)).2.2) (((shpF kind_1).getD (0,0,0)).2.2) <|
     gq (α:=List UInt8) ([])<|gq (α:=List UInt8) ([]) <|
     grdEq (List.drop 0 (List.take n4 d_2)) (List.drop 0 (List.take n4 d_2)) <|
     gq (α:=List UInt8) ([]) <|
     some (.inl ((false,(m1_7,b5c_8))))
    else
     gq d_2 <|
     grdEq ((↑d_2.length:Int)) ((↑d_2.length:Int)) <|
     gq v9<|gq v10 <|
     grdEq (((shpF kind_1).getD (0,0,0)).2.1) (((shpF kind_1).getD (0,0,0)).2.1) <|
     gq s38_6<|gq (α:=List UInt8) ([])<|gq (α:=List UInt8) ([]) <|
     grdEq (((shpF kind_1).getD (0,0,0)).1) (((shpF kind_1).getD (0,0,0)).1) <|
     grdEq (((shpF kind_1).getD (0,0,0)).2.1) (((shpF kind_1).getD (0,0,0)).2.1) <|
     grdEq (((shpF kind_1).getD (0,0,0)).2.2) (((shpF kind_1).getD (0,0,0)).2.2) <|
     grdEq (((shpF kind_1).getD (0,0,0)).1) (((shpF kind_1).getD (0,0,0)).1) <|
     grdEq (((shpF kind_1).getD (0,0,0)).2.1) (((shpF kind_1).getD (0,0,0)).2.1) <|
     grdEq (((shpF kind_1).getD (0,0,0)).2.2) (((shpF kind_1).getD (0,0,0)).2.2) <|
     gq (α:=List UInt8) ([])<|gq (α:=List UInt8) ([]) <|
     grdEq (List.drop 0 (List.take n4 d_2)) (List.drop 0 (List.take n4 d_2)) <|
     gq (α:=List UInt8) ([]) <|
     some (.inr ((m1_7,b5c_8)))
   else
    gq (α:=List UInt8) ([])<|gq (α:=List UInt8) ([]) <|
    grdEq (((shpF kind_1).getD (0,0,0)).1) (((shpF kind_1).getD (0,0,0)).1) <|
    grdEq (((shpF kind_1).getD (0,0,0)).2.1) (((shpF kind_1).getD (0,0,0)).2.1) <|
    grdEq (((shpF kind_1).getD (0,0,0)).2.2) (((shpF kind_1).getD (0,0,0)).2.2) <|
    grdEq (((shpF kind_1).getD (0,0,0)).1) (((shpF kind_1).getD (0,0,0)).1) <|
    grdEq (((shpF kind_1).getD (0,0,0)).2.1) (((shpF kind_1).getD (0,0,0)).2.1) <|
    grdEq (((shpF kind_1).getD (0,0,0)).2.2) (((shpF kind_1).getD (0,0,0)).2.2) <|
    gq (α:=List UInt8) ([])<|gq (α:=List UInt8) ([]) <|
    grdEq (List.drop 0 (List.take n4 d_2)) (List.drop 0 (List.take n4 d_2)) <|
    gq (α:=List UInt8) ([]) <|
    some (.inl ((false,(m1_7,b5c_8))))) fun o12 =>
  match o12 with
  | .inl (s9_13,m1_14,b5c_15) =>
   gq (α:=List UInt8) ([])<|gq (α:=List UInt8) ([]) <|
   grdEq (((shpF kind_1).getD (0,0,0)).1) (((shpF kind_1).getD (0,0,0)).1) <|
   grdEq (((shpF kind_1).getD (0,0,0)).2.1) (((shpF kind_1).getD (0,0,0)).2.1) <|
   grdEq (((shpF kind_1).getD (0,0,0)).2.2) (((shpF kind_1).getD (0,0,0)).2.2) <|
   grdEq (((shpF kind_1).getD (0,0,0)).1) (((shpF kind_1).getD (0,0,0)).1) <|
   grdEq (((shpF kind_1).getD (0,0,0)).2.1) (((shpF kind_1).getD (0,0,0)).2.1) <|
   grdEq (((shpF kind_1).getD (0,0,0)).2.2) (((shpF kind_1).getD (0,0,0)).2.2) <|
   gq (α:=List UInt8) ([])<|gq (α:=List UInt8) ([]) <|
   grdEq (List.drop 0 (List.take n4 d_2)) (List.drop 0 (List.take n4 d_2)) <|
   gq (α:=List UInt8) ([]) <|
   some (.inr (.inr ((s9_13,(m1_14,b5c_15)))))
  | .inr (m1_16,b5c_17) =>
   grd ((b5c_17.length+[v9].length)*16≤roomLim) <|
   gq d_2 <|
   grdEq ((↑d_2.length:Int)) ((↑d_2.length:Int)) <|
   grdEq (((shpF kind_1).getD (0,0,0)).2.1) (((shpF kind_1).getD (0,0,0)).2.1) <|
   gq (α:=List UInt8) ([])<|gq (α:=List UInt8) ([]) <|
   grdEq (((shpF kind_1).getD (0,0,0)).1) (((shpF kind_1).getD (0,0,0)).1) <|
   grdEq (((shpF kind_1).getD (0,0,0)).2.1) (((shpF kind_1).getD (0,0,0)).2.1) <|
   grdEq (((shpF kind_1).getD (0,0,0)).2.2) (((shpF kind_1).getD (0,0,0)).2.2) <|
   grdEq (((shpF kind_1).getD (0,0,0)).1) (((shpF kind_1).getD (0,0,0)).1) <|
   grdEq (((shpF kind_1).getD (0,0,0)).2.1) (((shpF kind_1).getD (0,0,0)).2.1) <|
   grdEq (((shpF kind_1).getD (0,0,0)).2.2) (((shpF kind_1).getD (0,0,0)).2.2) <|
   gq (α:=List UInt8) ([])<|gq (α:=List UInt8) ([]) <|
   grdEq (List.drop 0 (List.take n4 d_2)) (List.drop 0 (List.take n4 d_2)) <|
   gq (α:=List UInt8) ([]) <|
   some (.inl ((v10,(IntKind.i64.wrap (s38_6+1),(m1_16,b5c_17++[v9])))))
 else
  gq d_2 <|
  grdEq ((↑d_2.length:Int)) ((↑d_2.length:Int)) <|
  gq (α:=List UInt8) ([])<|gq (α:=List UInt8) ([]) <|
  grdEq (((shpF kind_1).getD (0,0,0)).1) (((shpF kind_1).getD (0,0,0)).1) <|
  grdEq (((shpF kind_1).getD (0,0,0)).2.1) (((shpF kind_1).getD (0,0,0)).2.1) <|
  grdEq (((shpF kind_1).getD (0,0,0)).2.2) (((shpF kind_1).getD (0,0,0)).2.2) <|
  grdEq (((shpF kind_1).getD (0,0,0)).1) (((shpF kind_1).getD (0,0,0)).1) <|
  grdEq (((shpF kind_1).getD (0,0,0)).2.1) (((shpF kind_1).getD (0,0,0)).2.1) <|
  grdEq (((shpF kind_1).getD (0,0,0)).2.2) (((shpF kind_1).getD (0,0,0)).2.2) <|
  gq (α:=List UInt8) ([])<|gq (α:=List UInt8) ([]) <|
  grdEq (List.drop 0 (List.take n4 d_2)) (List.drop 0 (List.take n4 d_2)) <|
  gq (α:=List UInt8) ([]) <|
  some (.inr (.inl ((at_5,(m1_7,b5c_8)))))
def step_data_Low_1 (kind_26:List UInt8) (kind_27:List UInt8) (kind_28:List (List UInt8)):(List (List UInt8)×(Int×List (List UInt8)))→Option ((List (List UInt8)×(Int×List (List UInt8))) ⊕ List (List UInt8)):=fun (s16_30,s18_31,b0c_32) =>
 if decide (s18_31<(↑kind_28.length:Int))=true then
  natOf s18_31 fun n33 =>
  bnd (s16_30[n33]?) fun x34 =>
  bnd (F_name_Low x34) fun v35 =>
  natOf s18_31 fun n36 =>
  bnd (b0c_32[n36]?) fun x37 =>
  grdEq ((↑kind_28.length:Int)) ((↑kind_28.length:Int)) <|
  gq kind_26<|gq kind_27 <|
  some (.inl ((s16_30.set n36 v35,(IntKind.i64.wrap (s18_31+1),b0c_32.set n36 v35))))
 else
  gq kind_26<|gq kind_27 <|
  some (.inr b0c_32)
def F_data_Low (kind_1:Int) (d_2:List UInt8):Option (List UInt8) :=
 bnd (α:=(List UInt8×(List UInt8×(List (List UInt8)×Bool)))) (bnd (F_data_Check kind_1 d_2) fun v3 =>
  if (!v3)=true then
   some (([],([],([],false))))
  else
   if (!(shpF kind_1).isSome)=true then
    some ((d_2,([],([],true))))
   else
    if (!decide (((shpF kind_1).getD (0,0,0)).1≤IntKind.i64.wrap ((↑d_2.length:Int)-0)))=true then
     some (([],([],([],false))))
    else
     natOf (IntKind.i64.wrap (0+((shpF kind_1).getD (0,0,0)).1)) fun n4 =>
     grd (n4≤d_2.length) <|
     grd (0≤n4) <|
     bnd (loopS (step_data_Low_0 kind_1 d_2 n4) ((IntKind.i64.wrap (0+((shpF kind_1).getD (0,0,0)).1),(0,(sputM tI (.agg (.cons tI (.cons tI tI))) 33 (6,1,0) (sputM tI (.agg (.cons tI (.cons tI tI))) 15 (2,1,0) (sputM tI (.agg (.cons tI (.cons tI tI))) 6 (0,2,20) (sputM tI (.agg (.cons tI (.cons tI tI))) 12 (0,1,0) (sputM tI (.agg (.cons tI (.cons tI tI))) 5 (0,1,0) (sputM tI (.agg (.cons tI (.cons tI tI))) 2 (0,1,0) (sputM tI (.agg (.cons tI (.cons tI tI))) 28 (16,0,0) (sputM tI (.agg (.cons tI (.cons tI tI))) 1 (4,0,0) []))))))),[]))))) fun o18 =>
     match o18 with
     | .inl (at_19,m1_20,b5c_21) =>
      grd (d_2.length≤d_2.length) <|
      natOf at_19 fun n22 =>
      grd (n22≤d_2.length) <|
      some ((List.drop 0 (List.take n4 d_2),(List.drop n22 (List.take d_2.length d_2),(b5c_21,(↑(List.drop n22 (List.take d_2.length d_2)).length:Int)==((shpF kind_1).getD (0,0,0)).2.2))))
     | .inr (s9_23,m1_24,b5c_25) =>
      some (([],([],([],s9_23))))) fun (kind_26,kind_27,kind_28,kind_29) =>
 bnd (loopS (step_data_Low_1 kind_26 kind_27 kind_28) ((kind_28,(0,kind_28)))) fun b0c_38 =>
 bnd (F_data_parts_whole (kind_26,kind_27,b0c_38)) fun v39 =>
 some v39
def ann_data_Low:List (List Nat×Ann):=[([2000000,159,2,3],⟨none,[(.ret,⟨(.cons (.tup (.cons (.agg (.cons (.ty .str) (.cons (.ty .str) (.cons yS37 .nil)))) (.cons (.ty .bool) .nil))) .nil),[],[⟨⟨1,.str,9,true,true⟩,true⟩],[]⟩)]⟩),([33,168,4,21,159,2,3],⟨none,[(.ret,⟨(anyN 8 (.cons (.ptr 4 0) (.cons (.ty .bool) (anyN 65 .nil)))),[.cells 220 true yS19,.mapo tI yT15 true,.cells 231 true yS24,.cells 231 true yS24,.cells 220 true yS19,.cells 220 true yS17],[⟨⟨0,.str,9,true,true⟩,false⟩],[]⟩),(.normal,⟨(.cons kS (anyN 1 (.cons kI (anyN 4 (.cons (.ptr 3 0) (.cons (.ptr 4 0) (anyN 1 (.cons (.ptr 5 0) (anyN 1 (.cons kS (.cons kI (anyN 23 (.cons kI (.cons kI (anyN 36 .nil))))))))))))))),[.cells 220 true yS19,.mapo tI yT15 true,.cells 231 true yS24,.cells 231 true yS24,.cells 220 true yS19,.cells 220 true yS17],[⟨⟨0,.str,9,true,true⟩,false⟩],[]⟩)]⟩),([22,168,4,21,159,2,3],⟨some ⟨(.cons kS (.cons yI (.cons kI (anyN 4 (.cons (.ptr 3 0) (.cons (.ptr 4 0) (anyN 1 (.cons (.ptr 5 0) (anyN 26 (.cons kI (.cons yI (anyN 36 .nil)))))))))))),[.cells 220 true yS19,.mapo tI yT15 true,.cells 231 true yS24,.cells 231 true yS24,.cells 220 true yS19,.cells 220 true yS17],[⟨⟨0,.str,9,true,true⟩,true⟩],[]⟩,[(.exit 0,⟨(.cons kS (.cons yI (.cons kI (anyN 4 (.cons (.ptr 3 0) (.cons (.ptr 4 0) (anyN 1 (.cons (.ptr 5 0) (anyN 64 .nil))))))))),[.cells 220 true yS19,.mapo tI yT15 true,.cells 231 true yS24,.cells 231 true yS24,.cells 220 true yS19,.cells 220 true yS17],[⟨⟨0,.str,9,true,true⟩,false⟩],[]⟩),(.ret,⟨(anyN 8 (.cons (.ptr 4 0) (.cons (.ty .bool) (anyN 65 .nil)))),[.cells 220 true yS19,.mapo tI yT15 true,.cells 231 true yS24,.cells 231 true yS24,.cells 220 true yS19,.cells 220 true yS17],[⟨⟨0,.str,9,true,true⟩,false⟩],[]⟩)]⟩),([8],⟨some ⟨(anyN 5 (.cons (.ptr 0 0) (anyN 10 (.cons yS37 (.cons kI (.cons yI (anyN 13 .nil))))))),[.cells 220 true yS17],[⟨⟨1,.str,9,true,true⟩,false⟩],[0]⟩,[(.exit 0,⟨(anyN 5 (.cons (.ptr 0 0) (anyN 26 .nil))),[.cells 220 true yS17],[⟨⟨1,.str,9,true,true⟩,false⟩],[0]⟩)]⟩)]
@[reducible] def fs_data_Low:List (Nat×SFn):=[(153,.pure [.str,tI] [.str,tI,tI] (fun x=>F_comp_Read x.1 x.2)),(76,.pure [.str] [.str] (fun x=>F_name_Low x)),(141,.pure [tI,.str] [.bool] (fun x=>F_data_Check x.1 x.2)),(160,.pure [(.agg (.cons .str (.cons .str (.list .str))))] [.str] (fun x=>F_data_parts_whole x))]
theorem told_data_Low:Told CC Tryz.prog 142 [tI,.str] [.str] (fun x=>F_data_Low x.1 x.2):=told_of (n:=100000) (gok (an:=ann_data_Low) (fs:=fs_data_Low) ⟨told_comp_Read,told_name_Low,told_data_Check,told_data_parts_whole,trivial⟩) rfl rfl (fun x=>by kernel_rfl)
end
end Go.Abs

set_option maxRecDepth 100000
namespace Go.Abs
open Go Go.Proofs
noncomputable section
def step_group_Check_0 (s_1:List UInt8×Int×Int×List (List UInt8)×Int):Int→Option (Int ⊕ (Bool ⊕ Unit)):=fun s41_9 =>
 if decide (s41_9<(↑(List.length s_1.2.2.2.1):Int))=true then
  natOf s41_9 fun n10 =>
  bnd (s_1.2.2.2.1[n10]?) fun x11 =>
  bnd (F_data_Check s_1.2.1 x11) fun v12 =>
  if (!v12)=false then
   bnd (F_data_Low s_1.2.1 x11) fun v13 =>
   if (!v13==x11)=false then
    natOf s41_9 fun n14 =>
    grd (n14≤List.length s_1.2.2.2.1) <|
    bnd (F_slices_Contains_string (List.take n14 s_1.2.2.2.1) x11) fun v15 =>
    if v15=true then
     g5 s_1<|gq s_1.1<|gq s_1.2.1<|gq s_1.2.2.1 <|
     some (.inr (.inl false))
    else
     gq s_1.2.2.2.1 <|
     grdEq ((↑(List.length s_1.2.2.2.1):Int)) ((↑(List.length s_1.2.2.2.1):Int)) <|
     g5 s_1<|gq s_1.1<|gq s_1.2.1<|gq s_1.2.2.1 <|
     some (.inl (IntKind.i64.wrap (s41_9+1)))
   else
    g5 s_1<|gq s_1.1<|gq s_1.2.1<|gq s_1.2.2.1 <|
    some (.inr (.inl false))
  else
   g5 s_1<|gq s_1.1<|gq s_1.2.1<|gq s_1.2.2.1 <|
   some (.inr (.inl false))
 else
  g5 s_1<|gq s_1.1<|gq s_1.2.1<|gq s_1.2.2.1 <|
  some (.inr (.inr (())))
def F_group_Check (s_1:(List UInt8×(Int×(Int×(List (List UInt8)×Int))))):Option (Bool) :=
 bnd (α:=(Bool ⊕ Unit)) (bnd (F_name_Check s_1.1) fun v2 =>
  if (!v2)=false then
   bnd (F_name_Low s_1.1) fun v3 =>
   if (!v3==s_1.1)=false then
    bnd (F_group_in s_1.2.1 65535) fun v4 =>
    if (!v4)=false then
     bnd (F_group_in s_1.2.2.1 65535) fun v5 =>
     if (!v5)=false then
      bnd (F_group_in s_1.2.2.2.2 2147483647) fun v6 =>
      if (!v6)=true then
       g5 s_1<|gq s_1.1<|gq s_1.2.1<|gq s_1.2.2.1 <|
       some (.inl false)
      else
       g5 s_1<|gq s_1.1<|gq s_1.2.1<|gq s_1.2.2.1 <|
       some (.inr (()))
     else
      g5 s_1<|gq s_1.1<|gq s_1.2.1<|gq s_1.2.2.1 <|
      some (.inl false)
    else
     g5 s_1<|gq s_1.1<|gq s_1.2.1<|gq s_1.2.2.1 <|
     some (.inl false)
   else
    g5 s_1<|gq s_1.1<|gq s_1.2.1<|gq s_1.2.2.1 <|
    some (.inl false)
  else
   g5 s_1<|gq s_1.1<|gq s_1.2.1<|gq s_1.2.2.1 <|
   some (.inl false)) fun o7 =>
 match o7 with
 | .inl s2_8 =>
  some s2_8
 | .inr _ =>
  bnd (loopS (step_group_Check_0 s_1) 0) fun o16 =>
  match o16 with
  | .inl s2_17 =>
   some s2_17
  | .inr _ =>
   some (decide (0<(↑(List.length s_1.2.2.2.1):Int)))
def ann_group_Check:List (List Nat×Ann):=[([4],⟨none,[(.ret,⟨(anyN 2 (.cons (.ty .bool) (anyN 69 .nil))),[.cells 32 true yS13,.cells 24 true yS28],[],[]⟩),(.normal,⟨(anyN 1 (.cons (.ptr 0 0) (anyN 1 (.cons (.ptr 1 0) (anyN 68 .nil))))),[.cells 32 true yS13,.cells 24 true yS28],[],[]⟩)]⟩),([16],⟨some ⟨(anyN 1 (.cons (.ptr 0 0) (anyN 1 (.cons (.ptr 1 0) (anyN 35 (.cons (.keep (.list .str)) (.cons kI (.cons yI (anyN 30 .nil))))))))),[.cells 32 true yS13,.cells 24 true yS28],[],[]⟩,[(.ret,⟨(anyN 2 (.cons (.ty .bool) (anyN 69 .nil))),[.cells 32 true yS13,.cells 24 true yS28],[],[]⟩),(.exit 0,⟨(anyN 1 (.cons (.ptr 0 0) (anyN 70 .nil))),[.cells 32 true yS13,.cells 24 true yS28],[],[]⟩)]⟩)]
@[reducible] def fs_group_Check:List (Nat×SFn):=[(141,.pure [tI,.str] [.bool] (fun x=>F_data_Check x.1 x.2)),(142,.pure [tI,.str] [.str] (fun x=>F_data_Low x.1 x.2)),(143,.pure [(.list .str),.str] [.bool] (fun x=>F_slices_Contains_string x.1 x.2)),(75,.pure [.str] [.bool] (fun x=>F_name_Check x)),(76,.pure [.str] [.str] (fun x=>F_name_Low x)),(113,.pure [tI,tI] [.bool] (fun x=>F_group_in x.1 x.2))]
theorem told_group_Check:Told CC Tryz.prog 112 [yT23] [.bool] (fun x=>F_group_Check x):=told_of (n:=100000) (gok (an:=ann_group_Check) (fs:=fs_group_Check) ⟨told_data_Check,told_data_Low,told_slices_Contains_string,told_name_Check,told_name_Low,told_group_in,trivial⟩) rfl rfl (fun x=>by kernel_rfl)
def step_group_Flat_0 (s_1:List UInt8×Int×Int×List (List UInt8)×Int) (ttl_2:Int) (slices_9:List (List UInt8)):(List ((List UInt8×(Int×(Int×(Int×List UInt8)))))×(List (List UInt8)×Int))→Option ((List ((List UInt8×(Int×(Int×(Int×List UInt8)))))×(List (List UInt8)×Int)) ⊕ List ((List UInt8×(Int×(Int×(Int×List UInt8)))))):=fun (l_10,s37_11,s39_12) =>
 if decide (s39_12<(↑slices_9.length:Int))=true then
  natOf s39_12 fun n13 =>
  bnd (s37_11[n13]?) fun x14 =>
  grd ((l_10.length+[(s_1.1,s_1.2.1,s_1.2.2.1,ttl_2,x14)].length)*56≤roomLim) <|
  gq ttl_2 <|
  grdEq ((↑slices_9.length:Int)) ((↑slices_9.length:Int)) <|
  g5 s_1 <|
  some (.inl ((l_10++[(s_1.1,s_1.2.1,s_1.2.2.1,ttl_2,x14)],(s37_11,IntKind.i64.wrap (s39_12+1)))))
 else
  g5 s_1 <|
  some (.inr l_10)
def F_group_Flat (s_1:(List UInt8×(Int×(Int×(List (List UInt8)×Int))))) (ttl_2:Int) (turn_3:Int):Option (List ((List UInt8×(Int×(Int×(Int×List UInt8)))))) :=
 bnd (α:=(Unit ⊕ Unit)) (bnd (F_group_Check (s_1.1,s_1.2.1,s_1.2.2.1,s_1.2.2.2.1,s_1.2.2.2.2)) fun v4 =>
  if (!v4)=false then
   bnd (F_group_in ttl_2 2147483647) fun v5 =>
   if (!v5)=false then
    if decide (turn_3<0)=true then
     g5 s_1 <|
     some (.inl (()))
    else
     gq ttl_2<|gq turn_3<|g5 s_1 <|
     some (.inr (()))
   else
    g5 s_1 <|
    some (.inl (()))
  else
   g5 s_1 <|
   some (.inl (()))) fun o6 =>
 match o6 with
 | .inl _ =>
  some ([])
 | .inr _ =>
  if (↑(List.length s_1.2.2.2.1):Int)=0 then
   none
  else
   natOf (turn_3.tmod (↑(List.length s_1.2.2.2.1):Int)) fun n7 =>
   grd (n7≤List.length s_1.2.2.2.1) <|
   natOf (turn_3.tmod (↑(List.length s_1.2.2.2.1):Int)) fun n8 =>
   grd (n8≤List.length s_1.2.2.2.1) <|
   bnd (α:=List (List UInt8)) (if decide (IntKind.i64.wrap (0+(↑(List.drop n7 s_1.2.2.2.1).length:Int))<0)=true then
     none
    else
     if decide (IntKind.i64.wrap (IntKind.i64.wrap (0+(↑(List.drop n7 s_1.2.2.2.1).length:Int))+(↑(List.take n8 s_1.2.2.2.1).length:Int))<0)=true then
      none
     else
      bnd (α:=Unit) (if decide (IntKind.i64.wrap (IntKind.i64.wrap (0+(↑(List.drop n7 s_1.2.2.2.1).length:Int))+(↑(List.take n8 s_1.2.2.2.1).length:Int))<0)=true then
        none
       else
        grdEq (IntKind.i64.wrap (IntKind.i64.wrap (0+(↑(List.drop n7 s_1.2.2.2.1).length:Int))+(↑(List.take n8 s_1.2.2.2.1).length:Int))) (IntKind.i64.wrap (IntKind.i64.wrap (0+(↑(List.drop n7 s_1.2.2.2.1).length:Int))+(↑(List.take n8 s_1.2.2.2.1).length:Int))) <|
        g5 s_1 <|
        some (())) fun _ =>
      if decide (0<IntKind.i64.wrap (IntKind.i64.wrap (IntKind.i64.wrap (0+(↑(List.drop n7 s_1.2.2.2.1).length:Int))+(↑(List.take n8 s_1.2.2.2.1).length:Int))-0))=true then
       grd (0≤IntKind.i64.wrap (IntKind.i64.wrap (IntKind.i64.wrap (0+(↑(List.drop n7 s_1.2.2.2.1).length:Int))+(↑(List.take n8 s_1.2.2.2.1).length:Int))-0)∧IntKind.i64.wrap (IntKind.i64.wrap (IntKind.i64.wrap (0+(↑(List.drop n7 s_1.2.2.2.1).length:Int))+(↑(List.take n8 s_1.2.2.2.1).length:Int))-0)≤9223372036854775807∧IntKind.i64.wrap (IntKind.i64.wrap (IntKind.i64.wrap (0+(↑(List.drop n7 s_1.2.2.2.1).length:Int))+(↑(List.take n8 s_1.2.2.2.1).length:Int))-0)*16≤281474976710656) <|
       grd ((List.replicate (IntKind.i64.wrap (IntKind.i64.wrap (IntKind.i64.wrap (0+(↑(List.drop n7 s_1.2.2.2.1).length:Int))+(↑(List.take n8 s_1.2.2.2.1).length:Int))-0)).toNat ([]:List UInt8)).length*16≤roomLim) <|
       grd (0≤(List.replicate (IntKind.i64.wrap (IntKind.i64.wrap (IntKind.i64.wrap (0+(↑(List.drop n7 s_1.2.2.2.1).length:Int))+(↑(List.take n8 s_1.2.2.2.1).length:Int))-0)).toNat ([]:List UInt8)).length) <|
       grd (((List.take 0 (List.replicate (IntKind.i64.wrap (IntKind.i64.wrap (IntKind.i64.wrap (0+(↑(List.drop n7 s_1.2.2.2.1).length:Int))+(↑(List.take n8 s_1.2.2.2.1).length:Int))-0)).toNat ([]:List UInt8))).length+(List.drop n7 s_1.2.2.2.1).length)*16≤roomLim) <|
       grd (((List.take 0 (List.replicate (IntKind.i64.wrap (IntKind.i64.wrap (IntKind.i64.wrap (0+(↑(List.drop n7 s_1.2.2.2.1).length:Int))+(↑(List.take n8 s_1.2.2.2.1).length:Int))-0)).toNat ([]:List UInt8))++List.drop n7 s_1.2.2.2.1).length+(List.take n8 s_1.2.2.2.1).length)*16≤roomLim) <|
       g5 s_1 <|
       some (List.take 0 (List.replicate (IntKind.i64.wrap (IntKind.i64.wrap (IntKind.i64.wrap (0+(↑(List.drop n7 s_1.2.2.2.1).length:Int))+(↑(List.take n8 s_1.2.2.2.1).length:Int))-0)).toNat ([]:List UInt8))++List.drop n7 s_1.2.2.2.1++List.take n8 s_1.2.2.2.1)
      else
       grd ((List.drop n7 s_1.2.2.2.1).length*16≤roomLim) <|
       grd (((List.drop n7 s_1.2.2.2.1).length+(List.take n8 s_1.2.2.2.1).length)*16≤roomLim) <|
       g5 s_1 <|
       some (List.drop n7 s_1.2.2.2.1++List.take n8 s_1.2.2.2.1)) fun slices_9 =>
   bnd (loopS (step_group_Flat_0 s_1 ttl_2 slices_9) (([],(slices_9,0)))) fun l_15 =>
   some l_15
def ann_group_Flat:List (List Nat×Ann):=[([2],⟨none,[(.ret,⟨(anyN 6 (.cons .nill (anyN 53 .nil))),[.cells 32 true yS13],[],[]⟩),(.normal,⟨(anyN 1 (.cons kI (.cons kI (.cons (.ptr 0 0) (anyN 56 .nil))))),[.cells 32 true yS13],[],[]⟩)]⟩),([2000000,114,9,16],⟨none,[(.ret,⟨(.cons yS37 .nil),[.cells 32 true yS13],[⟨⟨3,.str,9,true,true⟩,true⟩],[0]⟩)]⟩),([2,144,1,28,114,9,16],⟨none,[(.normal,⟨(.cons .nill (.cons kI (anyN 25 .nil))),[.cells 32 true yS13],[],[]⟩)]⟩),([8,114,9,16],⟨none,[]⟩),([33,114,9,16],⟨none,[]⟩),([8,1000000,114,9,16],⟨none,[]⟩),([8,1000000,1000000,114,9,16],⟨none,[]⟩),([8,1000000,1000000,1000000,114,9,16],⟨none,[]⟩),([8,1000000,1000000,1000000,1000000,114,9,16],⟨none,[]⟩),([33,1000000,114,9,16],⟨none,[]⟩),([33,1000000,1000000,114,9,16],⟨none,[]⟩),([33,1000000,1000000,1000000,114,9,16],⟨none,[]⟩),([33,1000000,1000000,1000000,1000000,114,9,16],⟨none,[]⟩),([18],⟨some ⟨(anyN 1 (.cons kI (anyN 1 (.cons (.ptr 0 0) (anyN 4 (.cons (.own tRR 1 true) (anyN 28 (.cons yS37 (.cons kI (.cons yI (anyN 20 .nil))))))))))),[.cells 32 true yS13],[⟨⟨4,.str,9,true,true⟩,true⟩,⟨⟨0,tRR,101,true,true⟩,true⟩],[]⟩,[(.exit 0,⟨(anyN 8 (.cons (.own tRR 1 true) (anyN 51 .nil))),[.cells 32 true yS13],[⟨⟨4,.str,9,true,true⟩,false⟩,⟨⟨1,tRR,101,true,true⟩,true⟩],[]⟩)]⟩)]
@[reducible] def fs_group_Flat:List (Nat×SFn):=[(112,.pure [yT23] [.bool] (fun x=>F_group_Check x)),(113,.pure [tI,tI] [.bool] (fun x=>F_group_in x.1 x.2))]
theorem told_group_Flat:Told CC Tryz.prog 77 [yT23,tI,tI] [(.list tRR)] (fun x=>F_group_Flat x.1 x.2.1 x.2.2):=told_of (n:=100000) (gok (an:=ann_group_Flat) (fs:=fs_group_Flat) ⟨told_group_Check,told_group_in,trivial⟩) rfl rfl (fun x=>by kernel_rfl)
def step_reply_pieces_0 (c_1:List (List UInt8×Int×Int×List (List UInt8)×Int×Int)×Int×List UInt8×List UInt8×Int×Int×List (List UInt8)×Int×Int) (turn_2:Int):(List ((List ((List UInt8×(Int×(Int×(Int×List UInt8)))))×Bool))×Int)→Option ((List ((List ((List UInt8×(Int×(Int×(Int×List UInt8)))))×Bool))×Int) ⊕ List ((List ((List UInt8×(Int×(Int×(Int×List UInt8)))))×Bool))):=fun (l_3,s11_4) =>
 if decide (s11_4<(↑(List.length c_1.1):Int))=true then
  natOf s11_4 fun n5 =>
  bnd (c_1.1[n5]?) fun x6 =>
  bnd (F_group_Flat (x6.1,x6.2.1,x6.2.2.1,x6.2.2.2.1,x6.2.2.2.2.1) x6.2.2.2.2.2 turn_2) fun v7 =>
  grd ((l_3.length+[(v7,false)].length)*32≤roomLim) <|
  gq turn_2<|gq c_1.1 <|
  grdEq ((↑(List.length c_1.1):Int)) ((↑(List.length c_1.1):Int)) <|
  g9 c_1 <|
  some (.inl ((l_3++[(v7,false)],IntKind.i64.wrap (s11_4+1))))
 else
  g9 c_1 <|
  some (.inr l_3)
def F_reply_pieces (c_1:(List ((List UInt8×(Int×(Int×(List (List UInt8)×(Int×Int))))))×(Int×(List UInt8×(List UInt8×(Int×(Int×(List (List UInt8)×(Int×Int))))))))) (turn_2:Int):Option (List ((List ((List UInt8×(Int×(Int×(Int×List UInt8)))))×Bool))) :=
 bnd (loopS (step_reply_pieces_0 c_1 turn_2) (([],0))) fun l_8 =>
 if (c_1.2.1 != 0)=true then
  bnd (F_group_Flat (c_1.2.2.2.1,c_1.2.2.2.2.1,c_1.2.2.2.2.2.1,c_1.2.2.2.2.2.2.1,c_1.2.2.2.2.2.2.2.1) c_1.2.2.2.2.2.2.2.2 0) fun v9 =>
  grd ((l_8.length+[(v9,true)].length)*32≤roomLim) <|
  some (l_8++[(v9,true)])
 else
  some l_8
def ann_reply_pieces:List (List Nat×Ann):=[([8],⟨some ⟨(anyN 1 (.cons kI (.cons (.ptr 0 0) (anyN 2 (.cons (.own yT21 0 true) (anyN 3 (.cons (.keep (.list yT16)) (.cons kI (.cons yI (anyN 29 .nil)))))))))),[.cells 48 true yS0],[⟨⟨0,yT21,133,true,true⟩,true⟩],[]⟩,[(.exit 0,⟨(anyN 2 (.cons (.ptr 0 0) (anyN 2 (.cons (.own yT21 0 true) (anyN 35 .nil))))),[.cells 48 true yS0],[⟨⟨1,yT21,133,true,true⟩,true⟩],[]⟩)]⟩)]
@[reducible] def fs_reply_pieces:List (Nat×SFn):=[(77,.pure [yT23,tI,tI] [(.list tRR)] (fun x=>F_group_Flat x.1 x.2.1 x.2.2))]
theorem told_reply_pieces:Told CC Tryz.prog 59 [yT2,tI] [(.list yT21)] (fun x=>F_reply_pieces x.1 x.2):=told_of (n:=100000) (gok (an:=ann_reply_pieces) (fs:=fs_reply_pieces) ⟨told_group_Flat,trivial⟩) rfl rfl (fun x=>by kernel_rfl)
def F_stringslite_HasSuffix (s_1:List UInt8) (suffix_2:List UInt8):Option (Bool) :=
 if decide ((↑suffix_2.length:Int)≤(↑s_1.length:Int))=true then
  natOf (IntKind.i64.wrap ((↑s_1.length:Int)-(↑suffix_2.length:Int))) fun n3 =>
  grd (n3≤s_1.length) <|
  some (List.drop n3 s_1==suffix_2)
 else
  some false
def ann_stringslite_HasSuffix:List (List Nat×Ann):=[]
theorem told_stringslite_HasSuffix:Told CC Tryz.prog 174 [.str,.str] [.bool] (fun x=>F_stringslite_HasSuffix x.1 x.2):=told_of (n:=100000) (gok (an:=ann_stringslite_HasSuffix) (fs:=[]) trivial) rfl rfl (fun x=>by kernel_rfl)
def F_stringslite_TrimSuffix (s_1:List UInt8) (suffix_2:List UInt8):Option (List UInt8) :=
 bnd (F_stringslite_HasSuffix s_1 suffix_2) fun v3 =>
 if v3=true then
  natOf (IntKind.i64.wrap ((↑s_1.length:Int)-(↑suffix_2.length:Int))) fun n4 =>
  grd (n4≤s_1.length) <|
  some (List.take n4 s_1)
 else
  some s_1
def ann_stringslite_TrimSuffix:List (List Nat×Ann):=[]
@[reducible] def fs_stringslite_TrimSuffix:List (Nat×SFn):=[(174,.pure [.str,.str] [.bool] (fun x=>F_stringslite_HasSuffix x.1 x.2))]
theorem told_stringslite_TrimSuffix:Told CC Tryz.prog 163 [.str,.str] [.str] (fun x=>F_stringslite_TrimSuffix x.1 x.2):=told_of (n:=100000) (gok (an:=ann_stringslite_TrimSuffix) (fs:=fs_stringslite_TrimSuffix) ⟨told_stringslite_HasSuffix,trivial⟩) rfl rfl (fun x=>by kernel_rfl)
def F_strings_TrimSuffix (s_1:List UInt8) (suffix_2:List UInt8):Option (List UInt8) :=
 bnd (F_stringslite_TrimSuffix s_1 suffix_2) fun v3 =>
 some v3
def ann_strings_TrimSuffix:List (List Nat×Ann):=[]
@[reducible] def fs_strings_TrimSuffix:List (Nat×SFn):=[(163,.pure [.str,.str] [.str] (fun x=>F_stringslite_TrimSuffix x.1 x.2))]
theorem told_strings_TrimSuffix:Told CC Tryz.prog 147 [.str,.str] [.str] (fun x=>F_strings_TrimSuffix x.1 x.2):=told_of (n:=100000) (gok (an:=ann_strings_TrimSuffix) (fs:=fs_strings_TrimSuffix) ⟨told_stringslite_TrimSuffix,trivial⟩) rfl rfl (fun x=>by kernel_rfl)
def step_comp_Write_0 (base_1:List UInt8) (at_2:Int) (n_3:List UInt8):(List UInt8×Bool)→Option ((List UInt8×Bool) ⊕ (List UInt8 ⊕ Unit)):=fun (rest_8,is_9) =>
 bnd (α:=(Unit ⊕ Unit)) (if is_9=true then
   if decide (1<(↑rest_8.length:Int))=true then
    gq base_1<|gq at_2<|gq n_3<|gq rest_8 <|
    some (.inl (()))
   else
    gq n_3 <|
    some (.inr (()))
  else
   gq n_3 <|
   some (.inr (()))) fun o10 =>
 match o10 with
 | .inl _ =>
  bnd (F_comp_place base_1 rest_8) fun v11 =>
  if decide (0≤v11)=true then
   bnd (F_strings_TrimSuffix n_3 rest_8) fun v12 =>
   bnd (F_octet_Put (IntKind.i64.wrap (IntKind.i64.wrap (49152+at_2)+v11)) 2) fun v13 =>
   grd (v12.length+v13.length≤maxStr) <|
   some (.inr (.inl (v12++v13)))
  else
   bnd (F_name_Up rest_8) fun (v14,v15) =>
   gq base_1<|gq at_2<|gq n_3 <|
   some (.inl ((v14,v15)))
 | .inr _ =>
  gq n_3 <|
  some (.inr (.inr (())))
def F_comp_Write (base_1:List UInt8) (at_2:Int) (n_3:List UInt8):Option (List UInt8) :=
 bnd (α:=(List UInt8 ⊕ Unit)) (bnd (F_name_Check base_1) fun v4 =>
  if (!v4)=false then
   bnd (F_name_Check n_3) fun v5 =>
   if (!v5)=false then
    if decide (at_2<0)=false then
     if decide (16000<at_2)=true then
      some (.inl ([]))
     else
      gq base_1<|gq at_2<|gq n_3 <|
      some (.inr (()))
    else
     some (.inl ([]))
   else
    some (.inl ([]))
  else
   some (.inl ([]))) fun o6 =>
 match o6 with
 | .inl s6_7 =>
  some s6_7
 | .inr _ =>
  bnd (loopS (step_comp_Write_0 base_1 at_2 n_3) ((n_3,true))) fun o16 =>
  match o16 with
  | .inl s6_17 =>
   some s6_17
  | .inr _ =>
   some n_3
def ann_comp_Write:List (List Nat×Ann):=[([2],⟨none,[(.ret,⟨yS43,[],[],[]⟩),(.normal,⟨(.cons kS (.cons kI (.cons kS (anyN 50 .nil)))),[],[],[]⟩)]⟩),([15],⟨none,[(.normal,⟨(.cons kS (.cons kI (.cons kS (anyN 4 (.cons kS (anyN 45 .nil)))))),[],[],[]⟩),(.exit 0,⟨(anyN 2 (.cons kS (anyN 50 .nil))),[],[],[]⟩)]⟩),([14],⟨some ⟨(.cons kS (.cons kI (.cons kS (anyN 4 (.cons (.ty .str) (.cons (.ty .bool) (anyN 44 .nil))))))),[],[],[]⟩,[(.ret,⟨yS43,[],[],[]⟩),(.exit 0,⟨(anyN 2 (.cons kS (anyN 50 .nil))),[],[],[]⟩)]⟩)]
@[reducible] def fs_comp_Write:List (Nat×SFn):=[(146,.pure [.str,.str] [tI] (fun x=>F_comp_place x.1 x.2)),(147,.pure [.str,.str] [.str] (fun x=>F_strings_TrimSuffix x.1 x.2)),(103,.pure [tI,tI] [.str] (fun x=>F_octet_Put x.1 x.2)),(145,.pure [.str] [.str,.bool] (fun x=>F_name_Up x)),(75,.pure [.str] [.bool] (fun x=>F_name_Check x))]
theorem told_comp_Write:Told CC Tryz.prog 115 [.str,tI,.str] [.str] (fun x=>F_comp_Write x.1 x.2.1 x.2.2):=told_of (n:=100000) (gok (an:=ann_comp_Write) (fs:=fs_comp_Write) ⟨told_comp_place,told_strings_TrimSuffix,told_octet_Put,told_name_Up,told_name_Check,trivial⟩) rfl rfl (fun x=>by kernel_rfl)
def F_record_Encode (base_1:List UInt8) (at_2:Int) (r_3:(List UInt8×(Int×(Int×(Int×List UInt8))))):Option (List UInt8) :=
 bnd (F_comp_Write base_1 at_2 r_3.1) fun v4 =>
 bnd (α:=(List UInt8 ⊕ Unit)) (if (v4==[])=false then
   bnd (F_record_Check (r_3.1,r_3.2.1,r_3.2.2.1,r_3.2.2.2.1,r_3.2.2.2.2)) fun v5 =>
   if (!v5)=true then
    g5 r_3 <|
    some (.inl ([]))
   else
    gq v4<|g5 r_3 <|
    some (.inr (()))
  else
   g5 r_3 <|
   some (.inl ([]))) fun o6 =>
 match o6 with
 | .inl s6_7 =>
  some s6_7
 | .inr _ =>
  bnd (F_octet_Put r_3.2.1 2) fun v8 =>
  grd (v4.length+v8.length≤maxStr) <|
  bnd (F_octet_Put r_3.2.2.1 2) fun v9 =>
  grd ((v4++v8).length+v9.length≤maxStr) <|
  bnd (F_octet_Put r_3.2.2.2.1 4) fun v10 =>
  grd ((v4++v8++v9).length+v10.length≤maxStr) <|
  bnd (F_octet_Put (↑(List.length r_3.2.2.2.2):Int) 2) fun v11 =>
  grd ((v4++v8++v9++v10).length+v11.length≤maxStr) <|
  grd ((v4++v8++v9++v10++v11).length+List.length r_3.2.2.2.2≤maxStr) <|
  some (v4++v8++v9++v10++v11++r_3.2.2.2.2)
def ann_record_Encode:List (List Nat×Ann):=[([4],⟨none,[(.ret,⟨(anyN 6 (.cons (.ty .str) (anyN 34 .nil))),[.cells 101 true yS27],[],[]⟩),(.normal,⟨(anyN 5 (.cons (.ptr 0 0) (anyN 1 (.cons kS (anyN 33 .nil))))),[.cells 101 true yS27],[],[]⟩)]⟩)]
@[reducible] def fs_record_Encode:List (Nat×SFn):=[(115,.pure [.str,tI,.str] [.str] (fun x=>F_comp_Write x.1 x.2.1 x.2.2)),(116,.pure [tRR] [.bool] (fun x=>F_record_Check x)),(103,.pure [tI,tI] [.str] (fun x=>F_octet_Put x.1 x.2))]
theorem told_record_Encode:Told CC Tryz.prog 78 [.str,tI,tRR] [.str] (fun x=>F_record_Encode x.1 x.2.1 x.2.2):=told_of (n:=100000) (gok (an:=ann_record_Encode) (fs:=fs_record_Encode) ⟨told_comp_Write,told_record_Check,told_octet_Put,trivial⟩) rfl rfl (fun x=>by kernel_rfl)
def step_msg_Encode_0 (m_1:Int×Int×List (List UInt8×Int×Int)×List (List UInt8×Int×Int×Int×List UInt8)×List (List UInt8×Int×Int×Int×List UInt8)×List (List UInt8×Int×Int×Int×List UInt8)):(List UInt8×(List UInt8×Int))→Option ((List UInt8×(List UInt8×Int)) ⊕ (List UInt8×List UInt8)):=fun (s_9,base_10,s44_11) =>
 if decide (s44_11<(↑(List.length m_1.2.2.1):Int))=true then
  natOf s44_11 fun n12 =>
  bnd (m_1.2.2.1[n12]?) fun x13 =>
  bnd (α:=List UInt8) (if (s44_11==0)=true then
    gq s_9<|gq m_1.2.2.1 <|
    grdEq ((↑(List.length m_1.2.2.1):Int)) ((↑(List.length m_1.2.2.1):Int)) <|
    gq s44_11<|g6 m_1<|g3 x13 <|
    some x13.1
   else
    gq s_9<|gq m_1.2.2.1 <|
    grdEq ((↑(List.length m_1.2.2.1):Int)) ((↑(List.length m_1.2.2.1):Int)) <|
    gq s44_11<|g6 m_1<|g3 x13 <|
    some base_10) fun base_14 =>
  bnd (F_octet_Put x13.2.1 2) fun v15 =>
  grd (List.length x13.1+v15.length≤maxStr) <|
  bnd (F_octet_Put x13.2.2 2) fun v16 =>
  grd ((x13.1++v15).length+v16.length≤maxStr) <|
  grd (s_9.length+(x13.1++v15++v16).length≤maxStr) <|
  gq m_1.2.2.1 <|
  grdEq ((↑(List.length m_1.2.2.1):Int)) ((↑(List.length m_1.2.2.1):Int)) <|
  g6 m_1 <|
  some (.inl ((s_9++(x13.1++v15++v16),(base_14,IntKind.i64.wrap (s44_11+1)))))
 else
  g6 m_1 <|
  some (.inr ((s_9,base_10)))
def step_msg_Encode_1 (m_1:Int×Int×List (List UInt8×Int×Int)×List (List UInt8×Int×Int×Int×List UInt8)×List (List UInt8×Int×Int×Int×List UInt8)×List (List UInt8×Int×Int×Int×List UInt8)) (base_18:List UInt8):(List UInt8×Int)→Option ((List UInt8×Int) ⊕ List UInt8):=fun (s_19,s74_20) =>
 if decide (s74_20<(↑(List.length m_1.2.2.2.1):Int))=true then
  natOf s74_20 fun n21 =>
  bnd (m_1.2.2.2.1[n21]?) fun x22 =>
  if decide (65535<(↑s_19.length:Int))=true then
   gq base_18<|gz<|g6 m_1 <|
   some (.inr s_19)
  else
   bnd (F_record_Encode base_18 12 (x22.1,x22.2.1,x22.2.2.1,x22.2.2.2.1,x22.2.2.2.2)) fun v23 =>
   grd (s_19.length+v23.length≤maxStr) <|
   gq base_18<|gz<|gq m_1.2.2.2.1 <|
   grdEq ((↑(List.length m_1.2.2.2.1):Int)) ((↑(List.length m_1.2.2.2.1):Int)) <|
   g6 m_1 <|
   some (.inl ((s_19++v23,IntKind.i64.wrap (s74_20+1))))
 else
  gq base_18<|gz<|g6 m_1 <|
  some (.inr s_19)
def step_msg_Encode_2 (m_1:Int×Int×List (List UInt8×Int×Int)×List (List UInt8×Int×Int×Int×List UInt8)×List (List UInt8×Int×Int×Int×List UInt8)×List (List UInt8×Int×Int×Int×List UInt8)) (base_18:List UInt8):(List UInt8×Int)→Option ((List UInt8×Int) ⊕ List UInt8):=fun (s_25,s74_26) =>
 if decide (s74_26<(↑(List.length m_1.2.2.2.2.1):Int))=true then
  natOf s74_26 fun n27 =>
  bnd (m_1.2.2.2.2.1[n27]?) fun x28 =>
  if decide (65535<(↑s_25.length:Int))=true then
   gq base_18<|gq (α:=Int) 1<|g6 m_1 <|
   some (.inr s_25)
  else
   bnd (F_record_Encode base_18 12 (x28.1,x28.2.1,x28.2.2.1,x28.2.2.2.1,x28.2.2.2.2)) fun v29 =>
   grd (s_25.length+v29.length≤maxStr) <|
   gq base_18<|gq (α:=Int) 1<|gq m_1.2.2.2.2.1 <|
   grdEq ((↑(List.length m_1.2.2.2.2.1):Int)) ((↑(List.length m_1.2.2.2.2.1):Int)) <|
   g6 m_1 <|
   some (.inl ((s_25++v29,IntKind.i64.wrap (s74_26+1))))
 else
  gq base_18<|gq (α:=Int) 1<|g6 m_1 <|
  some (.inr s_25)
def step_msg_Encode_3 (m_1:Int×Int×List (List UInt8×Int×Int)×List (List UInt8×Int×Int×Int×List UInt8)×List (List UInt8×Int×Int×Int×List UInt8)×List (List UInt8×Int×Int×Int×List UInt8)) (base_18:List UInt8):(List UInt8×Int)→Option ((List UInt8×Int) ⊕ List UInt8):=fun (s_31,s74_32) =>
 if decide (s74_32<(↑(List.length m_1.2.2.2.2.2):Int))=true then
  natOf s74_32 fun n33 =>
  bnd (m_1.2.2.2.2.2[n33]?) fun x34 =>
  if decide (65535<(↑s_31.length:Int))=true then
   gq base_18<|gq (α:=Int) 2<|g6 m_1 <|
   some (.inr s_31)
  else
   bnd (F_record_Encode base_18 12 (x34.1,x34.2.1,x34.2.2.1,x34.2.2.2.1,x34.2.2.2.2)) fun v35 =>
   grd (s_31.length+v35.length≤maxStr) <|
   gq base_18<|gq (α:=Int) 2<|gq m_1.2.2.2.2.2 <|
   grdEq ((↑(List.length m_1.2.2.2.2.2):Int)) ((↑(List.length m_1.2.2.2.2.2):Int)) <|
   g6 m_1 <|
   some (.inl ((s_31++v35,IntKind.i64.wrap (s74_32+1))))
 else
  gq base_18<|gq (α:=Int) 2<|g6 m_1 <|
  some (.inr s_31)
def F_msg_Encode (m_1:(Int×(Int×(List ((List UInt8×(Int×Int)))×(List ((List UInt8×(Int×(Int×(Int×List UInt8)))))×(List ((List UInt8×(Int×(Int×(Int×List UInt8)))))×List ((List UInt8×(Int×(Int×(Int×List UInt8))))))))))):Option ((List UInt8×Int)) :=
 bnd (F_msg_Check (m_1.1,m_1.2.1,m_1.2.2.1,m_1.2.2.2.1,m_1.2.2.2.2.1,m_1.2.2.2.2.2)) fun v2 =>
 if (!v2)=true then
  some (([],1))
 else
  bnd (F_octet_Put m_1.1 2) fun v3 =>
  bnd (F_octet_Put m_1.2.1 2) fun v4 =>
  grd (v3.length+v4.length≤maxStr) <|
  bnd (F_octet_Put (↑(List.length m_1.2.2.1):Int) 2) fun v5 =>
  grd ((v3++v4).length+v5.length≤maxStr) <|
  bnd (F_octet_Put (↑(List.length m_1.2.2.2.1):Int) 2) fun v6 =>
  grd ((v3++v4++v5).length+v6.length≤maxStr) <|
  bnd (F_octet_Put (↑(List.length m_1.2.2.2.2.1):Int) 2) fun v7 =>
  grd ((v3++v4++v5++v6).length+v7.length≤maxStr) <|
  bnd (F_octet_Put (↑(List.length m_1.2.2.2.2.2):Int) 2) fun v8 =>
  grd ((v3++v4++v5++v6++v7).length+v8.length≤maxStr) <|
  bnd (loopS (step_msg_Encode_0 m_1) ((v3++v4++v5++v6++v7++v8,([0],0)))) fun (s_17,base_18) =>
  bnd (loopS (step_msg_Encode_1 m_1 base_18) ((s_17,0))) fun s_24 =>
  bnd (loopS (step_msg_Encode_2 m_1 base_18) ((s_24,0))) fun s_30 =>
  bnd (loopS (step_msg_Encode_3 m_1 base_18) ((s_30,0))) fun s_36 =>
  if decide (65535<(↑s_36.length:Int))=true then
   some (([],6))
  else
   some ((s_36,0))
def ann_msg_Encode:List (List Nat×Ann):=[([46],⟨none,[(.normal,⟨(anyN 1 (.cons (.ptr 0 0) (anyN 2 (.cons kS (anyN 2 (.cons (.ty .str) (anyN 1 (.cons (.ptr 2 0) (anyN 32 (.cons (.keep (.list tQ)) (.cons kI (.cons kI (anyN 47 .nil))))))))))))),[.cells 63 true yS4,.cells 177 true yS7,.cells 24 true yS28],[],[]⟩)]⟩),([16],⟨none,[]⟩),([58],⟨none,[]⟩),([16,1000000],⟨none,[]⟩),([16,1000000,1000000],⟨none,[]⟩),([16,1000000,1000000,1000000],⟨none,[]⟩),([16,1000000,1000000,1000000,1000000],⟨none,[]⟩),([58,1000000],⟨none,[]⟩),([58,1000000,1000000],⟨none,[]⟩),([58,1000000,1000000,1000000],⟨none,[]⟩),([58,1000000,1000000,1000000,1000000],⟨none,[]⟩),([35],⟨some ⟨(anyN 1 (.cons (.ptr 0 0) (anyN 2 (.cons (.ty .str) (anyN 2 (.cons (.ty .str) (anyN 34 (.cons (.keep (.list tQ)) (.cons kI (.cons yI (anyN 47 .nil))))))))))),[.cells 63 true yS4,.cells 177 true yS7],[],[]⟩,[(.exit 2,⟨(anyN 1 (.cons (.ptr 0 0) (anyN 2 (.cons (.ty .str) (anyN 2 (.cons (.ty .str) (anyN 84 .nil))))))),[.cells 63 true yS4,.cells 177 true yS7],[],[]⟩)]⟩),([72],⟨some ⟨yS26,[.cells 63 true yS4,.cells 177 true yS7,.cells 177 true yS7],[],[]⟩,[(.exit 6,⟨yS35,[.cells 63 true yS4,.cells 177 true yS7,.cells 177 true yS7],[],[]⟩)]⟩),([72,1000000],⟨some ⟨yS26,[.cells 63 true yS4,.cells 177 true yS7,.cells 177 true yS7],[],[]⟩,[(.exit 6,⟨yS35,[.cells 63 true yS4,.cells 177 true yS7,.cells 177 true yS7],[],[]⟩)]⟩),([72,1000000,1000000],⟨some ⟨yS26,[.cells 63 true yS4,.cells 177 true yS7,.cells 177 true yS7],[],[]⟩,[(.exit 6,⟨yS35,[.cells 63 true yS4,.cells 177 true yS7,.cells 177 true yS7],[],[]⟩)]⟩)]
@[reducible] def fs_msg_Encode:List (Nat×SFn):=[(103,.pure [tI,tI] [.str] (fun x=>F_octet_Put x.1 x.2)),(78,.pure [.str,tI,tRR] [.str] (fun x=>F_record_Encode x.1 x.2.1 x.2.2)),(102,.pure [tM] [.bool] (fun x=>F_msg_Check x))]
theorem told_msg_Encode:Told CC Tryz.prog 64 [tM] [.str,tI] (fun x=>F_msg_Encode x):=told_of (n:=100000) (gok (an:=ann_msg_Encode) (fs:=fs_msg_Encode) ⟨told_octet_Put,told_record_Encode,told_msg_Check,trivial⟩) rfl rfl (fun x=>by kernel_rfl)
def F_record_TTL (base_1:List UInt8) (at_2:Int) (r_3:(List UInt8×(Int×(Int×(Int×List UInt8))))):Option (Int) :=
 bnd (F_record_Encode base_1 at_2 (r_3.1,r_3.2.1,r_3.2.2.1,r_3.2.2.2.1,r_3.2.2.2.2)) fun v4 =>
 if (v4==[])=true then
  some (-1)
 else
  bnd (F_comp_Write base_1 at_2 r_3.1) fun v5 =>
  some (IntKind.i64.wrap ((↑v5.length:Int)+4))
def ann_record_TTL:List (List Nat×Ann):=[]
@[reducible] def fs_record_TTL:List (Nat×SFn):=[(78,.pure [.str,tI,tRR] [.str] (fun x=>F_record_Encode x.1 x.2.1 x.2.2)),(115,.pure [.str,tI,.str] [.str] (fun x=>F_comp_Write x.1 x.2.1 x.2.2))]
theorem told_record_TTL:Told CC Tryz.prog 79 [.str,tI,tRR] [tI] (fun x=>F_record_TTL x.1 x.2.1 x.2.2):=told_of (n:=100000) (gok (an:=ann_record_TTL) (fs:=fs_record_TTL) ⟨told_record_Encode,told_comp_Write,trivial⟩) rfl rfl (fun x=>by kernel_rfl)
end
end Go.Abs

set_option maxRecDepth 100000
namespace Go.Abs
open Go Go.Proofs
noncomputable section
def step_tmpl_Make_1 (now_1:Int) (q_2:List UInt8×Int×Int) (c_3:List (List UInt8×Int×Int×List (List UInt8)×Int×Int)×Int×List UInt8×List UInt8×Int×Int×List (List UInt8)×Int×Int) (b3d_6:Int) (x15:(Ty.str.cons (tI.cons (tI.cons (Ty.str.list.cons (tI.cons tI))))).agg.den) (v16:List (List UInt8×Int×Int×Int×List UInt8)):(Int×(List UInt8×(List ((List ((Int×(Int×Int)))×(Int×Bool)))×List ((Int×(Int×Int))))))→Option ((Int×(List UInt8×(List ((List ((Int×(Int×Int)))×(Int×Bool)))×List ((Int×(Int×Int)))))) ⊕ (List UInt8×(List ((List ((Int×(Int×Int)))×(Int×Bool)))×List ((Int×(Int×Int)))))):=fun (s40_21,b3e_22,b3f_23,b6a_24) =>
 if decide (s40_21<(↑v16.length:Int))=true then
  natOf s40_21 fun n25 =>
  bnd (v16[n25]?) fun x26 =>
  bnd (F_record_Encode q_2.1 12 (x26.1,x26.2.1,x26.2.2.1,x26.2.2.2.1,x26.2.2.2.2)) fun v27 =>
  grd (b3e_22.length+v27.length≤maxStr) <|
  bnd (F_record_TTL q_2.1 12 (x26.1,x26.2.1,x26.2.2.1,x26.2.2.2.1,x26.2.2.2.2)) fun v28 =>
  grd ((b6a_24.length+[((↑b3e_22.length:Int),(↑(b3e_22++v27).length:Int),IntKind.i64.wrap ((↑b3e_22.length:Int)+v28))].length)*24≤roomLim) <|
  gq v16 <|
  grdEq ((↑v16.length:Int)) ((↑v16.length:Int)) <|
  g3 q_2<|g9 c_3<|gq (α:=List UInt8) ([])<|gz<|gz<|gz<|gq (α:=List UInt8) ([])<|g3 q_2<|gq b3d_6<|g6 x15<|g6 x15 <|
  grdEq (IntKind.i64.wrap (now_1+x15.2.2.2.2.2)) (IntKind.i64.wrap (now_1+x15.2.2.2.2.2)) <|
  gf <|
  some (.inl ((IntKind.i64.wrap (s40_21+1),(b3e_22++v27,(b3f_23,b6a_24++[((↑b3e_22.length:Int),(↑(b3e_22++v27).length:Int),IntKind.i64.wrap ((↑b3e_22.length:Int)+v28))])))))
 else
  g3 q_2<|g9 c_3<|gq (α:=List UInt8) ([])<|gz<|gz<|gz<|gq (α:=List UInt8) ([])<|g3 q_2<|gq b3d_6<|g6 x15<|g6 x15 <|
  grdEq (IntKind.i64.wrap (now_1+x15.2.2.2.2.2)) (IntKind.i64.wrap (now_1+x15.2.2.2.2.2)) <|
  gf <|
  some (.inr ((b3e_22,(b3f_23,b6a_24))))
def step_tmpl_Make_0 (now_1:Int) (q_2:List UInt8×Int×Int) (c_3:List (List UInt8×Int×Int×List (List UInt8)×Int×Int)×Int×List UInt8×List UInt8×Int×Int×List (List UInt8)×Int×Int) (b3d_6:Int):(Int×(List UInt8×List ((List ((Int×(Int×Int)))×(Int×Bool)))))→Option ((Int×(List UInt8×List ((List ((Int×(Int×Int)))×(Int×Bool))))) ⊕ ((List UInt8×List ((List ((Int×(Int×Int)))×(Int×Bool)))) ⊕ (Bool×(List UInt8×List ((List ((Int×(Int×Int)))×(Int×Bool))))))):=fun (s34_11,b3e_12,b3f_13) =>
 if decide (s34_11<(↑(List.length c_3.1):Int))=true then
  natOf s34_11 fun n14 =>
  bnd (c_3.1[n14]?) fun x15 =>
  bnd (F_group_Flat (x15.1,x15.2.1,x15.2.2.1,x15.2.2.2.1,x15.2.2.2.2.1) x15.2.2.2.2.2 0) fun v16 =>
  bnd (α:=((Bool×List ((List ((Int×(Int×Int)))×(Int×Bool)))) ⊕ List ((List ((Int×(Int×Int)))×(Int×Bool))))) (if ((↑v16.length:Int)==0)=false then
    if decide (x15.2.2.2.2.2<1)=false then
     if decide (604800<x15.2.2.2.2.2)=true then
      g3 q_2<|g9 c_3<|gq (α:=List UInt8) ([])<|gz<|gz<|gz<|gq (α:=List UInt8) ([])<|g3 q_2<|gq b3d_6<|gq b3e_12<|g6 x15<|g6 x15 <|
      some (.inl ((false,b3f_13)))
     else
      gq now_1<|gf<|gq v16<|g3 q_2<|g9 c_3<|gq (α:=List UInt8) ([])<|gz<|gz<|gz<|gq (α:=List UInt8) ([])<|g3 q_2<|gq b3d_6<|gq b3e_12<|g6 x15<|g6 x15 <|
      some (.inr b3f_13)
    else
     g3 q_2<|g9 c_3<|gq (α:=List UInt8) ([])<|gz<|gz<|gz<|gq (α:=List UInt8) ([])<|g3 q_2<|gq b3d_6<|gq b3e_12<|g6 x15<|g6 x15 <|
     some (.inl ((false,b3f_13)))
   else
    g3 q_2<|g9 c_3<|gq (α:=List UInt8) ([])<|gz<|gz<|gz<|gq (α:=List UInt8) ([])<|g3 q_2<|gq b3d_6<|gq b3e_12<|g6 x15<|g6 x15 <|
    some (.inl ((false,b3f_13)))) fun o17 =>
  match o17 with
  | .inl (s8_18,b3f_19) =>
   if (!s8_18)=true then
    g3 q_2<|g9 c_3<|gq (α:=List UInt8) ([])<|gz<|gz<|gz<|gq (α:=List UInt8) ([])<|g3 q_2<|gq b3d_6 <|
    some (.inr (.inr ((false,(b3e_12,b3f_19)))))
   else
    gq now_1<|gq c_3.1 <|
    grdEq ((↑(List.length c_3.1):Int)) ((↑(List.length c_3.1):Int)) <|
    g3 q_2<|g9 c_3<|gq (α:=List UInt8) ([])<|gz<|gz<|gz<|gq (α:=List UInt8) ([])<|g3 q_2<|gq b3d_6 <|
    some (.inl ((IntKind.i64.wrap (s34_11+1),(b3e_12,b3f_19))))
  | .inr b3f_20 =>
   bnd (loopS (step_tmpl_Make_1 now_1 q_2 c_3 b3d_6 x15 v16) ((0,(b3e_12,(b3f_20,[]))))) fun (b3e_29,b3f_30,b6a_31) =>
   grd ((b3f_30.length+[(b6a_31,IntKind.i64.wrap (now_1+x15.2.2.2.2.2),false)].length)*40≤roomLim) <|
   gq now_1<|gq c_3.1 <|
   grdEq ((↑(List.length c_3.1):Int)) ((↑(List.length c_3.1):Int)) <|
   g3 q_2<|g9 c_3<|gq (α:=List UInt8) ([])<|gz<|gz<|gz<|gq (α:=List UInt8) ([])<|g3 q_2<|gq b3d_6 <|
   some (.inl ((IntKind.i64.wrap (s34_11+1),(b3e_29,b3f_30++[(b6a_31,IntKind.i64.wrap (now_1+x15.2.2.2.2.2),false)]))))
 else
  gq now_1<|g3 q_2<|g9 c_3<|gq (α:=List UInt8) ([])<|gz<|gz<|gz<|gq (α:=List UInt8) ([])<|g3 q_2<|gq b3d_6 <|
  some (.inr (.inl ((b3e_12,b3f_13))))
def step_tmpl_Make_2 (now_1:Int) (q_2:List UInt8×Int×Int) (c_3:List (List UInt8×Int×Int×List (List UInt8)×Int×Int)×Int×List UInt8×List UInt8×Int×Int×List (List UInt8)×Int×Int) (b3d_6:Int) (v35:List (List UInt8×Int×Int×Int×List UInt8)):(Int×(List UInt8×(List ((List ((Int×(Int×Int)))×(Int×Bool)))×List ((Int×(Int×Int))))))→Option ((Int×(List UInt8×(List ((List ((Int×(Int×Int)))×(Int×Bool)))×List ((Int×(Int×Int)))))) ⊕ (List UInt8×(List ((List ((Int×(Int×Int)))×(Int×Bool)))×List ((Int×(Int×Int)))))):=fun (s40_40,b3e_41,b3f_42,b5a_43) =>
 if decide (s40_40<(↑v35.length:Int))=true then
  natOf s40_40 fun n44 =>
  bnd (v35[n44]?) fun x45 =>
  bnd (F_record_Encode q_2.1 12 (x45.1,x45.2.1,x45.2.2.1,x45.2.2.2.1,x45.2.2.2.2)) fun v46 =>
  grd (b3e_41.length+v46.length≤maxStr) <|
  bnd (F_record_TTL q_2.1 12 (x45.1,x45.2.1,x45.2.2.1,x45.2.2.2.1,x45.2.2.2.2)) fun v47 =>
  grd ((b5a_43.length+[((↑b3e_41.length:Int),(↑(b3e_41++v46).length:Int),IntKind.i64.wrap ((↑b3e_41.length:Int)+v47))].length)*24≤roomLim) <|
  gq v35 <|
  grdEq ((↑v35.length:Int)) ((↑v35.length:Int)) <|
  g3 q_2<|g9 c_3<|gq (α:=List UInt8) ([])<|gz<|gz<|gz<|gq (α:=List UInt8) ([])<|g3 q_2<|gq b3d_6<|gq c_3.2.2.2.1<|gq c_3.2.2.2.2.1<|gq c_3.2.2.2.2.2.1<|gq c_3.2.2.2.2.2.2.1<|gq c_3.2.2.2.2.2.2.2.1<|gq c_3.2.2.2.2.2.2.2.2 <|
  grdEq (IntKind.i64.wrap (now_1+c_3.2.2.2.2.2.2.2.2)) (IntKind.i64.wrap (now_1+c_3.2.2.2.2.2.2.2.2)) <|
  gq (α:=Bool) true <|
  some (.inl ((IntKind.i64.wrap (s40_40+1),(b3e_41++v46,(b3f_42,b5a_43++[((↑b3e_41.length:Int),(↑(b3e_41++v46).length:Int),IntKind.i64.wrap ((↑b3e_41.length:Int)+v47))])))))
 else
  g3 q_2<|g9 c_3<|gq (α:=List UInt8) ([])<|gz<|gz<|gz<|gq (α:=List UInt8) ([])<|g3 q_2<|gq b3d_6<|gq c_3.2.2.2.1<|gq c_3.2.2.2.2.1<|gq c_3.2.2.2.2.2.1<|gq c_3.2.2.2.2.2.2.1<|gq c_3.2.2.2.2.2.2.2.1<|gq c_3.2.2.2.2.2.2.2.2 <|
  grdEq (IntKind.i64.wrap (now_1+c_3.2.2.2.2.2.2.2.2)) (IntKind.i64.wrap (now_1+c_3.2.2.2.2.2.2.2.2)) <|
  gq (α:=Bool) true <|
  some (.inr ((b3e_41,(b3f_42,b5a_43))))
def F_tmpl_Make (now_1:Int) (q_2:(List UInt8×(Int×Int))) (c_3:(List ((List UInt8×(Int×(Int×(List (List UInt8)×(Int×Int))))))×(Int×(List UInt8×(List UInt8×(Int×(Int×(List (List UInt8)×(Int×Int))))))))):Option (((List UInt8×(Int×(Int×(Int×(List UInt8×List ((List ((Int×(Int×Int)))×(Int×Bool))))))))×Bool)) :=
 bnd (α:=(Int ⊕ Bool)) (bnd (α:=Bool) (if (c_3.2.1==0)=true then
    gq now_1<|gq c_3.2.1<|g3 q_2<|g9 c_3<|gq (α:=List UInt8) ([])<|gz<|gz<|gz<|gq (α:=List UInt8) ([])<|g3 q_2<|gz<|gq (α:=List UInt8) ([]) <|
    some (c_3.2.1==0)
   else
    gq now_1<|gq c_3.2.1<|g3 q_2<|g9 c_3<|gq (α:=List UInt8) ([])<|gz<|gz<|gz<|gq (α:=List UInt8) ([])<|g3 q_2<|gz<|gq (α:=List UInt8) ([]) <|
    some (c_3.2.1==1)) fun s16_4 =>
  if s16_4=true then
   gq now_1<|g3 q_2<|g9 c_3<|gq (α:=List UInt8) ([])<|gz<|gz<|gz<|gq (α:=List UInt8) ([])<|g3 q_2<|gq (α:=List UInt8) ([]) <|
   some (.inl 0)
  else
   if (c_3.2.1==2)=true then
    gq now_1<|g3 q_2<|g9 c_3<|gq (α:=List UInt8) ([])<|gz<|gz<|gz<|gq (α:=List UInt8) ([])<|g3 q_2<|gq (α:=List UInt8) ([]) <|
    some (.inl 3)
   else
    g3 q_2<|g9 c_3<|gq (α:=List UInt8) ([])<|gz<|gz<|gz<|gq (α:=List UInt8) ([])<|g3 q_2<|gz<|gq (α:=List UInt8) ([]) <|
    some (.inr false)) fun o5 =>
 match o5 with
 | .inl b3d_6 =>
  bnd (α:=(Bool ⊕ Unit)) (bnd (F_tmpl_in now_1 1099511627776) fun v7 =>
   if (!v7)=false then
    bnd (F_tmpl_asked (q_2.1,q_2.2.1,q_2.2.2)) fun v8 =>
    if (!v8)=true then
     g3 q_2<|g9 c_3<|gq (α:=List UInt8) ([])<|gz<|gz<|gz<|gq (α:=List UInt8) ([])<|g3 q_2<|gq b3d_6<|gq (α:=List UInt8) ([]) <|
     some (.inl false)
    else
     gq now_1<|g3 q_2<|g9 c_3<|gq (α:=List UInt8) ([])<|gz<|gz<|gz<|gq (α:=List UInt8) ([])<|g3 q_2<|gq b3d_6<|gq (α:=List UInt8) ([]) <|
     some (.inr (()))
   else
    g3 q_2<|g9 c_3<|gq (α:=List UInt8) ([])<|gz<|gz<|gz<|gq (α:=List UInt8) ([])<|g3 q_2<|gq b3d_6<|gq (α:=List UInt8) ([]) <|
    some (.inl false)) fun o9 =>
  match o9 with
  | .inl s7_10 =>
   some ((([],(0,(0,(0,([],[]))))),s7_10))
  | .inr _ =>
   bnd (loopS (step_tmpl_Make_0 now_1 q_2 c_3 b3d_6) ((0,([],[])))) fun o32 =>
   match o32 with
   | .inl (b3e_33,b3f_34) =>
    if (c_3.2.1 != 0)=true then
     bnd (F_group_Flat (c_3.2.2.2.1,c_3.2.2.2.2.1,c_3.2.2.2.2.2.1,c_3.2.2.2.2.2.2.1,c_3.2.2.2.2.2.2.2.1) c_3.2.2.2.2.2.2.2.2 0) fun v35 =>
     bnd (α:=((Bool×List ((List ((Int×(Int×Int)))×(Int×Bool)))) ⊕ List ((List ((Int×(Int×Int)))×(Int×Bool))))) (if ((↑v35.length:Int)==0)=false then
       if decide (c_3.2.2.2.2.2.2.2.2<1)=false then
        if decide (604800<c_3.2.2.2.2.2.2.2.2)=true then
         g3 q_2<|g9 c_3<|gq (α:=List UInt8) ([])<|gz<|gz<|gz<|gq (α:=List UInt8) ([])<|g3 q_2<|gq b3d_6<|gq b3e_33<|gq c_3.2.2.2.1<|gq c_3.2.2.2.2.1<|gq c_3.2.2.2.2.2.1<|gq c_3.2.2.2.2.2.2.1<|gq c_3.2.2.2.2.2.2.2.1<|gq c_3.2.2.2.2.2.2.2.2 <|
         some (.inl ((false,b3f_34)))
        else
         gq now_1<|gq (α:=Bool) true<|gq v35<|g3 q_2<|g9 c_3<|gq (α:=List UInt8) ([])<|gz<|gz<|gz<|gq (α:=List UInt8) ([])<|g3 q_2<|gq b3d_6<|gq b3e_33<|gq c_3.2.2.2.1<|gq c_3.2.2.2.2.1<|gq c_3.2.2.2.2.2.1<|gq c_3.2.2.2.2.2.2.1<|gq c_3.2.2.2.2.2.2.2.1<|gq c_3.2.2.2.2.2.2.2.2 <|
         some (.inr b3f_34)
       else
        g3 q_2<|g9 c_3<|gq (α:=List UInt8) ([])<|gz<|gz<|gz<|gq (α:=List UInt8) ([])<|g3 q_2<|gq b3d_6<|gq b3e_33<|gq c_3.2.2.2.1<|gq c_3.2.2.2.2.1<|gq c_3.2.2.2.2.2.1<|gq c_3.2.2.2.2.2.2.1<|gq c_3.2.2.2.2.2.2.2.1<|gq c_3.2.2.2.2.2.2.2.2 <|
        some (.inl ((false,b3f_34)))
      else
       g3 q_2<|g9 c_3<|gq (α:=List UInt8) ([])<|gz<|gz<|gz<|gq (α:=List UInt8) ([])<|g3 q_2<|gq b3d_6<|gq b3e_33<|gq c_3.2.2.2.1<|gq c_3.2.2.2.2.1<|gq c_3.2.2.2.2.2.1<|gq c_3.2.2.2.2.2.2.1<|gq c_3.2.2.2.2.2.2.2.1<|gq c_3.2.2.2.2.2.2.2.2 <|
       some (.inl ((false,b3f_34)))) fun o36 =>
     match o36 with
     | .inl (s8_37,b3f_38) =>
      if (!s8_37)=true then
       some ((([],(0,(0,(0,([],[]))))),false))
      else
       some (((q_2.1,(q_2.2.1,(q_2.2.2,(b3d_6,(b3e_33,b3f_38))))),true))
     | .inr b3f_39 =>
      bnd (loopS (step_tmpl_Make_2 now_1 q_2 c_3 b3d_6 v35) ((0,(b3e_33,(b3f_39,[]))))) fun (b3e_48,b3f_49,b5a_50) =>
      grd ((b3f_49.length+[(b5a_50,IntKind.i64.wrap (now_1+c_3.2.2.2.2.2.2.2.2),true)].length)*40≤roomLim) <|
      some (((q_2.1,(q_2.2.1,(q_2.2.2,(b3d_6,(b3e_48,b3f_49++[(b5a_50,IntKind.i64.wrap (now_1+c_3.2.2.2.2.2.2.2.2),true)]))))),true))
    else
     some (((q_2.1,(q_2.2.1,(q_2.2.2,(b3d_6,(b3e_33,b3f_34))))),true))
   | .inr (s7_51,b3e_52,b3f_53) =>
    some ((([],(0,(0,(0,([],[]))))),s7_51))
 | .inr s7_54 =>
  some ((([],(0,(0,(0,([],[]))))),s7_54))
def ann_tmpl_Make:List (List Nat×Ann):=[([4],⟨none,[(.normal,⟨(.cons kI (anyN 3 (.cons (.ptr 0 0) yS38))),[.cells 24 true yS28,.cells 48 true yS0,.cells 42 true yS11,.cells 42 true (.cons kS (.cons kI (.cons kI (.cons yI (.cons kS (.cons .nill .nil))))))],[],[]⟩),(.ret,⟨yS42,[.cells 24 true yS28,.cells 48 true yS0,.cells 42 true yS11,.cells 42 true yS11],[],[]⟩)]⟩),([8],⟨none,[(.normal,⟨(.cons kI (anyN 3 (.cons (.ptr 0 0) (.cons (.ptr 1 0) (.cons (.ptr 2 0) (anyN 1 (.cons (.ptr 3 0) (anyN 5 (.cons kI (anyN 1 (.cons (.ty .bool) (anyN 39 .nil)))))))))))),[.cells 24 true yS28,.cells 48 true yS0,.cells 42 true yS11,.cells 42 true yS11],[],[]⟩)]⟩),([23],⟨none,[(.ret,⟨yS42,[.cells 24 true yS28,.cells 48 true yS0,.cells 42 true yS11,.cells 42 true yS11],[],[]⟩),(.normal,⟨(.cons kI (anyN 4 yS38)),[.cells 24 true yS28,.cells 48 true yS0,.cells 42 true yS11,.cells 42 true yS11],[],[]⟩)]⟩),([4,47,2,47],⟨none,[(.ret,⟨(anyN 8 (.cons (.ty .bool) (anyN 86 .nil))),[.cells 24 true yS28,.cells 48 true yS0,.cells 42 true yS11,.cells 42 true yS30,.cells 46 true yS14,.cells 46 true yS14],[⟨⟨0,yT1,69,true,true⟩,false⟩],[]⟩),(.normal,⟨(.cons (.ptr 3 0) (.cons kI (anyN 1 (.cons kB (anyN 2 (.cons (.ptr 5 0) (anyN 2 (.cons (.keep (.list tRR)) (anyN 85 .nil))))))))),[.cells 24 true yS28,.cells 48 true yS0,.cells 42 true yS11,.cells 42 true yS30,.cells 46 true yS14,.cells 46 true yS14],[⟨⟨0,yT1,69,true,true⟩,false⟩],[]⟩)]⟩),([4,47,7,56],⟨none,[(.ret,⟨(anyN 8 (.cons (.ty .bool) (anyN 86 .nil))),[.cells 24 true yS28,.cells 48 true yS0,.cells 42 true yS11,.cells 42 true yS30,.cells 46 true yS14],[⟨⟨0,yT1,69,true,true⟩,false⟩],[]⟩),(.normal,⟨(.cons (.ptr 3 0) (.cons kI (anyN 1 (.cons kB (anyN 2 (.cons (.ptr 4 0) (anyN 2 (.cons (.keep (.list tRR)) (anyN 85 .nil))))))))),[.cells 24 true yS28,.cells 48 true yS0,.cells 42 true yS11,.cells 42 true yS30,.cells 46 true yS14],[⟨⟨0,yT1,69,true,true⟩,false⟩],[]⟩)]⟩),([35],⟨some ⟨(.cons kI (anyN 4 (.cons (.ptr 1 0) (.cons (.ptr 2 0) (anyN 1 (.cons (.ptr 3 0) (anyN 23 (.cons (.keep (.list yT16)) (.cons kI (.cons yI (anyN 21 .nil))))))))))),[.cells 24 true yS28,.cells 48 true yS0,.cells 42 true yS11,.cells 42 true yS18],[⟨⟨0,yT1,69,true,true⟩,true⟩],[]⟩,[(.exit 1,⟨(.cons kI (anyN 4 yS38)),[.cells 24 true yS28,.cells 48 true yS0,.cells 42 true yS11,.cells 42 true yS18],[⟨⟨0,yT1,69,true,true⟩,false⟩],[]⟩),(.ret,⟨yS42,[.cells 24 true yS28,.cells 48 true yS0,.cells 42 true yS11,.cells 42 true yS18],[⟨⟨0,yT1,69,true,true⟩,false⟩],[]⟩)]⟩),([18,47,2,47],⟨some ⟨(.cons (.ptr 3 0) (anyN 9 (.cons (.ptr 6 0) (anyN 27 (.cons (.keep (.list tRR)) (.cons kI (.cons yI (anyN 54 .nil)))))))),[.cells 24 true yS28,.cells 48 true yS0,.cells 42 true yS11,.cells 42 true yS18,.cells 46 true yS14,.cells 46 true yS14,.cells 69 true yS40],[⟨⟨0,yT1,69,true,true⟩,false⟩,⟨⟨0,yT15,122,true,true⟩,true⟩],[]⟩,[(.exit 0,⟨(.cons (.ptr 3 0) (anyN 9 (.cons (.ptr 6 0) (anyN 84 .nil)))),[.cells 24 true yS28,.cells 48 true yS0,.cells 42 true yS11,.cells 42 true yS18,.cells 46 true yS14,.cells 46 true yS14,.cells 69 true yS40],[⟨⟨0,yT1,69,true,true⟩,false⟩,⟨⟨0,yT15,122,true,true⟩,false⟩],[]⟩)]⟩),([18,47,7,56],⟨some ⟨(.cons (.ptr 3 0) (anyN 9 (.cons (.ptr 5 0) (anyN 27 (.cons (.keep (.list tRR)) (.cons kI (.cons yI (anyN 54 .nil)))))))),[.cells 24 true yS28,.cells 48 true yS0,.cells 42 true yS11,.cells 42 true yS18,.cells 46 true yS14,.cells 69 true yS40],[⟨⟨0,yT1,69,true,true⟩,false⟩,⟨⟨0,yT15,122,true,true⟩,true⟩],[]⟩,[(.exit 0,⟨(.cons (.ptr 3 0) (anyN 9 (.cons (.ptr 5 0) (anyN 84 .nil)))),[.cells 24 true yS28,.cells 48 true yS0,.cells 42 true yS11,.cells 42 true yS18,.cells 46 true yS14,.cells 69 true yS40],[⟨⟨0,yT1,69,true,true⟩,false⟩,⟨⟨0,yT15,122,true,true⟩,false⟩],[]⟩)]⟩)]
@[reducible] def fs_tmpl_Make:List (Nat×SFn):=[(78,.pure [.str,tI,tRR] [.str] (fun x=>F_record_Encode x.1 x.2.1 x.2.2)),(79,.pure [.str,tI,tRR] [tI] (fun x=>F_record_TTL x.1 x.2.1 x.2.2)),(77,.pure [yT23,tI,tI] [(.list tRR)] (fun x=>F_group_Flat x.1 x.2.1 x.2.2)),(45,.pure [tI,tI] [.bool] (fun x=>F_tmpl_in x.1 x.2)),(46,.pure [tQ] [.bool] (fun x=>F_tmpl_asked x))]
theorem told_tmpl_Make:Told CC Tryz.prog 18 [tI,tQ,yT2] [yT12,.bool] (fun x=>F_tmpl_Make x.1 x.2.1 x.2.2):=told_of (n:=100000) (gok (an:=ann_tmpl_Make) (fs:=fs_tmpl_Make) ⟨told_record_Encode,told_record_TTL,told_group_Flat,told_tmpl_in,told_tmpl_asked,trivial⟩) rfl rfl (fun x=>by kernel_rfl)
end
end Go.Abs
