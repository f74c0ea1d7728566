/- Part of a proof. -/
import Derived.Test.YthlcfhkcbmikcaaGreatSnA
set_option linter.unusedSimpArgs false
set_option linter.unusedVariables false
set_option linter.unusedSectionVars false
set_option maxRecDepth 100000
namespace Go.Abs
open Go Go.Proofs
noncomputable section
def F_name_Up (n_1:List UInt8):Option ((List UInt8×Bool)) :=
 bnd (F_name_Check n_1) fun v2 =>
 if (!v2)=false then
  if (n_1==[0])=true then
   some (([],false))
  else
   bnd (n_1[0]?) fun x3 =>
   natOf (IntKind.i64.wrap (1+IntKind.i64.wrap (↑x3.toNat:Int))) fun n4 =>
   grd (n4≤n_1.length) <|
   some ((List.drop n4 n_1,true))
 else
  some (([],false))
def ann_name_Up:List (List Nat×Ann):=[]
@[reducible] def fs_name_Up:List (Nat×SFn):=[(75,.pure [.str] [.bool] (fun x=>F_name_Check x))]
theorem told_name_Up:Told CC Tryz.prog 145 [.str] [.str,.bool] (fun x=>F_name_Up x):=told_of (n:=100000) (gok (an:=ann_name_Up) (fs:=fs_name_Up) ⟨told_name_Check,trivial⟩) rfl rfl (fun x=>by kernel_rfl)
def F_record_in (n_1:Int) (most_2:Int):Option (Bool) :=
 if decide (0≤n_1)=true then
  some (decide (n_1≤most_2))
 else
  some false
def ann_record_in:List (List Nat×Ann):=[]
theorem told_record_in:Told CC Tryz.prog 148 [tI,tI] [.bool] (fun x=>F_record_in x.1 x.2):=told_of (n:=100000) (gok (an:=ann_record_in) (fs:=[]) trivial) rfl rfl (fun x=>by kernel_rfl)
def F_ref05_shape (kind_1:Int):Option ((Int×(Int×Int))) :=
 bnd (α:=Bool) (if (kind_1==2)=true then
   gq kind_1<|gz<|gz<|gz <|
   some (kind_1==2)
  else
   if (kind_1==5)=true then
    gq kind_1<|gz<|gz<|gz <|
    some (kind_1==5)
   else
    gq kind_1<|gz<|gz<|gz <|
    some (kind_1==12)) fun s4_2 =>
 if s4_2=true then
  some ((0,(1,0)))
 else
  if (kind_1==6)=true then
   some ((0,(2,20)))
  else
   if (kind_1==15)=true then
    some ((2,(1,0)))
   else
    if (kind_1==33)=true then
     some ((6,(1,0)))
    else
     if (kind_1==1)=true then
      some ((4,(0,0)))
     else
      if (kind_1==28)=true then
       some ((16,(0,0)))
      else
       some ((0,(0,0)))
def ann_ref05_shape:List (List Nat×Ann):=[([6],⟨none,[(.normal,⟨(anyN 2 (.cons (.ptr 0 0) (.cons kI (.cons (.ty .bool) (anyN 20 .nil))))),[.cells 22 true yS20],[],[]⟩)]⟩)]
theorem told_ref05_shape:Told CC Tryz.prog 151 [tI] [yT18] (fun x=>F_ref05_shape x):=told_of (n:=100000) (gok (an:=ann_ref05_shape) (fs:=[]) trivial) rfl rfl (fun x=>by kernel_rfl)
def step_ref05_texts_0 (d_1:List UInt8):Int→Option (Int ⊕ Int):=fun i_2 =>
 if decide (i_2<(↑d_1.length:Int))=true then
  natOf i_2 fun n3 =>
  bnd (d_1[n3]?) fun x4 =>
  grdEq d_1 d_1 <|
  some (.inl (IntKind.i64.wrap (IntKind.i64.wrap (i_2+1)+IntKind.i64.wrap (↑x4.toNat:Int))))
 else
  grdEq d_1 d_1 <|
  some (.inr i_2)
def F_ref05_texts (d_1:List UInt8):Option (Bool) :=
 bnd (loopS (step_ref05_texts_0 d_1) 0) fun i_5 =>
 if (i_5==(↑d_1.length:Int))=true then
  some (decide (0<i_5))
 else
  some false
def ann_ref05_texts:List (List Nat×Ann):=[([6],⟨some ⟨(.cons kS (anyN 2 (.cons yI yS37))),[],[],[]⟩,[(.exit 0,⟨(.cons kS (anyN 2 (.cons yI yS37))),[],[],[]⟩)]⟩)]
theorem told_ref05_texts:Told CC Tryz.prog 152 [.str] [.bool] (fun x=>F_ref05_texts x):=told_of (n:=100000) (gok (an:=ann_ref05_texts) (fs:=[]) trivial) rfl rfl (fun x=>by kernel_rfl)
def step_ref05_Expand_0 (msg_1:List UInt8) (at_2:Int) (size_3:Int) (v7:Int×Int×Int):(List UInt8×(Int×Int))→Option ((List UInt8×(Int×Int)) ⊕ ((List UInt8×Int) ⊕ (List UInt8×Int))):=fun (out_10,i_11,k_12) =>
 if decide (k_12<v7.2.1)=true then
  bnd (F_ref04_Read msg_1 i_11) fun (v13,v14,v15) =>
  if (v15 != 0)=true then
   g3 v7 <|
   some (.inr (.inl (([],4))))
  else
   grd (out_10.length+v13.length≤maxStr) <|
   gq msg_1<|gq at_2<|gq size_3<|g3 v7 <|
   some (.inl ((out_10++v13,(v14,IntKind.i64.wrap (k_12+1)))))
 else
  gq msg_1<|gq at_2<|gq size_3<|g3 v7 <|
  some (.inr (.inr ((out_10,i_11))))
def F_ref05_Expand (msg_1:List UInt8) (at_2:Int) (size_3:Int) (kind_4:Int):Option ((List UInt8×Int)) :=
 bnd (F_ref01_Take msg_1 at_2 size_3) fun (v5,v6) =>
 if (!v6)=true then
  some (([],2))
 else
  bnd (F_ref05_shape kind_4) fun v7 =>
  if (v7.1==0&&(v7.2.1==0&&(v7.2.2==0&&true)))=true then
   if (kind_4==16)=true then
    bnd (F_ref05_texts v5) fun v8 =>
    if (!v8)=false then
     if decide (65535<(↑v5.length:Int))=true then
      some (([],4))
     else
      some ((v5,0))
    else
     some (([],4))
   else
    if decide (65535<(↑v5.length:Int))=true then
     some (([],4))
    else
     some ((v5,0))
  else
   if decide (size_3<v7.1)=true then
    some (([],4))
   else
    natOf v7.1 fun n9 =>
    grd (n9≤v5.length) <|
    bnd (loopS (step_ref05_Expand_0 msg_1 at_2 size_3 v7) ((List.take n9 v5,(IntKind.i64.wrap (at_2+v7.1),0)))) fun o16 =>
    match o16 with
    | .inl (s8_17,s9_18) =>
     some ((s8_17,s9_18))
    | .inr (out_19,i_20) =>
     if (IntKind.i64.wrap (i_20+v7.2.2) != IntKind.i64.wrap (at_2+size_3))=true then
      some (([],4))
     else
      natOf (IntKind.i64.wrap (at_2+size_3)) fun n21 =>
      grd (n21≤msg_1.length) <|
      natOf i_20 fun n22 =>
      grd (n22≤n21) <|
      grd (out_19.length+(List.drop n22 (List.take n21 msg_1)).length≤maxStr) <|
      if decide (65535<(↑(out_19++List.drop n22 (List.take n21 msg_1)).length:Int))=true then
       some (([],4))
      else
       some ((out_19++List.drop n22 (List.take n21 msg_1),0))
def ann_ref05_Expand:List (List Nat×Ann):=[([46],⟨some ⟨(.cons kS (.cons kI (.cons kI (anyN 9 (.cons (.ptr 0 0) (.cons (.ty .str) (.cons yI (.cons yI (anyN 81 .nil))))))))),[.cells 22 true yS20],[],[]⟩,[(.ret,⟨(anyN 8 (.cons (.ty .str) (.cons yI (anyN 87 .nil)))),[.cells 22 true yS20],[],[]⟩),(.exit 0,⟨(.cons kS (.cons kI (.cons kI (anyN 9 (.cons (.ptr 0 0) (.cons (.ty .str) (.cons yI (anyN 82 .nil)))))))),[.cells 22 true yS20],[],[]⟩)]⟩)]
@[reducible] def fs_ref05_Expand:List (Nat×SFn):=[(93,.pure [.str,tI] [.str,tI,tI] (fun x=>F_ref04_Read x.1 x.2)),(92,.pure [.str,tI,tI] [.str,.bool] (fun x=>F_ref01_Take x.1 x.2.1 x.2.2)),(151,.pure [tI] [yT18] (fun x=>F_ref05_shape x)),(152,.pure [.str] [.bool] (fun x=>F_ref05_texts x))]
theorem told_ref05_Expand:Told CC Tryz.prog 122 [.str,tI,tI,tI] [.str,tI] (fun x=>F_ref05_Expand x.1 x.2.1 x.2.2.1 x.2.2.2):=told_of (n:=100000) (gok (an:=ann_ref05_Expand) (fs:=fs_ref05_Expand) ⟨told_ref04_Read,told_ref01_Take,told_ref05_shape,told_ref05_texts,trivial⟩) rfl rfl (fun x=>by kernel_rfl)
def F_ref06_Decode (msg_1:List UInt8) (at_2:Int):Option (((List UInt8×(Int×(Int×(Int×List UInt8))))×(Int×Int))) :=
 bnd (F_ref04_Read msg_1 at_2) fun (v3,v4,v5) =>
 if (v5 != 0)=true then
  some ((([],(0,(0,(0,[])))),(0,v5)))
 else
  bnd (F_ref01_Take msg_1 v4 10) fun (v6,v7) =>
  if (!v7)=true then
   some ((([],(0,(0,(0,[])))),(0,2)))
  else
   bnd (F_ref01_Get msg_1 v4 2) fun (v8,v9) =>
   bnd (F_ref01_Get msg_1 (IntKind.i64.wrap (v4+2)) 2) fun (v10,v11) =>
   bnd (F_ref01_Get msg_1 (IntKind.i64.wrap (v4+4)) 4) fun (v12,v13) =>
   bnd (F_ref01_Get msg_1 (IntKind.i64.wrap (v4+8)) 2) fun (v14,v15) =>
   bnd (α:=Int) (if decide (2147483648≤v12)=true then
     gq msg_1<|gq v3<|gq v4<|gq v8<|gq v10<|gq v14<|gq (α:=List UInt8) ([])<|gz<|gz<|gz<|gq (α:=List UInt8) ([]) <|
     some 0
    else
     gq msg_1<|gq v3<|gq v4<|gq v8<|gq v10<|gq v14<|gq (α:=List UInt8) ([])<|gz<|gz<|gz<|gq (α:=List UInt8) ([]) <|
     some v12) fun ttl_16 =>
   bnd (F_ref05_Expand msg_1 (IntKind.i64.wrap (v4+10)) v14 v8) fun (v17,v18) =>
   if (v18 != 0)=true then
    some ((([],(0,(0,(0,[])))),(0,v18)))
   else
    some (((v3,(v8,(v10,(ttl_16,v17)))),(IntKind.i64.wrap (IntKind.i64.wrap (v4+10)+v14),0)))
def ann_ref06_Decode:List (List Nat×Ann):=[([30],⟨none,[(.normal,⟨(.cons kS (anyN 3 (.cons (.ptr 0 0) (anyN 2 (.cons kS (.cons kI (anyN 3 (.cons kI (anyN 1 (.cons kI (anyN 1 (.cons yI (anyN 1 (.cons kI (anyN 75 .nil))))))))))))))),[.cells 101 true yS10],[],[]⟩)]⟩)]
@[reducible] def fs_ref06_Decode:List (Nat×SFn):=[(93,.pure [.str,tI] [.str,tI,tI] (fun x=>F_ref04_Read x.1 x.2)),(92,.pure [.str,tI,tI] [.str,.bool] (fun x=>F_ref01_Take x.1 x.2.1 x.2.2)),(53,.pure [.str,tI,tI] [tI,.bool] (fun x=>F_ref01_Get x.1 x.2.1 x.2.2)),(122,.pure [.str,tI,tI,tI] [.str,tI] (fun x=>F_ref05_Expand x.1 x.2.1 x.2.2.1 x.2.2.2))]
theorem told_ref06_Decode:Told CC Tryz.prog 94 [.str,tI] [tRR,tI,tI] (fun x=>F_ref06_Decode x.1 x.2):=told_of (n:=100000) (gok (an:=ann_ref06_Decode) (fs:=fs_ref06_Decode) ⟨told_ref04_Read,told_ref01_Take,told_ref01_Get,told_ref05_Expand,trivial⟩) rfl rfl (fun x=>by kernel_rfl)
def step_ref08_section_0 (s_1:List UInt8) (many_3:Int):(Int×(List ((List UInt8×(Int×(Int×(Int×List UInt8)))))×Int))→Option ((Int×(List ((List UInt8×(Int×(Int×(Int×List UInt8)))))×Int)) ⊕ ((Int×Int) ⊕ (Int×List ((List UInt8×(Int×(Int×(Int×List UInt8)))))))):=fun (at_4,out_5,i_6) =>
 if decide (i_6<many_3)=true then
  bnd (F_ref06_Decode s_1 at_4) fun (v7,v8,v9) =>
  if (v9 != 0)=true then
   some (.inr (.inl ((0,v9))))
  else
   grd ((out_5.length+[(v7.1,v7.2.1,v7.2.2.1,v7.2.2.2.1,v7.2.2.2.2)].length)*56≤roomLim) <|
   gq s_1<|gq many_3 <|
   some (.inl ((v8,(out_5++[(v7.1,v7.2.1,v7.2.2.1,v7.2.2.2.1,v7.2.2.2.2)],IntKind.i64.wrap (i_6+1)))))
 else
  some (.inr (.inr ((at_4,out_5))))
def F_ref08_section (s_1:List UInt8) (at_2:Int) (many_3:Int):Option ((List ((List UInt8×(Int×(Int×(Int×List UInt8)))))×(Int×Int))) :=
 bnd (loopS (step_ref08_section_0 s_1 many_3) ((at_2,([],0)))) fun o10 =>
 match o10 with
 | .inl (s7_11,s8_12) =>
  some (([],(s7_11,s8_12)))
 | .inr (at_13,out_14) =>
  some ((out_14,(at_13,0)))
def ann_ref08_section:List (List Nat×Ann):=[([8],⟨some ⟨(.cons kS (.cons yI (.cons kI (anyN 6 (.cons (.own tRR 0 true) (.cons yI (anyN 25 .nil))))))),[],[⟨⟨0,tRR,101,true,true⟩,true⟩],[]⟩,[(.ret,⟨(anyN 6 (.cons .nill (.cons yI (.cons yI (anyN 27 .nil))))),[],[⟨⟨0,tRR,101,true,true⟩,false⟩],[]⟩),(.exit 0,⟨(anyN 1 (.cons yI (anyN 7 (.cons (.own tRR 0 true) (anyN 26 .nil))))),[],[⟨⟨0,tRR,101,true,true⟩,false⟩],[]⟩)]⟩)]
@[reducible] def fs_ref08_section:List (Nat×SFn):=[(94,.pure [.str,tI] [tRR,tI,tI] (fun x=>F_ref06_Decode x.1 x.2))]
theorem told_ref08_section:Told CC Tryz.prog 55 [.str,tI,tI] [(.list tRR),tI,tI] (fun x=>F_ref08_section x.1 x.2.1 x.2.2):=told_of (n:=100000) (gok (an:=ann_ref08_section) (fs:=fs_ref08_section) ⟨told_ref06_Decode,trivial⟩) rfl rfl (fun x=>by kernel_rfl)
def F_ref08_Decode (s_1:List UInt8):Option (((Int×(Int×(List ((List UInt8×(Int×Int)))×(List ((List UInt8×(Int×(Int×(Int×List UInt8)))))×(List ((List UInt8×(Int×(Int×(Int×List UInt8)))))×List ((List UInt8×(Int×(Int×(Int×List UInt8))))))))))×Int)) :=
 if decide (65535<(↑s_1.length:Int))=true then
  some (((0,(0,([],([],([],[]))))),6))
 else
  bnd (F_ref08_Head s_1) fun (v2,v3,v4) =>
  if (!v4)=true then
   some (((0,(0,([],([],([],[]))))),2))
  else
   bnd (F_ref01_Get s_1 4 2) fun (v5,v6) =>
   bnd (F_ref01_Get s_1 6 2) fun (v7,v8) =>
   bnd (F_ref01_Get s_1 8 2) fun (v9,v10) =>
   bnd (F_ref01_Get s_1 10 2) fun (v11,v12) =>
   bnd (F_ref08_questions s_1 12 v5) fun (v13,v14,v15) =>
   if (v15 != 0)=true then
    some (((0,(0,([],([],([],[]))))),v15))
   else
    bnd (F_ref08_section s_1 v14 v7) fun (v16,v17,v18) =>
    if (v18 != 0)=true then
     some (((0,(0,([],([],([],[]))))),v18))
    else
     bnd (F_ref08_section s_1 v17 v9) fun (v19,v20,v21) =>
     if (v21 != 0)=true then
      some (((0,(0,([],([],([],[]))))),v21))
     else
      bnd (F_ref08_section s_1 v20 v11) fun (v22,v23,v24) =>
      if (v24 != 0)=true then
       some (((0,(0,([],([],([],[]))))),v24))
      else
       if (v23 != (↑s_1.length:Int))=true then
        some (((0,(0,([],([],([],[]))))),5))
       else
        some (((v2,(v3,(v13,(v16,(v19,v22))))),0))
def ann_ref08_Decode:List (List Nat×Ann):=[([26],⟨none,[]⟩),([26,1000000],⟨none,[]⟩),([26,1000000,1000000],⟨none,[]⟩),([26,1000000,1000000,1000000],⟨none,[]⟩),([26,1000000,1000000,1000000,1000000],⟨none,[]⟩)]
@[reducible] def fs_ref08_Decode:List (Nat×SFn):=[(52,.pure [.str] [tI,tI,.bool] (fun x=>F_ref08_Head x)),(53,.pure [.str,tI,tI] [tI,.bool] (fun x=>F_ref01_Get x.1 x.2.1 x.2.2)),(54,.pure [.str,tI,tI] [(.list tQ),tI,tI] (fun x=>F_ref08_questions x.1 x.2.1 x.2.2)),(55,.pure [.str,tI,tI] [(.list tRR),tI,tI] (fun x=>F_ref08_section x.1 x.2.1 x.2.2))]
theorem told_ref08_Decode:Told CC Tryz.prog 25 [.str] [tM,tI] (fun x=>F_ref08_Decode x):=told_of (n:=100000) (gok (an:=ann_ref08_Decode) (fs:=fs_ref08_Decode) ⟨told_ref08_Head,told_ref01_Get,told_ref08_questions,told_ref08_section,trivial⟩) rfl rfl (fun x=>by kernel_rfl)
def F_ref05_Check (kind_1:Int) (d_2:List UInt8):Option (Bool) :=
 if decide (65535<(↑d_2.length:Int))=true then
  some false
 else
  bnd (F_ref05_Expand d_2 0 (↑d_2.length:Int) kind_1) fun (v3,v4) =>
  if (v4==0)=true then
   some (v3==d_2)
  else
   some false
def ann_ref05_Check:List (List Nat×Ann):=[]
@[reducible] def fs_ref05_Check:List (Nat×SFn):=[(122,.pure [.str,tI,tI,tI] [.str,tI] (fun x=>F_ref05_Expand x.1 x.2.1 x.2.2.1 x.2.2.2))]
theorem told_ref05_Check:Told CC Tryz.prog 139 [tI,.str] [.bool] (fun x=>F_ref05_Check x.1 x.2):=told_of (n:=100000) (gok (an:=ann_ref05_Check) (fs:=fs_ref05_Check) ⟨told_ref05_Expand,trivial⟩) rfl rfl (fun x=>by kernel_rfl)
def F_ref06_Check (r_1:(List UInt8×(Int×(Int×(Int×List UInt8))))):Option (Bool) :=
 bnd (F_ref02_Check r_1.1) fun v2 =>
 if v2=true then
  if decide (0≤r_1.2.1)=true then
   if decide (r_1.2.1≤65535)=true then
    if decide (0≤r_1.2.2.1)=true then
     if decide (r_1.2.2.1≤65535)=true then
      if decide (0≤r_1.2.2.2.1)=true then
       if decide (r_1.2.2.2.1<2147483648)=true then
        bnd (F_ref05_Check r_1.2.1 r_1.2.2.2.2) fun v3 =>
        some v3
       else
        some false
      else
       some false
     else
      some false
    else
     some false
   else
    some false
  else
   some false
 else
  some false
def ann_ref06_Check:List (List Nat×Ann):=[]
@[reducible] def fs_ref06_Check:List (Nat×SFn):=[(43,.pure [.str] [.bool] (fun x=>F_ref02_Check x)),(139,.pure [tI,.str] [.bool] (fun x=>F_ref05_Check x.1 x.2))]
theorem told_ref06_Check:Told CC Tryz.prog 109 [tRR] [.bool] (fun x=>F_ref06_Check x):=told_of (n:=100000) (gok (an:=ann_ref06_Check) (fs:=fs_ref06_Check) ⟨told_ref02_Check,told_ref05_Check,trivial⟩) rfl rfl (fun x=>by kernel_rfl)
def step_ref08_records_0 (l_1:List (List UInt8×Int×Int×Int×List UInt8)):Int→Option (Int ⊕ (Bool ⊕ Unit)):=fun i_2 =>
 if decide (i_2<(↑l_1.length:Int))=true then
  natOf i_2 fun n3 =>
  bnd (l_1[n3]?) fun x4 =>
  bnd (F_ref06_Check (x4.1,x4.2.1,x4.2.2.1,x4.2.2.2.1,x4.2.2.2.2)) fun v5 =>
  if (!v5)=true then
   some (.inr (.inl false))
  else
   gq l_1 <|
   some (.inl (IntKind.i64.wrap (i_2+1)))
 else
  gq l_1 <|
  some (.inr (.inr (())))
def F_ref08_records (l_1:List ((List UInt8×(Int×(Int×(Int×List UInt8)))))):Option (Bool) :=
 bnd (loopS (step_ref08_records_0 l_1) 0) fun o6 =>
 match o6 with
 | .inl s2_7 =>
  some s2_7
 | .inr _ =>
  bnd (F_ref08_small (↑l_1.length:Int)) fun v8 =>
  some v8
def ann_ref08_records:List (List Nat×Ann):=[([6],⟨some ⟨(.cons (.keep (.list tRR)) (anyN 2 (.cons yI (anyN 15 .nil)))),[],[],[]⟩,[(.ret,⟨(anyN 2 (.cons (.ty .bool) (anyN 16 .nil))),[],[],[]⟩),(.exit 0,⟨(.cons (.keep (.list tRR)) (anyN 18 .nil)),[],[],[]⟩)]⟩)]
@[reducible] def fs_ref08_records:List (Nat×SFn):=[(109,.pure [tRR] [.bool] (fun x=>F_ref06_Check x)),(106,.pure [tI] [.bool] (fun x=>F_ref08_small x))]
theorem told_ref08_records:Told CC Tryz.prog 107 [(.list tRR)] [.bool] (fun x=>F_ref08_records x):=told_of (n:=100000) (gok (an:=ann_ref08_records) (fs:=fs_ref08_records) ⟨told_ref06_Check,told_ref08_small,trivial⟩) rfl rfl (fun x=>by kernel_rfl)
def step_ref08_Check_0 (m_1:Int×Int×List (List UInt8×Int×Int)×List (List UInt8×Int×Int×Int×List UInt8)×List (List UInt8×Int×Int×Int×List UInt8)×List (List UInt8×Int×Int×Int×List UInt8)):Int→Option (Int ⊕ (Bool ⊕ Unit)):=fun i_2 =>
 if decide (i_2<(↑(List.length m_1.2.2.1):Int))=true then
  natOf i_2 fun n3 =>
  bnd (m_1.2.2.1[n3]?) fun x4 =>
  bnd (F_ref02_Check x4.1) fun v5 =>
  if (!v5)=false then
   bnd (F_ref08_small x4.2.1) fun v6 =>
   if (!v6)=false then
    bnd (F_ref08_small x4.2.2) fun v7 =>
    if (!v7)=true then
     g6 m_1 <|
     some (.inr (.inl false))
    else
     g6 m_1 <|
     some (.inl (IntKind.i64.wrap (i_2+1)))
   else
    g6 m_1 <|
    some (.inr (.inl false))
  else
   g6 m_1 <|
   some (.inr (.inl false))
 else
  g6 m_1 <|
  some (.inr (.inr (())))
def F_ref08_Check (m_1:(Int×(Int×(List ((List UInt8×(Int×Int)))×(List ((List UInt8×(Int×(Int×(Int×List UInt8)))))×(List ((List UInt8×(Int×(Int×(Int×List UInt8)))))×List ((List UInt8×(Int×(Int×(Int×List UInt8))))))))))):Option (Bool) :=
 bnd (loopS (step_ref08_Check_0 m_1) 0) fun o8 =>
 match o8 with
 | .inl s2_9 =>
  some s2_9
 | .inr _ =>
  bnd (F_ref08_small m_1.1) fun v10 =>
  if v10=true then
   bnd (F_ref08_small m_1.2.1) fun v11 =>
   if v11=true then
    bnd (F_ref08_small (↑(List.length m_1.2.2.1):Int)) fun v12 =>
    if v12=true then
     bnd (F_ref08_records m_1.2.2.2.1) fun v13 =>
     if v13=true then
      bnd (F_ref08_records m_1.2.2.2.2.1) fun v14 =>
      if v14=true then
       bnd (F_ref08_records m_1.2.2.2.2.2) fun v15 =>
       some v15
      else
       some false
     else
      some false
    else
     some false
   else
    some false
  else
   some false
def ann_ref08_Check:List (List Nat×Ann):=[([6],⟨some ⟨(anyN 1 (.cons (.ptr 0 0) (anyN 1 (.cons yI (anyN 58 .nil))))),[.cells 63 true yS0],[],[]⟩,[(.ret,⟨(anyN 2 (.cons (.ty .bool) (anyN 59 .nil))),[.cells 63 true yS0],[],[]⟩),(.exit 0,⟨(anyN 1 (.cons (.ptr 0 0) (anyN 60 .nil))),[.cells 63 true yS0],[],[]⟩)]⟩)]
@[reducible] def fs_ref08_Check:List (Nat×SFn):=[(43,.pure [.str] [.bool] (fun x=>F_ref02_Check x)),(106,.pure [tI] [.bool] (fun x=>F_ref08_small x)),(107,.pure [(.list tRR)] [.bool] (fun x=>F_ref08_records x))]
theorem told_ref08_Check:Told CC Tryz.prog 70 [tM] [.bool] (fun x=>F_ref08_Check x):=told_of (n:=100000) (gok (an:=ann_ref08_Check) (fs:=fs_ref08_Check) ⟨told_ref02_Check,told_ref08_small,told_ref08_records,trivial⟩) rfl rfl (fun x=>by kernel_rfl)
def step_comp_Read_0 (msg_1:List UInt8):(Int×(Int×(Int×(Int×List (Int)))))→Option ((Int×(Int×(Int×(Int×List (Int))))) ⊕ ((Int×(Int×(Int×(Int×List (Int))))) ⊕ (List UInt8×(Int×(Int×(Int×(Int×(Int×List (Int))))))))):=fun (e_3,b0b_4,b0c_5,b0d_6,b0f_7) =>
 if (e_3==0)=true then
  bnd (F_octet_Get msg_1 b0b_4 1) fun (v8,v9) =>
  if (!v9)=true then
   gq msg_1 <|
   some (.inr (.inl ((2,(b0b_4,(b0c_5,(b0d_6,b0f_7)))))))
  else
   if (v8==0)=true then
    bnd (α:=(Int×List (Int))) (if (b0d_6==-1)=true then
      gq msg_1<|gq b0b_4<|gq b0c_5 <|
      some ((IntKind.i64.wrap (b0b_4+1),b0f_7))
     else
      gq msg_1<|gq b0b_4<|gq b0c_5 <|
      some ((b0d_6,b0f_7))) fun (b0d_10,b0f_11) =>
    grd (b0f_11.length≤9223372036854775807) <|
    grd (∀(n:(Ty.int IntKind.u8).den),n∈b0f_11→0≤n∧n<256) <|
    grd ((List.map (fun n=>UInt8.ofNat (Int.toNat n)) b0f_11).length+1≤maxStr) <|
    gq msg_1 <|
    some (.inr (.inr ((List.map (fun n=>UInt8.ofNat (Int.toNat n)) b0f_11++[0],(b0d_10,(0,(b0b_4,(b0c_5,(b0d_10,b0f_11)))))))))
   else
    if decide (192≤v8)=true then
     bnd (F_octet_Get msg_1 b0b_4 2) fun (v12,v13) =>
     if (!v13)=true then
      gq msg_1 <|
      some (.inl ((2,(b0b_4,(b0c_5,(b0d_6,b0f_7))))))
     else
      if decide (b0c_5≤IntKind.i64.wrap (v12-49152))=true then
       gq msg_1 <|
       some (.inl ((3,(b0b_4,(b0c_5,(b0d_6,b0f_7))))))
      else
       bnd (α:=(Int×List (Int))) (if (b0d_6==-1)=true then
         gq v12<|gq msg_1<|gq b0b_4<|gq b0c_5 <|
         some ((IntKind.i64.wrap (b0b_4+2),b0f_7))
        else
         gq v12<|gq msg_1<|gq b0b_4<|gq b0c_5 <|
         some ((b0d_6,b0f_7))) fun (b0d_14,b0f_15) =>
       gq msg_1 <|
       some (.inl ((0,(IntKind.i64.wrap (v12-49152),(IntKind.i64.wrap (v12-49152),(b0d_14,b0f_15))))))
    else
     if decide (63<v8)=true then
      gq msg_1 <|
      some (.inl ((3,(b0b_4,(b0c_5,(b0d_6,b0f_7))))))
     else
      bnd (F_octet_Take msg_1 b0b_4 (IntKind.i64.wrap (1+v8))) fun (v16,v17) =>
      if (!v17)=true then
       gq msg_1 <|
       some (.inl ((2,(b0b_4,(b0c_5,(b0d_6,b0f_7))))))
      else
       if decide (255≤IntKind.i64.wrap ((↑b0f_7.length:Int)+(↑v16.length:Int)))=true then
        gq msg_1 <|
        some (.inl ((3,(b0b_4,(b0c_5,(b0d_6,b0f_7))))))
       else
        grd ((b0f_7.length+(List.map (fun b=>(↑b.toNat:Int)) v16).length)*1≤roomLim) <|
        gq msg_1 <|
        some (.inl ((0,(IntKind.i64.wrap (b0b_4+(↑v16.length:Int)),(b0c_5,(b0d_6,b0f_7++List.map (fun b=>(↑b.toNat:Int)) v16))))))
 else
  gq msg_1 <|
  some (.inr (.inl ((e_3,(b0b_4,(b0c_5,(b0d_6,b0f_7)))))))
def F_comp_Read (msg_1:List UInt8) (at_2:Int):Option ((List UInt8×(Int×Int))) :=
 bnd (loopS (step_comp_Read_0 msg_1) ((0,(at_2,(at_2,(-1,[])))))) fun o18 =>
 match o18 with
 | .inl (e_19,b0b_20,b0c_21,b0d_22,b0f_23) =>
  some (([],(0,e_19)))
 | .inr (s4_24,s5_25,s6_26,b0b_27,b0c_28,b0d_29,b0f_30) =>
  some ((s4_24,(s5_25,s6_26)))
def ann_comp_Read:List (List Nat×Ann):=[([2,164,1,32],⟨none,[(.normal,⟨(.cons (.ptr 0 0) (anyN 26 .nil)),[.cells 226 true (.cons kS (.cons kI (.cons kI yS33)))],[⟨⟨0,(.int .u8),5,false,false⟩,false⟩],[]⟩)]⟩),([19,165,1,37],⟨none,[(.normal,⟨(.cons (.ptr 0 0) (anyN 2 (.cons kI (anyN 47 .nil)))),[.cells 226 true (.cons kS (.cons kI (.cons kI yS33)))],[⟨⟨0,(.int .u8),5,false,false⟩,false⟩],[]⟩)]⟩),([11],⟨some ⟨(anyN 7 (.cons (.ptr 0 0) (.cons yI (anyN 44 .nil)))),[.cells 226 true (.cons kS (.cons yI (.cons yI yS33)))],[⟨⟨0,(.int .u8),5,false,false⟩,true⟩],[]⟩,[(.exit 0,⟨(anyN 8 (.cons yI (anyN 44 .nil))),[.cells 226 true (.cons kS (.cons yI (.cons yI yS33)))],[⟨⟨0,(.int .u8),5,false,false⟩,false⟩],[]⟩),(.ret,⟨(anyN 4 (.cons (.ty .str) (.cons yI (.cons yI (anyN 46 .nil))))),[.cells 226 true (.cons kS (.cons yI (.cons yI yS33)))],[⟨⟨0,(.int .u8),5,false,false⟩,false⟩],[]⟩)]⟩)]
@[reducible] def fs_comp_Read:List (Nat×SFn):=[(95,.pure [.str,tI,tI] [tI,.bool] (fun x=>F_octet_Get x.1 x.2.1 x.2.2)),(123,.pure [.str,tI,tI] [.str,.bool] (fun x=>F_octet_Take x.1 x.2.1 x.2.2))]
theorem told_comp_Read:Told CC Tryz.prog 153 [.str,tI] [.str,tI,tI] (fun x=>F_comp_Read x.1 x.2):=told_of (n:=100000) (gok (an:=ann_comp_Read) (fs:=fs_comp_Read) ⟨told_octet_Get,told_octet_Take,trivial⟩) rfl rfl (fun x=>by kernel_rfl)
def F_msg_question (s_1:List UInt8) (at_2:Int):Option (((List UInt8×(Int×Int))×(Int×Int))) :=
 bnd (F_comp_Read s_1 at_2) fun (v3,v4,v5) =>
 if (v5 != 0)=true then
  some ((([],(0,0)),(0,v5)))
 else
  bnd (F_octet_Get s_1 v4 2) fun (v6,v7) =>
  bnd (F_octet_Get s_1 (IntKind.i64.wrap (v4+2)) 2) fun (v8,v9) =>
  if (!v9)=true then
   some ((([],(0,0)),(0,2)))
  else
   some (((v3,(v6,v8)),(IntKind.i64.wrap (v4+4),0)))
def ann_msg_question:List (List Nat×Ann):=[]
@[reducible] def fs_msg_question:List (Nat×SFn):=[(153,.pure [.str,tI] [.str,tI,tI] (fun x=>F_comp_Read x.1 x.2)),(95,.pure [.str,tI,tI] [tI,.bool] (fun x=>F_octet_Get x.1 x.2.1 x.2.2))]
theorem told_msg_question:Told CC Tryz.prog 126 [.str,tI] [tQ,tI,tI] (fun x=>F_msg_question x.1 x.2):=told_of (n:=100000) (gok (an:=ann_msg_question) (fs:=fs_msg_question) ⟨told_comp_Read,told_octet_Get,trivial⟩) rfl rfl (fun x=>by kernel_rfl)
def step_ref02_Join_0 (l_1:List (List UInt8)):(List UInt8×Int)→Option ((List UInt8×Int) ⊕ (List UInt8 ⊕ (List UInt8×Bool))):=fun (s_2,i_3) =>
 if decide (i_3<(↑l_1.length:Int))=true then
  bnd (α:=((List UInt8×Bool) ⊕ Unit)) (natOf i_3 fun n4 =>
   bnd (l_1[n4]?) fun x5 =>
   if decide ((↑(List.length x5):Int)<1)=false then
    natOf i_3 fun n6 =>
    bnd (l_1[n6]?) fun x7 =>
    if decide (63<(↑(List.length x7):Int))=false then
     if decide (255<(↑s_2.length:Int))=true then
      some (.inl (([],false)))
     else
      grdEq l_1 l_1 <|
      grdEq s_2 s_2 <|
      grdEq i_3 i_3 <|
      some (.inr (()))
    else
     some (.inl (([],false)))
   else
    some (.inl (([],false)))) fun o8 =>
  match o8 with
  | .inl (s2_9,s3_10) =>
   some (.inr (.inr ((s2_9,s3_10))))
  | .inr _ =>
   natOf i_3 fun n11 =>
   bnd (l_1[n11]?) fun x12 =>
   grd (s_2.length+(List.map (fun n=>UInt8.ofNat (Int.toNat n)) [IntKind.u8.wrap (↑(List.length x12):Int)]).length≤maxStr) <|
   natOf i_3 fun n13 =>
   bnd (l_1[n13]?) fun x14 =>
   grd ((s_2++List.map (fun n=>UInt8.ofNat (Int.toNat n)) [IntKind.u8.wrap (↑(List.length x12):Int)]).length+List.length x14≤maxStr) <|
   grdEq l_1 l_1 <|
   some (.inl ((s_2++List.map (fun n=>UInt8.ofNat (Int.toNat n)) [IntKind.u8.wrap (↑(List.length x12):Int)]++x14,IntKind.i64.wrap (i_3+1))))
 else
  some (.inr (.inl s_2))
def F_ref02_Join (l_1:List (List UInt8)):Option ((List UInt8×Bool)) :=
 bnd (loopS (step_ref02_Join_0 l_1) (([],0))) fun o15 =>
 match o15 with
 | .inl s_16 =>
  grd (s_16.length+1≤maxStr) <|
  if decide (255<(↑(s_16++[0]).length:Int))=true then
   some (([],false))
  else
   some ((s_16++[0],true))
 | .inr (s2_17,s3_18) =>
  some ((s2_17,s3_18))
def ann_ref02_Join:List (List Nat×Ann):=[([17],⟨none,[(.ret,⟨(anyN 2 (.cons (.ty .str) (.cons (.ty .bool) (anyN 48 .nil)))),[],[],[]⟩),(.normal,⟨(.cons (.keep (.list .str)) (anyN 3 (.cons kS (.cons kI (anyN 46 .nil))))),[],[],[]⟩)]⟩),([8],⟨some ⟨(.cons (.keep (.list .str)) (anyN 3 (.cons (.ty .str) (.cons yI (anyN 46 .nil))))),[],[],[]⟩,[(.exit 0,⟨(anyN 4 (.cons (.ty .str) (anyN 47 .nil))),[],[],[]⟩),(.ret,⟨(anyN 2 (.cons (.ty .str) (.cons (.ty .bool) (anyN 48 .nil)))),[],[],[]⟩)]⟩)]
theorem told_ref02_Join:Told CC Tryz.prog 158 [(.list .str)] [.str,.bool] (fun x=>F_ref02_Join x):=told_of (n:=100000) (gok (an:=ann_ref02_Join) (fs:=[]) trivial) rfl rfl (fun x=>by kernel_rfl)
def F_ref02_Up (n_1:List UInt8):Option ((List UInt8×Bool)) :=
 bnd (F_ref02_Labels n_1) fun (v2,v3) =>
 bnd (α:=((List UInt8×Bool) ⊕ Unit)) (if (!v3)=false then
   if ((↑v2.length:Int)==0)=true then
    some (.inl (([],false)))
   else
    gq v2 <|
    some (.inr (()))
  else
   some (.inl (([],false)))) fun o4 =>
 match o4 with
 | .inl (s2_5,s3_6) =>
  some ((s2_5,s3_6))
 | .inr _ =>
  grd (1≤v2.length) <|
  bnd (F_ref02_Join (List.drop 1 v2)) fun (v7,v8) =>
  some ((v7,v8))
def ann_ref02_Up:List (List Nat×Ann):=[([4],⟨none,[(.ret,⟨(anyN 2 (.cons (.ty .str) (.cons (.ty .bool) yS37))),[],[],[]⟩),(.normal,⟨(anyN 4 (.cons (.keep (.list .str)) (anyN 18 .nil))),[],[],[]⟩)]⟩)]
@[reducible] def fs_ref02_Up:List (Nat×SFn):=[(74,.pure [.str] [(.list .str),.bool] (fun x=>F_ref02_Labels x)),(158,.pure [(.list .str)] [.str,.bool] (fun x=>F_ref02_Join x))]
theorem told_ref02_Up:Told CC Tryz.prog 138 [.str] [.str,.bool] (fun x=>F_ref02_Up x):=told_of (n:=100000) (gok (an:=ann_ref02_Up) (fs:=fs_ref02_Up) ⟨told_ref02_Labels,told_ref02_Join,trivial⟩) rfl rfl (fun x=>by kernel_rfl)
end
end Go.Abs

set_option maxRecDepth 100000
namespace Go.Abs
open Go Go.Proofs
noncomputable section
def step_ref04_Write_1 (base_1:List UInt8) (at_2:Int) (n_3:List UInt8) (rest_8:List UInt8):List UInt8→Option (List UInt8 ⊕ (List UInt8 ⊕ Unit)):=fun end_9 =>
 if decide (1<(↑end_9.length:Int))=true then
  bnd (F_ref02_Same end_9 rest_8) fun v10 =>
  if v10=true then
   natOf (IntKind.i64.wrap ((↑n_3.length:Int)-(↑rest_8.length:Int))) fun n11 =>
   grd (n11≤n_3.length) <|
   bnd (F_ref01_Put (IntKind.i64.wrap (IntKind.i64.wrap (IntKind.i64.wrap (49152+at_2)+(↑base_1.length:Int))-(↑end_9.length:Int))) 2) fun v12 =>
   grd ((List.take n11 n_3).length+v12.length≤maxStr) <|
   some (.inr (.inl (List.take n11 n_3++v12)))
  else
   bnd (F_ref02_Up end_9) fun (v13,v14) =>
   gq base_1<|gq at_2<|gq n_3<|gq rest_8 <|
   some (.inl v13)
 else
  gq base_1<|gq at_2<|gq n_3<|gq rest_8 <|
  some (.inr (.inr (())))
def step_ref04_Write_0 (base_1:List UInt8) (at_2:Int) (n_3:List UInt8):List UInt8→Option (List UInt8 ⊕ (Unit ⊕ List UInt8)):=fun rest_8 =>
 if decide (1<(↑rest_8.length:Int))=true then
  bnd (loopS (step_ref04_Write_1 base_1 at_2 n_3 rest_8) base_1) fun o15 =>
  match o15 with
  | .inl s6_16 =>
   some (.inr (.inr s6_16))
  | .inr _ =>
   bnd (F_ref02_Up rest_8) fun (v17,v18) =>
   gq base_1<|gq at_2<|gq n_3 <|
   some (.inl v17)
 else
  gq n_3 <|
  some (.inr (.inl (())))
def F_ref04_Write (base_1:List UInt8) (at_2:Int) (n_3:List UInt8):Option (List UInt8) :=
 bnd (α:=(List UInt8 ⊕ Unit)) (bnd (F_ref02_Check base_1) fun v4 =>
  if (!v4)=false then
   bnd (F_ref02_Check n_3) fun v5 =>
   if (!v5)=false then
    if decide (at_2<0)=false then
     if decide (16000<at_2)=true then
      some (.inl ([]))
     else
      gq base_1<|gq at_2<|gq n_3 <|
      some (.inr (()))
    else
     some (.inl ([]))
   else
    some (.inl ([]))
  else
   some (.inl ([]))) fun o6 =>
 match o6 with
 | .inl s6_7 =>
  some s6_7
 | .inr _ =>
  bnd (loopS (step_ref04_Write_0 base_1 at_2 n_3) n_3) fun o19 =>
  match o19 with
  | .inl _ =>
   some n_3
  | .inr s6_20 =>
   some s6_20
def ann_ref04_Write:List (List Nat×Ann):=[([2],⟨none,[(.ret,⟨(anyN 6 (.cons (.ty .str) (anyN 65 .nil))),[],[],[]⟩),(.normal,⟨(.cons kS (.cons kI (.cons kS (anyN 69 .nil)))),[],[],[]⟩)]⟩),([14],⟨some ⟨(.cons kS (.cons kI (.cons kS (anyN 4 (.cons (.ty .str) (anyN 64 .nil)))))),[],[],[]⟩,[(.exit 0,⟨(anyN 2 (.cons kS (anyN 69 .nil))),[],[],[]⟩),(.ret,⟨(anyN 6 (.cons (.ty .str) (anyN 65 .nil))),[],[],[]⟩)]⟩),([26],⟨some ⟨(.cons kS (.cons kI (.cons kS (anyN 4 (.cons kS (.cons (.ty .str) (anyN 63 .nil))))))),[],[],[]⟩,[(.ret,⟨(anyN 6 (.cons (.ty .str) (anyN 65 .nil))),[],[],[]⟩),(.exit 2,⟨(.cons kS (.cons kI (.cons kS (anyN 4 (.cons kS (anyN 64 .nil)))))),[],[],[]⟩)]⟩)]
@[reducible] def fs_ref04_Write:List (Nat×SFn):=[(137,.pure [.str,.str] [.bool] (fun x=>F_ref02_Same x.1 x.2)),(71,.pure [tI,tI] [.str] (fun x=>F_ref01_Put x.1 x.2)),(138,.pure [.str] [.str,.bool] (fun x=>F_ref02_Up x)),(43,.pure [.str] [.bool] (fun x=>F_ref02_Check x))]
theorem told_ref04_Write:Told CC Tryz.prog 108 [.str,tI,.str] [.str] (fun x=>F_ref04_Write x.1 x.2.1 x.2.2):=told_of (n:=100000) (gok (an:=ann_ref04_Write) (fs:=fs_ref04_Write) ⟨told_ref02_Same,told_ref01_Put,told_ref02_Up,told_ref02_Check,trivial⟩) rfl rfl (fun x=>by kernel_rfl)
def F_ref06_Encode (base_1:List UInt8) (at_2:Int) (r_3:(List UInt8×(Int×(Int×(Int×List UInt8))))):Option (List UInt8) :=
 bnd (F_ref04_Write base_1 at_2 r_3.1) fun v4 =>
 bnd (α:=(List UInt8 ⊕ Unit)) (bnd (F_ref06_Check (r_3.1,r_3.2.1,r_3.2.2.1,r_3.2.2.2.1,r_3.2.2.2.2)) fun v5 =>
  if (!v5)=false then
   if (v4==[])=true then
    g5 r_3 <|
    some (.inl ([]))
   else
    gq v4<|g5 r_3 <|
    some (.inr (()))
  else
   g5 r_3 <|
   some (.inl ([]))) fun o6 =>
 match o6 with
 | .inl s6_7 =>
  some s6_7
 | .inr _ =>
  bnd (F_ref01_Put r_3.2.1 2) fun v8 =>
  grd (v4.length+v8.length≤maxStr) <|
  bnd (F_ref01_Put r_3.2.2.1 2) fun v9 =>
  grd ((v4++v8).length+v9.length≤maxStr) <|
  bnd (F_ref01_Put r_3.2.2.2.1 4) fun v10 =>
  grd ((v4++v8++v9).length+v10.length≤maxStr) <|
  bnd (F_ref01_Put (↑(List.length r_3.2.2.2.2):Int) 2) fun v11 =>
  grd ((v4++v8++v9++v10).length+v11.length≤maxStr) <|
  grd ((v4++v8++v9++v10++v11).length+List.length r_3.2.2.2.2≤maxStr) <|
  some (v4++v8++v9++v10++v11++r_3.2.2.2.2)
def ann_ref06_Encode:List (List Nat×Ann):=[([4],⟨none,[(.ret,⟨(anyN 6 (.cons (.ty .str) (anyN 34 .nil))),[.cells 101 true yS10],[],[]⟩),(.normal,⟨(anyN 5 (.cons (.ptr 0 0) (anyN 1 (.cons kS (anyN 33 .nil))))),[.cells 101 true yS10],[],[]⟩)]⟩)]
@[reducible] def fs_ref06_Encode:List (Nat×SFn):=[(108,.pure [.str,tI,.str] [.str] (fun x=>F_ref04_Write x.1 x.2.1 x.2.2)),(109,.pure [tRR] [.bool] (fun x=>F_ref06_Check x)),(71,.pure [tI,tI] [.str] (fun x=>F_ref01_Put x.1 x.2))]
theorem told_ref06_Encode:Told CC Tryz.prog 72 [.str,tI,tRR] [.str] (fun x=>F_ref06_Encode x.1 x.2.1 x.2.2):=told_of (n:=100000) (gok (an:=ann_ref06_Encode) (fs:=fs_ref06_Encode) ⟨told_ref04_Write,told_ref06_Check,told_ref01_Put,trivial⟩) rfl rfl (fun x=>by kernel_rfl)
def step_ref08_Encode_0 (m_1:Int×Int×List (List UInt8×Int×Int)×List (List UInt8×Int×Int×Int×List UInt8)×List (List UInt8×Int×Int×Int×List UInt8)×List (List UInt8×Int×Int×Int×List UInt8)):(List UInt8×Int)→Option ((List UInt8×Int) ⊕ List UInt8):=fun (s_9,i_10) =>
 if decide (i_10<(↑(List.length m_1.2.2.1):Int))=true then
  natOf i_10 fun n11 =>
  bnd (m_1.2.2.1[n11]?) fun x12 =>
  grd (s_9.length+List.length x12.1≤maxStr) <|
  natOf i_10 fun n13 =>
  bnd (m_1.2.2.1[n13]?) fun x14 =>
  bnd (F_ref01_Put x14.2.1 2) fun v15 =>
  grd ((s_9++x12.1).length+v15.length≤maxStr) <|
  natOf i_10 fun n16 =>
  bnd (m_1.2.2.1[n16]?) fun x17 =>
  bnd (F_ref01_Put x17.2.2 2) fun v18 =>
  grd ((s_9++x12.1++v15).length+v18.length≤maxStr) <|
  g6 m_1 <|
  some (.inl ((s_9++x12.1++v15++v18,IntKind.i64.wrap (i_10+1))))
 else
  g6 m_1 <|
  some (.inr s_9)
def step_ref08_Encode_1 (m_1:Int×Int×List (List UInt8×Int×Int)×List (List UInt8×Int×Int×Int×List UInt8)×List (List UInt8×Int×Int×Int×List UInt8)×List (List UInt8×Int×Int×Int×List UInt8)):(List UInt8×(List ((List UInt8×(Int×(Int×(Int×List UInt8)))))×Int))→Option ((List UInt8×(List ((List UInt8×(Int×(Int×(Int×List UInt8)))))×Int)) ⊕ List UInt8):=fun (s_20,all_21,i_22) =>
 bnd (α:=(List ((List UInt8×(Int×(Int×(Int×List UInt8))))) ⊕ Unit)) (if decide (i_22<(↑all_21.length:Int))=true then
   if decide ((↑s_20.length:Int)≤65535)=true then
    gq s_20<|gq i_22<|g6 m_1 <|
    some (.inl all_21)
   else
    gq s_20<|g6 m_1 <|
    some (.inr (()))
  else
   gq s_20<|g6 m_1 <|
   some (.inr (()))) fun o23 =>
 match o23 with
 | .inl all_24 =>
  bnd (F_ref08_Base (m_1.1,m_1.2.1,m_1.2.2.1,m_1.2.2.2.1,m_1.2.2.2.2.1,m_1.2.2.2.2.2)) fun v25 =>
  natOf i_22 fun n26 =>
  bnd (all_24[n26]?) fun x27 =>
  bnd (F_ref06_Encode v25 12 (x27.1,x27.2.1,x27.2.2.1,x27.2.2.2.1,x27.2.2.2.2)) fun v28 =>
  grd (s_20.length+v28.length≤maxStr) <|
  g6 m_1 <|
  some (.inl ((s_20++v28,(all_24,IntKind.i64.wrap (i_22+1)))))
 | .inr _ =>
  g6 m_1 <|
  some (.inr s_20)
def F_ref08_Encode (m_1:(Int×(Int×(List ((List UInt8×(Int×Int)))×(List ((List UInt8×(Int×(Int×(Int×List UInt8)))))×(List ((List UInt8×(Int×(Int×(Int×List UInt8)))))×List ((List UInt8×(Int×(Int×(Int×List UInt8))))))))))):Option ((List UInt8×Int)) :=
 bnd (F_ref08_Check (m_1.1,m_1.2.1,m_1.2.2.1,m_1.2.2.2.1,m_1.2.2.2.2.1,m_1.2.2.2.2.2)) fun v2 =>
 if (!v2)=true then
  some (([],1))
 else
  bnd (F_ref01_Put m_1.1 2) fun v3 =>
  bnd (F_ref01_Put m_1.2.1 2) fun v4 =>
  grd (v3.length+v4.length≤maxStr) <|
  bnd (F_ref01_Put (↑(List.length m_1.2.2.1):Int) 2) fun v5 =>
  grd ((v3++v4).length+v5.length≤maxStr) <|
  bnd (F_ref01_Put (↑(List.length m_1.2.2.2.1):Int) 2) fun v6 =>
  grd ((v3++v4++v5).length+v6.length≤maxStr) <|
  bnd (F_ref01_Put (↑(List.length m_1.2.2.2.2.1):Int) 2) fun v7 =>
  grd ((v3++v4++v5++v6).length+v7.length≤maxStr) <|
  bnd (F_ref01_Put (↑(List.length m_1.2.2.2.2.2):Int) 2) fun v8 =>
  grd ((v3++v4++v5++v6++v7).length+v8.length≤maxStr) <|
  bnd (loopS (step_ref08_Encode_0 m_1) ((v3++v4++v5++v6++v7++v8,0))) fun s_19 =>
  grd (List.length m_1.2.2.2.1*56≤roomLim) <|
  grd ((List.length m_1.2.2.2.1+List.length m_1.2.2.2.2.1)*56≤roomLim) <|
  grd (((m_1.2.2.2.1++m_1.2.2.2.2.1).length+List.length m_1.2.2.2.2.2)*56≤roomLim) <|
  bnd (loopS (step_ref08_Encode_1 m_1) ((s_19,(m_1.2.2.2.1++m_1.2.2.2.2.1++m_1.2.2.2.2.2,0)))) fun s_29 =>
  if decide (65535<(↑s_29.length:Int))=true then
   some (([],6))
  else
   some ((s_29,0))
def ann_ref08_Encode:List (List Nat×Ann):=[([40],⟨none,[(.normal,⟨(anyN 1 (.cons (.ptr 0 0) (anyN 2 (.cons kS (anyN 1 (.cons (.own tRR 0 true) (.cons kI (anyN 97 .nil)))))))),[.cells 63 true yS0],[⟨⟨2,tRR,101,true,true⟩,false⟩],[]⟩),(.exit 2,⟨(anyN 4 (.cons kS (anyN 100 .nil))),[.cells 63 true yS0],[⟨⟨2,tRR,101,true,true⟩,false⟩],[]⟩)]⟩),([16],⟨some ⟨(anyN 1 (.cons (.ptr 0 0) (anyN 2 (.cons (.ty .str) (.cons yI (anyN 99 .nil)))))),[.cells 63 true yS0],[],[]⟩,[(.exit 0,⟨(anyN 1 (.cons (.ptr 0 0) (anyN 2 (.cons (.ty .str) (anyN 100 .nil))))),[.cells 63 true yS0],[],[]⟩)]⟩),([39],⟨some ⟨(anyN 1 (.cons (.ptr 0 0) (anyN 2 (.cons (.ty .str) (anyN 1 (.cons (.own tRR 0 true) (.cons yI (anyN 97 .nil)))))))),[.cells 63 true yS0],[⟨⟨2,tRR,101,true,true⟩,false⟩],[]⟩,[(.exit 2,⟨(anyN 4 (.cons (.ty .str) (anyN 100 .nil))),[.cells 63 true yS0],[⟨⟨2,tRR,101,true,true⟩,false⟩],[]⟩)]⟩)]
@[reducible] def fs_ref08_Encode:List (Nat×SFn):=[(71,.pure [tI,tI] [.str] (fun x=>F_ref01_Put x.1 x.2)),(73,.pure [tM] [.str] (fun x=>F_ref08_Base x)),(72,.pure [.str,tI,tRR] [.str] (fun x=>F_ref06_Encode x.1 x.2.1 x.2.2)),(70,.pure [tM] [.bool] (fun x=>F_ref08_Check x))]
theorem told_ref08_Encode:Told CC Tryz.prog 40 [tM] [.str,tI] (fun x=>F_ref08_Encode x):=told_of (n:=100000) (gok (an:=ann_ref08_Encode) (fs:=fs_ref08_Encode) ⟨told_ref01_Put,told_ref08_Base,told_ref06_Encode,told_ref08_Check,trivial⟩) rfl rfl (fun x=>by kernel_rfl)
def F_data_parts_whole (p_1:(List UInt8×(List UInt8×List (List UInt8)))):Option (List UInt8) :=
 bnd (F_strings_Join p_1.2.2 []) fun v2 =>
 grd (List.length p_1.1+v2.length≤maxStr) <|
 grd ((p_1.1++v2).length+List.length p_1.2.1≤maxStr) <|
 some (p_1.1++v2++p_1.2.1)
def ann_data_parts_whole:List (List Nat×Ann):=[]
@[reducible] def fs_data_parts_whole:List (Nat×SFn):=[(173,.pure [.list .str,.str] [.str] (fun x=>F_strings_Join x.1 x.2))]
theorem told_data_parts_whole:Told CC Tryz.prog 160 [(.agg (.cons .str (.cons .str (.list .str))))] [.str] (fun x=>F_data_parts_whole x):=told_of (n:=100000) (gok (an:=ann_data_parts_whole) (fs:=fs_data_parts_whole) ⟨told_strings_Join,trivial⟩) rfl rfl (fun x=>by kernel_rfl)
def step_slices_Index_string_0 (s_1:List (List UInt8)) (v_2:List UInt8):Int→Option (Int ⊕ (Int ⊕ Unit)):=fun s8_3 =>
 if decide (s8_3<(↑s_1.length:Int))=true then
  natOf s8_3 fun n4 =>
  bnd (s_1[n4]?) fun x5 =>
  if (v_2==x5)=true then
   some (.inr (.inl s8_3))
  else
   gq s_1<|gq v_2 <|
   grdEq ((↑s_1.length:Int)) ((↑s_1.length:Int)) <|
   some (.inl (IntKind.i64.wrap (s8_3+1)))
 else
  some (.inr (.inr (())))
def F_slices_Index_string (s_1:List (List UInt8)) (v_2:List UInt8):Option (Int) :=
 bnd (loopS (step_slices_Index_string_0 s_1 v_2) 0) fun o6 =>
 match o6 with
 | .inl s4_7 =>
  some s4_7
 | .inr _ =>
  some (-1)
def ann_slices_Index_string:List (List Nat×Ann):=[([6],⟨some ⟨(.cons (.keep (.list .str)) (.cons kS yS16)),[],[],[]⟩,[(.ret,⟨yS23,[],[],[]⟩),(.exit 0,⟨yS37,[],[],[]⟩)]⟩)]
theorem told_slices_Index_string:Told CC Tryz.prog 161 [(.list .str),.str] [tI] (fun x=>F_slices_Index_string x.1 x.2):=told_of (n:=100000) (gok (an:=ann_slices_Index_string) (fs:=[]) trivial) rfl rfl (fun x=>by kernel_rfl)
def F_slices_Contains_string (s_1:List (List UInt8)) (v_2:List UInt8):Option (Bool) :=
 bnd (F_slices_Index_string s_1 v_2) fun v3 =>
 some (decide (0≤v3))
def ann_slices_Contains_string:List (List Nat×Ann):=[]
@[reducible] def fs_slices_Contains_string:List (Nat×SFn):=[(161,.pure [(.list .str),.str] [tI] (fun x=>F_slices_Index_string x.1 x.2))]
theorem told_slices_Contains_string:Told CC Tryz.prog 143 [(.list .str),.str] [.bool] (fun x=>F_slices_Contains_string x.1 x.2):=told_of (n:=100000) (gok (an:=ann_slices_Contains_string) (fs:=fs_slices_Contains_string) ⟨told_slices_Index_string,trivial⟩) rfl rfl (fun x=>by kernel_rfl)
def F_name_Same (a_1:List UInt8) (b_2:List UInt8):Option (Bool) :=
 bnd (F_name_Check a_1) fun v3 =>
 if v3=true then
  bnd (F_name_Check b_2) fun v4 =>
  if v4=true then
   bnd (F_name_low a_1) fun v5 =>
   bnd (F_name_low b_2) fun v6 =>
   some (v5==v6)
  else
   some false
 else
  some false
def ann_name_Same:List (List Nat×Ann):=[]
@[reducible] def fs_name_Same:List (Nat×SFn):=[(75,.pure [.str] [.bool] (fun x=>F_name_Check x)),(111,.pure [.str] [.str] (fun x=>F_name_low x))]
theorem told_name_Same:Told CC Tryz.prog 162 [.str,.str] [.bool] (fun x=>F_name_Same x.1 x.2):=told_of (n:=100000) (gok (an:=ann_name_Same) (fs:=fs_name_Same) ⟨told_name_Check,told_name_low,trivial⟩) rfl rfl (fun x=>by kernel_rfl)
def step_comp_place_0 (base_1:List UInt8) (n_2:List UInt8):(List UInt8×Bool)→Option ((List UInt8×Bool) ⊕ (Int ⊕ Unit)):=fun (end_3,is_4) =>
 bnd (α:=(Unit ⊕ Unit)) (if is_4=true then
   if decide (1<(↑end_3.length:Int))=true then
    gq base_1<|gq n_2<|gq end_3 <|
    some (.inl (()))
   else
    some (.inr (()))
  else
   some (.inr (()))) fun o5 =>
 match o5 with
 | .inl _ =>
  bnd (F_name_Same end_3 n_2) fun v6 =>
  if v6=true then
   some (.inr (.inl (IntKind.i64.wrap ((↑base_1.length:Int)-(↑end_3.length:Int)))))
  else
   bnd (F_name_Up end_3) fun (v7,v8) =>
   gq base_1<|gq n_2 <|
   some (.inl ((v7,v8)))
 | .inr _ =>
  some (.inr (.inr (())))
def F_comp_place (base_1:List UInt8) (n_2:List UInt8):Option (Int) :=
 bnd (loopS (step_comp_place_0 base_1 n_2) ((base_1,true))) fun o9 =>
 match o9 with
 | .inl s4_10 =>
  some s4_10
 | .inr _ =>
  some (-1)
def ann_comp_place:List (List Nat×Ann):=[([7],⟨none,[(.normal,⟨(.cons kS (.cons kS (anyN 3 (.cons kS (anyN 21 .nil))))),[],[],[]⟩),(.exit 0,⟨(anyN 27 .nil),[],[],[]⟩)]⟩),([6],⟨some ⟨(.cons kS (.cons kS (anyN 3 (.cons (.ty .str) (.cons (.ty .bool) (anyN 20 .nil)))))),[],[],[]⟩,[(.ret,⟨(anyN 4 (.cons yI (anyN 22 .nil))),[],[],[]⟩),(.exit 0,⟨(anyN 27 .nil),[],[],[]⟩)]⟩)]
@[reducible] def fs_comp_place:List (Nat×SFn):=[(162,.pure [.str,.str] [.bool] (fun x=>F_name_Same x.1 x.2)),(145,.pure [.str] [.str,.bool] (fun x=>F_name_Up x))]
theorem told_comp_place:Told CC Tryz.prog 146 [.str,.str] [tI] (fun x=>F_comp_place x.1 x.2):=told_of (n:=100000) (gok (an:=ann_comp_place) (fs:=fs_comp_place) ⟨told_name_Same,told_name_Up,trivial⟩) rfl rfl (fun x=>by kernel_rfl)
def step_data_texts_0:List UInt8→Option (List UInt8 ⊕ (Bool ⊕ Unit)):=fun d_2 =>
 if (!d_2==[])=true then
  bnd (d_2[0]?) fun x3 =>
  if decide ((↑d_2.length:Int)<IntKind.i64.wrap (1+IntKind.i64.wrap (↑x3.toNat:Int)))=true then
   some (.inr (.inl false))
  else
   natOf (IntKind.i64.wrap (1+IntKind.i64.wrap (↑x3.toNat:Int))) fun n4 =>
   grd (n4≤d_2.length) <|
   some (.inl (List.drop n4 d_2))
 else
  some (.inr (.inr (())))
def F_data_texts (d_1:List UInt8):Option (Bool) :=
 if (d_1==[])=true then
  some false
 else
  bnd (loopS step_data_texts_0 d_1) fun o5 =>
  match o5 with
  | .inl s2_6 =>
   some s2_6
  | .inr _ =>
   some true
def ann_data_texts:List (List Nat×Ann):=[([12],⟨some ⟨(.cons (.ty .str) (anyN 18 .nil)),[],[],[]⟩,[(.ret,⟨(anyN 2 (.cons (.ty .bool) (anyN 16 .nil))),[],[],[]⟩),(.exit 0,⟨yS37,[],[],[]⟩)]⟩)]
theorem told_data_texts:Told CC Tryz.prog 169 [.str] [.bool] (fun x=>F_data_texts x):=told_of (n:=100000) (gok (an:=ann_data_texts) (fs:=[]) trivial) rfl rfl (fun x=>by kernel_rfl)
def step_data_Expand_0 (msg_1:List UInt8) (at_2:Int) (size_3:Int) (kind_4:Int) (n8:Nat) (n9:Nat):(Int×(Int×(List ((Int×(Int×(Int×Int))))×List (List UInt8))))→Option ((Int×(Int×(List ((Int×(Int×(Int×Int))))×List (List UInt8)))) ⊕ ((Int×(List ((Int×(Int×(Int×Int))))×List (List UInt8))) ⊕ (Bool×(List ((Int×(Int×(Int×Int))))×List (List UInt8))))):=fun (at_10,s38_11,m0_12,b4c_13) =>
 if decide (s38_11<((shpF kind_4).getD (0,0,0)).2.1)=true then
  bnd (F_comp_Read msg_1 at_10) fun (v14,v15,v16) =>
  bnd (α:=((Bool×(List ((Int×(Int×(Int×Int))))×List (List UInt8))) ⊕ (List ((Int×(Int×(Int×Int))))×List (List UInt8)))) (if (v16 != 0)=false then
    if decide (IntKind.i64.wrap (at_2+size_3)<v15)=true then
     grdEq (((shpF kind_4).getD (0,0,0)).1) (((shpF kind_4).getD (0,0,0)).1) <|
     grdEq (((shpF kind_4).getD (0,0,0)).2.1) (((shpF kind_4).getD (0,0,0)).2.1) <|
     grdEq (((shpF kind_4).getD (0,0,0)).2.2) (((shpF kind_4).getD (0,0,0)).2.2) <|
     grdEq (((shpF kind_4).getD (0,0,0)).1) (((shpF kind_4).getD (0,0,0)).1) <|
     grdEq (((shpF kind_4).getD (0,0,0)).2.1) (((shpF kind_4).getD (0,0,0)).2.1) <|
     grdEq (((shpF kind_4).getD (0,0,0)).2.2) (((shpF kind_4).getD (0,0,0)).2.2) <|
     gq (α:=List UInt8) ([])<|gq (α:=List UInt8) ([]) <|
     grdEq (List.drop n9 (List.take n8 msg_1)) (List.drop n9 (List.take n8 msg_1)) <|
     gq (α:=List UInt8) ([]) <|
     some (.inl ((false,(m0_12,b4c_13))))
    else
     gq msg_1 <|
     grdEq (IntKind.i64.wrap (at_2+size_3)) (IntKind.i64.wrap (at_2+size_3)) <|
     gq v14<|gq v15 <|
     grdEq (((shpF kind_4).getD (0,0,0)).2.1) (((shpF kind_4).getD (0,0,0)).2.1) <|
     gq s38_11 <|
     grdEq (((shpF kind_4).getD (0,0,0)).1) (((shpF kind_4).getD (0,0,0)).1) <|
     grdEq (((shpF kind_4).getD (0,0,0)).2.1) (((shpF kind_4).getD (0,0,0)).2.1) <|
     grdEq (((shpF kind_4).getD (0,0,0)).2.2) (((shpF kind_4).getD (0,0,0)).2.2) <|
     grdEq (((shpF kind_4).getD (0,0,0)).1) (((shpF kind_4).getD (0,0,0)).1) <|
     grdEq (((shpF kind_4).getD (0,0,0)).2.1) (((shpF kind_4).getD (0,0,0)).2.1) <|
     grdEq (((shpF kind_4).getD (0,0,0)).2.2) (((shpF kind_4).getD (0,0,0)).2.2) <|
     gq (α:=List UInt8) ([])<|gq (α:=List UInt8) ([]) <|
     grdEq (List.drop n9 (List.take n8 msg_1)) (List.drop n9 (List.take n8 msg_1)) <|
     gq (α:=List UInt8) ([]) <|
     some (.inr ((m0_12,b4c_13)))
   else
    grdEq (((shpF kind_4).getD (0,0,0)).1) (((shpF kind_4).getD (0,0,0)).1) <|
    grdEq (((shpF kind_4).getD (0,0,0)).2.1) (((shpF kind_4).getD (0,0,0)).2.1) <|
    grdEq (((shpF kind_4).getD (0,0,0)).2.2) (((shpF kind_4).getD (0,0,0)).2.2) <|
    grdEq (((shpF kind_4).getD (0,0,0)).1) (((shpF kind_4).getD (0,0,0)).1) <|
    grdEq (((shpF kind_4).getD (0,0,0)).2.1) (((shpF kind_4).getD (0,0,0)).2.1) <|
    grdEq (((shpF kind_4).getD (0,0,0)).2.2) (((shpF kind_4).getD (0,0,0)).2.2) <|
    gq (α:=List UInt8) ([])<|gq (α:=List UInt8) ([]) <|
    grdEq (List.drop n9 (List.take n8 msg_1)) (List.drop n9 (List.take n8 msg_1)) <|
    gq (α:=List UInt8) ([]) <|
    some (.inl ((false,(m0_12,b4c_13))))) fun o17 =>
  match o17 with
  | .inl (s9_18,m0_19,b4c_20) =>
   grdEq (((shpF kind_4).getD (0,0,0)).1) (((shpF kind_4).getD (0,0,0)).1) <|
   grdEq (((shpF kind_4).getD (0,0,0)).2.1) (((shpF kind_4).getD (0,0,0)).2.1) <|
   grdEq (((shpF kind_4).getD (0,0,0)).2.2) (((shpF kind_4).getD (0,0,0)).2.2) <|
   grdEq (((shpF kind_4).getD (0,0,0)).1) (((shpF kind_4).getD (0,0,0)).1) <|
   grdEq (((shpF kind_4).getD (0,0,0)).2.1) (((shpF kind_4).getD (0,0,0)).2.1) <|
   grdEq (((shpF kind_4).getD (0,0,0)).2.2) (((shpF kind_4).getD (0,0,0)).2.2) <|
   gq (α:=List UInt8) ([])<|gq (α:=List UInt8) ([]) <|
   grdEq (List.drop n9 (List.take n8 msg_1)) (List.drop n9 (List.take n8 msg_1)) <|
   gq (α:=List UInt8) ([]) <|
   some (.inr (.inr ((s9_18,(m0_19,b4c_20)))))
  | .inr (m0_21,b4c_22) =>
   grd ((b4c_22.length+[v14].length)*16≤roomLim) <|
   gq msg_1 <|
   grdEq (IntKind.i64.wrap (at_2+size_3)) (IntKind.i64.wrap (at_2+size_3)) <|
   grdEq (((shpF kind_4).getD (0,0,0)).2.1) (((shpF kind_4).getD (0,0,0)).2.1) <|
   grdEq (((shpF kind_4).getD (0,0,0)).1) (((shpF kind_4).getD (0,0,0)).1) <|
   grdEq (((shpF kind_4).getD (0,0,0)).2.1) (((shpF kind_4).getD (0,0,0)).2.1) <|
   grdEq (((shpF kind_4).getD (0,0,0)).2.2) (((shpF kind_4).getD (0,0,0)).2.2) <|
   grdEq (((shpF kind_4).getD (0,0,0)).1) (((shpF kind_4).getD (0,0,0)).1) <|
   grdEq (((shpF kind_4).getD (0,0,0)).2.1) (((shpF kind_4).getD (0,0,0)).2.1) <|
   grdEq (((shpF kind_4).getD (0,0,0)).2.2) (((shpF kind_4).getD (0,0,0)).2.2) <|
   gq (α:=List UInt8) ([])<|gq (α:=List UInt8) ([]) <|
   grdEq (List.drop n9 (List.take n8 msg_1)) (List.drop n9 (List.take n8 msg_1)) <|
   gq (α:=List UInt8) ([]) <|
   some (.inl ((v15,(IntKind.i64.wrap (s38_11+1),(m0_21,b4c_22++[v14])))))
 else
  gq msg_1 <|
  grdEq (IntKind.i64.wrap (at_2+size_3)) (IntKind.i64.wrap (at_2+size_3)) <|
  grdEq (((shpF kind_4).getD (0,0,0)).1) (((shpF kind_4).getD (0,0,0)).1) <|
  grdEq (((shpF kind_4).getD (0,0,0)).2.1) (((shpF kind_4).getD (0,0,0)).2.1) <|
  grdEq (((shpF kind_4).getD (0,0,0)).2.2) (((shpF kind_4).getD (0,0,0)).2.2) <|
  grdEq (((shpF kind_4).getD (0,0,0)).1) (((shpF kind_4).getD (0,0,0)).1) <|
  grdEq (((shpF kind_4).getD (0,0,0)).2.1) (((shpF kind_4).getD (0,0,0)).2.1) <|
  grdEq (((shpF kind_4).getD (0,0,0)).2.2) (((shpF kind_4).getD (0,0,0)).2.2) <|
  gq (α:=List UInt8) ([])<|gq (α:=List UInt8) ([]) <|
  grdEq (List.drop n9 (List.take n8 msg_1)) (List.drop n9 (List.take n8 msg_1)) <|
  gq (α:=List UInt8) ([]) <|
  some (.inr (.inl ((at_10,(m0_12,b4c_13)))))
def F_data_Expand (msg_1:List UInt8) (at_2:Int) (size_3:Int) (kind_4:Int):Option ((List UInt8×Int)) :=
 bnd (F_octet_Take msg_1 at_2 size_3) fun (v5,v6) =>
 if (!v6)=true then
  some (([],2))
 else
  bnd (α:=(List UInt8×Bool)) (if (shpF kind_4).isSome=true then
    if (!decide (((shpF kind_4).getD (0,0,0)).1≤IntKind.i64.wrap (IntKind.i64.wrap (at_2+size_3)-at_2)))=true then
     bnd (F_data_parts_whole ([],[],[])) fun v7 =>
     gq kind_4 <|
     some ((v7,false))
    else
     natOf (IntKind.i64.wrap (at_2+((shpF kind_4).getD (0,0,0)).1)) fun n8 =>
     grd (n8≤msg_1.length) <|
     natOf at_2 fun n9 =>
     grd (n9≤n8) <|
     bnd (loopS (step_data_Expand_0 msg_1 at_2 size_3 kind_4 n8 n9) ((IntKind.i64.wrap (at_2+((shpF kind_4).getD (0,0,0)).1),(0,(sputM tI (.agg (.cons tI (.cons tI tI))) 33 (6,1,0) (sputM tI (.agg (.cons tI (.cons tI tI))) 15 (2,1,0) (sputM tI (.agg (.cons tI (.cons tI tI))) 6 (0,2,20) (sputM tI (.agg (.cons tI (.cons tI tI))) 12 (0,1,0) (sputM tI (.agg (.cons tI (.cons tI tI))) 5 (0,1,0) (sputM tI (.agg (.cons tI (.cons tI tI))) 2 (0,1,0) (sputM tI (.agg (.cons tI (.cons tI tI))) 28 (16,0,0) (sputM tI (.agg (.cons tI (.cons tI tI))) 1 (4,0,0) []))))))),[]))))) fun o23 =>
     match o23 with
     | .inl (at_24,m0_25,b4c_26) =>
      natOf (IntKind.i64.wrap (at_2+size_3)) fun n27 =>
      grd (n27≤msg_1.length) <|
      natOf at_24 fun n28 =>
      grd (n28≤n27) <|
      bnd (F_data_parts_whole (List.drop n9 (List.take n8 msg_1),List.drop n28 (List.take n27 msg_1),b4c_26)) fun v29 =>
      gq kind_4 <|
      some ((v29,(↑(List.drop n28 (List.take n27 msg_1)).length:Int)==((shpF kind_4).getD (0,0,0)).2.2))
     | .inr (s9_30,m0_31,b4c_32) =>
      bnd (F_data_parts_whole ([],[],[])) fun v33 =>
      gq kind_4 <|
      some ((v33,s9_30))
   else
    gq kind_4 <|
    some ((v5,v6))) fun (d_34,is_35) =>
  if (!is_35)=false then
   if (kind_4==16)=true then
    bnd (F_data_texts d_34) fun v36 =>
    if (!v36)=false then
     if decide (65535<(↑d_34.length:Int))=true then
      some (([],4))
     else
      some ((d_34,0))
    else
     some (([],4))
   else
    if decide (65535<(↑d_34.length:Int))=true then
     some (([],4))
    else
     some ((d_34,0))
  else
   some (([],4))
def ann_data_Expand:List (List Nat×Ann):=[([12],⟨none,[(.normal,⟨(anyN 3 (.cons kI (anyN 6 (.cons (.ty .str) (.cons (.ty .bool) (anyN 50 .nil)))))),[],[],[]⟩)]⟩),([33,168,6,19],⟨none,[(.ret,⟨(anyN 8 (.cons (.ptr 3 0) (.cons (.ty .bool) (anyN 65 .nil)))),[.mapo tI yT18 true,.cells 231 true yS20,.cells 231 true yS20,.cells 220 true yS13,.cells 220 true yS12],[⟨⟨0,.str,9,true,true⟩,false⟩],[]⟩),(.normal,⟨(.cons kS (anyN 1 (.cons kI (anyN 4 (.cons (.ptr 2 0) (.cons (.ptr 3 0) (anyN 1 (.cons (.ptr 4 0) (anyN 1 (.cons kS (.cons kI (anyN 23 (.cons kI (.cons kI (anyN 36 .nil))))))))))))))),[.mapo tI yT18 true,.cells 231 true yS20,.cells 231 true yS20,.cells 220 true yS13,.cells 220 true yS12],[⟨⟨0,.str,9,true,true⟩,false⟩],[]⟩)]⟩),([22,168,6,19],⟨some ⟨(.cons kS (.cons yI (.cons kI (anyN 4 (.cons (.ptr 2 0) (.cons (.ptr 3 0) (anyN 1 (.cons (.ptr 4 0) (anyN 26 (.cons kI (.cons yI (anyN 36 .nil)))))))))))),[.mapo tI yT18 true,.cells 231 true yS20,.cells 231 true yS20,.cells 220 true yS13,.cells 220 true yS12],[⟨⟨0,.str,9,true,true⟩,true⟩],[]⟩,[(.exit 0,⟨(.cons kS (.cons yI (.cons kI (anyN 4 (.cons (.ptr 2 0) (.cons (.ptr 3 0) (anyN 1 (.cons (.ptr 4 0) (anyN 64 .nil))))))))),[.mapo tI yT18 true,.cells 231 true yS20,.cells 231 true yS20,.cells 220 true yS13,.cells 220 true yS12],[⟨⟨0,.str,9,true,true⟩,false⟩],[]⟩),(.ret,⟨(anyN 8 (.cons (.ptr 3 0) (.cons (.ty .bool) (anyN 65 .nil)))),[.mapo tI yT18 true,.cells 231 true yS20,.cells 231 true yS20,.cells 220 true yS13,.cells 220 true yS12],[⟨⟨0,.str,9,true,true⟩,false⟩],[]⟩)]⟩)]
@[reducible] def fs_data_Expand:List (Nat×SFn):=[(153,.pure [.str,tI] [.str,tI,tI] (fun x=>F_comp_Read x.1 x.2)),(123,.pure [.str,tI,tI] [.str,.bool] (fun x=>F_octet_Take x.1 x.2.1 x.2.2)),(160,.pure [(.agg (.cons .str (.cons .str (.list .str))))] [.str] (fun x=>F_data_parts_whole x)),(169,.pure [.str] [.bool] (fun x=>F_data_texts x))]
theorem told_data_Expand:Told CC Tryz.prog 155 [.str,tI,tI,tI] [.str,tI] (fun x=>F_data_Expand x.1 x.2.1 x.2.2.1 x.2.2.2):=told_of (n:=100000) (gok (an:=ann_data_Expand) (fs:=fs_data_Expand) ⟨told_comp_Read,told_octet_Take,told_data_parts_whole,told_data_texts,trivial⟩) rfl rfl (fun x=>by kernel_rfl)
def F_record_Decode (msg_1:List UInt8) (at_2:Int):Option (((List UInt8×(Int×(Int×(Int×List UInt8))))×(Int×Int))) :=
 bnd (F_comp_Read msg_1 at_2) fun (v3,v4,v5) =>
 if (v5 != 0)=true then
  some ((([],(0,(0,(0,[])))),(0,v5)))
 else
  bnd (F_octet_Get msg_1 v4 2) fun (v6,v7) =>
  bnd (F_octet_Get msg_1 (IntKind.i64.wrap (v4+2)) 2) fun (v8,v9) =>
  if (!v7)=false then
   bnd (F_octet_Get msg_1 (IntKind.i64.wrap (IntKind.i64.wrap (v4+2)+2)) 4) fun (v10,v11) =>
   if (!v9)=false then
    bnd (F_octet_Get msg_1 (IntKind.i64.wrap (IntKind.i64.wrap (IntKind.i64.wrap (v4+2)+2)+4)) 2) fun (v12,v13) =>
    if (!v11)=false then
     if (!v13)=true then
      some ((([],(0,(0,(0,[])))),(0,2)))
     else
      bnd (α:=Int) (if decide (2147483647<v10)=true then
        gq msg_1<|gq v12<|gq (α:=List UInt8) ([])<|gz<|gz<|gz<|gq (α:=List UInt8) ([])<|gq msg_1 <|
        grdEq (IntKind.i64.wrap (IntKind.i64.wrap (IntKind.i64.wrap (IntKind.i64.wrap (v4+2)+2)+4)+2)) (IntKind.i64.wrap (IntKind.i64.wrap (IntKind.i64.wrap (IntKind.i64.wrap (v4+2)+2)+4)+2)) <|
        gq (!v13)<|gq v3<|gq v6<|gq v8<|gq (α:=List UInt8) ([]) <|
        some 0
       else
        gq msg_1<|gq v12<|gq (α:=List UInt8) ([])<|gz<|gz<|gz<|gq (α:=List UInt8) ([])<|gq msg_1 <|
        grdEq (IntKind.i64.wrap (IntKind.i64.wrap (IntKind.i64.wrap (IntKind.i64.wrap (v4+2)+2)+4)+2)) (IntKind.i64.wrap (IntKind.i64.wrap (IntKind.i64.wrap (IntKind.i64.wrap (v4+2)+2)+4)+2)) <|
        gq (!v13)<|gq v3<|gq v6<|gq v8<|gq (α:=List UInt8) ([]) <|
        some v10) fun b2d_14 =>
      bnd (F_data_Expand msg_1 (IntKind.i64.wrap (IntKind.i64.wrap (IntKind.i64.wrap (IntKind.i64.wrap (v4+2)+2)+4)+2)) v12 v6) fun (v15,v16) =>
      if (v16 != 0)=true then
       some ((([],(0,(0,(0,[])))),(0,v16)))
      else
       some (((v3,(v6,(v8,(b2d_14,v15)))),(IntKind.i64.wrap (IntKind.i64.wrap (IntKind.i64.wrap (IntKind.i64.wrap (IntKind.i64.wrap (v4+2)+2)+4)+2)+v12),0)))
    else
     some ((([],(0,(0,(0,[])))),(0,2)))
   else
    bnd (F_octet_Get msg_1 (IntKind.i64.wrap (IntKind.i64.wrap (IntKind.i64.wrap (v4+2)+2)+4)) 2) fun (v17,v18) =>
    some ((([],(0,(0,(0,[])))),(0,2)))
  else
   bnd (F_octet_Get msg_1 (IntKind.i64.wrap (IntKind.i64.wrap (v4+2)+2)) 4) fun (v19,v20) =>
   bnd (F_octet_Get msg_1 (IntKind.i64.wrap (IntKind.i64.wrap (IntKind.i64.wrap (v4+2)+2)+4)) 2) fun (v21,v22) =>
   some ((([],(0,(0,(0,[])))),(0,2)))
def ann_record_Decode:List (List Nat×Ann):=[([28],⟨none,[(.normal,⟨(.cons kS (anyN 3 (.cons (.ptr 0 0) (anyN 5 (.cons (.ptr 1 0) (anyN 1 (.cons (.ptr 2 0) (.cons kI (anyN 60 .nil))))))))),[.cells 101 true yS10,.cells 216 true (.cons kS (.cons kI (.cons kB .nil))),.cells 101 true (.cons kS (.cons kI (.cons kI (.cons yI (.cons kS .nil)))))],[],[]⟩)]⟩)]
@[reducible] def fs_record_Decode:List (Nat×SFn):=[(153,.pure [.str,tI] [.str,tI,tI] (fun x=>F_comp_Read x.1 x.2)),(95,.pure [.str,tI,tI] [tI,.bool] (fun x=>F_octet_Get x.1 x.2.1 x.2.2)),(155,.pure [.str,tI,tI,tI] [.str,tI] (fun x=>F_data_Expand x.1 x.2.1 x.2.2.1 x.2.2.2))]
theorem told_record_Decode:Told CC Tryz.prog 127 [.str,tI] [tRR,tI,tI] (fun x=>F_record_Decode x.1 x.2):=told_of (n:=100000) (gok (an:=ann_record_Decode) (fs:=fs_record_Decode) ⟨told_comp_Read,told_octet_Get,told_data_Expand,trivial⟩) rfl rfl (fun x=>by kernel_rfl)
end
end Go.Abs

set_option maxRecDepth 100000
namespace Go.Abs
open Go Go.Proofs
noncomputable section
def step_msg_Decode_0 (s_1:List UInt8) (v2:Int) (v3:Int) (v5:Int):(Int×(Int×List ((List UInt8×(Int×Int)))))→Option ((Int×(Int×List ((List UInt8×(Int×Int))))) ⊕ ((Int×List ((List UInt8×(Int×Int)))) ⊕ (Int×List ((List UInt8×(Int×Int)))))):=fun (at_6,s37_7,b1c_8) =>
 if decide (s37_7<v5)=true then
  bnd (F_msg_question s_1 at_6) fun (v9,v10,v11) =>
  if (v11 != 0)=true then
   gz<|gz<|gq v2<|gq v3 <|
   some (.inr (.inl ((v11,b1c_8))))
  else
   grd ((b1c_8.length+[(v9.1,v9.2.1,v9.2.2)].length)*32≤roomLim) <|
   gq s_1<|gq v5<|gz<|gz<|gq v2<|gq v3 <|
   some (.inl ((v10,(IntKind.i64.wrap (s37_7+1),b1c_8++[(v9.1,v9.2.1,v9.2.2)]))))
 else
  gq s_1<|gz<|gz<|gq v2<|gq v3 <|
  some (.inr (.inr ((at_6,b1c_8))))
def step_msg_Decode_1 (s_1:List UInt8) (v2:Int) (v3:Int) (v17:Int):(Int×(Int×(List ((List UInt8×(Int×Int)))×List ((List UInt8×(Int×(Int×(Int×List UInt8))))))))→Option ((Int×(Int×(List ((List UInt8×(Int×Int)))×List ((List UInt8×(Int×(Int×(Int×List UInt8)))))))) ⊕ ((Int×(List ((List UInt8×(Int×Int)))×List ((List UInt8×(Int×(Int×(Int×List UInt8))))))) ⊕ (Int×(List ((List UInt8×(Int×Int)))×List ((List UInt8×(Int×(Int×(Int×List UInt8))))))))):=fun (at_18,s67_19,b1c_20,b1d_21) =>
 if decide (s67_19<v17)=true then
  bnd (F_record_Decode s_1 at_18) fun (v22,v23,v24) =>
  if (v24 != 0)=true then
   gz<|gz<|gq v2<|gq v3 <|
   some (.inr (.inl ((v24,(b1c_20,b1d_21)))))
  else
   grd ((b1d_21.length+[(v22.1,v22.2.1,v22.2.2.1,v22.2.2.2.1,v22.2.2.2.2)].length)*56≤roomLim) <|
   gq s_1<|gz<|gq v17<|gz<|gz<|gq v2<|gq v3 <|
   some (.inl ((v23,(IntKind.i64.wrap (s67_19+1),(b1c_20,b1d_21++[(v22.1,v22.2.1,v22.2.2.1,v22.2.2.2.1,v22.2.2.2.2)])))))
 else
  gq s_1<|gz<|gz<|gz<|gq v2<|gq v3 <|
  some (.inr (.inr ((at_18,(b1c_20,b1d_21)))))
def step_msg_Decode_2 (s_1:List UInt8) (v2:Int) (v3:Int) (v32:Int):(Int×(Int×(List ((List UInt8×(Int×Int)))×(List ((List UInt8×(Int×(Int×(Int×List UInt8)))))×List ((List UInt8×(Int×(Int×(Int×List UInt8)))))))))→Option ((Int×(Int×(List ((List UInt8×(Int×Int)))×(List ((List UInt8×(Int×(Int×(Int×List UInt8)))))×List ((List UInt8×(Int×(Int×(Int×List UInt8))))))))) ⊕ ((Int×(List ((List UInt8×(Int×Int)))×(List ((List UInt8×(Int×(Int×(Int×List UInt8)))))×List ((List UInt8×(Int×(Int×(Int×List UInt8)))))))) ⊕ (Int×(List ((List UInt8×(Int×Int)))×(List ((List UInt8×(Int×(Int×(Int×List UInt8)))))×List ((List UInt8×(Int×(Int×(Int×List UInt8)))))))))):=fun (at_33,s67_34,b1c_35,b1d_36,b1e_37) =>
 if decide (s67_34<v32)=true then
  bnd (F_record_Decode s_1 at_33) fun (v38,v39,v40) =>
  if (v40 != 0)=true then
   gz<|gz<|gq v2<|gq v3 <|
   some (.inr (.inl ((v40,(b1c_35,(b1d_36,b1e_37))))))
  else
   grd ((b1e_37.length+[(v38.1,v38.2.1,v38.2.2.1,v38.2.2.2.1,v38.2.2.2.2)].length)*56≤roomLim) <|
   gq s_1<|gq (α:=Int) 1<|gq v32<|gz<|gz<|gq v2<|gq v3 <|
   some (.inl ((v39,(IntKind.i64.wrap (s67_34+1),(b1c_35,(b1d_36,b1e_37++[(v38.1,v38.2.1,v38.2.2.1,v38.2.2.2.1,v38.2.2.2.2)]))))))
 else
  gq s_1<|gq (α:=Int) 1<|gz<|gz<|gq v2<|gq v3 <|
  some (.inr (.inr ((at_33,(b1c_35,(b1d_36,b1e_37))))))
def step_msg_Decode_3 (s_1:List UInt8) (v2:Int) (v3:Int) (v50:Int):(Int×(Int×(List ((List UInt8×(Int×Int)))×(List ((List UInt8×(Int×(Int×(Int×List UInt8)))))×(List ((List UInt8×(Int×(Int×(Int×List UInt8)))))×List ((List UInt8×(Int×(Int×(Int×List UInt8))))))))))→Option ((Int×(Int×(List ((List UInt8×(Int×Int)))×(List ((List UInt8×(Int×(Int×(Int×List UInt8)))))×(List ((List UInt8×(Int×(Int×(Int×List UInt8)))))×List ((List UInt8×(Int×(Int×(Int×List UInt8)))))))))) ⊕ ((Int×(List ((List UInt8×(Int×Int)))×(List ((List UInt8×(Int×(Int×(Int×List UInt8)))))×(List ((List UInt8×(Int×(Int×(Int×List UInt8)))))×List ((List UInt8×(Int×(Int×(Int×List UInt8))))))))) ⊕ (Int×(List ((List UInt8×(Int×Int)))×(List ((List UInt8×(Int×(Int×(Int×List UInt8)))))×(List ((List UInt8×(Int×(Int×(Int×List UInt8)))))×List ((List UInt8×(Int×(Int×(Int×List UInt8))))))))))):=fun (at_51,s67_52,b1c_53,b1d_54,b1e_55,b1f_56) =>
 if decide (s67_52<v50)=true then
  bnd (F_record_Decode s_1 at_51) fun (v57,v58,v59) =>
  if (v59 != 0)=true then
   gz<|gz<|gq v2<|gq v3 <|
   some (.inr (.inl ((v59,(b1c_53,(b1d_54,(b1e_55,b1f_56)))))))
  else
   grd ((b1f_56.length+[(v57.1,v57.2.1,v57.2.2.1,v57.2.2.2.1,v57.2.2.2.2)].length)*56≤roomLim) <|
   gq s_1<|gq (α:=Int) 2<|gq v50<|gz<|gz<|gq v2<|gq v3 <|
   some (.inl ((v58,(IntKind.i64.wrap (s67_52+1),(b1c_53,(b1d_54,(b1e_55,b1f_56++[(v57.1,v57.2.1,v57.2.2.1,v57.2.2.2.1,v57.2.2.2.2)])))))))
 else
  gq s_1<|gq (α:=Int) 2<|gz<|gz<|gq v2<|gq v3 <|
  some (.inr (.inr ((at_51,(b1c_53,(b1d_54,(b1e_55,b1f_56)))))))
def F_msg_Decode (s_1:List UInt8):Option (((Int×(Int×(List ((List UInt8×(Int×Int)))×(List ((List UInt8×(Int×(Int×(Int×List UInt8)))))×(List ((List UInt8×(Int×(Int×(Int×List UInt8)))))×List ((List UInt8×(Int×(Int×(Int×List UInt8))))))))))×Int)) :=
 bnd (F_msg_Head s_1) fun (v2,v3,v4) =>
 if decide (65535<(↑s_1.length:Int))=true then
  some (((0,(0,([],([],([],[]))))),6))
 else
  if (!v4)=true then
   some (((0,(0,([],([],([],[]))))),2))
  else
   bnd (F_msg_many s_1 0) fun v5 =>
   bnd (loopS (step_msg_Decode_0 s_1 v2 v3 v5) ((12,(0,[])))) fun o12 =>
   match o12 with
   | .inl (s3_13,b1c_14) =>
    some (((0,(0,([],([],([],[]))))),s3_13))
   | .inr (at_15,b1c_16) =>
    bnd (F_msg_many s_1 1) fun v17 =>
    bnd (loopS (step_msg_Decode_1 s_1 v2 v3 v17) ((at_15,(0,(b1c_16,[]))))) fun o25 =>
    match o25 with
    | .inl (s3_26,b1c_27,b1d_28) =>
     some (((0,(0,([],([],([],[]))))),s3_26))
    | .inr (at_29,b1c_30,b1d_31) =>
     bnd (F_msg_many s_1 2) fun v32 =>
     bnd (loopS (step_msg_Decode_2 s_1 v2 v3 v32) ((at_29,(0,(b1c_30,(b1d_31,[])))))) fun o41 =>
     match o41 with
     | .inl (s3_42,b1c_43,b1d_44,b1e_45) =>
      some (((0,(0,([],([],([],[]))))),s3_42))
     | .inr (at_46,b1c_47,b1d_48,b1e_49) =>
      bnd (F_msg_many s_1 3) fun v50 =>
      bnd (loopS (step_msg_Decode_3 s_1 v2 v3 v50) ((at_46,(0,(b1c_47,(b1d_48,(b1e_49,[]))))))) fun o60 =>
      match o60 with
      | .inl (s3_61,b1c_62,b1d_63,b1e_64,b1f_65) =>
       some (((0,(0,([],([],([],[]))))),s3_61))
      | .inr (at_66,b1c_67,b1d_68,b1e_69,b1f_70) =>
       if (at_66 != (↑s_1.length:Int))=true then
        some (((0,(0,([],([],([],[]))))),5))
       else
        some (((v2,(v3,(b1c_67,(b1d_68,(b1e_69,b1f_70))))),0))
def ann_msg_Decode:List (List Nat×Ann):=[([52],⟨none,[]⟩),([52,1000000],⟨none,[]⟩),([52,1000000,1000000],⟨none,[]⟩),([52,1000000,1000000,1000000],⟨none,[]⟩),([52,1000000,1000000,1000000,1000000],⟨none,[]⟩),([27],⟨some ⟨(.cons kS (anyN 1 (.cons (.ptr 0 0) (anyN 4 (.cons (.ptr 1 0) (.cons yI (anyN 27 (.cons kI (.cons yI (anyN 59 .nil)))))))))),[.cells 63 true yS5,.cells 63 true yS30],[⟨⟨0,tQ,24,true,true⟩,true⟩],[]⟩,[(.ret,⟨yS36,[.cells 63 true yS5,.cells 63 true yS30],[⟨⟨0,tQ,24,true,true⟩,false⟩],[]⟩),(.exit 1,⟨(.cons kS (anyN 1 (.cons (.ptr 0 0) (anyN 4 (.cons (.ptr 1 0) (.cons yI (anyN 88 .nil))))))),[.cells 63 true yS5,.cells 63 true yS30],[⟨⟨0,tQ,24,true,true⟩,false⟩],[]⟩)]⟩),([66],⟨some ⟨(.cons kS (anyN 1 (.cons (.ptr 0 0) (anyN 4 (.cons (.ptr 1 0) (.cons yI (anyN 4 (.cons (.ptr 1 3) yS35)))))))),[.cells 63 true yS5,.cells 63 true yS27,.cells 177 true yS8],[⟨⟨0,tQ,24,true,true⟩,false⟩,⟨⟨0,tRR,101,true,true⟩,true⟩],[]⟩,[(.ret,⟨yS36,[.cells 63 true yS5,.cells 63 true yS27,.cells 177 true yS8],[⟨⟨0,tQ,24,true,true⟩,false⟩,⟨⟨0,tRR,101,true,true⟩,false⟩],[]⟩),(.exit 5,⟨yS21,[.cells 63 true yS5,.cells 63 true yS27,.cells 177 true yS8],[⟨⟨0,tQ,24,true,true⟩,false⟩,⟨⟨0,tRR,101,true,true⟩,false⟩],[]⟩)]⟩),([66,1000000],⟨some ⟨(.cons kS (anyN 1 (.cons (.ptr 0 0) (anyN 4 (.cons (.ptr 1 0) (.cons yI (anyN 4 (.cons (.ptr 1 4) yS35)))))))),[.cells 63 true yS5,.cells 63 true yS24,.cells 177 true yS8],[⟨⟨0,tQ,24,true,true⟩,false⟩,⟨⟨0,tRR,101,true,true⟩,false⟩,⟨⟨0,tRR,101,true,true⟩,true⟩],[]⟩,[(.ret,⟨yS36,[.cells 63 true yS5,.cells 63 true yS24,.cells 177 true yS8],[⟨⟨0,tQ,24,true,true⟩,false⟩,⟨⟨0,tRR,101,true,true⟩,false⟩,⟨⟨0,tRR,101,true,true⟩,false⟩],[]⟩),(.exit 5,⟨yS21,[.cells 63 true yS5,.cells 63 true yS24,.cells 177 true yS8],[⟨⟨0,tQ,24,true,true⟩,false⟩,⟨⟨0,tRR,101,true,true⟩,false⟩,⟨⟨0,tRR,101,true,true⟩,false⟩],[]⟩)]⟩),([66,1000000,1000000],⟨some ⟨(.cons kS (anyN 1 (.cons (.ptr 0 0) (anyN 4 (.cons (.ptr 1 0) (.cons yI (anyN 4 (.cons (.ptr 1 5) yS35)))))))),[.cells 63 true yS5,.cells 63 true yS22,.cells 177 true yS8],[⟨⟨0,tQ,24,true,true⟩,false⟩,⟨⟨0,tRR,101,true,true⟩,false⟩,⟨⟨0,tRR,101,true,true⟩,false⟩,⟨⟨0,tRR,101,true,true⟩,true⟩],[]⟩,[(.ret,⟨yS36,[.cells 63 true yS5,.cells 63 true yS22,.cells 177 true yS8],[⟨⟨0,tQ,24,true,true⟩,false⟩,⟨⟨0,tRR,101,true,true⟩,false⟩,⟨⟨0,tRR,101,true,true⟩,false⟩,⟨⟨0,tRR,101,true,true⟩,false⟩],[]⟩),(.exit 5,⟨yS21,[.cells 63 true yS5,.cells 63 true yS22,.cells 177 true yS8],[⟨⟨0,tQ,24,true,true⟩,false⟩,⟨⟨0,tRR,101,true,true⟩,false⟩,⟨⟨0,tRR,101,true,true⟩,false⟩,⟨⟨0,tRR,101,true,true⟩,false⟩],[]⟩)]⟩)]
@[reducible] def fs_msg_Decode:List (Nat×SFn):=[(126,.pure [.str,tI] [tQ,tI,tI] (fun x=>F_msg_question x.1 x.2)),(127,.pure [.str,tI] [tRR,tI,tI] (fun x=>F_record_Decode x.1 x.2)),(56,.pure [.str] [tI,tI,.bool] (fun x=>F_msg_Head x)),(125,.pure [.str,tI] [tI] (fun x=>F_msg_many x.1 x.2))]
theorem told_msg_Decode:Told CC Tryz.prog 99 [.str] [tM,tI] (fun x=>F_msg_Decode x):=told_of (n:=100000) (gok (an:=ann_msg_Decode) (fs:=fs_msg_Decode) ⟨told_msg_question,told_record_Decode,told_msg_Head,told_msg_many,trivial⟩) rfl rfl (fun x=>by kernel_rfl)
def F_reply_asked (s_1:List UInt8):Option (((List UInt8×(Int×Int))×((Bool×(Int×(Int×(Int×Bool))))×Bool))) :=
 bnd (F_msg_Decode s_1) fun (v2,v3) =>
 bnd (α:=(Bool ⊕ Unit)) (bnd (α:=Bool) (if (v3 != 0)=false then
    gq (α:=List UInt8) ([])<|gz<|gz<|gf<|gz<|gz<|gz<|gf<|g6 v2 <|
    some ((↑(List.length v2.2.2.1):Int) != 1)
   else
    gq (α:=List UInt8) ([])<|gz<|gz<|gf<|gz<|gz<|gz<|gf<|g6 v2 <|
    some true) fun s20_4 =>
  if s20_4=true then
   gq (α:=List UInt8) ([])<|gz<|gz<|gf<|gz<|gz<|gz<|gf<|g6 v2 <|
   some (.inl false)
  else
   gq (α:=List UInt8) ([])<|gz<|gz<|gf<|gz<|gz<|gz<|gf<|g6 v2 <|
   some (.inr (()))) fun o5 =>
 match o5 with
 | .inl s4_6 =>
  some ((([],(0,0)),((false,(0,(0,(0,false)))),s4_6)))
 | .inr _ =>
  bnd (F_edns_Find (v2.1,v2.2.1,v2.2.2.1,v2.2.2.2.1,v2.2.2.2.2.1,v2.2.2.2.2.2)) fun (v7,v8) =>
  if (v8 != 0)=true then
   some ((([],(0,0)),((false,(0,(0,(0,false)))),false)))
  else
   bnd (v2.2.2.1[0]?) fun x9 =>
   some (((x9.1,(x9.2.1,x9.2.2)),((v7.1,(v7.2.1,(v7.2.2.1,(v7.2.2.2.1,v7.2.2.2.2)))),true)))
def ann_reply_asked:List (List Nat×Ann):=[([4],⟨none,[(.ret,⟨(anyN 2 (.cons (.ptr 0 0) (.cons (.ptr 1 0) (.cons (.ty .bool) (anyN 32 .nil))))),[.cells 24 true yS40,.cells 50 true yS4,.cells 63 true yS0],[],[]⟩),(.normal,⟨(anyN 2 (.cons (.ptr 0 0) (.cons (.ptr 1 0) (anyN 1 (.cons (.ptr 2 0) (anyN 31 .nil)))))),[.cells 24 true yS40,.cells 50 true yS4,.cells 63 true yS0],[],[]⟩)]⟩),([5],⟨none,[(.normal,⟨(anyN 2 (.cons (.ptr 0 0) (.cons (.ptr 1 0) (anyN 1 (.cons (.ptr 2 0) (anyN 14 (.cons (.ty .bool) (anyN 16 .nil)))))))),[.cells 24 true yS40,.cells 50 true yS4,.cells 63 true yS0],[],[]⟩)]⟩)]
@[reducible] def fs_reply_asked:List (Nat×SFn):=[(99,.pure [.str] [tM,tI] (fun x=>F_msg_Decode x)),(100,.pure [tM] [yT14,tI] (fun x=>F_edns_Find x))]
theorem told_reply_asked:Told CC Tryz.prog 58 [.str] [tQ,yT14,.bool] (fun x=>F_reply_asked x):=told_of (n:=100000) (gok (an:=ann_reply_asked) (fs:=fs_reply_asked) ⟨told_msg_Decode,told_edns_Find,trivial⟩) rfl rfl (fun x=>by kernel_rfl)
def F_reply_Read (s_1:List UInt8):Option (((Int×(Int×(List UInt8×(Int×(Int×(Bool×(Int×(Int×(Int×Bool)))))))))×(Int×Int))) :=
 bnd (F_msg_Head s_1) fun (v2,v3,v4) =>
 bnd (α:=((Int×Int) ⊕ Unit)) (if (!v4)=false then
   bnd (F_flag_Field_Of 0 v3) fun v5 =>
   if (v5==1)=true then
    gz<|gz<|gq (α:=List UInt8) ([])<|gz<|gz<|gf<|gz<|gz<|gz<|gf <|
    some (.inl ((0,0)))
   else
    gq s_1<|gq v2<|gq v3<|gz<|gz<|gq (α:=List UInt8) ([])<|gz<|gz<|gf<|gz<|gz<|gz<|gf <|
    some (.inr (()))
  else
   gz<|gz<|gq (α:=List UInt8) ([])<|gz<|gz<|gf<|gz<|gz<|gz<|gf <|
   some (.inl ((0,0)))) fun o6 =>
 match o6 with
 | .inl (s3_7,s4_8) =>
  some (((0,(0,([],(0,(0,(false,(0,(0,(0,false))))))))),(s3_7,s4_8)))
 | .inr _ =>
  bnd (F_flag_Field_Of 1 v3) fun v9 =>
  if (v9 != 0)=true then
   some (((v2,(v3,([],(0,(0,(false,(0,(0,(0,false))))))))),(1,4)))
  else
   bnd (F_reply_asked s_1) fun (v10,v11,v12) =>
   if (!v12)=true then
    some (((v2,(v3,(v10.1,(v10.2.1,(v10.2.2,(v11.1,(v11.2.1,(v11.2.2.1,(v11.2.2.2.1,v11.2.2.2.2))))))))),(1,1)))
   else
    if (v11.2.2.2.1 != 0)=true then
     some (((v2,(v3,(v10.1,(v10.2.1,(v10.2.2,(v11.1,(v11.2.1,(v11.2.2.1,(v11.2.2.2.1,v11.2.2.2.2))))))))),(1,16)))
    else
     if (v10.2.2 != 1)=true then
      some (((v2,(v3,(v10.1,(v10.2.1,(v10.2.2,(v11.1,(v11.2.1,(v11.2.2.1,(v11.2.2.2.1,v11.2.2.2.2))))))))),(1,5)))
     else
      bnd (α:=Bool) (if (v10.2.1==0)=false then
        if (v10.2.1==41)=false then
         if decide (128≤v10.2.1)=true then
          gz<|gz<|gq (α:=List UInt8) ([])<|gz<|gz<|gf<|gz<|gz<|gz<|gf<|gq v2<|gq v3<|g3 v10<|g5 v11 <|
          some (decide (v10.2.1≤255))
         else
          gz<|gz<|gq (α:=List UInt8) ([])<|gz<|gz<|gf<|gz<|gz<|gz<|gf<|gq v2<|gq v3<|g3 v10<|g5 v11 <|
          some false
        else
         gz<|gz<|gq (α:=List UInt8) ([])<|gz<|gz<|gf<|gz<|gz<|gz<|gf<|gq v2<|gq v3<|g3 v10<|g5 v11 <|
         some true
       else
        gz<|gz<|gq (α:=List UInt8) ([])<|gz<|gz<|gf<|gz<|gz<|gz<|gf<|gq v2<|gq v3<|g3 v10<|g5 v11 <|
        some true) fun s57_13 =>
      if s57_13=true then
       some (((v2,(v3,(v10.1,(v10.2.1,(v10.2.2,(v11.1,(v11.2.1,(v11.2.2.1,(v11.2.2.2.1,v11.2.2.2.2))))))))),(1,4)))
      else
       some (((v2,(v3,(v10.1,(v10.2.1,(v10.2.2,(v11.1,(v11.2.1,(v11.2.2.1,(v11.2.2.2.1,v11.2.2.2.2))))))))),(2,0)))
def ann_reply_Read:List (List Nat×Ann):=[([4],⟨none,[(.ret,⟨(anyN 2 (.cons (.ptr 0 0) (.cons yI (.cons yI (anyN 69 .nil))))),[.cells 52 true yS1],[],[]⟩),(.normal,⟨(.cons kS (anyN 1 (.cons (.ptr 0 0) (anyN 2 (.cons kI (.cons kI (anyN 67 .nil))))))),[.cells 52 true yS1],[],[]⟩)]⟩),([48],⟨none,[(.normal,⟨(anyN 2 (.cons (.ptr 0 0) (anyN 5 (.cons (.ptr 1 0) (anyN 48 (.cons (.ty .bool) (anyN 16 .nil))))))),[.cells 52 true yS1,.cells 52 true yS1],[],[]⟩)]⟩)]
@[reducible] def fs_reply_Read:List (Nat×SFn):=[(56,.pure [.str] [tI,tI,.bool] (fun x=>F_msg_Head x)),(57,.pure [tI,tI] [tI] (fun x=>F_flag_Field_Of x.1 x.2)),(58,.pure [.str] [tQ,yT14,.bool] (fun x=>F_reply_asked x))]
theorem told_reply_Read:Told CC Tryz.prog 30 [.str] [yT9,tI,tI] (fun x=>F_reply_Read x):=told_of (n:=100000) (gok (an:=ann_reply_Read) (fs:=fs_reply_Read) ⟨told_msg_Head,told_flag_Field_Of,told_reply_asked,trivial⟩) rfl rfl (fun x=>by kernel_rfl)
def F_data_Check (kind_1:Int) (d_2:List UInt8):Option (Bool) :=
 if decide (65535<(↑d_2.length:Int))=true then
  some false
 else
  bnd (F_data_Expand d_2 0 (↑d_2.length:Int) kind_1) fun (v3,v4) =>
  if (v4==0)=true then
   some (v3==d_2)
  else
   some false
def ann_data_Check:List (List Nat×Ann):=[]
@[reducible] def fs_data_Check:List (Nat×SFn):=[(155,.pure [.str,tI,tI,tI] [.str,tI] (fun x=>F_data_Expand x.1 x.2.1 x.2.2.1 x.2.2.2))]
theorem told_data_Check:Told CC Tryz.prog 141 [tI,.str] [.bool] (fun x=>F_data_Check x.1 x.2):=told_of (n:=100000) (gok (an:=ann_data_Check) (fs:=fs_data_Check) ⟨told_data_Expand,trivial⟩) rfl rfl (fun x=>by kernel_rfl)
def F_record_Check (r_1:(List UInt8×(Int×(Int×(Int×List UInt8))))):Option (Bool) :=
 bnd (F_name_Check r_1.1) fun v2 =>
 if v2=true then
  bnd (F_record_in r_1.2.1 65535) fun v3 =>
  if v3=true then
   bnd (F_record_in r_1.2.2.1 65535) fun v4 =>
   if v4=true then
    bnd (F_record_in r_1.2.2.2.1 2147483647) fun v5 =>
    if v5=true then
     bnd (F_data_Check r_1.2.1 r_1.2.2.2.2) fun v6 =>
     some v6
    else
     some false
   else
    some false
  else
   some false
 else
  some false
def ann_record_Check:List (List Nat×Ann):=[]
@[reducible] def fs_record_Check:List (Nat×SFn):=[(75,.pure [.str] [.bool] (fun x=>F_name_Check x)),(148,.pure [tI,tI] [.bool] (fun x=>F_record_in x.1 x.2)),(141,.pure [tI,.str] [.bool] (fun x=>F_data_Check x.1 x.2))]
theorem told_record_Check:Told CC Tryz.prog 116 [tRR] [.bool] (fun x=>F_record_Check x):=told_of (n:=100000) (gok (an:=ann_record_Check) (fs:=fs_record_Check) ⟨told_name_Check,told_record_in,told_data_Check,trivial⟩) rfl rfl (fun x=>by kernel_rfl)
def F_msg_Check_1 (r_1:(List UInt8×(Int×(Int×(Int×List UInt8))))):Option (Bool) :=
 bnd (F_record_Check (r_1.1,r_1.2.1,r_1.2.2.1,r_1.2.2.2.1,r_1.2.2.2.2)) fun v2 =>
 some (!v2)
def ann_msg_Check_1:List (List Nat×Ann):=[]
@[reducible] def fs_msg_Check_1:List (Nat×SFn):=[(116,.pure [tRR] [.bool] (fun x=>F_record_Check x))]
theorem told_msg_Check_1:Told CC Tryz.prog 133 [tRR] [.bool] (fun x=>F_msg_Check_1 x):=told_of (n:=100000) (gok (an:=ann_msg_Check_1) (fs:=fs_msg_Check_1) ⟨told_record_Check,trivial⟩) rfl rfl (fun x=>by kernel_rfl)
end
end Go.Abs

set_option maxRecDepth 100000
namespace Go.Abs
open Go Go.Proofs
noncomputable section
def step_msg_Check_0 (m_1:Int×Int×List (List UInt8×Int×Int)×List (List UInt8×Int×Int×Int×List UInt8)×List (List UInt8×Int×Int×Int×List UInt8)×List (List UInt8×Int×Int×Int×List UInt8)):Int→Option (Int ⊕ (Int ⊕ Unit)):=fun s8_3 =>
 if decide (s8_3<(↑(List.length m_1.2.2.2.1):Int))=true then
  natOf s8_3 fun n4 =>
  bnd (m_1.2.2.2.1[n4]?) fun x5 =>
  bnd (F_msg_Check_1 (x5.1,x5.2.1,x5.2.2.1,x5.2.2.2.1,x5.2.2.2.2)) fun v6 =>
  if v6=true then
   g6 m_1 <|
   some (.inr (.inl s8_3))
  else
   gq m_1.2.2.2.1 <|
   grdEq ((↑(List.length m_1.2.2.2.1):Int)) ((↑(List.length m_1.2.2.2.1):Int)) <|
   g6 m_1 <|
   some (.inl (IntKind.i64.wrap (s8_3+1)))
 else
  g6 m_1 <|
  some (.inr (.inr (())))
def step_msg_Check_1 (m_1:Int×Int×List (List UInt8×Int×Int)×List (List UInt8×Int×Int×Int×List UInt8)×List (List UInt8×Int×Int×Int×List UInt8)×List (List UInt8×Int×Int×Int×List UInt8)):Int→Option (Int ⊕ (Int ⊕ Unit)):=fun s8_10 =>
 if decide (s8_10<(↑(List.length m_1.2.2.2.2.1):Int))=true then
  natOf s8_10 fun n11 =>
  bnd (m_1.2.2.2.2.1[n11]?) fun x12 =>
  bnd (F_msg_Check_1 (x12.1,x12.2.1,x12.2.2.1,x12.2.2.2.1,x12.2.2.2.2)) fun v13 =>
  if v13=true then
   g6 m_1 <|
   some (.inr (.inl s8_10))
  else
   gq m_1.2.2.2.2.1 <|
   grdEq ((↑(List.length m_1.2.2.2.2.1):Int)) ((↑(List.length m_1.2.2.2.2.1):Int)) <|
   g6 m_1 <|
   some (.inl (IntKind.i64.wrap (s8_10+1)))
 else
  g6 m_1 <|
  some (.inr (.inr (())))
def step_msg_Check_2 (m_1:Int×Int×List (List UInt8×Int×Int)×List (List UInt8×Int×Int×Int×List UInt8)×List (List UInt8×Int×Int×Int×List UInt8)×List (List UInt8×Int×Int×Int×List UInt8)):Int→Option (Int ⊕ (Int ⊕ Unit)):=fun s8_17 =>
 if decide (s8_17<(↑(List.length m_1.2.2.2.2.2):Int))=true then
  natOf s8_17 fun n18 =>
  bnd (m_1.2.2.2.2.2[n18]?) fun x19 =>
  bnd (F_msg_Check_1 (x19.1,x19.2.1,x19.2.2.1,x19.2.2.2.1,x19.2.2.2.2)) fun v20 =>
  if v20=true then
   g6 m_1 <|
   some (.inr (.inl s8_17))
  else
   gq m_1.2.2.2.2.2 <|
   grdEq ((↑(List.length m_1.2.2.2.2.2):Int)) ((↑(List.length m_1.2.2.2.2.2):Int)) <|
   g6 m_1 <|
   some (.inl (IntKind.i64.wrap (s8_17+1)))
 else
  g6 m_1 <|
  some (.inr (.inr (())))
def step_msg_Check_3 (m_1:Int×Int×List (List UInt8×Int×Int)×List (List UInt8×Int×Int×Int×List UInt8)×List (List UInt8×Int×Int×Int×List UInt8)×List (List UInt8×Int×Int×Int×List UInt8)):Int→Option (Int ⊕ (Int ⊕ Unit)):=fun s8_26 =>
 if decide (s8_26<(↑(List.length m_1.2.2.1):Int))=true then
  natOf s8_26 fun n27 =>
  bnd (m_1.2.2.1[n27]?) fun x28 =>
  bnd (F_msg_Check_2 (x28.1,x28.2.1,x28.2.2)) fun v29 =>
  if v29=true then
   g6 m_1 <|
   some (.inr (.inl s8_26))
  else
   gq m_1.2.2.1 <|
   grdEq ((↑(List.length m_1.2.2.1):Int)) ((↑(List.length m_1.2.2.1):Int)) <|
   g6 m_1 <|
   some (.inl (IntKind.i64.wrap (s8_26+1)))
 else
  g6 m_1 <|
  some (.inr (.inr (())))
def step_msg_Check_4 (m_1:Int×Int×List (List UInt8×Int×Int)×List (List UInt8×Int×Int×Int×List UInt8)×List (List UInt8×Int×Int×Int×List UInt8)×List (List UInt8×Int×Int×Int×List UInt8)):Int→Option (Int ⊕ (Int ⊕ Unit)):=fun s8_35 =>
 if decide (s8_35<(↑(List.length m_1.2.2.1):Int))=true then
  natOf s8_35 fun n36 =>
  bnd (m_1.2.2.1[n36]?) fun x37 =>
  bnd (F_msg_Check_2 (x37.1,x37.2.1,x37.2.2)) fun v38 =>
  if v38=true then
   g6 m_1 <|
   some (.inr (.inl s8_35))
  else
   gq m_1.2.2.1 <|
   grdEq ((↑(List.length m_1.2.2.1):Int)) ((↑(List.length m_1.2.2.1):Int)) <|
   g6 m_1 <|
   some (.inl (IntKind.i64.wrap (s8_35+1)))
 else
  g6 m_1 <|
  some (.inr (.inr (())))
def step_msg_Check_5 (m_1:Int×Int×List (List UInt8×Int×Int)×List (List UInt8×Int×Int×Int×List UInt8)×List (List UInt8×Int×Int×Int×List UInt8)×List (List UInt8×Int×Int×Int×List UInt8)):Int→Option (Int ⊕ (Int ⊕ Unit)):=fun s8_42 =>
 if decide (s8_42<(↑(List.length m_1.2.2.2.2.2):Int))=true then
  natOf s8_42 fun n43 =>
  bnd (m_1.2.2.2.2.2[n43]?) fun x44 =>
  bnd (F_msg_Check_1 (x44.1,x44.2.1,x44.2.2.1,x44.2.2.2.1,x44.2.2.2.2)) fun v45 =>
  if v45=true then
   g6 m_1 <|
   some (.inr (.inl s8_42))
  else
   gq m_1.2.2.2.2.2 <|
   grdEq ((↑(List.length m_1.2.2.2.2.2):Int)) ((↑(List.length m_1.2.2.2.2.2):Int)) <|
   g6 m_1 <|
   some (.inl (IntKind.i64.wrap (s8_42+1)))
 else
  g6 m_1 <|
  some (.inr (.inr (())))
def step_msg_Check_6 (m_1:Int×Int×List (List UInt8×Int×Int)×List (List UInt8×Int×Int×Int×List UInt8)×List (List UInt8×Int×Int×Int×List UInt8)×List (List UInt8×Int×Int×Int×List UInt8)):Int→Option (Int ⊕ (Int ⊕ Unit)):=fun s8_51 =>
 if decide (s8_51<(↑(List.length m_1.2.2.1):Int))=true then
  natOf s8_51 fun n52 =>
  bnd (m_1.2.2.1[n52]?) fun x53 =>
  bnd (F_msg_Check_2 (x53.1,x53.2.1,x53.2.2)) fun v54 =>
  if v54=true then
   g6 m_1 <|
   some (.inr (.inl s8_51))
  else
   gq m_1.2.2.1 <|
   grdEq ((↑(List.length m_1.2.2.1):Int)) ((↑(List.length m_1.2.2.1):Int)) <|
   g6 m_1 <|
   some (.inl (IntKind.i64.wrap (s8_51+1)))
 else
  g6 m_1 <|
  some (.inr (.inr (())))
def step_msg_Check_7 (m_1:Int×Int×List (List UInt8×Int×Int)×List (List UInt8×Int×Int×Int×List UInt8)×List (List UInt8×Int×Int×Int×List UInt8)×List (List UInt8×Int×Int×Int×List UInt8)):Int→Option (Int ⊕ (Int ⊕ Unit)):=fun s8_60 =>
 if decide (s8_60<(↑(List.length m_1.2.2.1):Int))=true then
  natOf s8_60 fun n61 =>
  bnd (m_1.2.2.1[n61]?) fun x62 =>
  bnd (F_msg_Check_2 (x62.1,x62.2.1,x62.2.2)) fun v63 =>
  if v63=true then
   g6 m_1 <|
   some (.inr (.inl s8_60))
  else
   gq m_1.2.2.1 <|
   grdEq ((↑(List.length m_1.2.2.1):Int)) ((↑(List.length m_1.2.2.1):Int)) <|
   g6 m_1 <|
   some (.inl (IntKind.i64.wrap (s8_60+1)))
 else
  g6 m_1 <|
  some (.inr (.inr (())))
def step_msg_Check_8 (m_1:Int×Int×List (List UInt8×Int×Int)×List (List UInt8×Int×Int×Int×List UInt8)×List (List UInt8×Int×Int×Int×List UInt8)×List (List UInt8×Int×Int×Int×List UInt8)):Int→Option (Int ⊕ (Int ⊕ Unit)):=fun s8_67 =>
 if decide (s8_67<(↑(List.length m_1.2.2.2.2.1):Int))=true then
  natOf s8_67 fun n68 =>
  bnd (m_1.2.2.2.2.1[n68]?) fun x69 =>
  bnd (F_msg_Check_1 (x69.1,x69.2.1,x69.2.2.1,x69.2.2.2.1,x69.2.2.2.2)) fun v70 =>
  if v70=true then
   g6 m_1 <|
   some (.inr (.inl s8_67))
  else
   gq m_1.2.2.2.2.1 <|
   grdEq ((↑(List.length m_1.2.2.2.2.1):Int)) ((↑(List.length m_1.2.2.2.2.1):Int)) <|
   g6 m_1 <|
   some (.inl (IntKind.i64.wrap (s8_67+1)))
 else
  g6 m_1 <|
  some (.inr (.inr (())))
def step_msg_Check_9 (m_1:Int×Int×List (List UInt8×Int×Int)×List (List UInt8×Int×Int×Int×List UInt8)×List (List UInt8×Int×Int×Int×List UInt8)×List (List UInt8×Int×Int×Int×List UInt8)):Int→Option (Int ⊕ (Int ⊕ Unit)):=fun s8_74 =>
 if decide (s8_74<(↑(List.length m_1.2.2.2.2.2):Int))=true then
  natOf s8_74 fun n75 =>
  bnd (m_1.2.2.2.2.2[n75]?) fun x76 =>
  bnd (F_msg_Check_1 (x76.1,x76.2.1,x76.2.2.1,x76.2.2.2.1,x76.2.2.2.2)) fun v77 =>
  if v77=true then
   g6 m_1 <|
   some (.inr (.inl s8_74))
  else
   gq m_1.2.2.2.2.2 <|
   grdEq ((↑(List.length m_1.2.2.2.2.2):Int)) ((↑(List.length m_1.2.2.2.2.2):Int)) <|
   g6 m_1 <|
   some (.inl (IntKind.i64.wrap (s8_74+1)))
 else
  g6 m_1 <|
  some (.inr (.inr (())))
def step_msg_Check_10 (m_1:Int×Int×List (List UInt8×Int×Int)×List (List UInt8×Int×Int×Int×List UInt8)×List (List UInt8×Int×Int×Int×List UInt8)×List (List UInt8×Int×Int×Int×List UInt8)):Int→Option (Int ⊕ (Int ⊕ Unit)):=fun s8_83 =>
 if decide (s8_83<(↑(List.length m_1.2.2.1):Int))=true then
  natOf s8_83 fun n84 =>
  bnd (m_1.2.2.1[n84]?) fun x85 =>
  bnd (F_msg_Check_2 (x85.1,x85.2.1,x85.2.2)) fun v86 =>
  if v86=true then
   g6 m_1 <|
   some (.inr (.inl s8_83))
  else
   gq m_1.2.2.1 <|
   grdEq ((↑(List.length m_1.2.2.1):Int)) ((↑(List.length m_1.2.2.1):Int)) <|
   g6 m_1 <|
   some (.inl (IntKind.i64.wrap (s8_83+1)))
 else
  g6 m_1 <|
  some (.inr (.inr (())))
def step_msg_Check_11 (m_1:Int×Int×List (List UInt8×Int×Int)×List (List UInt8×Int×Int×Int×List UInt8)×List (List UInt8×Int×Int×Int×List UInt8)×List (List UInt8×Int×Int×Int×List UInt8)):Int→Option (Int ⊕ (Int ⊕ Unit)):=fun s8_92 =>
 if decide (s8_92<(↑(List.length m_1.2.2.1):Int))=true then
  natOf s8_92 fun n93 =>
  bnd (m_1.2.2.1[n93]?) fun x94 =>
  bnd (F_msg_Check_2 (x94.1,x94.2.1,x94.2.2)) fun v95 =>
  if v95=true then
   g6 m_1 <|
   some (.inr (.inl s8_92))
  else
   gq m_1.2.2.1 <|
   grdEq ((↑(List.length m_1.2.2.1):Int)) ((↑(List.length m_1.2.2.1):Int)) <|
   g6 m_1 <|
   some (.inl (IntKind.i64.wrap (s8_92+1)))
 else
  g6 m_1 <|
  some (.inr (.inr (())))
def step_msg_Check_12 (m_1:Int×Int×List (List UInt8×Int×Int)×List (List UInt8×Int×Int×Int×List UInt8)×List (List UInt8×Int×Int×Int×List UInt8)×List (List UInt8×Int×Int×Int×List UInt8)):Int→Option (Int ⊕ (Int ⊕ Unit)):=fun s8_99 =>
 if decide (s8_99<(↑(List.length m_1.2.2.2.2.2):Int))=true then
  natOf s8_99 fun n100 =>
  bnd (m_1.2.2.2.2.2[n100]?) fun x101 =>
  bnd (F_msg_Check_1 (x101.1,x101.2.1,x101.2.2.1,x101.2.2.2.1,x101.2.2.2.2)) fun v102 =>
  if v102=true then
   g6 m_1 <|
   some (.inr (.inl s8_99))
  else
   gq m_1.2.2.2.2.2 <|
   grdEq ((↑(List.length m_1.2.2.2.2.2):Int)) ((↑(List.length m_1.2.2.2.2.2):Int)) <|
   g6 m_1 <|
   some (.inl (IntKind.i64.wrap (s8_99+1)))
 else
  g6 m_1 <|
  some (.inr (.inr (())))
def step_msg_Check_13 (m_1:Int×Int×List (List UInt8×Int×Int)×List (List UInt8×Int×Int×Int×List UInt8)×List (List UInt8×Int×Int×Int×List UInt8)×List (List UInt8×Int×Int×Int×List UInt8)):Int→Option (Int ⊕ (Int ⊕ Unit)):=fun s8_108 =>
 if decide (s8_108<(↑(List.length m_1.2.2.1):Int))=true then
  natOf s8_108 fun n109 =>
  bnd (m_1.2.2.1[n109]?) fun x110 =>
  bnd (F_msg_Check_2 (x110.1,x110.2.1,x110.2.2)) fun v111 =>
  if v111=true then
   g6 m_1 <|
   some (.inr (.inl s8_108))
  else
   gq m_1.2.2.1 <|
   grdEq ((↑(List.length m_1.2.2.1):Int)) ((↑(List.length m_1.2.2.1):Int)) <|
   g6 m_1 <|
   some (.inl (IntKind.i64.wrap (s8_108+1)))
 else
  g6 m_1 <|
  some (.inr (.inr (())))
def step_msg_Check_14 (m_1:Int×Int×List (List UInt8×Int×Int)×List (List UInt8×Int×Int×Int×List UInt8)×List (List UInt8×Int×Int×Int×List UInt8)×List (List UInt8×Int×Int×Int×List UInt8)):Int→Option (Int ⊕ (Int ⊕ Unit)):=fun s8_117 =>
 if decide (s8_117<(↑(List.length m_1.2.2.1):Int))=true then
  natOf s8_117 fun n118 =>
  bnd (m_1.2.2.1[n118]?) fun x119 =>
  bnd (F_msg_Check_2 (x119.1,x119.2.1,x119.2.2)) fun v120 =>
  if v120=true then
   g6 m_1 <|
   some (.inr (.inl s8_117))
  else
   gq m_1.2.2.1 <|
   grdEq ((↑(List.length m_1.2.2.1):Int)) ((↑(List.length m_1.2.2.1):Int)) <|
   g6 m_1 <|
   some (.inl (IntKind.i64.wrap (s8_117+1)))
 else
  g6 m_1 <|
  some (.inr (.inr (())))
def F_msg_Check (m_1:(Int×(Int×(List ((List UInt8×(Int×Int)))×(List ((List UInt8×(Int×(Int×(Int×List UInt8)))))×(List ((List UInt8×(Int×(Int×(Int×List UInt8)))))×List ((List UInt8×(Int×(Int×(Int×List UInt8))))))))))):Option (Bool) :=
 bnd (F_msg_small (↑(List.length m_1.2.2.2.1):Int)) fun v2 =>
 if (!v2)=false then
  bnd (loopS (step_msg_Check_0 m_1) 0) fun o7 =>
  match o7 with
  | .inl s4_8 =>
   if decide (0≤s4_8)=true then
    some false
   else
    bnd (F_msg_small (↑(List.length m_1.2.2.2.2.1):Int)) fun v9 =>
    if (!v9)=false then
     bnd (loopS (step_msg_Check_1 m_1) 0) fun o14 =>
     match o14 with
     | .inl s4_15 =>
      if decide (0≤s4_15)=true then
       some false
      else
       bnd (F_msg_small (↑(List.length m_1.2.2.2.2.2):Int)) fun v16 =>
       if (!v16)=false then
        bnd (loopS (step_msg_Check_2 m_1) 0) fun o21 =>
        match o21 with
        | .inl s4_22 =>
         if decide (0≤s4_22)=true then
          some false
         else
          bnd (F_msg_small m_1.1) fun v23 =>
          if v23=true then
           bnd (F_msg_small m_1.2.1) fun v24 =>
           if v24=true then
            bnd (F_msg_small (↑(List.length m_1.2.2.1):Int)) fun v25 =>
            if v25=true then
             bnd (loopS (step_msg_Check_3 m_1) 0) fun o30 =>
             match o30 with
             | .inl s4_31 =>
              some (!decide (0≤s4_31))
             | .inr _ =>
              some true
            else
             some false
           else
            some false
          else
           some false
        | .inr _ =>
         bnd (F_msg_small m_1.1) fun v32 =>
         if v32=true then
          bnd (F_msg_small m_1.2.1) fun v33 =>
          if v33=true then
           bnd (F_msg_small (↑(List.length m_1.2.2.1):Int)) fun v34 =>
           if v34=true then
            bnd (loopS (step_msg_Check_4 m_1) 0) fun o39 =>
            match o39 with
            | .inl s4_40 =>
             some (!decide (0≤s4_40))
            | .inr _ =>
             some true
           else
            some false
          else
           some false
         else
          some false
       else
        some false
     | .inr _ =>
      bnd (F_msg_small (↑(List.length m_1.2.2.2.2.2):Int)) fun v41 =>
      if (!v41)=false then
       bnd (loopS (step_msg_Check_5 m_1) 0) fun o46 =>
       match o46 with
       | .inl s4_47 =>
        if decide (0≤s4_47)=true then
         some false
        else
         bnd (F_msg_small m_1.1) fun v48 =>
         if v48=true then
          bnd (F_msg_small m_1.2.1) fun v49 =>
          if v49=true then
           bnd (F_msg_small (↑(List.length m_1.2.2.1):Int)) fun v50 =>
           if v50=true then
            bnd (loopS (step_msg_Check_6 m_1) 0) fun o55 =>
            match o55 with
            | .inl s4_56 =>
             some (!decide (0≤s4_56))
            | .inr _ =>
             some true
           else
            some false
          else
           some false
         else
          some false
       | .inr _ =>
        bnd (F_msg_small m_1.1) fun v57 =>
        if v57=true then
         bnd (F_msg_small m_1.2.1) fun v58 =>
         if v58=true then
          bnd (F_msg_small (↑(List.length m_1.2.2.1):Int)) fun v59 =>
          if v59=true then
           bnd (loopS (step_msg_Check_7 m_1) 0) fun o64 =>
           match o64 with
           | .inl s4_65 =>
            some (!decide (0≤s4_65))
           | .inr _ =>
            some true
          else
           some false
         else
          some false
        else
         some false
      else
       some false
    else
     some false
  | .inr _ =>
   bnd (F_msg_small (↑(List.length m_1.2.2.2.2.1):Int)) fun v66 =>
   if (!v66)=false then
    bnd (loopS (step_msg_Check_8 m_1) 0) fun o71 =>
    match o71 with
    | .inl s4_72 =>
     if decide (0≤s4_72)=true then
      some false
     else
      bnd (F_msg_small (↑(List.length m_1.2.2.2.2.2):Int)) fun v73 =>
      if (!v73)=false then
       bnd (loopS (step_msg_Check_9 m_1) 0) fun o78 =>
       match o78 with
       | .inl s4_79 =>
        if decide (0≤s4_79)=true then
         some false
        else
         bnd (F_msg_small m_1.1) fun v80 =>
         if v80=true then
          bnd (F_msg_small m_1.2.1) fun v81 =>
          if v81=true then
           bnd (F_msg_small (↑(List.length m_1.2.2.1):Int)) fun v82 =>
           if v82=true then
            bnd (loopS (step_msg_Check_10 m_1) 0) fun o87 =>
            match o87 with
            | .inl s4_88 =>
             some (!decide (0≤s4_88))
            | .inr _ =>
             some true
           else
            some false
          else
           some false
         else
          some false
       | .inr _ =>
        bnd (F_msg_small m_1.1) fun v89 =>
        if v89=true then
         bnd (F_msg_small m_1.2.1) fun v90 =>
         if v90=true then
          bnd (F_msg_small (↑(List.length m_1.2.2.1):Int)) fun v91 =>
          if v91=true then
           bnd (loopS (step_msg_Check_11 m_1) 0) fun o96 =>
           match o96 with
           | .inl s4_97 =>
            some (!decide (0≤s4_97))
           | .inr _ =>
            some true
          else
           some false
         else
          some false
        else
         some false
      else
       some false
    | .inr _ =>
     bnd (F_msg_small (↑(List.length m_1.2.2.2.2.2):Int)) fun v98 =>
     if (!v98)=false then
      bnd (loopS (step_msg_Check_12 m_1) 0) fun o103 =>
      match o103 with
      | .inl s4_104 =>
       if decide (0≤s4_104)=true then
        some false
       else
        bnd (F_msg_small m_1.1) fun v105 =>
        if v105=true then
         bnd (F_msg_small m_1.2.1) fun v106 =>
         if v106=true then
          bnd (F_msg_small (↑(List.length m_1.2.2.1):Int)) fun v107 =>
          if v107=true then
           bnd (loopS (step_msg_Check_13 m_1) 0) fun o112 =>
           match o112 with
           | .inl s4_113 =>
            some (!decide (0≤s4_113))
           | .inr _ =>
            some true
          else
           some false
         else
          some false
        else
         some false
      | .inr _ =>
       bnd (F_msg_small m_1.1) fun v114 =>
       if v114=true then
        bnd (F_msg_small m_1.2.1) fun v115 =>
        if v115=true then
         bnd (F_msg_small (↑(List.length m_1.2.2.1):Int)) fun v116 =>
         if v116=true then
          bnd (loopS (step_msg_Check_14 m_1) 0) fun o121 =>
          match o121 with
          | .inl s4_122 =>
           some (!decide (0≤s4_122))
          | .inr _ =>
           some true
         else
          some false
        else
         some false
       else
        some false
     else
      some false
   else
    some false
 else
  some false
def ann_msg_Check:List (List Nat×Ann):=[([6],⟨none,[]⟩),([6,1000000],⟨none,[]⟩),([6,1000000,1000000],⟨none,[]⟩),([6,1000000,1000000,1000000],⟨none,[]⟩),([6,1000000,1000000,1000000,1000000],⟨none,[]⟩),([6,128,2,3,130,10,18],⟨some ⟨yS38,[.cells 63 true yS0,.cells 177 true yS3],[],[]⟩,[(.ret,⟨yS23,[.cells 63 true yS0,.cells 177 true yS3],[],[]⟩),(.exit 0,⟨yS37,[.cells 63 true yS0,.cells 177 true yS3],[],[]⟩)]⟩),([6,128,2,3,130,10,18,1000000],⟨some ⟨yS38,[.cells 63 true yS0,.cells 177 true yS3],[],[]⟩,[(.ret,⟨yS23,[.cells 63 true yS0,.cells 177 true yS3],[],[]⟩),(.exit 0,⟨yS37,[.cells 63 true yS0,.cells 177 true yS3],[],[]⟩)]⟩),([6,128,2,3,130,10,18,1000000,1000000],⟨some ⟨yS38,[.cells 63 true yS0,.cells 177 true yS3],[],[]⟩,[(.ret,⟨yS23,[.cells 63 true yS0,.cells 177 true yS3],[],[]⟩),(.exit 0,⟨yS37,[.cells 63 true yS0,.cells 177 true yS3],[],[]⟩)]⟩),([6,156,2,3,135,18,28],⟨some ⟨(.cons (.keep (.list tQ)) (.cons (.func 134 .nil .nil) yS16)),[.cells 63 true yS0,.cells 177 true yS3],[],[]⟩,[(.ret,⟨yS23,[.cells 63 true yS0,.cells 177 true yS3],[],[]⟩),(.exit 0,⟨yS37,[.cells 63 true yS0,.cells 177 true yS3],[],[]⟩)]⟩)]
@[reducible] def fs_msg_Check:List (Nat×SFn):=[(133,.pure [tRR] [.bool] (fun x=>F_msg_Check_1 x)),(134,.pure [tQ] [.bool] (fun x=>F_msg_Check_2 x)),(132,.pure [tI] [.bool] (fun x=>F_msg_small x))]
theorem told_msg_Check:Told CC Tryz.prog 102 [tM] [.bool] (fun x=>F_msg_Check x):=told_of (n:=100000) (gok (an:=ann_msg_Check) (fs:=fs_msg_Check) ⟨told_msg_Check_1,told_msg_Check_2,told_msg_small,trivial⟩) rfl rfl (fun x=>by kernel_rfl)
def step_data_Low_0 (kind_1:Int) (d_2:List UInt8) (n4:Nat):(Int×(Int×(List ((Int×(Int×(Int×Int))))×List (List UInt8))))→Option ((Int×(Int×(List ((Int×(Int×(Int×Int))))×List (List UInt8)))) ⊕ ((Int×(List ((Int×(Int×(Int×Int))))×List (List UInt8))) ⊕ (Bool×(List ((Int×(Int×(Int×Int))))×List (List UInt8))))):=fun (at_5,s38_6,m1_7,b5c_8) =>
 if decide (s38_6<((shpF kind_1).getD (0,0,0)).2.1)=true then
  bnd (F_comp_Read d_2 at_5) fun (v9,v10,v11) =>
  bnd (α:=((Bool×(List ((Int×(Int×(Int×Int))))×List (List UInt8))) ⊕ (List ((Int×(Int×(Int×Int))))×List (List UInt8)))) (if (v11 != 0)=false then
    if decide ((↑d_2.length:Int)<v10)=true then
     gq (α:=List UInt8) ([])<|gq (α:=List UInt8) ([]) <|
     grdEq (((shpF kind_1).getD (0,0,0)).1) (((shpF kind_1).getD (0,0,0)).1) <|
     grdEq (((shpF kind_1).getD (0,0,0)).2.1) (((shpF kind_1).getD (0,0,0)).2.1) <|
     grdEq (((shpF kind_1).getD (0,0,0)).2.2) (((shpF kind_1).getD (0,0,0)).2.2) <|
     grdEq (((shpF kind_1).getD (0,0,0)).1) (((shpF kind_1).getD (0,0,0)).1) <|
     grdEq (((shpF kind_1).getD (0,0,0)).2.1) (((shpF kind_1).getD (0,0,0)).2.1) <|
     grdEq (((shpF kind_1).getD (0,0,0)).2.2) (((shpF kind_1).getD (0,0,0)).2.2) <|
     gq (α:=List UInt8) ([])<|gq (α:=List UInt8) ([]) <|
     grdEq (List.drop 0 (List.take n4 d_2)) (List.drop 0 (List.take n4 d_2)) <|
     gq (α:=List UInt8) ([]) <|
     some (.inl ((false,(m1_7,b5c_8))))
    else
     gq d_2 <|
     grdEq ((↑d_2.length:Int)) ((↑d_2.length:Int)) <|
     gq v9<|gq v10 <|
     grdEq (((shpF kind_1).getD (0,0,0)).2.1) (((shpF kind_1).getD (0,0,0)).2.1) <|
     gq s38_6<|gq (α:=List UInt8) ([])<|gq (α:=List UInt8) ([]) <|
     grdEq (((shpF kind_1).getD (0,0,0)).1) (((shpF kind_1).getD (0,0,0)).1) <|
     grdEq (((shpF kind_1).getD (0,0,0)).2.1) (((shpF kind_1).getD (0,0,0)).2.1) <|
     grdEq (((shpF kind_1).getD (0,0,0)).2.2) (((shpF kind_1).getD (0,0,0)).2.2) <|
     grdEq (((shpF kind_1).getD (0,0,0)).1) (((shpF kind_1).getD (0,0,0)).1) <|
     grdEq (((shpF kind_1).getD (0,0,0)).2.1) (((shpF kind_1).getD (0,0,0)).2.1) <|
     grdEq (((shpF kind_1).getD (0,0,0)).2.2) (((shpF kind_1).getD (0,0,0)).2.2) <|
     gq (α:=List UInt8) ([])<|gq (α:=List UInt8) ([]) <|
     grdEq (List.drop 0 (List.take n4 d_2)) (List.drop 0 (List.take n4 d_2)) <|
     gq (α:=List UInt8) ([]) <|
     some (.inr ((m1_7,b5c_8)))
   else
    gq (α:=List UInt8) ([])<|gq (α:=List UInt8) ([]) <|
    grdEq (((shpF kind_1).getD (0,0,0)).1) (((shpF kind_1).getD (0,0,0)).1) <|
    grdEq (((shpF kind_1).getD (0,0,0)).2.1) (((shpF kind_1).getD (0,0,0)).2.1) <|
    grdEq (((shpF kind_1).getD (0,0,0)).2.2) (((shpF kind_1).getD (0,0,0)).2.2) <|
    grdEq (((shpF kind_1).getD (0,0,0)).1) (((shpF kind_1).getD (0,0,0)).1) <|
    grdEq (((shpF kind_1).getD (0,0,0)).2.1) (((shpF kind_1).getD (0,0,0)).2.1) <|
    grdEq (((shpF kind_1).getD (0,0,0)).2.2) (((shpF kind_1).getD (0,0,0)).2.2) <|
    gq (α:=List UInt8) ([])<|gq (α:=List UInt8) ([]) <|
    grdEq (List.drop 0 (List.take n4 d_2)) (List.drop 0 (List.take n4 d_2)) <|
    gq (α:=List UInt8) ([]) <|
    some (.inl ((false,(m1_7,b5c_8))))) fun o12 =>
  match o12 with
  | .inl (s9_13,m1_14,b5c_15) =>
   gq (α:=List UInt8) ([])<|gq (α:=List UInt8) ([]) <|
   grdEq (((shpF kind_1).getD (0,0,0)).1) (((shpF kind_1).getD (0,0,0)).1) <|
   grdEq (((shpF kind_1).getD (0,0,0)).2.1) (((shpF kind_1).getD (0,0,0)).2.1) <|
   grdEq (((shpF kind_1).getD (0,0,0)).2.2) (((shpF kind_1).getD (0,0,0)).2.2) <|
   grdEq (((shpF kind_1).getD (0,0,0)).1) (((shpF kind_1).getD (0,0,0)).1) <|
   grdEq (((shpF kind_1).getD (0,0,0)).2.1) (((shpF kind_1).getD (0,0,0)).2.1) <|
   grdEq (((shpF kind_1).getD (0,0,0)).2.2) (((shpF kind_1).getD (0,0,0)).2.2) <|
   gq (α:=List UInt8) ([])<|gq (α:=List UInt8) ([]) <|
   grdEq (List.drop 0 (List.take n4 d_2)) (List.drop 0 (List.take n4 d_2)) <|
   gq (α:=List UInt8) ([]) <|
   some (.inr (.inr ((s9_13,(m1_14,b5c_15)))))
  | .inr (m1_16,b5c_17) =>
   grd ((b5c_17.length+[v9].length)*16≤roomLim) <|
   gq d_2 <|
   grdEq ((↑d_2.length:Int)) ((↑d_2.length:Int)) <|
   grdEq (((shpF kind_1).getD (0,0,0)).2.1) (((shpF kind_1).getD (0,0,0)).2.1) <|
   gq (α:=List UInt8) ([])<|gq (α:=List UInt8) ([]) <|
   grdEq (((shpF kind_1).getD (0,0,0)).1) (((shpF kind_1).getD (0,0,0)).1) <|
   grdEq (((shpF kind_1).getD (0,0,0)).2.1) (((shpF kind_1).getD (0,0,0)).2.1) <|
   grdEq (((shpF kind_1).getD (0,0,0)).2.2) (((shpF kind_1).getD (0,0,0)).2.2) <|
   grdEq (((shpF kind_1).getD (0,0,0)).1) (((shpF kind_1).getD (0,0,0)).1) <|
   grdEq (((shpF kind_1).getD (0,0,0)).2.1) (((shpF kind_1).getD (0,0,0)).2.1) <|
   grdEq (((shpF kind_1).getD (0,0,0)).2.2) (((shpF kind_1).getD (0,0,0)).2.2) <|
   gq (α:=List UInt8) ([])<|gq (α:=List UInt8) ([]) <|
   grdEq (List.drop 0 (List.take n4 d_2)) (List.drop 0 (List.take n4 d_2)) <|
   gq (α:=List UInt8) ([]) <|
   some (.inl ((v10,(IntKind.i64.wrap (s38_6+1),(m1_16,b5c_17++[v9])))))
 else
  gq d_2 <|
  grdEq ((↑d_2.length:Int)) ((↑d_2.length:Int)) <|
  gq (α:=List UInt8) ([])<|gq (α:=List UInt8) ([]) <|
  grdEq (((shpF kind_1).getD (0,0,0)).1) (((shpF kind_1).getD (0,0,0)).1) <|
  grdEq (((shpF kind_1).getD (0,0,0)).2.1) (((shpF kind_1).getD (0,0,0)).2.1) <|
  grdEq (((shpF kind_1).getD (0,0,0)).2.2) (((shpF kind_1).getD (0,0,0)).2.2) <|
  grdEq (((shpF kind_1).getD (0,0,0)).1) (((shpF kind_1).getD (0,0,0)).1) <|
  grdEq (((shpF kind_1).getD (0,0,0)).2.1) (((shpF kind_1).getD (0,0,0)).2.1) <|
  grdEq (((shpF kind_1).getD (0,0,0)).2.2) (((shpF kind_1).getD (0,0,0)).2.2) <|
  gq (α:=List UInt8) ([])<|gq (α:=List UInt8) ([]) <|
  grdEq (List.drop 0 (List.take n4 d_2)) (List.drop 0 (List.take n4 d_2)) <|
  gq (α:=List UInt8) ([]) <|
  some (.inr (.inl ((at_5,(m1_7,b5c_8)))))
def step_data_Low_1 (kind_26:List UInt8) (kind_27:List UInt8) (kind_28:List (List UInt8)):(List (List UInt8)×(Int×List (List UInt8)))→Option ((List (List UInt8)×(Int×List (List UInt8))) ⊕ List (List UInt8)):=fun (s16_30,s18_31,b0c_32) =>
 if decide (s18_31<(↑kind_28.length:Int))=true then
  natOf s18_31 fun n33 =>
  bnd (s16_30[n33]?) fun x34 =>
  bnd (F_name_Low x34) fun v35 =>
  natOf s18_31 fun n36 =>
  bnd (b0c_32[n36]?) fun x37 =>
  grdEq ((↑kind_28.length:Int)) ((↑kind_28.length:Int)) <|
  gq kind_26<|gq kind_27 <|
  some (.inl ((s16_30.set n36 v35,(IntKind.i64.wrap (s18_31+1),b0c_32.set n36 v35))))
 else
  gq kind_26<|gq kind_27 <|
  some (.inr b0c_32)
def F_data_Low (kind_1:Int) (d_2:List UInt8):Option (List UInt8) :=
 bnd (α:=(List UInt8×(List UInt8×(List (List UInt8)×Bool)))) (bnd (F_data_Check kind_1 d_2) fun v3 =>
  if (!v3)=true then
   some (([],([],([],false))))
  else
   if (!(shpF kind_1).isSome)=true then
    some ((d_2,([],([],true))))
   else
    if (!decide (((shpF kind_1).getD (0,0,0)).1≤IntKind.i64.wrap ((↑d_2.length:Int)-0)))=true then
     some (([],([],([],false))))
    else
     natOf (IntKind.i64.wrap (0+((shpF kind_1).getD (0,0,0)).1)) fun n4 =>
     grd (n4≤d_2.length) <|
     grd (0≤n4) <|
     bnd (loopS (step_data_Low_0 kind_1 d_2 n4) ((IntKind.i64.wrap (0+((shpF kind_1).getD (0,0,0)).1),(0,(sputM tI (.agg (.cons tI (.cons tI tI))) 33 (6,1,0) (sputM tI (.agg (.cons tI (.cons tI tI))) 15 (2,1,0) (sputM tI (.agg (.cons tI (.cons tI tI))) 6 (0,2,20) (sputM tI (.agg (.cons tI (.cons tI tI))) 12 (0,1,0) (sputM tI (.agg (.cons tI (.cons tI tI))) 5 (0,1,0) (sputM tI (.agg (.cons tI (.cons tI tI))) 2 (0,1,0) (sputM tI (.agg (.cons tI (.cons tI tI))) 28 (16,0,0) (sputM tI (.agg (.cons tI (.cons tI tI))) 1 (4,0,0) []))))))),[]))))) fun o18 =>
     match o18 with
     | .inl (at_19,m1_20,b5c_21) =>
      grd (d_2.length≤d_2.length) <|
      natOf at_19 fun n22 =>
      grd (n22≤d_2.length) <|
      some ((List.drop 0 (List.take n4 d_2),(List.drop n22 (List.take d_2.length d_2),(b5c_21,(↑(List.drop n22 (List.take d_2.length d_2)).length:Int)==((shpF kind_1).getD (0,0,0)).2.2))))
     | .inr (s9_23,m1_24,b5c_25) =>
      some (([],([],([],s9_23))))) fun (kind_26,kind_27,kind_28,kind_29) =>
 bnd (loopS (step_data_Low_1 kind_26 kind_27 kind_28) ((kind_28,(0,kind_28)))) fun b0c_38 =>
 bnd (F_data_parts_whole (kind_26,kind_27,b0c_38)) fun v39 =>
 some v39
def ann_data_Low:List (List Nat×Ann):=[([2000000,159,2,3],⟨none,[(.ret,⟨(.cons (.tup (.cons (.agg (.cons (.ty .str) (.cons (.ty .str) (.cons yS34 .nil)))) (.cons (.ty .bool) .nil))) .nil),[],[⟨⟨1,.str,9,true,true⟩,true⟩],[]⟩)]⟩),([33,168,4,21,159,2,3],⟨none,[(.ret,⟨(anyN 8 (.cons (.ptr 4 0) (.cons (.ty .bool) (anyN 65 .nil)))),[.cells 220 true yS13,.mapo tI yT18 true,.cells 231 true yS20,.cells 231 true yS20,.cells 220 true yS13,.cells 220 true yS12],[⟨⟨0,.str,9,true,true⟩,false⟩],[]⟩),(.normal,⟨(.cons kS (anyN 1 (.cons kI (anyN 4 (.cons (.ptr 3 0) (.cons (.ptr 4 0) (anyN 1 (.cons (.ptr 5 0) (anyN 1 (.cons kS (.cons kI (anyN 23 (.cons kI (.cons kI (anyN 36 .nil))))))))))))))),[.cells 220 true yS13,.mapo tI yT18 true,.cells 231 true yS20,.cells 231 true yS20,.cells 220 true yS13,.cells 220 true yS12],[⟨⟨0,.str,9,true,true⟩,false⟩],[]⟩)]⟩),([22,168,4,21,159,2,3],⟨some ⟨(.cons kS (.cons yI (.cons kI (anyN 4 (.cons (.ptr 3 0) (.cons (.ptr 4 0) (anyN 1 (.cons (.ptr 5 0) (anyN 26 (.cons kI (.cons yI (anyN 36 .nil)))))))))))),[.cells 220 true yS13,.mapo tI yT18 true,.cells 231 true yS20,.cells 231 true yS20,.cells 220 true yS13,.cells 220 true yS12],[⟨⟨0,.str,9,true,true⟩,true⟩],[]⟩,[(.exit 0,⟨(.cons kS (.cons yI (.cons kI (anyN 4 (.cons (.ptr 3 0) (.cons (.ptr 4 0) (anyN 1 (.cons (.ptr 5 0) (anyN 64 .nil))))))))),[.cells 220 true yS13,.mapo tI yT18 true,.cells 231 true yS20,.cells 231 true yS20,.cells 220 true yS13,.cells 220 true yS12],[⟨⟨0,.str,9,true,true⟩,false⟩],[]⟩),(.ret,⟨(anyN 8 (.cons (.ptr 4 0) (.cons (.ty .bool) (anyN 65 .nil)))),[.cells 220 true yS13,.mapo tI yT18 true,.cells 231 true yS20,.cells 231 true yS20,.cells 220 true yS13,.cells 220 true yS12],[⟨⟨0,.str,9,true,true⟩,false⟩],[]⟩)]⟩),([8],⟨some ⟨(anyN 5 (.cons (.ptr 0 0) (anyN 10 (.cons yS34 (.cons kI (.cons yI (anyN 13 .nil))))))),[.cells 220 true yS12],[⟨⟨1,.str,9,true,true⟩,false⟩],[0]⟩,[(.exit 0,⟨(anyN 5 (.cons (.ptr 0 0) (anyN 26 .nil))),[.cells 220 true yS12],[⟨⟨1,.str,9,true,true⟩,false⟩],[0]⟩)]⟩)]
@[reducible] def fs_data_Low:List (Nat×SFn):=[(153,.pure [.str,tI] [.str,tI,tI] (fun x=>F_comp_Read x.1 x.2)),(76,.pure [.str] [.str] (fun x=>F_name_Low x)),(141,.pure [tI,.str] [.bool] (fun x=>F_data_Check x.1 x.2)),(160,.pure [(.agg (.cons .str (.cons .str (.list .str))))] [.str] (fun x=>F_data_parts_whole x))]
theorem told_data_Low:Told CC Tryz.prog 142 [tI,.str] [.str] (fun x=>F_data_Low x.1 x.2):=told_of (n:=100000) (gok (an:=ann_data_Low) (fs:=fs_data_Low) ⟨told_comp_Read,told_name_Low,told_data_Check,told_data_parts_whole,trivial⟩) rfl rfl (fun x=>by kernel_rfl)
end
end Go.Abs

set_option maxRecDepth 100000
namespace Go.Abs
open Go Go.Proofs
noncomputable section
def step_group_Check_0 (s_1:List UInt8×Int×Int×List (List UInt8)×Int):Int→Option (Int ⊕ (Bool ⊕ Unit)):=fun s41_9 =>
 if decide (s41_9<(↑(List.length s_1.2.2.2.1):Int))=true then
  natOf s41_9 fun n10 =>
  bnd (s_1.2.2.2.1[n10]?) fun x11 =>
  bnd (F_data_Check s_1.2.1 x11) fun v12 =>
  if (!v12)=false then
   bnd (F_data_Low s_1.2.1 x11) fun v13 =>
   if (!v13==x11)=false then
    natOf s41_9 fun n14 =>
    grd (n14≤List.length s_1.2.2.2.1) <|
    bnd (F_slices_Contains_string (List.take n14 s_1.2.2.2.1) x11) fun v15 =>
    if v15=true then
     g5 s_1<|gq s_1.1<|gq s_1.2.1<|gq s_1.2.2.1 <|
     some (.inr (.inl false))
    else
     gq s_1.2.2.2.1 <|
     grdEq ((↑(List.length s_1.2.2.2.1):Int)) ((↑(List.length s_1.2.2.2.1):Int)) <|
     g5 s_1<|gq s_1.1<|gq s_1.2.1<|gq s_1.2.2.1 <|
     some (.inl (IntKind.i64.wrap (s41_9+1)))
   else
    g5 s_1<|gq s_1.1<|gq s_1.2.1<|gq s_1.2.2.1 <|
    some (.inr (.inl false))
  else
   g5 s_1<|gq s_1.1<|gq s_1.2.1<|gq s_1.2.2.1 <|
   some (.inr (.inl false))
 else
  g5 s_1<|gq s_1.1<|gq s_1.2.1<|gq s_1.2.2.1 <|
  some (.inr (.inr (())))
def F_group_Check (s_1:(List UInt8×(Int×(Int×(List (List UInt8)×Int))))):Option (Bool) :=
 bnd (α:=(Bool ⊕ Unit)) (bnd (F_name_Check s_1.1) fun v2 =>
  if (!v2)=false then
   bnd (F_name_Low s_1.1) fun v3 =>
   if (!v3==s_1.1)=false then
    bnd (F_group_in s_1.2.1 65535) fun v4 =>
    if (!v4)=false then
     bnd (F_group_in s_1.2.2.1 65535) fun v5 =>
     if (!v5)=false then
      bnd (F_group_in s_1.2.2.2.2 2147483647) fun v6 =>
      if (!v6)=true then
       g5 s_1<|gq s_1.1<|gq s_1.2.1<|gq s_1.2.2.1 <|
       some (.inl false)
      else
       g5 s_1<|gq s_1.1<|gq s_1.2.1<|gq s_1.2.2.1 <|
       some (.inr (()))
     else
      g5 s_1<|gq s_1.1<|gq s_1.2.1<|gq s_1.2.2.1 <|
      some (.inl false)
    else
     g5 s_1<|gq s_1.1<|gq s_1.2.1<|gq s_1.2.2.1 <|
     some (.inl false)
   else
    g5 s_1<|gq s_1.1<|gq s_1.2.1<|gq s_1.2.2.1 <|
    some (.inl false)
  else
   g5 s_1<|gq s_1.1<|gq s_1.2.1<|gq s_1.2.2.1 <|
   some (.inl false)) fun o7 =>
 match o7 with
 | .inl s2_8 =>
  some s2_8
 | .inr _ =>
  bnd (loopS (step_group_Check_0 s_1) 0) fun o16 =>
  match o16 with
  | .inl s2_17 =>
   some s2_17
  | .inr _ =>
   some (decide (0<(↑(List.length s_1.2.2.2.1):Int)))
def ann_group_Check:List (List Nat×Ann):=[([4],⟨none,[(.ret,⟨(anyN 2 (.cons (.ty .bool) (anyN 69 .nil))),[.cells 32 true yS11,.cells 24 true yS40],[],[]⟩),(.normal,⟨(anyN 1 (.cons (.ptr 0 0) (anyN 1 (.cons (.ptr 1 0) (anyN 68 .nil))))),[.cells 32 true yS11,.cells 24 true yS40],[],[]⟩)]⟩),([16],⟨some ⟨(anyN 1 (.cons (.ptr 0 0) (anyN 1 (.cons (.ptr 1 0) (anyN 35 (.cons (.keep (.list .str)) (.cons kI (.cons yI (anyN 30 .nil))))))))),[.cells 32 true yS11,.cells 24 true yS40],[],[]⟩,[(.ret,⟨(anyN 2 (.cons (.ty .bool) (anyN 69 .nil))),[.cells 32 true yS11,.cells 24 true yS40],[],[]⟩),(.exit 0,⟨(anyN 1 (.cons (.ptr 0 0) (anyN 70 .nil))),[.cells 32 true yS11,.cells 24 true yS40],[],[]⟩)]⟩)]
@[reducible] def fs_group_Check:List (Nat×SFn):=[(141,.pure [tI,.str] [.bool] (fun x=>F_data_Check x.1 x.2)),(142,.pure [tI,.str] [.str] (fun x=>F_data_Low x.1 x.2)),(143,.pure [(.list .str),.str] [.bool] (fun x=>F_slices_Contains_string x.1 x.2)),(75,.pure [.str] [.bool] (fun x=>F_name_Check x)),(76,.pure [.str] [.str] (fun x=>F_name_Low x)),(113,.pure [tI,tI] [.bool] (fun x=>F_group_in x.1 x.2))]
theorem told_group_Check:Told CC Tryz.prog 112 [yT29] [.bool] (fun x=>F_group_Check x):=told_of (n:=100000) (gok (an:=ann_group_Check) (fs:=fs_group_Check) ⟨told_data_Check,told_data_Low,told_slices_Contains_string,told_name_Check,told_name_Low,told_group_in,trivial⟩) rfl rfl (fun x=>by kernel_rfl)
def step_group_Flat_0 (s_1:List UInt8×Int×Int×List (List UInt8)×Int) (ttl_2:Int) (slices_9:List (List UInt8)):(List ((List UInt8×(Int×(Int×(Int×List UInt8)))))×(List (List UInt8)×Int))→Option ((List ((List UInt8×(Int×(Int×(Int×List UInt8)))))×(List (List UInt8)×Int)) ⊕ List ((List UInt8×(Int×(Int×(Int×List UInt8)))))):=fun (l_10,s37_11,s39_12) =>
 if decide (s39_12<(↑slices_9.length:Int))=true then
  natOf s39_12 fun n13 =>
  bnd (s37_11[n13]?) fun x14 =>
  grd ((l_10.length+[(s_1.1,s_1.2.1,s_1.2.2.1,ttl_2,x14)].length)*56≤roomLim) <|
  gq ttl_2 <|
  grdEq ((↑slices_9.length:Int)) ((↑slices_9.length:Int)) <|
  g5 s_1 <|
  some (.inl ((l_10++[(s_1.1,s_1.2.1,s_1.2.2.1,ttl_2,x14)],(s37_11,IntKind.i64.wrap (s39_12+1)))))
 else
  g5 s_1 <|
  some (.inr l_10)
def F_group_Flat (s_1:(List UInt8×(Int×(Int×(List (List UInt8)×Int))))) (ttl_2:Int) (turn_3:Int):Option (List ((List UInt8×(Int×(Int×(Int×List UInt8)))))) :=
 bnd (α:=(Unit ⊕ Unit)) (bnd (F_group_Check (s_1.1,s_1.2.1,s_1.2.2.1,s_1.2.2.2.1,s_1.2.2.2.2)) fun v4 =>
  if (!v4)=false then
   bnd (F_group_in ttl_2 2147483647) fun v5 =>
   if (!v5)=false then
    if decide (turn_3<0)=true then
     g5 s_1 <|
     some (.inl (()))
    else
     gq ttl_2<|gq turn_3<|g5 s_1 <|
     some (.inr (()))
   else
    g5 s_1 <|
    some (.inl (()))
  else
   g5 s_1 <|
   some (.inl (()))) fun o6 =>
 match o6 with
 | .inl _ =>
  some ([])
 | .inr _ =>
  if (↑(List.length s_1.2.2.2.1):Int)=0 then
   none
  else
   natOf (turn_3.tmod (↑(List.length s_1.2.2.2.1):Int)) fun n7 =>
   grd (n7≤List.length s_1.2.2.2.1) <|
   natOf (turn_3.tmod (↑(List.length s_1.2.2.2.1):Int)) fun n8 =>
   grd (n8≤List.length s_1.2.2.2.1) <|
   bnd (α:=List (List UInt8)) (if decide (IntKind.i64.wrap (0+(↑(List.drop n7 s_1.2.2.2.1).length:Int))<0)=true then
     none
    else
     if decide (IntKind.i64.wrap (IntKind.i64.wrap (0+(↑(List.drop n7 s_1.2.2.2.1).length:Int))+(↑(List.take n8 s_1.2.2.2.1).length:Int))<0)=true then
      none
     else
      bnd (α:=Unit) (if decide (IntKind.i64.wrap (IntKind.i64.wrap (0+(↑(List.drop n7 s_1.2.2.2.1).length:Int))+(↑(List.take n8 s_1.2.2.2.1).length:Int))<0)=true then
        none
       else
        grdEq (IntKind.i64.wrap (IntKind.i64.wrap (0+(↑(List.drop n7 s_1.2.2.2.1).length:Int))+(↑(List.take n8 s_1.2.2.2.1).length:Int))) (IntKind.i64.wrap (IntKind.i64.wrap (0+(↑(List.drop n7 s_1.2.2.2.1).length:Int))+(↑(List.take n8 s_1.2.2.2.1).length:Int))) <|
        g5 s_1 <|
        some (())) fun _ =>
      if decide (0<IntKind.i64.wrap (IntKind.i64.wrap (IntKind.i64.wrap (0+(↑(List.drop n7 s_1.2.2.2.1).length:Int))+(↑(List.take n8 s_1.2.2.2.1).length:Int))-0))=true then
       grd (0≤IntKind.i64.wrap (IntKind.i64.wrap (IntKind.i64.wrap (0+(↑(List.drop n7 s_1.2.2.2.1).length:Int))+(↑(List.take n8 s_1.2.2.2.1).length:Int))-0)∧IntKind.i64.wrap (IntKind.i64.wrap (IntKind.i64.wrap (0+(↑(List.drop n7 s_1.2.2.2.1).length:Int))+(↑(List.take n8 s_1.2.2.2.1).length:Int))-0)≤9223372036854775807∧IntKind.i64.wrap (IntKind.i64.wrap (IntKind.i64.wrap (0+(↑(List.drop n7 s_1.2.2.2.1).length:Int))+(↑(List.take n8 s_1.2.2.2.1).length:Int))-0)*16≤281474976710656) <|
       grd ((List.replicate (IntKind.i64.wrap (IntKind.i64.wrap (IntKind.i64.wrap (0+(↑(List.drop n7 s_1.2.2.2.1).length:Int))+(↑(List.take n8 s_1.2.2.2.1).length:Int))-0)).toNat ([]:List UInt8)).length*16≤roomLim) <|
       grd (0≤(List.replicate (IntKind.i64.wrap (IntKind.i64.wrap (IntKind.i64.wrap (0+(↑(List.drop n7 s_1.2.2.2.1).length:Int))+(↑(List.take n8 s_1.2.2.2.1).length:Int))-0)).toNat ([]:List UInt8)).length) <|
       grd (((List.take 0 (List.replicate (IntKind.i64.wrap (IntKind.i64.wrap (IntKind.i64.wrap (0+(↑(List.drop n7 s_1.2.2.2.1).length:Int))+(↑(List.take n8 s_1.2.2.2.1).length:Int))-0)).toNat ([]:List UInt8))).length+(List.drop n7 s_1.2.2.2.1).length)*16≤roomLim) <|
       grd (((List.take 0 (List.replicate (IntKind.i64.wrap (IntKind.i64.wrap (IntKind.i64.wrap (0+(↑(List.drop n7 s_1.2.2.2.1).length:Int))+(↑(List.take n8 s_1.2.2.2.1).length:Int))-0)).toNat ([]:List UInt8))++List.drop n7 s_1.2.2.2.1).length+(List.take n8 s_1.2.2.2.1).length)*16≤roomLim) <|
       g5 s_1 <|
       some (List.take 0 (List.replicate (IntKind.i64.wrap (IntKind.i64.wrap (IntKind.i64.wrap (0+(↑(List.drop n7 s_1.2.2.2.1).length:Int))+(↑(List.take n8 s_1.2.2.2.1).length:Int))-0)).toNat ([]:List UInt8))++List.drop n7 s_1.2.2.2.1++List.take n8 s_1.2.2.2.1)
      else
       grd ((List.drop n7 s_1.2.2.2.1).length*16≤roomLim) <|
       grd (((List.drop n7 s_1.2.2.2.1).length+(List.take n8 s_1.2.2.2.1).length)*16≤roomLim) <|
       g5 s_1 <|
       some (List.drop n7 s_1.2.2.2.1++List.take n8 s_1.2.2.2.1)) fun slices_9 =>
   bnd (loopS (step_group_Flat_0 s_1 ttl_2 slices_9) (([],(slices_9,0)))) fun l_15 =>
   some l_15
def ann_group_Flat:List (List Nat×Ann):=[([2],⟨none,[(.ret,⟨(anyN 6 (.cons .nill (anyN 53 .nil))),[.cells 32 true yS11],[],[]⟩),(.normal,⟨(anyN 1 (.cons kI (.cons kI (.cons (.ptr 0 0) (anyN 56 .nil))))),[.cells 32 true yS11],[],[]⟩)]⟩),([2000000,114,9,16],⟨none,[(.ret,⟨(.cons yS34 .nil),[.cells 32 true yS11],[⟨⟨3,.str,9,true,true⟩,true⟩],[0]⟩)]⟩),([2,144,1,28,114,9,16],⟨none,[(.normal,⟨(.cons .nill (.cons kI (anyN 25 .nil))),[.cells 32 true yS11],[],[]⟩)]⟩),([8,114,9,16],⟨none,[]⟩),([33,114,9,16],⟨none,[]⟩),([8,1000000,114,9,16],⟨none,[]⟩),([8,1000000,1000000,114,9,16],⟨none,[]⟩),([8,1000000,1000000,1000000,114,9,16],⟨none,[]⟩),([8,1000000,1000000,1000000,1000000,114,9,16],⟨none,[]⟩),([33,1000000,114,9,16],⟨none,[]⟩),([33,1000000,1000000,114,9,16],⟨none,[]⟩),([33,1000000,1000000,1000000,114,9,16],⟨none,[]⟩),([33,1000000,1000000,1000000,1000000,114,9,16],⟨none,[]⟩),([18],⟨some ⟨(anyN 1 (.cons kI (anyN 1 (.cons (.ptr 0 0) (anyN 4 (.cons (.own tRR 1 true) (anyN 28 (.cons yS34 (.cons kI (.cons yI (anyN 20 .nil))))))))))),[.cells 32 true yS11],[⟨⟨4,.str,9,true,true⟩,true⟩,⟨⟨0,tRR,101,true,true⟩,true⟩],[]⟩,[(.exit 0,⟨(anyN 8 (.cons (.own tRR 1 true) (anyN 51 .nil))),[.cells 32 true yS11],[⟨⟨4,.str,9,true,true⟩,false⟩,⟨⟨1,tRR,101,true,true⟩,true⟩],[]⟩)]⟩)]
@[reducible] def fs_group_Flat:List (Nat×SFn):=[(112,.pure [yT29] [.bool] (fun x=>F_group_Check x)),(113,.pure [tI,tI] [.bool] (fun x=>F_group_in x.1 x.2))]
theorem told_group_Flat:Told CC Tryz.prog 77 [yT29,tI,tI] [(.list tRR)] (fun x=>F_group_Flat x.1 x.2.1 x.2.2):=told_of (n:=100000) (gok (an:=ann_group_Flat) (fs:=fs_group_Flat) ⟨told_group_Check,told_group_in,trivial⟩) rfl rfl (fun x=>by kernel_rfl)
def step_reply_pieces_0 (c_1:List (List UInt8×Int×Int×List (List UInt8)×Int×Int)×Int×List UInt8×List UInt8×Int×Int×List (List UInt8)×Int×Int) (turn_2:Int):(List ((List ((List UInt8×(Int×(Int×(Int×List UInt8)))))×Bool))×Int)→Option ((List ((List ((List UInt8×(Int×(Int×(Int×List UInt8)))))×Bool))×Int) ⊕ List ((List ((List UInt8×(Int×(Int×(Int×List UInt8)))))×Bool))):=fun (l_3,s11_4) =>
 if decide (s11_4<(↑(List.length c_1.1):Int))=true then
  natOf s11_4 fun n5 =>
  bnd (c_1.1[n5]?) fun x6 =>
  bnd (F_group_Flat (x6.1,x6.2.1,x6.2.2.1,x6.2.2.2.1,x6.2.2.2.2.1) x6.2.2.2.2.2 turn_2) fun v7 =>
  grd ((l_3.length+[(v7,false)].length)*32≤roomLim) <|
  gq turn_2<|gq c_1.1 <|
  grdEq ((↑(List.length c_1.1):Int)) ((↑(List.length c_1.1):Int)) <|
  g9 c_1 <|
  some (.inl ((l_3++[(v7,false)],IntKind.i64.wrap (s11_4+1))))
 else
  g9 c_1 <|
  some (.inr l_3)
def F_reply_pieces (c_1:(List ((List UInt8×(Int×(Int×(List (List UInt8)×(Int×Int))))))×(Int×(List UInt8×(List UInt8×(Int×(Int×(List (List UInt8)×(Int×Int))))))))) (turn_2:Int):Option (List ((List ((List UInt8×(Int×(Int×(Int×List UInt8)))))×Bool))) :=
 bnd (loopS (step_reply_pieces_0 c_1 turn_2) (([],0))) fun l_8 =>
 if (c_1.2.1 != 0)=true then
  bnd (F_group_Flat (c_1.2.2.2.1,c_1.2.2.2.2.1,c_1.2.2.2.2.2.1,c_1.2.2.2.2.2.2.1,c_1.2.2.2.2.2.2.2.1) c_1.2.2.2.2.2.2.2.2 0) fun v9 =>
  grd ((l_8.length+[(v9,true)].length)*32≤roomLim) <|
  some (l_8++[(v9,true)])
 else
  some l_8
def ann_reply_pieces:List (List Nat×Ann):=[([8],⟨some ⟨(anyN 1 (.cons kI (.cons (.ptr 0 0) (anyN 2 (.cons (.own yT15 0 true) (anyN 3 (.cons yS31 (.cons kI (.cons yI (anyN 29 .nil)))))))))),[.cells 48 true yS2],[⟨⟨0,yT15,133,true,true⟩,true⟩],[]⟩,[(.exit 0,⟨(anyN 2 (.cons (.ptr 0 0) (anyN 2 (.cons (.own yT15 0 true) (anyN 35 .nil))))),[.cells 48 true yS2],[⟨⟨1,yT15,133,true,true⟩,true⟩],[]⟩)]⟩)]
@[reducible] def fs_reply_pieces:List (Nat×SFn):=[(77,.pure [yT29,tI,tI] [(.list tRR)] (fun x=>F_group_Flat x.1 x.2.1 x.2.2))]
theorem told_reply_pieces:Told CC Tryz.prog 59 [yT6,tI] [(.list yT15)] (fun x=>F_reply_pieces x.1 x.2):=told_of (n:=100000) (gok (an:=ann_reply_pieces) (fs:=fs_reply_pieces) ⟨told_group_Flat,trivial⟩) rfl rfl (fun x=>by kernel_rfl)
def F_stringslite_HasSuffix (s_1:List UInt8) (suffix_2:List UInt8):Option (Bool) :=
 if decide ((↑suffix_2.length:Int)≤(↑s_1.length:Int))=true then
  natOf (IntKind.i64.wrap ((↑s_1.length:Int)-(↑suffix_2.length:Int))) fun n3 =>
  grd (n3≤s_1.length) <|
  some (List.drop n3 s_1==suffix_2)
 else
  some false
def ann_stringslite_HasSuffix:List (List Nat×Ann):=[]
theorem told_stringslite_HasSuffix:Told CC Tryz.prog 174 [.str,.str] [.bool] (fun x=>F_stringslite_HasSuffix x.1 x.2):=told_of (n:=100000) (gok (an:=ann_stringslite_HasSuffix) (fs:=[]) trivial) rfl rfl (fun x=>by kernel_rfl)
def F_stringslite_TrimSuffix (s_1:List UInt8) (suffix_2:List UInt8):Option (List UInt8) :=
 bnd (F_stringslite_HasSuffix s_1 suffix_2) fun v3 =>
 if v3=true then
  natOf (IntKind.i64.wrap ((↑s_1.length:Int)-(↑suffix_2.length:Int))) fun n4 =>
  grd (n4≤s_1.length) <|
  some (List.take n4 s_1)
 else
  some s_1
def ann_stringslite_TrimSuffix:List (List Nat×Ann):=[]
@[reducible] def fs_stringslite_TrimSuffix:List (Nat×SFn):=[(174,.pure [.str,.str] [.bool] (fun x=>F_stringslite_HasSuffix x.1 x.2))]
theorem told_stringslite_TrimSuffix:Told CC Tryz.prog 163 [.str,.str] [.str] (fun x=>F_stringslite_TrimSuffix x.1 x.2):=told_of (n:=100000) (gok (an:=ann_stringslite_TrimSuffix) (fs:=fs_stringslite_TrimSuffix) ⟨told_stringslite_HasSuffix,trivial⟩) rfl rfl (fun x=>by kernel_rfl)
def F_strings_TrimSuffix (s_1:List UInt8) (suffix_2:List UInt8):Option (List UInt8) :=
 bnd (F_stringslite_TrimSuffix s_1 suffix_2) fun v3 =>
 some v3
def ann_strings_TrimSuffix:List (List Nat×Ann):=[]
@[reducible] def fs_strings_TrimSuffix:List (Nat×SFn):=[(163,.pure [.str,.str] [.str] (fun x=>F_stringslite_TrimSuffix x.1 x.2))]
theorem told_strings_TrimSuffix:Told CC Tryz.prog 147 [.str,.str] [.str] (fun x=>F_strings_TrimSuffix x.1 x.2):=told_of (n:=100000) (gok (an:=ann_strings_TrimSuffix) (fs:=fs_strings_TrimSuffix) ⟨told_stringslite_TrimSuffix,trivial⟩) rfl rfl (fun x=>by kernel_rfl)
def step_comp_Write_0 (base_1:List UInt8) (at_2:Int) (n_3:List UInt8):(List UInt8×Bool)→Option ((List UInt8×Bool) ⊕ (List UInt8 ⊕ Unit)):=fun (rest_8,is_9) =>
 bnd (α:=(Unit ⊕ Unit)) (if is_9=true then
   if decide (1<(↑rest_8.length:Int))=true then
    gq base_1<|gq at_2<|gq n_3<|gq rest_8 <|
    some (.inl (()))
   else
    gq n_3 <|
    some (.inr (()))
  else
   gq n_3 <|
   some (.inr (()))) fun o10 =>
 match o10 with
 | .inl _ =>
  bnd (F_comp_place base_1 rest_8) fun v11 =>
  if decide (0≤v11)=true then
   bnd (F_strings_TrimSuffix n_3 rest_8) fun v12 =>
   bnd (F_octet_Put (IntKind.i64.wrap (IntKind.i64.wrap (49152+at_2)+v11)) 2) fun v13 =>
   grd (v12.length+v13.length≤maxStr) <|
   some (.inr (.inl (v12++v13)))
  else
   bnd (F_name_Up rest_8) fun (v14,v15) =>
   gq base_1<|gq at_2<|gq n_3 <|
   some (.inl ((v14,v15)))
 | .inr _ =>
  gq n_3 <|
  some (.inr (.inr (())))
def F_comp_Write (base_1:List UInt8) (at_2:Int) (n_3:List UInt8):Option (List UInt8) :=
 bnd (α:=(List UInt8 ⊕ Unit)) (bnd (F_name_Check base_1) fun v4 =>
  if (!v4)=false then
   bnd (F_name_Check n_3) fun v5 =>
   if (!v5)=false then
    if decide (at_2<0)=false then
     if decide (16000<at_2)=true then
      some (.inl ([]))
     else
      gq base_1<|gq at_2<|gq n_3 <|
      some (.inr (()))
    else
     some (.inl ([]))
   else
    some (.inl ([]))
  else
   some (.inl ([]))) fun o6 =>
 match o6 with
 | .inl s6_7 =>
  some s6_7
 | .inr _ =>
  bnd (loopS (step_comp_Write_0 base_1 at_2 n_3) ((n_3,true))) fun o16 =>
  match o16 with
  | .inl s6_17 =>
   some s6_17
  | .inr _ =>
   some n_3
def ann_comp_Write:List (List Nat×Ann):=[([2],⟨none,[(.ret,⟨yS39,[],[],[]⟩),(.normal,⟨(.cons kS (.cons kI (.cons kS (anyN 50 .nil)))),[],[],[]⟩)]⟩),([15],⟨none,[(.normal,⟨(.cons kS (.cons kI (.cons kS (anyN 4 (.cons kS (anyN 45 .nil)))))),[],[],[]⟩),(.exit 0,⟨(anyN 2 (.cons kS (anyN 50 .nil))),[],[],[]⟩)]⟩),([14],⟨some ⟨(.cons kS (.cons kI (.cons kS (anyN 4 (.cons (.ty .str) (.cons (.ty .bool) (anyN 44 .nil))))))),[],[],[]⟩,[(.ret,⟨yS39,[],[],[]⟩),(.exit 0,⟨(anyN 2 (.cons kS (anyN 50 .nil))),[],[],[]⟩)]⟩)]
@[reducible] def fs_comp_Write:List (Nat×SFn):=[(146,.pure [.str,.str] [tI] (fun x=>F_comp_place x.1 x.2)),(147,.pure [.str,.str] [.str] (fun x=>F_strings_TrimSuffix x.1 x.2)),(103,.pure [tI,tI] [.str] (fun x=>F_octet_Put x.1 x.2)),(145,.pure [.str] [.str,.bool] (fun x=>F_name_Up x)),(75,.pure [.str] [.bool] (fun x=>F_name_Check x))]
theorem told_comp_Write:Told CC Tryz.prog 115 [.str,tI,.str] [.str] (fun x=>F_comp_Write x.1 x.2.1 x.2.2):=told_of (n:=100000) (gok (an:=ann_comp_Write) (fs:=fs_comp_Write) ⟨told_comp_place,told_strings_TrimSuffix,told_octet_Put,told_name_Up,told_name_Check,trivial⟩) rfl rfl (fun x=>by kernel_rfl)
def F_record_Encode (base_1:List UInt8) (at_2:Int) (r_3:(List UInt8×(Int×(Int×(Int×List UInt8))))):Option (List UInt8) :=
 bnd (F_comp_Write base_1 at_2 r_3.1) fun v4 =>
 bnd (α:=(List UInt8 ⊕ Unit)) (if (v4==[])=false then
   bnd (F_record_Check (r_3.1,r_3.2.1,r_3.2.2.1,r_3.2.2.2.1,r_3.2.2.2.2)) fun v5 =>
   if (!v5)=true then
    g5 r_3 <|
    some (.inl ([]))
   else
    gq v4<|g5 r_3 <|
    some (.inr (()))
  else
   g5 r_3 <|
   some (.inl ([]))) fun o6 =>
 match o6 with
 | .inl s6_7 =>
  some s6_7
 | .inr _ =>
  bnd (F_octet_Put r_3.2.1 2) fun v8 =>
  grd (v4.length+v8.length≤maxStr) <|
  bnd (F_octet_Put r_3.2.2.1 2) fun v9 =>
  grd ((v4++v8).length+v9.length≤maxStr) <|
  bnd (F_octet_Put r_3.2.2.2.1 4) fun v10 =>
  grd ((v4++v8++v9).length+v10.length≤maxStr) <|
  bnd (F_octet_Put (↑(List.length r_3.2.2.2.2):Int) 2) fun v11 =>
  grd ((v4++v8++v9++v10).length+v11.length≤maxStr) <|
  grd ((v4++v8++v9++v10++v11).length+List.length r_3.2.2.2.2≤maxStr) <|
  some (v4++v8++v9++v10++v11++r_3.2.2.2.2)
def ann_record_Encode:List (List Nat×Ann):=[([4],⟨none,[(.ret,⟨(anyN 6 (.cons (.ty .str) (anyN 34 .nil))),[.cells 101 true yS10],[],[]⟩),(.normal,⟨(anyN 5 (.cons (.ptr 0 0) (anyN 1 (.cons kS (anyN 33 .nil))))),[.cells 101 true yS10],[],[]⟩)]⟩)]
@[reducible] def fs_record_Encode:List (Nat×SFn):=[(115,.pure [.str,tI,.str] [.str] (fun x=>F_comp_Write x.1 x.2.1 x.2.2)),(116,.pure [tRR] [.bool] (fun x=>F_record_Check x)),(103,.pure [tI,tI] [.str] (fun x=>F_octet_Put x.1 x.2))]
theorem told_record_Encode:Told CC Tryz.prog 78 [.str,tI,tRR] [.str] (fun x=>F_record_Encode x.1 x.2.1 x.2.2):=told_of (n:=100000) (gok (an:=ann_record_Encode) (fs:=fs_record_Encode) ⟨told_comp_Write,told_record_Check,told_octet_Put,trivial⟩) rfl rfl (fun x=>by kernel_rfl)
def step_msg_Encode_0 (m_1:Int×Int×List (List UInt8×Int×Int)×List (List UInt8×Int×Int×Int×List UInt8)×List (List UInt8×Int×Int×Int×List UInt8)×List (List UInt8×Int×Int×Int×List UInt8)):(List UInt8×(List UInt8×Int))→Option ((List UInt8×(List UInt8×Int)) ⊕ (List UInt8×List UInt8)):=fun (s_9,base_10,s44_11) =>
 if decide (s44_11<(↑(List.length m_1.2.2.1):Int))=true then
  natOf s44_11 fun n12 =>
  bnd (m_1.2.2.1[n12]?) fun x13 =>
  bnd (α:=List UInt8) (if (s44_11==0)=true then
    gq s_9<|gq m_1.2.2.1 <|
    grdEq ((↑(List.length m_1.2.2.1):Int)) ((↑(List.length m_1.2.2.1):Int)) <|
    gq s44_11<|g6 m_1<|g3 x13 <|
    some x13.1
   else
    gq s_9<|gq m_1.2.2.1 <|
    grdEq ((↑(List.length m_1.2.2.1):Int)) ((↑(List.length m_1.2.2.1):Int)) <|
    gq s44_11<|g6 m_1<|g3 x13 <|
    some base_10) fun base_14 =>
  bnd (F_octet_Put x13.2.1 2) fun v15 =>
  grd (List.length x13.1+v15.length≤maxStr) <|
  bnd (F_octet_Put x13.2.2 2) fun v16 =>
  grd ((x13.1++v15).length+v16.length≤maxStr) <|
  grd (s_9.length+(x13.1++v15++v16).length≤maxStr) <|
  gq m_1.2.2.1 <|
  grdEq ((↑(List.length m_1.2.2.1):Int)) ((↑(List.length m_1.2.2.1):Int)) <|
  g6 m_1 <|
  some (.inl ((s_9++(x13.1++v15++v16),(base_14,IntKind.i64.wrap (s44_11+1)))))
 else
  g6 m_1 <|
  some (.inr ((s_9,base_10)))
def step_msg_Encode_1 (m_1:Int×Int×List (List UInt8×Int×Int)×List (List UInt8×Int×Int×Int×List UInt8)×List (List UInt8×Int×Int×Int×List UInt8)×List (List UInt8×Int×Int×Int×List UInt8)) (base_18:List UInt8):(List UInt8×Int)→Option ((List UInt8×Int) ⊕ List UInt8):=fun (s_19,s74_20) =>
 if decide (s74_20<(↑(List.length m_1.2.2.2.1):Int))=true then
  natOf s74_20 fun n21 =>
  bnd (m_1.2.2.2.1[n21]?) fun x22 =>
  if decide (65535<(↑s_19.length:Int))=true then
   gq base_18<|gz<|g6 m_1 <|
   some (.inr s_19)
  else
   bnd (F_record_Encode base_18 12 (x22.1,x22.2.1,x22.2.2.1,x22.2.2.2.1,x22.2.2.2.2)) fun v23 =>
   grd (s_19.length+v23.length≤maxStr) <|
   gq base_18<|gz<|gq m_1.2.2.2.1 <|
   grdEq ((↑(List.length m_1.2.2.2.1):Int)) ((↑(List.length m_1.2.2.2.1):Int)) <|
   g6 m_1 <|
   some (.inl ((s_19++v23,IntKind.i64.wrap (s74_20+1))))
 else
  gq base_18<|gz<|g6 m_1 <|
  some (.inr s_19)
def step_msg_Encode_2 (m_1:Int×Int×List (List UInt8×Int×Int)×List (List UInt8×Int×Int×Int×List UInt8)×List (List UInt8×Int×Int×Int×List UInt8)×List (List UInt8×Int×Int×Int×List UInt8)) (base_18:List UInt8):(List UInt8×Int)→Option ((List UInt8×Int) ⊕ List UInt8):=fun (s_25,s74_26) =>
 if decide (s74_26<(↑(List.length m_1.2.2.2.2.1):Int))=true then
  natOf s74_26 fun n27 =>
  bnd (m_1.2.2.2.2.1[n27]?) fun x28 =>
  if decide (65535<(↑s_25.length:Int))=true then
   gq base_18<|gq (α:=Int) 1<|g6 m_1 <|
   some (.inr s_25)
  else
   bnd (F_record_Encode base_18 12 (x28.1,x28.2.1,x28.2.2.1,x28.2.2.2.1,x28.2.2.2.2)) fun v29 =>
   grd (s_25.length+v29.length≤maxStr) <|
   gq base_18<|gq (α:=Int) 1<|gq m_1.2.2.2.2.1 <|
   grdEq ((↑(List.length m_1.2.2.2.2.1):Int)) ((↑(List.length m_1.2.2.2.2.1):Int)) <|
   g6 m_1 <|
   some (.inl ((s_25++v29,IntKind.i64.wrap (s74_26+1))))
 else
  gq base_18<|gq (α:=Int) 1<|g6 m_1 <|
  some (.inr s_25)
def step_msg_Encode_3 (m_1:Int×Int×List (List UInt8×Int×Int)×List (List UInt8×Int×Int×Int×List UInt8)×List (List UInt8×Int×Int×Int×List UInt8)×List (List UInt8×Int×Int×Int×List UInt8)) (base_18:List UInt8):(List UInt8×Int)→Option ((List UInt8×Int) ⊕ List UInt8):=fun (s_31,s74_32) =>
 if decide (s74_32<(↑(List.length m_1.2.2.2.2.2):Int))=true then
  natOf s74_32 fun n33 =>
  bnd (m_1.2.2.2.2.2[n33]?) fun x34 =>
  if decide (65535<(↑s_31.length:Int))=true then
   gq base_18<|gq (α:=Int) 2<|g6 m_1 <|
   some (.inr s_31)
  else
   bnd (F_record_Encode base_18 12 (x34.1,x34.2.1,x34.2.2.1,x34.2.2.2.1,x34.2.2.2.2)) fun v35 =>
   grd (s_31.length+v35.length≤maxStr) <|
   gq base_18<|gq (α:=Int) 2<|gq m_1.2.2.2.2.2 <|
   grdEq ((↑(List.length m_1.2.2.2.2.2):Int)) ((↑(List.length m_1.2.2.2.2.2):Int)) <|
   g6 m_1 <|
   some (.inl ((s_31++v35,IntKind.i64.wrap (s74_32+1))))
 else
  gq base_18<|gq (α:=Int) 2<|g6 m_1 <|
  some (.inr s_31)
def F_msg_Encode (m_1:(Int×(Int×(List ((List UInt8×(Int×Int)))×(List ((List UInt8×(Int×(Int×(Int×List UInt8)))))×(List ((List UInt8×(Int×(Int×(Int×List UInt8)))))×List ((List UInt8×(Int×(Int×(Int×List UInt8))))))))))):Option ((List UInt8×Int)) :=
 bnd (F_msg_Check (m_1.1,m_1.2.1,m_1.2.2.1,m_1.2.2.2.1,m_1.2.2.2.2.1,m_1.2.2.2.2.2)) fun v2 =>
 if (!v2)=true then
  some (([],1))
 else
  bnd (F_octet_Put m_1.1 2) fun v3 =>
  bnd (F_octet_Put m_1.2.1 2) fun v4 =>
  grd (v3.length+v4.length≤maxStr) <|
  bnd (F_octet_Put (↑(List.length m_1.2.2.1):Int) 2) fun v5 =>
  grd ((v3++v4).length+v5.length≤maxStr) <|
  bnd (F_octet_Put (↑(List.length m_1.2.2.2.1):Int) 2) fun v6 =>
  grd ((v3++v4++v5).length+v6.length≤maxStr) <|
  bnd (F_octet_Put (↑(List.length m_1.2.2.2.2.1):Int) 2) fun v7 =>
  grd ((v3++v4++v5++v6).length+v7.length≤maxStr) <|
  bnd (F_octet_Put (↑(List.length m_1.2.2.2.2.2):Int) 2) fun v8 =>
  grd ((v3++v4++v5++v6++v7).length+v8.length≤maxStr) <|
  bnd (loopS (step_msg_Encode_0 m_1) ((v3++v4++v5++v6++v7++v8,([0],0)))) fun (s_17,base_18) =>
  bnd (loopS (step_msg_Encode_1 m_1 base_18) ((s_17,0))) fun s_24 =>
  bnd (loopS (step_msg_Encode_2 m_1 base_18) ((s_24,0))) fun s_30 =>
  bnd (loopS (step_msg_Encode_3 m_1 base_18) ((s_30,0))) fun s_36 =>
  if decide (65535<(↑s_36.length:Int))=true then
   some (([],6))
  else
   some ((s_36,0))
def ann_msg_Encode:List (List Nat×Ann):=[([46],⟨none,[(.normal,⟨(anyN 1 (.cons (.ptr 0 0) (anyN 2 (.cons kS (anyN 2 (.cons (.ty .str) (anyN 1 (.cons (.ptr 2 0) (anyN 32 (.cons (.keep (.list tQ)) (.cons kI (.cons kI (anyN 47 .nil))))))))))))),[.cells 63 true yS0,.cells 177 true yS3,.cells 24 true yS40],[],[]⟩)]⟩),([16],⟨none,[]⟩),([58],⟨none,[]⟩),([16,1000000],⟨none,[]⟩),([16,1000000,1000000],⟨none,[]⟩),([16,1000000,1000000,1000000],⟨none,[]⟩),([16,1000000,1000000,1000000,1000000],⟨none,[]⟩),([58,1000000],⟨none,[]⟩),([58,1000000,1000000],⟨none,[]⟩),([58,1000000,1000000,1000000],⟨none,[]⟩),([58,1000000,1000000,1000000,1000000],⟨none,[]⟩),([35],⟨some ⟨(anyN 1 (.cons (.ptr 0 0) (anyN 2 (.cons (.ty .str) (anyN 2 (.cons (.ty .str) (anyN 34 (.cons (.keep (.list tQ)) (.cons kI (.cons yI (anyN 47 .nil))))))))))),[.cells 63 true yS0,.cells 177 true yS3],[],[]⟩,[(.exit 2,⟨(anyN 1 (.cons (.ptr 0 0) (anyN 2 (.cons (.ty .str) (anyN 2 (.cons (.ty .str) (anyN 84 .nil))))))),[.cells 63 true yS0,.cells 177 true yS3],[],[]⟩)]⟩),([72],⟨some ⟨yS17,[.cells 63 true yS0,.cells 177 true yS3,.cells 177 true yS3],[],[]⟩,[(.exit 6,⟨yS28,[.cells 63 true yS0,.cells 177 true yS3,.cells 177 true yS3],[],[]⟩)]⟩),([72,1000000],⟨some ⟨yS17,[.cells 63 true yS0,.cells 177 true yS3,.cells 177 true yS3],[],[]⟩,[(.exit 6,⟨yS28,[.cells 63 true yS0,.cells 177 true yS3,.cells 177 true yS3],[],[]⟩)]⟩),([72,1000000,1000000],⟨some ⟨yS17,[.cells 63 true yS0,.cells 177 true yS3,.cells 177 true yS3],[],[]⟩,[(.exit 6,⟨yS28,[.cells 63 true yS0,.cells 177 true yS3,.cells 177 true yS3],[],[]⟩)]⟩)]
@[reducible] def fs_msg_Encode:List (Nat×SFn):=[(103,.pure [tI,tI] [.str] (fun x=>F_octet_Put x.1 x.2)),(78,.pure [.str,tI,tRR] [.str] (fun x=>F_record_Encode x.1 x.2.1 x.2.2)),(102,.pure [tM] [.bool] (fun x=>F_msg_Check x))]
theorem told_msg_Encode:Told CC Tryz.prog 64 [tM] [.str,tI] (fun x=>F_msg_Encode x):=told_of (n:=100000) (gok (an:=ann_msg_Encode) (fs:=fs_msg_Encode) ⟨told_octet_Put,told_record_Encode,told_msg_Check,trivial⟩) rfl rfl (fun x=>by kernel_rfl)
end
end Go.Abs

set_option maxRecDepth 100000
namespace Go.Abs
open Go Go.Proofs
noncomputable section
end
end Go.Abs
