/- Part of a proof. -/
import Derived.Test.YthlcfhkcbmikcaaGreatSnB
set_option linter.unusedSimpArgs false
set_option linter.unusedVariables false
set_option linter.unusedSectionVars false
set_option maxRecDepth 100000
namespace Go.Abs
open Go Go.Proofs
noncomputable section
def step_law17_Chain_0 (k_1:List (List UInt8×Int×Int×List (List UInt8)×Int×Int)×Int×List UInt8×List UInt8×Int×Int×List (List UInt8)×Int×Int):(Int×List ((List UInt8×(Int×(Int×(List (List UInt8)×(Int×Int)))))))→Option ((Int×List ((List UInt8×(Int×(Int×(List (List UInt8)×(Int×Int))))))) ⊕ List ((List UInt8×(Int×(Int×(List (List UInt8)×(Int×Int))))))):=fun (i_2,b2a_3) =>
 if decide (i_2<(↑(List.length k_1.1):Int))=true then
  natOf i_2 fun n4 =>
  bnd (k_1.1[n4]?) fun x5 =>
  grd ((b2a_3.length+[(x5.1,x5.2.1,x5.2.2.1,x5.2.2.2.1,x5.2.2.2.2.1,x5.2.2.2.2.2)].length)*72≤roomLim) <|
  g9 k_1<|gz<|gq (α:=List UInt8) ([])<|gq (α:=List UInt8) ([])<|gz<|gz<|gz<|gz<|gq k_1.2.1<|gq k_1.2.2.1<|gq k_1.2.2.2.1<|gq k_1.2.2.2.2.1<|gq k_1.2.2.2.2.2.1<|gq k_1.2.2.2.2.2.2.1<|gq k_1.2.2.2.2.2.2.2.1<|gq k_1.2.2.2.2.2.2.2.2 <|
  some (.inl ((IntKind.i64.wrap (i_2+1),b2a_3++[(x5.1,x5.2.1,x5.2.2.1,x5.2.2.2.1,x5.2.2.2.2.1,x5.2.2.2.2.2)])))
 else
  g9 k_1<|gz<|gq (α:=List UInt8) ([])<|gq (α:=List UInt8) ([])<|gz<|gz<|gz<|gz<|gq k_1.2.1<|gq k_1.2.2.1<|gq k_1.2.2.2.1<|gq k_1.2.2.2.2.1<|gq k_1.2.2.2.2.2.1<|gq k_1.2.2.2.2.2.2.1<|gq k_1.2.2.2.2.2.2.2.1<|gq k_1.2.2.2.2.2.2.2.2 <|
  some (.inr b2a_3)
def F_law17_Chain (k_1:(List ((List UInt8×(Int×(Int×(List (List UInt8)×(Int×Int))))))×(Int×(List UInt8×(List UInt8×(Int×(Int×(List (List UInt8)×(Int×Int))))))))):Option ((List ((List UInt8×(Int×(Int×(List (List UInt8)×(Int×Int))))))×(Int×(List UInt8×(List UInt8×(Int×(Int×(List (List UInt8)×(Int×Int))))))))) :=
 bnd (loopS (step_law17_Chain_0 k_1) ((0,[]))) fun b2a_6 =>
 some ((b2a_6,(k_1.2.1,(k_1.2.2.1,(k_1.2.2.2.1,(k_1.2.2.2.2.1,(k_1.2.2.2.2.2.1,(k_1.2.2.2.2.2.2.1,(k_1.2.2.2.2.2.2.2.1,k_1.2.2.2.2.2.2.2.2)))))))))
def ann_law17_Chain:List (List Nat×Ann):=[([8],⟨some ⟨(anyN 1 (.cons (.ptr 0 0) (.cons (.ptr 1 0) (.cons (.ptr 2 0) (.cons yI (anyN 25 .nil)))))),[.cells 36 true yS1,.cells 48 true (.cons .nill yS29),.cells 48 true (.cons (.own yT13 0 true) (.cons kI (.cons kS (.cons kS (.cons kI (.cons kI (.cons yS39 yS8)))))))],[⟨⟨0,yT13,46,true,true⟩,true⟩],[]⟩,[(.exit 0,⟨(anyN 2 (.cons (.ptr 1 0) (.cons (.ptr 2 0) (anyN 26 .nil)))),[.cells 36 true yS1,.cells 48 true (.cons .nill yS29),.cells 48 true (.cons (.own yT13 0 true) (.cons kI (.cons kS (.cons kS (.cons kI (.cons kI (.cons yS39 yS8)))))))],[⟨⟨1,yT13,46,true,true⟩,true⟩],[]⟩)]⟩)]
theorem told_law17_Chain:Told CC Tryz.prog 19 [yT3] [yT3] (fun x=>F_law17_Chain x):=told_of (n:=100000) (gok (an:=ann_law17_Chain) (fs:=[]) trivial) rfl rfl (fun x=>by kernel_rfl)
end
end Go.Abs

set_option maxRecDepth 100000
namespace Go.Abs
open Go Go.Proofs
noncomputable section
end
end Go.Abs

set_option maxRecDepth 100000
namespace Go.Abs
open Go Go.Proofs
noncomputable section
end
end Go.Abs

set_option maxRecDepth 100000
namespace Go.Abs
open Go Go.Proofs
noncomputable section
def F_reply_Refuse (a_1:(Int×(Int×(List UInt8×(Int×(Int×(Bool×(Int×(Int×(Int×Bool)))))))))) (code_2:Int):Option (List UInt8) :=
 bnd (α:=(List UInt8 ⊕ Unit)) (if decide (code_2<0)=false then
   if decide (255<code_2)=true then
    g10 a_1 <|
    some (.inl ([]))
   else
    gq code_2<|g10 a_1 <|
    some (.inr (()))
  else
   g10 a_1 <|
   some (.inl ([]))) fun o3 =>
 match o3 with
 | .inl s4_4 =>
  some s4_4
 | .inr _ =>
  bnd (α:=(Int×(Int×(List ((List UInt8×(Int×Int)))×List ((List UInt8×(Int×(Int×(Int×List UInt8))))))))) (bnd (F_flag_Answer a_1.2.1 code_2) fun v5 =>
   bnd (α:=List ((List UInt8×(Int×Int)))) (if (!a_1.2.2.1==[])=true then
     gq code_2<|g10 a_1<|g10 a_1<|gz<|gz<|gq a_1.1<|gq v5 <|
     some ([(a_1.2.2.1,a_1.2.2.2.1,a_1.2.2.2.2.1)])
    else
     gq code_2<|g10 a_1<|g10 a_1<|gz<|gz<|gq a_1.1<|gq v5 <|
     some ([])) fun b3c_6 =>
   if a_1.2.2.2.2.2.1=true then
    bnd (F_edns_Opt_Record (true,4096,IntKind.i64.wrap (code_2.tdiv 16),0,a_1.2.2.2.2.2.2.2.2.2)) fun (v7,v8) =>
    g10 a_1 <|
    some ((a_1.1,(v5,(b3c_6,[(v7.1,v7.2.1,v7.2.2.1,v7.2.2.2.1,v7.2.2.2.2)]))))
   else
    g10 a_1 <|
    some ((a_1.1,(v5,(b3c_6,[]))))) fun (a_9,a_10,a_11,a_12) =>
  bnd (F_msg_Encode (a_9,a_10,a_11,[],[],a_12)) fun (v13,v14) =>
  some v13
def ann_reply_Refuse:List (List Nat×Ann):=[([2],⟨none,[(.ret,⟨(anyN 4 (.cons (.ty .str) (anyN 16 .nil))),[.cells 52 true yS4],[],[]⟩),(.normal,⟨(anyN 1 (.cons kI (.cons (.ptr 0 0) (anyN 18 .nil)))),[.cells 52 true yS4],[],[]⟩)]⟩),([2000000,61,2,11],⟨none,[(.ret,⟨(.cons (.agg (.cons yI (.cons yI (.cons (.ty (.list tQ)) (.cons .nill (.cons .nill (.cons (.ty (.list tRR)) .nil))))))) .nil),[.cells 52 true yS4],[],[]⟩)]⟩),([4,61,2,11],⟨none,[(.normal,⟨(anyN 1 (.cons kI (.cons (.ptr 1 0) (anyN 1 (.cons (.ptr 2 0) (.cons (.ptr 3 0) (anyN 34 .nil))))))),[.cells 52 true yS4,.cells 52 true yS4,.cells 63 true yS7,.cells 63 true (.cons kI (.cons kI (.cons (.ty (.list tQ)) (.cons .nill (.cons .nill (.cons .nill .nil))))))],[],[]⟩)]⟩)]
@[reducible] def fs_reply_Refuse:List (Nat×SFn):=[(84,.pure [tI,tI] [tI] (fun x=>F_flag_Answer x.1 x.2)),(101,.pure [(.agg yT9)] [tRR,.bool] (fun x=>F_edns_Opt_Record x)),(64,.pure [tM] [.str,tI] (fun x=>F_msg_Encode x))]
theorem told_reply_Refuse:Told CC Tryz.prog 38 [yT16,tI] [.str] (fun x=>F_reply_Refuse x.1 x.2):=told_of (n:=100000) (gok (an:=ann_reply_Refuse) (fs:=fs_reply_Refuse) ⟨told_flag_Answer,told_edns_Opt_Record,told_msg_Encode,trivial⟩) rfl rfl (fun x=>by kernel_rfl)
end
end Go.Abs

set_option maxRecDepth 100000
namespace Go.Abs
open Go Go.Proofs
noncomputable section
def step_reply_Build_1 (a_1:Int×Int×List UInt8×Int×Int×Bool×Int×Int×Int×Bool) (c_2:List (List UInt8×Int×Int×List (List UInt8)×Int×Int)×Int×List UInt8×List UInt8×Int×Int×List (List UInt8)×Int×Int) (v8:List (List (List UInt8×Int×Int×Int×List UInt8)×Bool)) (many_9:Int) (a_15:Int) (a_16:Int) (a_17:List (List UInt8×Int×Int)) (a_18:List (List UInt8×Int×Int×Int×List UInt8)) (n19:Nat):(Int×(List ((List UInt8×(Int×(Int×(Int×List UInt8)))))×List ((List UInt8×(Int×(Int×(Int×List UInt8)))))))→Option ((Int×(List ((List UInt8×(Int×(Int×(Int×List UInt8)))))×List ((List UInt8×(Int×(Int×(Int×List UInt8))))))) ⊕ (List ((List UInt8×(Int×(Int×(Int×List UInt8)))))×List ((List UInt8×(Int×(Int×(Int×List UInt8))))))):=fun (s18_20,b3d_21,b3e_22) =>
 if decide (s18_20<(↑(List.take n19 v8).length:Int))=true then
  natOf s18_20 fun n23 =>
  bnd ((List.take n19 v8)[n23]?) fun x24 =>
  if x24.2=true then
   gq many_9 <|
   grdEq (List.take n19 v8) (List.take n19 v8) <|
   grdEq ((↑(List.take n19 v8).length:Int)) ((↑(List.take n19 v8).length:Int)) <|
   g10 a_1<|g9 c_2<|gq v8<|gq a_15<|gq a_16<|gq a_17<|gq a_18 <|
   some (.inl ((IntKind.i64.wrap (s18_20+1),(b3d_21,x24.1))))
  else
   grd ((b3d_21.length+List.length x24.1)*56≤roomLim) <|
   gq many_9 <|
   grdEq (List.take n19 v8) (List.take n19 v8) <|
   grdEq ((↑(List.take n19 v8).length:Int)) ((↑(List.take n19 v8).length:Int)) <|
   g10 a_1<|g9 c_2<|gq v8<|gq a_15<|gq a_16<|gq a_17<|gq a_18 <|
   some (.inl ((IntKind.i64.wrap (s18_20+1),(b3d_21++x24.1,b3e_22))))
 else
  gq many_9<|g10 a_1<|g9 c_2<|gq v8<|gq a_15<|gq a_16<|gq a_17<|gq a_18 <|
  some (.inr ((b3d_21,b3e_22)))
def step_reply_Build_0 (a_1:Int×Int×List UInt8×Int×Int×Bool×Int×Int×Int×Bool) (c_2:List (List UInt8×Int×Int×List (List UInt8)×Int×Int)×Int×List UInt8×List UInt8×Int×Int×List (List UInt8)×Int×Int) (v8:List (List (List UInt8×Int×Int×Int×List UInt8)×Bool)):Int→Option (Int ⊕ (Unit ⊕ List UInt8)):=fun many_9 =>
 if decide (0≤many_9)=true then
  bnd (F_reply_code (c_2.1,c_2.2.1,c_2.2.2.1,c_2.2.2.2.1,c_2.2.2.2.2.1,c_2.2.2.2.2.2.1,c_2.2.2.2.2.2.2.1,c_2.2.2.2.2.2.2.2.1,c_2.2.2.2.2.2.2.2.2)) fun v10 =>
  bnd (α:=(Int×(Int×(List ((List UInt8×(Int×Int)))×List ((List UInt8×(Int×(Int×(Int×List UInt8))))))))) (bnd (F_flag_Answer a_1.2.1 v10) fun v11 =>
   bnd (α:=List ((List UInt8×(Int×Int)))) (if (!a_1.2.2.1==[])=true then
     gq v10<|g10 a_1<|g9 c_2<|gq v8<|gz<|gz<|g10 a_1<|gz<|gz<|gq a_1.1<|gq v11 <|
     some ([(a_1.2.2.1,a_1.2.2.2.1,a_1.2.2.2.2.1)])
    else
     gq v10<|g10 a_1<|g9 c_2<|gq v8<|gz<|gz<|g10 a_1<|gz<|gz<|gq a_1.1<|gq v11 <|
     some ([])) fun b6c_12 =>
   if a_1.2.2.2.2.2.1=true then
    bnd (F_edns_Opt_Record (true,4096,IntKind.i64.wrap (v10.tdiv 16),0,a_1.2.2.2.2.2.2.2.2.2)) fun (v13,v14) =>
    g10 a_1<|g9 c_2<|gq v8<|gz<|gz <|
    some ((a_1.1,(v11,(b6c_12,[(v13.1,v13.2.1,v13.2.2.1,v13.2.2.2.1,v13.2.2.2.2)]))))
   else
    g10 a_1<|g9 c_2<|gq v8<|gz<|gz <|
    some ((a_1.1,(v11,(b6c_12,[]))))) fun (a_15,a_16,a_17,a_18) =>
  natOf many_9 fun n19 =>
  grd (n19≤v8.length) <|
  bnd (loopS (step_reply_Build_1 a_1 c_2 v8 many_9 a_15 a_16 a_17 a_18 n19) ((0,([],[])))) fun (b3d_25,b3e_26) =>
  bnd (α:=(Int×(List ((List UInt8×(Int×(Int×(Int×List UInt8)))))×List ((List UInt8×(Int×(Int×(Int×List UInt8)))))))) (if decide (many_9<(↑v8.length:Int))=true then
    bnd (F_flag_Field_With 3 a_16 1) fun (v27,v28) =>
    g10 a_1<|g9 c_2<|gq v8<|gq a_15<|gq a_17<|gq a_18 <|
    some ((v27,(b3d_25,b3e_26)))
   else
    g10 a_1<|g9 c_2<|gq v8<|gq a_15<|gq a_17<|gq a_18 <|
    some ((a_16,(b3d_25,b3e_26)))) fun (b3b_29,b3d_30,b3e_31) =>
  bnd (F_msg_Encode (a_15,b3b_29,a_17,b3d_30,b3e_31,a_18)) fun (v32,v33) =>
  if (v33==1)=true then
   g10 a_1<|g9 c_2<|gq v8 <|
   some (.inr (.inr ([])))
  else
   if (v33==0)=true then
    bnd (F_edns_Opt_Limit (a_1.2.2.2.2.2.1,a_1.2.2.2.2.2.2.1,a_1.2.2.2.2.2.2.2.1,a_1.2.2.2.2.2.2.2.2.1,a_1.2.2.2.2.2.2.2.2.2)) fun v34 =>
    if decide ((↑v32.length:Int)≤v34)=true then
     g10 a_1<|g9 c_2<|gq v8 <|
     some (.inr (.inr v32))
    else
     g10 a_1<|g9 c_2<|gq v8 <|
     some (.inl (IntKind.i64.wrap (many_9-1)))
   else
    g10 a_1<|g9 c_2<|gq v8 <|
    some (.inl (IntKind.i64.wrap (many_9-1)))
 else
  g10 a_1<|g9 c_2<|gq v8 <|
  some (.inr (.inl (())))
def F_reply_Build (a_1:(Int×(Int×(List UInt8×(Int×(Int×(Bool×(Int×(Int×(Int×Bool)))))))))) (c_2:(List ((List UInt8×(Int×(Int×(List (List UInt8)×(Int×Int))))))×(Int×(List UInt8×(List UInt8×(Int×(Int×(List (List UInt8)×(Int×Int))))))))) (turn_3:Int):Option (List UInt8) :=
 bnd (α:=(List UInt8 ⊕ Unit)) (bnd (α:=Bool) (if decide (c_2.2.1<0)=false then
    gq turn_3<|g10 a_1<|g9 c_2 <|
    some (decide (2<c_2.2.1))
   else
    gq turn_3<|g10 a_1<|g9 c_2 <|
    some true) fun s19_4 =>
  if s19_4=true then
   bnd (F_reply_Refuse (a_1.1,a_1.2.1,a_1.2.2.1,a_1.2.2.2.1,a_1.2.2.2.2.1,a_1.2.2.2.2.2.1,a_1.2.2.2.2.2.2.1,a_1.2.2.2.2.2.2.2.1,a_1.2.2.2.2.2.2.2.2.1,a_1.2.2.2.2.2.2.2.2.2) 2) fun v5 =>
   g10 a_1<|g9 c_2 <|
   some (.inl v5)
  else
   gq turn_3<|g10 a_1<|g9 c_2 <|
   some (.inr (()))) fun o6 =>
 match o6 with
 | .inl s6_7 =>
  some s6_7
 | .inr _ =>
  bnd (F_reply_pieces (c_2.1,c_2.2.1,c_2.2.2.1,c_2.2.2.2.1,c_2.2.2.2.2.1,c_2.2.2.2.2.2.1,c_2.2.2.2.2.2.2.1,c_2.2.2.2.2.2.2.2.1,c_2.2.2.2.2.2.2.2.2) turn_3) fun v8 =>
  bnd (loopS (step_reply_Build_0 a_1 c_2 v8) ((↑v8.length:Int))) fun o35 =>
  match o35 with
  | .inl _ =>
   some ([])
  | .inr s6_36 =>
   some s6_36
def ann_reply_Build:List (List Nat×Ann):=[([2],⟨none,[(.ret,⟨yS42,[.cells 52 true yS4,.cells 48 true yS1],[],[]⟩),(.normal,⟨(anyN 2 (.cons kI (.cons (.ptr 0 0) (.cons (.ptr 1 0) (anyN 48 .nil))))),[.cells 52 true yS4,.cells 48 true yS1],[],[]⟩)]⟩),([3],⟨none,[(.normal,⟨(anyN 2 (.cons kI (.cons (.ptr 0 0) (.cons (.ptr 1 0) (anyN 14 (.cons (.ty .bool) (anyN 33 .nil))))))),[.cells 52 true yS4,.cells 48 true yS1],[],[]⟩)]⟩),([25,60,2,28],⟨none,[(.normal,⟨(anyN 7 (.cons (.ptr 3 0) (anyN 41 .nil))),[.cells 52 true yS4,.cells 48 true yS1,.cells 128 true yS28,.cells 63 true (.cons kI (.cons yI yS27))],[⟨⟨1,tRR,101,true,true⟩,true⟩],[]⟩)]⟩),([2000000,61,4,3,60,2,28],⟨none,[(.ret,⟨(.cons (.agg (.cons yI (.cons yI (.cons (.ty (.list tQ)) (.cons .nill (.cons .nill (.cons (.ty (.list tRR)) .nil))))))) .nil),[.cells 52 false yS4,.cells 48 false yS1,.cells 128 false yS28,.cells 63 false yS7],[],[]⟩)]⟩),([4,61,4,3,60,2,28],⟨none,[(.normal,⟨(anyN 1 (.cons kI (.cons (.ptr 4 0) (anyN 1 (.cons (.ptr 5 0) (.cons (.ptr 6 0) (anyN 34 .nil))))))),[.cells 52 false yS4,.cells 48 false yS1,.cells 128 false yS28,.cells 63 false yS7,.cells 52 true yS4,.cells 63 true yS7,.cells 63 true (.cons kI (.cons kI (.cons (.ty (.list tQ)) (.cons .nill (.cons .nill (.cons .nill .nil))))))],[],[]⟩)]⟩),([18],⟨some ⟨(anyN 3 (.cons (.ptr 0 0) (anyN 4 (.cons (.func 60 .nil (.cons (.ptr 0 0) (.cons (.ptr 1 0) (.cons (.ptr 2 0) .nil)))) (.cons yI (anyN 43 .nil)))))),[.cells 52 true yS4,.cells 48 true yS1,.cells 128 true yS28],[],[]⟩,[(.exit 0,⟨(anyN 53 .nil),[.cells 52 true yS4,.cells 48 true yS1,.cells 128 true yS28],[],[]⟩),(.ret,⟨yS42,[.cells 52 true yS4,.cells 48 true yS1,.cells 128 true yS28],[⟨⟨1,tRR,101,false,true⟩,false⟩],[]⟩)]⟩),([8,60,2,28],⟨some ⟨(.cons kI (anyN 2 (.cons (.ptr 2 0) (anyN 3 (.cons (.ptr 3 0) (anyN 8 (.cons (.keep (.list yT17)) (.cons kI (.cons yI (anyN 30 .nil)))))))))),[.cells 52 true yS4,.cells 48 true yS1,.cells 128 true yS28,.cells 63 true (.cons kI (.cons kI yS27))],[⟨⟨0,tRR,101,true,true⟩,true⟩],[]⟩,[(.exit 0,⟨(.cons kI (anyN 2 (.cons (.ptr 2 0) (anyN 3 (.cons (.ptr 3 0) (anyN 41 .nil)))))),[.cells 52 true yS4,.cells 48 true yS1,.cells 128 true yS28,.cells 63 true (.cons kI (.cons kI yS27))],[⟨⟨0,tRR,101,true,true⟩,false⟩],[]⟩)]⟩)]
@[reducible] def fs_reply_Build:List (Nat×SFn):=[(62,.pure [yT3] [tI] (fun x=>F_reply_code x)),(84,.pure [tI,tI] [tI] (fun x=>F_flag_Answer x.1 x.2)),(101,.pure [(.agg yT9)] [tRR,.bool] (fun x=>F_edns_Opt_Record x)),(63,.pure [tI,tI,tI] [tI,.bool] (fun x=>F_flag_Field_With x.1 x.2.1 x.2.2)),(64,.pure [tM] [.str,tI] (fun x=>F_msg_Encode x)),(26,.pure [(.agg yT9)] [tI] (fun x=>F_edns_Opt_Limit x)),(38,.pure [yT16,tI] [.str] (fun x=>F_reply_Refuse x.1 x.2)),(59,.pure [yT3,tI] [(.list yT17)] (fun x=>F_reply_pieces x.1 x.2))]
theorem told_reply_Build:Told CC Tryz.prog 34 [yT16,yT3,tI] [.str] (fun x=>F_reply_Build x.1 x.2.1 x.2.2):=told_of (n:=100000) (gok (an:=ann_reply_Build) (fs:=fs_reply_Build) ⟨told_reply_code,told_flag_Answer,told_edns_Opt_Record,told_flag_Field_With,told_msg_Encode,told_edns_Opt_Limit,told_reply_Refuse,told_reply_pieces,trivial⟩) rfl rfl (fun x=>by kernel_rfl)
end
end Go.Abs

set_option maxRecDepth 100000
namespace Go.Abs
open Go Go.Proofs
noncomputable section
def step_ref05_Names_0 (d_2:List UInt8) (v4:Int×Int×Int):(List (List UInt8)×(Int×Int))→Option ((List (List UInt8)×(Int×Int)) ⊕ List (List UInt8)):=fun (out_5,i_6,k_7) =>
 if decide (k_7<v4.2.1)=true then
  bnd (F_ref04_Read d_2 i_6) fun (v8,v9,v10) =>
  grd ((out_5.length+[v8].length)*16≤roomLim) <|
  gq d_2<|g3 v4 <|
  some (.inl ((out_5++[v8],(v9,IntKind.i64.wrap (k_7+1)))))
 else
  g3 v4 <|
  some (.inr out_5)
def F_ref05_Names (kind_1:Int) (d_2:List UInt8):Option (List (List UInt8)) :=
 bnd (F_ref05_Check kind_1 d_2) fun v3 =>
 if (!v3)=true then
  some ([])
 else
  bnd (F_ref05_shape kind_1) fun v4 =>
  bnd (loopS (step_ref05_Names_0 d_2 v4) (([],(v4.1,0)))) fun out_11 =>
  some out_11
def ann_ref05_Names:List (List Nat×Ann):=[([20],⟨some ⟨(anyN 1 (.cons kS (anyN 3 (.cons yS32 (.cons (.ptr 0 0) (.cons yI (.cons yI (anyN 30 .nil)))))))),[.cells 22 true yS20],[⟨⟨0,.str,9,true,true⟩,true⟩],[]⟩,[(.exit 0,⟨(anyN 5 (.cons yS32 (anyN 33 .nil))),[.cells 22 true yS20],[⟨⟨1,.str,9,true,true⟩,true⟩],[]⟩)]⟩)]
@[reducible] def fs_ref05_Names:List (Nat×SFn):=[(93,.pure [.str,tI] [.str,tI,tI] (fun x=>F_ref04_Read x.1 x.2)),(139,.pure [tI,.str] [.bool] (fun x=>F_ref05_Check x.1 x.2)),(151,.pure [tI] [yT18] (fun x=>F_ref05_shape x))]
theorem told_ref05_Names:Told CC Tryz.prog 176 [tI,.str] [(.list .str)] (fun x=>F_ref05_Names x.1 x.2):=told_of (n:=100000) (gok (an:=ann_ref05_Names) (fs:=fs_ref05_Names) ⟨told_ref04_Read,told_ref05_Check,told_ref05_shape,trivial⟩) rfl rfl (fun x=>by kernel_rfl)
def step_ref05_Low_0 (d_2:List UInt8) (v4:List (List UInt8)) (v5:Int×Int×Int):(List UInt8×(Int×Int))→Option ((List UInt8×(Int×Int)) ⊕ (List UInt8×Int)):=fun (out_7,i_8,k_9) =>
 if decide (k_9<(↑v4.length:Int))=true then
  natOf k_9 fun n10 =>
  bnd (v4[n10]?) fun x11 =>
  bnd (F_ref02_Low x11) fun v12 =>
  grd (out_7.length+v12.length≤maxStr) <|
  natOf k_9 fun n13 =>
  bnd (v4[n13]?) fun x14 =>
  gq d_2<|gq v4<|g3 v5 <|
  some (.inl ((out_7++v12,(IntKind.i64.wrap (i_8+(↑(List.length x14):Int)),IntKind.i64.wrap (k_9+1)))))
 else
  gq d_2<|g3 v5 <|
  some (.inr ((out_7,i_8)))
def F_ref05_Low (kind_1:Int) (d_2:List UInt8):Option (List UInt8) :=
 bnd (F_ref05_Check kind_1 d_2) fun v3 =>
 if (!v3)=true then
  some ([])
 else
  bnd (F_ref05_Names kind_1 d_2) fun v4 =>
  bnd (F_ref05_shape kind_1) fun v5 =>
  natOf v5.1 fun n6 =>
  grd (n6≤d_2.length) <|
  bnd (loopS (step_ref05_Low_0 d_2 v4 v5) ((List.take n6 d_2,(v5.1,0)))) fun (out_15,i_16) =>
  natOf i_16 fun n17 =>
  grd (n17≤d_2.length) <|
  grd (out_15.length+(List.drop n17 d_2).length≤maxStr) <|
  some (out_15++List.drop n17 d_2)
def ann_ref05_Low:List (List Nat×Ann):=[([22],⟨some ⟨(anyN 1 (.cons kS (anyN 3 (.cons yS39 (anyN 1 (.cons (.ty .str) (.cons yI (.cons yI (anyN 40 .nil))))))))),[.cells 22 true yS20],[],[]⟩,[(.exit 0,⟨(anyN 1 (.cons kS (anyN 5 (.cons (.ty .str) (.cons yI (anyN 41 .nil)))))),[.cells 22 true yS20],[],[]⟩)]⟩)]
@[reducible] def fs_ref05_Low:List (Nat×SFn):=[(17,.pure [.str] [.str] (fun x=>F_ref02_Low x)),(139,.pure [tI,.str] [.bool] (fun x=>F_ref05_Check x.1 x.2)),(176,.pure [tI,.str] [(.list .str)] (fun x=>F_ref05_Names x.1 x.2)),(151,.pure [tI] [yT18] (fun x=>F_ref05_shape x))]
theorem told_ref05_Low:Told CC Tryz.prog 170 [tI,.str] [.str] (fun x=>F_ref05_Low x.1 x.2):=told_of (n:=100000) (gok (an:=ann_ref05_Low) (fs:=fs_ref05_Low) ⟨told_ref02_Low,told_ref05_Check,told_ref05_Names,told_ref05_shape,trivial⟩) rfl rfl (fun x=>by kernel_rfl)
def F_ref10_small (n_1:Int):Option (Bool) :=
 if decide (0≤n_1)=true then
  some (decide (n_1≤65535))
 else
  some false
def ann_ref10_small:List (List Nat×Ann):=[]
theorem told_ref10_small:Told CC Tryz.prog 177 [tI] [.bool] (fun x=>F_ref10_small x):=told_of (n:=100000) (gok (an:=ann_ref10_small) (fs:=[]) trivial) rfl rfl (fun x=>by kernel_rfl)
def F_ref10_Asked (q_1:(List UInt8×(Int×Int))):Option (Bool) :=
 bnd (F_ref02_Check q_1.1) fun v2 =>
 if v2=true then
  bnd (F_ref02_Low q_1.1) fun v3 =>
  if (v3==q_1.1)=true then
   bnd (F_ref10_small q_1.2.1) fun v4 =>
   if v4=true then
    bnd (F_ref10_small q_1.2.2) fun v5 =>
    some v5
   else
    some false
  else
   some false
 else
  some false
def ann_ref10_Asked:List (List Nat×Ann):=[]
@[reducible] def fs_ref10_Asked:List (Nat×SFn):=[(43,.pure [.str] [.bool] (fun x=>F_ref02_Check x)),(17,.pure [.str] [.str] (fun x=>F_ref02_Low x)),(177,.pure [tI] [.bool] (fun x=>F_ref10_small x))]
theorem told_ref10_Asked:Told CC Tryz.prog 172 [tQ] [.bool] (fun x=>F_ref10_Asked x):=told_of (n:=100000) (gok (an:=ann_ref10_Asked) (fs:=fs_ref10_Asked) ⟨told_ref02_Check,told_ref02_Low,told_ref10_small,trivial⟩) rfl rfl (fun x=>by kernel_rfl)
def step_ref10_Check_0 (s_1:List UInt8×Int×Int×List (List UInt8)×Int):Int→Option (Int ⊕ (Bool ⊕ Unit)):=fun i_2 =>
 if decide (i_2<(↑(List.length s_1.2.2.2.1):Int))=true then
  natOf i_2 fun n3 =>
  bnd (s_1.2.2.2.1[n3]?) fun x4 =>
  bnd (F_ref05_Check s_1.2.1 x4) fun v5 =>
  if (!v5)=false then
   bnd (F_ref05_Low s_1.2.1 x4) fun v6 =>
   if (!v6==x4)=false then
    natOf i_2 fun n7 =>
    grd (n7≤List.length s_1.2.2.2.1) <|
    bnd (F_ref10_In (List.take n7 s_1.2.2.2.1) x4) fun v8 =>
    if v8=true then
     g5 s_1 <|
     some (.inr (.inl false))
    else
     g5 s_1 <|
     some (.inl (IntKind.i64.wrap (i_2+1)))
   else
    g5 s_1 <|
    some (.inr (.inl false))
  else
   g5 s_1 <|
   some (.inr (.inl false))
 else
  g5 s_1 <|
  some (.inr (.inr (())))
def F_ref10_Check (s_1:(List UInt8×(Int×(Int×(List (List UInt8)×Int))))):Option (Bool) :=
 bnd (loopS (step_ref10_Check_0 s_1) 0) fun o9 =>
 match o9 with
 | .inl s2_10 =>
  some s2_10
 | .inr _ =>
  bnd (F_ref10_Asked (s_1.1,s_1.2.1,s_1.2.2.1)) fun v11 =>
  if v11=true then
   if decide (0≤s_1.2.2.2.2)=true then
    if decide (s_1.2.2.2.2<2147483648)=true then
     some (decide (0<(↑(List.length s_1.2.2.2.1):Int)))
    else
     some false
   else
    some false
  else
   some false
def ann_ref10_Check:List (List Nat×Ann):=[([6],⟨some ⟨(anyN 1 (.cons (.ptr 0 0) (anyN 1 (.cons yI (anyN 55 .nil))))),[.cells 32 true yS6],[],[]⟩,[(.ret,⟨(anyN 2 (.cons (.ty .bool) (anyN 56 .nil))),[.cells 32 true yS6],[],[]⟩),(.exit 0,⟨(anyN 1 (.cons (.ptr 0 0) (anyN 57 .nil))),[.cells 32 true yS6],[],[]⟩)]⟩)]
@[reducible] def fs_ref10_Check:List (Nat×SFn):=[(139,.pure [tI,.str] [.bool] (fun x=>F_ref05_Check x.1 x.2)),(170,.pure [tI,.str] [.str] (fun x=>F_ref05_Low x.1 x.2)),(171,.pure [(.list .str),.str] [.bool] (fun x=>F_ref10_In x.1 x.2)),(172,.pure [tQ] [.bool] (fun x=>F_ref10_Asked x))]
theorem told_ref10_Check:Told CC Tryz.prog 157 [yT12] [.bool] (fun x=>F_ref10_Check x):=told_of (n:=100000) (gok (an:=ann_ref10_Check) (fs:=fs_ref10_Check) ⟨told_ref05_Check,told_ref05_Low,told_ref10_In,told_ref10_Asked,trivial⟩) rfl rfl (fun x=>by kernel_rfl)
end
end Go.Abs
