/- Part of a proof. -/
import Derived.Test.YthlcfhkcbmikcaaGreatSnB
set_option linter.unusedSimpArgs false
set_option linter.unusedVariables false
set_option linter.unusedSectionVars false
set_option maxRecDepth 100000
namespace Go.Abs
open Go Go.Proofs
noncomputable section
end
end Go.Abs

set_option maxRecDepth 100000
namespace Go.Abs
open Go Go.Proofs
noncomputable section
end
end Go.Abs

set_option maxRecDepth 100000
namespace Go.Abs
open Go Go.Proofs
noncomputable section
end
end Go.Abs

set_option maxRecDepth 100000
namespace Go.Abs
open Go Go.Proofs
noncomputable section
def F_reply_Refuse (a_1:(Int×(Int×(List UInt8×(Int×(Int×(Bool×(Int×(Int×(Int×Bool)))))))))) (code_2:Int):Option (List UInt8) :=
 bnd (α:=(List UInt8 ⊕ Unit)) (if decide (code_2<0)=false then
   if decide (255<code_2)=true then
    g10 a_1 <|
    some (.inl ([]))
   else
    gq code_2<|g10 a_1 <|
    some (.inr (()))
  else
   g10 a_1 <|
   some (.inl ([]))) fun o3 =>
 match o3 with
 | .inl s4_4 =>
  some s4_4
 | .inr _ =>
  bnd (α:=(Int×(Int×(List ((List UInt8×(Int×Int)))×List ((List UInt8×(Int×(Int×(Int×List UInt8))))))))) (bnd (F_flag_Answer a_1.2.1 code_2) fun v5 =>
   bnd (α:=List ((List UInt8×(Int×Int)))) (if (!a_1.2.2.1==[])=true then
     gq code_2<|g10 a_1<|g10 a_1<|gz<|gz<|gq a_1.1<|gq v5 <|
     some ([(a_1.2.2.1,a_1.2.2.2.1,a_1.2.2.2.2.1)])
    else
     gq code_2<|g10 a_1<|g10 a_1<|gz<|gz<|gq a_1.1<|gq v5 <|
     some ([])) fun b3c_6 =>
   if a_1.2.2.2.2.2.1=true then
    bnd (F_edns_Opt_Record (true,4096,IntKind.i64.wrap (code_2.tdiv 16),0,a_1.2.2.2.2.2.2.2.2.2)) fun (v7,v8) =>
    g10 a_1 <|
    some ((a_1.1,(v5,(b3c_6,[(v7.1,v7.2.1,v7.2.2.1,v7.2.2.2.1,v7.2.2.2.2)]))))
   else
    g10 a_1 <|
    some ((a_1.1,(v5,(b3c_6,[]))))) fun (a_9,a_10,a_11,a_12) =>
  bnd (F_msg_Encode (a_9,a_10,a_11,[],[],a_12)) fun (v13,v14) =>
  some v13
def ann_reply_Refuse:List (List Nat×Ann):=[([2],⟨none,[(.ret,⟨(anyN 4 (.cons (.ty .str) (anyN 16 .nil))),[.cells 52 true yS1],[],[]⟩),(.normal,⟨(anyN 1 (.cons kI (.cons (.ptr 0 0) (anyN 18 .nil)))),[.cells 52 true yS1],[],[]⟩)]⟩),([2000000,61,2,11],⟨none,[(.ret,⟨(.cons (.agg (.cons yI (.cons yI (.cons (.ty (.list tQ)) (.cons .nill (.cons .nill (.cons (.ty (.list tRR)) .nil))))))) .nil),[.cells 52 true yS1],[],[]⟩)]⟩),([4,61,2,11],⟨none,[(.normal,⟨(anyN 1 (.cons kI (.cons (.ptr 1 0) (anyN 1 (.cons (.ptr 2 0) (.cons (.ptr 3 0) (anyN 34 .nil))))))),[.cells 52 true yS1,.cells 52 true yS1,.cells 63 true yS5,.cells 63 true (.cons kI (.cons kI (.cons (.ty (.list tQ)) (.cons .nill (.cons .nill (.cons .nill .nil))))))],[],[]⟩)]⟩)]
@[reducible] def fs_reply_Refuse:List (Nat×SFn):=[(84,.pure [tI,tI] [tI] (fun x=>F_flag_Answer x.1 x.2)),(101,.pure [yT14] [tRR,.bool] (fun x=>F_edns_Opt_Record x)),(64,.pure [tM] [.str,tI] (fun x=>F_msg_Encode x))]
theorem told_reply_Refuse:Told CC Tryz.prog 38 [yT9,tI] [.str] (fun x=>F_reply_Refuse x.1 x.2):=told_of (n:=100000) (gok (an:=ann_reply_Refuse) (fs:=fs_reply_Refuse) ⟨told_flag_Answer,told_edns_Opt_Record,told_msg_Encode,trivial⟩) rfl rfl (fun x=>by kernel_rfl)
end
end Go.Abs

set_option maxRecDepth 100000
namespace Go.Abs
open Go Go.Proofs
noncomputable section
def step_reply_Build_1 (a_1:Int×Int×List UInt8×Int×Int×Bool×Int×Int×Int×Bool) (c_2:List (List UInt8×Int×Int×List (List UInt8)×Int×Int)×Int×List UInt8×List UInt8×Int×Int×List (List UInt8)×Int×Int) (v8:List (List (List UInt8×Int×Int×Int×List UInt8)×Bool)) (many_9:Int) (a_15:Int) (a_16:Int) (a_17:List (List UInt8×Int×Int)) (a_18:List (List UInt8×Int×Int×Int×List UInt8)) (n19:Nat):(Int×(List ((List UInt8×(Int×(Int×(Int×List UInt8)))))×List ((List UInt8×(Int×(Int×(Int×List UInt8)))))))→Option ((Int×(List ((List UInt8×(Int×(Int×(Int×List UInt8)))))×List ((List UInt8×(Int×(Int×(Int×List UInt8))))))) ⊕ (List ((List UInt8×(Int×(Int×(Int×List UInt8)))))×List ((List UInt8×(Int×(Int×(Int×List UInt8))))))):=fun (s18_20,b3d_21,b3e_22) =>
 if decide (s18_20<(↑(List.take n19 v8).length:Int))=true then
  natOf s18_20 fun n23 =>
  bnd ((List.take n19 v8)[n23]?) fun x24 =>
  if x24.2=true then
   gq many_9 <|
   grdEq (List.take n19 v8) (List.take n19 v8) <|
   grdEq ((↑(List.take n19 v8).length:Int)) ((↑(List.take n19 v8).length:Int)) <|
   g10 a_1<|g9 c_2<|gq v8<|gq a_15<|gq a_16<|gq a_17<|gq a_18 <|
   some (.inl ((IntKind.i64.wrap (s18_20+1),(b3d_21,x24.1))))
  else
   grd ((b3d_21.length+List.length x24.1)*56≤roomLim) <|
   gq many_9 <|
   grdEq (List.take n19 v8) (List.take n19 v8) <|
   grdEq ((↑(List.take n19 v8).length:Int)) ((↑(List.take n19 v8).length:Int)) <|
   g10 a_1<|g9 c_2<|gq v8<|gq a_15<|gq a_16<|gq a_17<|gq a_18 <|
   some (.inl ((IntKind.i64.wrap (s18_20+1),(b3d_21++x24.1,b3e_22))))
 else
  gq many_9<|g10 a_1<|g9 c_2<|gq v8<|gq a_15<|gq a_16<|gq a_17<|gq a_18 <|
  some (.inr ((b3d_21,b3e_22)))
def step_reply_Build_0 (a_1:Int×Int×List UInt8×Int×Int×Bool×Int×Int×Int×Bool) (c_2:List (List UInt8×Int×Int×List (List UInt8)×Int×Int)×Int×List UInt8×List UInt8×Int×Int×List (List UInt8)×Int×Int) (v8:List (List (List UInt8×Int×Int×Int×List UInt8)×Bool)):Int→Option (Int ⊕ (Unit ⊕ List UInt8)):=fun many_9 =>
 if decide (0≤many_9)=true then
  bnd (F_reply_code (c_2.1,c_2.2.1,c_2.2.2.1,c_2.2.2.2.1,c_2.2.2.2.2.1,c_2.2.2.2.2.2.1,c_2.2.2.2.2.2.2.1,c_2.2.2.2.2.2.2.2.1,c_2.2.2.2.2.2.2.2.2)) fun v10 =>
  bnd (α:=(Int×(Int×(List ((List UInt8×(Int×Int)))×List ((List UInt8×(Int×(Int×(Int×List UInt8))))))))) (bnd (F_flag_Answer a_1.2.1 v10) fun v11 =>
   bnd (α:=List ((List UInt8×(Int×Int)))) (if (!a_1.2.2.1==[])=true then
     gq v10<|g10 a_1<|g9 c_2<|gq v8<|gz<|gz<|g10 a_1<|gz<|gz<|gq a_1.1<|gq v11 <|
     some ([(a_1.2.2.1,a_1.2.2.2.1,a_1.2.2.2.2.1)])
    else
     gq v10<|g10 a_1<|g9 c_2<|gq v8<|gz<|gz<|g10 a_1<|gz<|gz<|gq a_1.1<|gq v11 <|
     some ([])) fun b6c_12 =>
   if a_1.2.2.2.2.2.1=true then
    bnd (F_edns_Opt_Record (true,4096,IntKind.i64.wrap (v10.tdiv 16),0,a_1.2.2.2.2.2.2.2.2.2)) fun (v13,v14) =>
    g10 a_1<|g9 c_2<|gq v8<|gz<|gz <|
    some ((a_1.1,(v11,(b6c_12,[(v13.1,v13.2.1,v13.2.2.1,v13.2.2.2.1,v13.2.2.2.2)]))))
   else
    g10 a_1<|g9 c_2<|gq v8<|gz<|gz <|
    some ((a_1.1,(v11,(b6c_12,[]))))) fun (a_15,a_16,a_17,a_18) =>
  natOf many_9 fun n19 =>
  grd (n19≤v8.length) <|
  bnd (loopS (step_reply_Build_1 a_1 c_2 v8 many_9 a_15 a_16 a_17 a_18 n19) ((0,([],[])))) fun (b3d_25,b3e_26) =>
  bnd (α:=(Int×(List ((List UInt8×(Int×(Int×(Int×List UInt8)))))×List ((List UInt8×(Int×(Int×(Int×List UInt8)))))))) (if decide (many_9<(↑v8.length:Int))=true then
    bnd (F_flag_Field_With 3 a_16 1) fun (v27,v28) =>
    g10 a_1<|g9 c_2<|gq v8<|gq a_15<|gq a_17<|gq a_18 <|
    some ((v27,(b3d_25,b3e_26)))
   else
    g10 a_1<|g9 c_2<|gq v8<|gq a_15<|gq a_17<|gq a_18 <|
    some ((a_16,(b3d_25,b3e_26)))) fun (b3b_29,b3d_30,b3e_31) =>
  bnd (F_msg_Encode (a_15,b3b_29,a_17,b3d_30,b3e_31,a_18)) fun (v32,v33) =>
  if (v33==1)=true then
   g10 a_1<|g9 c_2<|gq v8 <|
   some (.inr (.inr ([])))
  else
   if (v33==0)=true then
    bnd (F_edns_Opt_Limit (a_1.2.2.2.2.2.1,a_1.2.2.2.2.2.2.1,a_1.2.2.2.2.2.2.2.1,a_1.2.2.2.2.2.2.2.2.1,a_1.2.2.2.2.2.2.2.2.2)) fun v34 =>
    if decide ((↑v32.length:Int)≤v34)=true then
     g10 a_1<|g9 c_2<|gq v8 <|
     some (.inr (.inr v32))
    else
     g10 a_1<|g9 c_2<|gq v8 <|
     some (.inl (IntKind.i64.wrap (many_9-1)))
   else
    g10 a_1<|g9 c_2<|gq v8 <|
    some (.inl (IntKind.i64.wrap (many_9-1)))
 else
  g10 a_1<|g9 c_2<|gq v8 <|
  some (.inr (.inl (())))
def F_reply_Build (a_1:(Int×(Int×(List UInt8×(Int×(Int×(Bool×(Int×(Int×(Int×Bool)))))))))) (c_2:(List ((List UInt8×(Int×(Int×(List (List UInt8)×(Int×Int))))))×(Int×(List UInt8×(List UInt8×(Int×(Int×(List (List UInt8)×(Int×Int))))))))) (turn_3:Int):Option (List UInt8) :=
 bnd (α:=(List UInt8 ⊕ Unit)) (bnd (α:=Bool) (if decide (c_2.2.1<0)=false then
    gq turn_3<|g10 a_1<|g9 c_2 <|
    some (decide (2<c_2.2.1))
   else
    gq turn_3<|g10 a_1<|g9 c_2 <|
    some true) fun s19_4 =>
  if s19_4=true then
   bnd (F_reply_Refuse (a_1.1,a_1.2.1,a_1.2.2.1,a_1.2.2.2.1,a_1.2.2.2.2.1,a_1.2.2.2.2.2.1,a_1.2.2.2.2.2.2.1,a_1.2.2.2.2.2.2.2.1,a_1.2.2.2.2.2.2.2.2.1,a_1.2.2.2.2.2.2.2.2.2) 2) fun v5 =>
   g10 a_1<|g9 c_2 <|
   some (.inl v5)
  else
   gq turn_3<|g10 a_1<|g9 c_2 <|
   some (.inr (()))) fun o6 =>
 match o6 with
 | .inl s6_7 =>
  some s6_7
 | .inr _ =>
  bnd (F_reply_pieces (c_2.1,c_2.2.1,c_2.2.2.1,c_2.2.2.2.1,c_2.2.2.2.2.1,c_2.2.2.2.2.2.1,c_2.2.2.2.2.2.2.1,c_2.2.2.2.2.2.2.2.1,c_2.2.2.2.2.2.2.2.2) turn_3) fun v8 =>
  bnd (loopS (step_reply_Build_0 a_1 c_2 v8) ((↑v8.length:Int))) fun o35 =>
  match o35 with
  | .inl _ =>
   some ([])
  | .inr s6_36 =>
   some s6_36
def ann_reply_Build:List (List Nat×Ann):=[([2],⟨none,[(.ret,⟨yS39,[.cells 52 true yS1,.cells 48 true yS2],[],[]⟩),(.normal,⟨(anyN 2 (.cons kI (.cons (.ptr 0 0) (.cons (.ptr 1 0) (anyN 48 .nil))))),[.cells 52 true yS1,.cells 48 true yS2],[],[]⟩)]⟩),([3],⟨none,[(.normal,⟨(anyN 2 (.cons kI (.cons (.ptr 0 0) (.cons (.ptr 1 0) (anyN 14 (.cons (.ty .bool) (anyN 33 .nil))))))),[.cells 52 true yS1,.cells 48 true yS2],[],[]⟩)]⟩),([25,60,2,28],⟨none,[(.normal,⟨(anyN 7 (.cons (.ptr 3 0) (anyN 41 .nil))),[.cells 52 true yS1,.cells 48 true yS2,.cells 128 true yS26,.cells 63 true (.cons kI (.cons yI yS25))],[⟨⟨1,tRR,101,true,true⟩,true⟩],[]⟩)]⟩),([2000000,61,4,3,60,2,28],⟨none,[(.ret,⟨(.cons (.agg (.cons yI (.cons yI (.cons (.ty (.list tQ)) (.cons .nill (.cons .nill (.cons (.ty (.list tRR)) .nil))))))) .nil),[.cells 52 false yS1,.cells 48 false yS2,.cells 128 false yS26,.cells 63 false yS5],[],[]⟩)]⟩),([4,61,4,3,60,2,28],⟨none,[(.normal,⟨(anyN 1 (.cons kI (.cons (.ptr 4 0) (anyN 1 (.cons (.ptr 5 0) (.cons (.ptr 6 0) (anyN 34 .nil))))))),[.cells 52 false yS1,.cells 48 false yS2,.cells 128 false yS26,.cells 63 false yS5,.cells 52 true yS1,.cells 63 true yS5,.cells 63 true (.cons kI (.cons kI (.cons (.ty (.list tQ)) (.cons .nill (.cons .nill (.cons .nill .nil))))))],[],[]⟩)]⟩),([18],⟨some ⟨(anyN 3 (.cons (.ptr 0 0) (anyN 4 (.cons (.func 60 .nil (.cons (.ptr 0 0) (.cons (.ptr 1 0) (.cons (.ptr 2 0) .nil)))) (.cons yI (anyN 43 .nil)))))),[.cells 52 true yS1,.cells 48 true yS2,.cells 128 true yS26],[],[]⟩,[(.exit 0,⟨(anyN 53 .nil),[.cells 52 true yS1,.cells 48 true yS2,.cells 128 true yS26],[],[]⟩),(.ret,⟨yS39,[.cells 52 true yS1,.cells 48 true yS2,.cells 128 true yS26],[⟨⟨1,tRR,101,false,true⟩,false⟩],[]⟩)]⟩),([8,60,2,28],⟨some ⟨(.cons kI (anyN 2 (.cons (.ptr 2 0) (anyN 3 (.cons (.ptr 3 0) (anyN 8 (.cons (.keep (.list yT15)) (.cons kI (.cons yI (anyN 30 .nil)))))))))),[.cells 52 true yS1,.cells 48 true yS2,.cells 128 true yS26,.cells 63 true (.cons kI (.cons kI yS25))],[⟨⟨0,tRR,101,true,true⟩,true⟩],[]⟩,[(.exit 0,⟨(.cons kI (anyN 2 (.cons (.ptr 2 0) (anyN 3 (.cons (.ptr 3 0) (anyN 41 .nil)))))),[.cells 52 true yS1,.cells 48 true yS2,.cells 128 true yS26,.cells 63 true (.cons kI (.cons kI yS25))],[⟨⟨0,tRR,101,true,true⟩,false⟩],[]⟩)]⟩)]
@[reducible] def fs_reply_Build:List (Nat×SFn):=[(62,.pure [yT6] [tI] (fun x=>F_reply_code x)),(84,.pure [tI,tI] [tI] (fun x=>F_flag_Answer x.1 x.2)),(101,.pure [yT14] [tRR,.bool] (fun x=>F_edns_Opt_Record x)),(63,.pure [tI,tI,tI] [tI,.bool] (fun x=>F_flag_Field_With x.1 x.2.1 x.2.2)),(64,.pure [tM] [.str,tI] (fun x=>F_msg_Encode x)),(26,.pure [yT14] [tI] (fun x=>F_edns_Opt_Limit x)),(38,.pure [yT9,tI] [.str] (fun x=>F_reply_Refuse x.1 x.2)),(59,.pure [yT6,tI] [(.list yT15)] (fun x=>F_reply_pieces x.1 x.2))]
theorem told_reply_Build:Told CC Tryz.prog 34 [yT9,yT6,tI] [.str] (fun x=>F_reply_Build x.1 x.2.1 x.2.2):=told_of (n:=100000) (gok (an:=ann_reply_Build) (fs:=fs_reply_Build) ⟨told_reply_code,told_flag_Answer,told_edns_Opt_Record,told_flag_Field_With,told_msg_Encode,told_edns_Opt_Limit,told_reply_Refuse,told_reply_pieces,trivial⟩) rfl rfl (fun x=>by kernel_rfl)
end
end Go.Abs

set_option maxRecDepth 100000
namespace Go.Abs
open Go Go.Proofs
noncomputable section
end
end Go.Abs
