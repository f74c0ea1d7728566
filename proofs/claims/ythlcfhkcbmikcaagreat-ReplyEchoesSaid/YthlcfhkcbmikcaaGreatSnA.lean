/- Part of a proof. -/
import Derived.Test.YthlcfhkcbmikcaaGreatSm
set_option linter.unusedSimpArgs false
set_option linter.unusedVariables false
set_option linter.unusedSectionVars false
set_option maxRecDepth 100000
namespace Go.Abs
open Go Go.Proofs
noncomputable section
@[reducible] def gq {α ρ:Type} [DecidableEq α] (x:α) (K:Option ρ):Option ρ:=grdEq x x K
@[reducible] def gz {ρ:Type} (K:Option ρ):Option ρ:=grdEq (α:=Int) 0 0 K
@[reducible] def gf {ρ:Type} (K:Option ρ):Option ρ:=grdEq (α:=Bool) false false K
@[reducible] def ge {ρ:Type} (K:Option ρ):Option ρ:=grdEq (α:=List UInt8) [] [] K
@[reducible] def g3 {A0 A1 A2 ρ:Type} [DecidableEq A0] [DecidableEq A1] [DecidableEq A2] (x:A0×A1×A2) (K:Option ρ):Option ρ:=grdEq x.1 x.1<|grdEq x.2.1 x.2.1<|grdEq x.2.2 x.2.2 <|  K
@[reducible] def g5 {A0 A1 A2 A3 A4 ρ:Type} [DecidableEq A0] [DecidableEq A1] [DecidableEq A2] [DecidableEq A3] [DecidableEq A4] (x:A0×A1×A2×A3×A4) (K:Option ρ):Option ρ:=grdEq x.1 x.1<|grdEq x.2.1 x.2.1<|grdEq x.2.2.1 x.2.2.1<|grdEq x.2.2.2.1 x.2.2.2.1<|grdEq x.2.2.2.2 x.2.2.2.2 <|  K
@[reducible] def g6 {A0 A1 A2 A3 A4 A5 ρ:Type} [DecidableEq A0] [DecidableEq A1] [DecidableEq A2] [DecidableEq A3] [DecidableEq A4] [DecidableEq A5] (x:A0×A1×A2×A3×A4×A5) (K:Option ρ):Option ρ:=grdEq x.1 x.1<|grdEq x.2.1 x.2.1<|grdEq x.2.2.1 x.2.2.1<|grdEq x.2.2.2.1 x.2.2.2.1<|grdEq x.2.2.2.2.1 x.2.2.2.2.1<|grdEq x.2.2.2.2.2 x.2.2.2.2.2 <|  K
@[reducible] def g9 {A0 A1 A2 A3 A4 A5 A6 A7 A8 ρ:Type} [DecidableEq A0] [DecidableEq A1] [DecidableEq A2] [DecidableEq A3] [DecidableEq A4] [DecidableEq A5] [DecidableEq A6] [DecidableEq A7] [DecidableEq A8] (x:A0×A1×A2×A3×A4×A5×A6×A7×A8) (K:Option ρ):Option ρ:=grdEq x.1 x.1<|grdEq x.2.1 x.2.1<|grdEq x.2.2.1 x.2.2.1<|grdEq x.2.2.2.1 x.2.2.2.1<|grdEq x.2.2.2.2.1 x.2.2.2.2.1<|grdEq x.2.2.2.2.2.1 x.2.2.2.2.2.1<|grdEq x.2.2.2.2.2.2.1 x.2.2.2.2.2.2.1<|grdEq x.2.2.2.2.2.2.2.1 x.2.2.2.2.2.2.2.1<|grdEq x.2.2.2.2.2.2.2.2 x.2.2.2.2.2.2.2.2 <|  K
@[reducible] def g10 {A0 A1 A2 A3 A4 A5 A6 A7 A8 A9 ρ:Type} [DecidableEq A0] [DecidableEq A1] [DecidableEq A2] [DecidableEq A3] [DecidableEq A4] [DecidableEq A5] [DecidableEq A6] [DecidableEq A7] [DecidableEq A8] [DecidableEq A9] (x:A0×A1×A2×A3×A4×A5×A6×A7×A8×A9) (K:Option ρ):Option ρ:=grdEq x.1 x.1<|grdEq x.2.1 x.2.1<|grdEq x.2.2.1 x.2.2.1<|grdEq x.2.2.2.1 x.2.2.2.1<|grdEq x.2.2.2.2.1 x.2.2.2.2.1<|grdEq x.2.2.2.2.2.1 x.2.2.2.2.2.1<|grdEq x.2.2.2.2.2.2.1 x.2.2.2.2.2.2.1<|grdEq x.2.2.2.2.2.2.2.1 x.2.2.2.2.2.2.2.1<|grdEq x.2.2.2.2.2.2.2.2.1 x.2.2.2.2.2.2.2.2.1<|grdEq x.2.2.2.2.2.2.2.2.2 x.2.2.2.2.2.2.2.2.2 <|  K
@[reducible] def tI:Ty:=.int .i64
@[reducible] def kI:SSh:=.keep tI
@[reducible] def kS:SSh:=.keep .str
@[reducible] def kB:SSh:=.keep .bool
@[reducible] def yI:SSh:=.ty tI
@[reducible] def tK:Ty:=.agg (.cons tI (.cons tI tI))
@[reducible] def tRR:Ty:=(.agg (.cons .str (.cons tI (.cons tI (.cons tI .str)))))
@[reducible] def tQ:Ty:=(.agg (.cons .str (.cons tI tI)))
@[reducible] def tM:Ty:=(.agg (.cons tI (.cons tI (.cons (.list tQ) (.cons (.list tRR) (.cons (.list tRR) (.list tRR)))))))
@[reducible] def yS0:SSh:=(.cons kI (.cons kI (.cons (.keep (.list tQ)) (.cons (.keep (.list tRR)) (.cons (.keep (.list tRR)) (.cons (.keep (.list tRR)) .nil))))))
@[reducible] def yS1:SSh:=(.cons kI (.cons kI (.cons kS (.cons kI (.cons kI (.cons kB (.cons kI (.cons kI (.cons kI (.cons kB .nil))))))))))
@[reducible] def yS2:SSh:=(.cons (.keep (.list (.agg (.cons .str (.cons tI (.cons tI (.cons (.list .str) (.cons tI tI)))))))) (.cons kI (.cons kS (.cons kS (.cons kI (.cons kI (.cons (.keep (.list .str)) (.cons kI (.cons kI .nil)))))))))
@[reducible] def yS3:SSh:=(.cons (.ptr 0 3) (.cons (.ptr 0 4) (.cons (.ptr 0 5) .nil)))
@[reducible] def yS4:SSh:=(.cons kB (.cons kI (.cons kI (.cons kI (.cons kB .nil)))))
@[reducible] def yS5:SSh:=(.cons kI (.cons kI (.cons .nill (.cons .nill (.cons .nill (.cons .nill .nil))))))
@[reducible] def yT6:Ty:=(.agg (.cons (.list (.agg (.cons .str (.cons tI (.cons tI (.cons (.list .str) (.cons tI tI))))))) (.cons tI (.cons .str (.cons .str (.cons tI (.cons tI (.cons (.list .str) (.cons tI tI)))))))))
@[reducible] def yS7:SSh:=(.cons kI (.cons kI .nil))
@[reducible] def yS8:SSh:=(.cons (.ptr 1 3) (.cons (.ptr 1 4) (.cons (.ptr 1 5) .nil)))
@[reducible] def yT9:Ty:=(.agg (.cons tI (.cons tI (.cons .str (.cons tI (.cons tI (.cons .bool (.cons tI (.cons tI (.cons tI .bool))))))))))
@[reducible] def yS10:SSh:=(.cons kS (.cons kI (.cons kI (.cons kI (.cons kS .nil)))))
@[reducible] def yS11:SSh:=(.cons kS (.cons kI (.cons kI (.cons (.keep (.list .str)) (.cons kI .nil)))))
@[reducible] def yS12:SSh:=(.cons kS (.cons kS (.cons (.own .str 0 true) .nil)))
@[reducible] def yS13:SSh:=(.cons kS (.cons kS (.cons .nill .nil)))
@[reducible] def yT14:Ty:=(.agg (.cons .bool (.cons tI (.cons tI (.cons tI .bool)))))
@[reducible] def yT15:Ty:=(.agg (.cons (.list tRR) .bool))
@[reducible] def yS16:SSh:=(anyN 5 (.cons kI (.cons yI (anyN 10 .nil))))
@[reducible] def yS17:SSh:=(anyN 4 (.cons (.ty .str) (anyN 2 (.cons kS (anyN 58 (.cons (.agg yS3) (.cons kI (anyN 4 (.cons (.keep (.list tRR)) (.cons kI (.cons yI (anyN 17 .nil))))))))))))
@[reducible] def yT18:Ty:=(.agg (.cons tI (.cons tI tI)))
@[reducible] def yS19:SSh:=(.own (.int .u8) 0 true)
@[reducible] def yS20:SSh:=(.cons kI yS7)
@[reducible] def yS21:SSh:=(.cons kS (anyN 1 (.cons (.ptr 0 0) (anyN 4 (.cons (.ptr 1 0) (.cons yI (anyN 49 (.cons (.agg yS8) (.cons kI (anyN 37 .nil))))))))))
@[reducible] def yS22:SSh:=(.cons kI (.cons kI (.cons (.own tQ 0 true) (.cons (.own tRR 1 true) (.cons (.own tRR 2 true) (.cons (.own tRR 3 true) .nil))))))
@[reducible] def yS23:SSh:=(anyN 4 (.cons yI (anyN 14 .nil)))
@[reducible] def yS24:SSh:=(.cons kI (.cons kI (.cons (.own tQ 0 true) (.cons (.own tRR 1 true) (.cons (.own tRR 2 true) (.cons .nill .nil))))))
@[reducible] def yS25:SSh:=(.cons (.keep (.list tQ)) (.cons (.own tRR 0 true) (.cons (.ty (.list tRR)) (.cons (.keep (.list tRR)) .nil))))
@[reducible] def yS26:SSh:=(.cons (.keep (.list yT15)) .nil)
@[reducible] def yS27:SSh:=(.cons kI (.cons kI (.cons (.own tQ 0 true) (.cons (.own tRR 1 true) (.cons .nill (.cons .nill .nil))))))
@[reducible] def yS28:SSh:=(anyN 4 (.cons (.ty .str) (anyN 2 (.cons kS (anyN 58 (.cons (.agg yS3) (.cons kI (anyN 24 .nil))))))))
@[reducible] def yT29:Ty:=(.agg (.cons .str (.cons tI (.cons tI (.cons (.list .str) tI)))))
@[reducible] def yS30:SSh:=(.cons kI (.cons kI (.cons (.own tQ 0 true) (.cons .nill (.cons .nill (.cons .nill .nil))))))
@[reducible] def yS31:SSh:=(.keep (.list (.agg (.cons .str (.cons tI (.cons tI (.cons (.list .str) (.cons tI tI))))))))
@[reducible] def yS32:SSh:=(.cons (.keep (.list tRR)) (.cons (.func 129 .nil .nil) yS16))
@[reducible] def yS33:SSh:=(.cons yI (.cons (.adr 0 4) (.cons yS19 .nil)))
@[reducible] def yS34:SSh:=(.own .str 0 true)
@[reducible] def yS35:SSh:=(anyN 44 (.cons (.agg yS8) (.cons kI (anyN 6 (.cons kI (.cons yI (anyN 29 .nil)))))))
@[reducible] def yS36:SSh:=(anyN 2 (.cons (.ptr 0 0) (.cons yI (anyN 93 .nil))))
@[reducible] def yS37:SSh:=(anyN 19 .nil)
@[reducible] def yS38:SSh:=(.cons (.keep (.list tRR)) (.cons (.func 133 .nil .nil) yS16))
@[reducible] def yS39:SSh:=(anyN 6 (.cons (.ty .str) (anyN 46 .nil)))
@[reducible] def yS40:SSh:=(.cons kS yS7)
@[reducible] def yS41:SSh:=(anyN 3 (.cons yS34 (anyN 41 .nil)))
instance dec8 {A B C D E F G H:Type} [DecidableEq A] [DecidableEq B] [DecidableEq C] [DecidableEq D] [DecidableEq E] [DecidableEq F] [DecidableEq G] [DecidableEq H]:DecidableEq (A×B×C×D×E×F×G×H):=@instDecidableEqProd _ _ _ (@instDecidableEqProd _ _ _ (@instDecidableEqProd _ _ _ (inferInstanceAs (DecidableEq (D×E×F×G×H)))))
instance decHit:DecidableEq (List UInt8×Int×Int×List (List UInt8)×Int×Int):=@instDecidableEqProd _ _ _ (@instDecidableEqProd _ _ _ (inferInstanceAs (DecidableEq (Int×List (List UInt8)×Int×Int))))
instance decHits:DecidableEq (List (List UInt8×Int×Int×List (List UInt8)×Int×Int)):=@instDecidableEqList _ decHit
instance decRR:DecidableEq (List UInt8×Int×Int×Int×List UInt8):=@instDecidableEqProd _ _ _ (@instDecidableEqProd _ _ _ (inferInstanceAs (DecidableEq (Int×Int×List UInt8))))
instance decRRs:DecidableEq (List (List UInt8×Int×Int×Int×List UInt8)):=@instDecidableEqList _ decRR
instance decPc:DecidableEq (List (List UInt8×Int×Int×Int×List UInt8)×Bool):=@instDecidableEqProd _ _ decRRs _
instance decPcs:DecidableEq (List (List (List UInt8×Int×Int×Int×List UInt8)×Bool)):=@instDecidableEqList _ decPc
@[reducible] def shpF (k:Int):Option (Int×Int×Int):=(sfind tI (.agg (.cons tI (.cons tI tI))) k (sputM tI (.agg (.cons tI (.cons tI tI))) 33 (6,1,0) (sputM tI (.agg (.cons tI (.cons tI tI))) 15 (2,1,0) (sputM tI (.agg (.cons tI (.cons tI tI))) 6 (0,2,20) (sputM tI (.agg (.cons tI (.cons tI tI))) 12 (0,1,0) (sputM tI (.agg (.cons tI (.cons tI tI))) 5 (0,1,0) (sputM tI (.agg (.cons tI (.cons tI tI))) 2 (0,1,0) (sputM tI (.agg (.cons tI (.cons tI tI))) 28 (16,0,0) (sputM tI (.agg (.cons tI (.cons tI tI))) 1 (4,0,0) [])))))))))
def F_edns_Opt_Limit (o_1:(Bool×(Int×(Int×(Int×Bool))))):Option (Int) :=
 if (!o_1.1)=true then
  some 512
 else
  some (if 4096<if 512 > o_1.2.1 then 512 else o_1.2.1 then 4096 else if 512 > o_1.2.1 then 512 else o_1.2.1)
def ann_edns_Opt_Limit:List (List Nat×Ann):=[]
theorem told_edns_Opt_Limit:Told CC Tryz.prog 26 [yT14] [tI] (fun x=>F_edns_Opt_Limit x):=told_of (n:=100000) (gok (an:=ann_edns_Opt_Limit) (fs:=[]) trivial) rfl rfl (fun x=>by kernel_rfl)
def step_ref02_Small_0:(List (Int)×Int)→Option ((List (Int)×Int) ⊕ List (Int)):=fun (b_2,i_3) =>
 if decide (i_3<(↑b_2.length:Int))=true then
  bnd (α:=(List (Int)×Bool)) (natOf i_3 fun n4 =>
   bnd (b_2[n4]?) fun x5 =>
   if decide (65≤x5)=true then
    natOf i_3 fun n6 =>
    bnd (b_2[n6]?) fun x7 =>
    gq i_3 <|
    some ((b_2,decide (x7≤90)))
   else
    gq i_3 <|
    some ((b_2,false))) fun (b_8,s24_9) =>
  if s24_9=true then
   natOf i_3 fun n10 =>
   bnd (b_8[n10]?) fun x11 =>
   natOf i_3 fun n12 =>
   bnd (b_8[n12]?) fun x13 =>
   some (.inl ((b_8.set n12 (IntKind.u8.wrap (x11+32)),IntKind.i64.wrap (i_3+1))))
  else
   some (.inl ((b_8,IntKind.i64.wrap (i_3+1))))
 else
  some (.inr b_2)
def F_ref02_Small (s_1:List UInt8):Option (List UInt8) :=
 bnd (loopS step_ref02_Small_0 ((List.map (fun b=>(↑b.toNat:Int)) s_1,0))) fun b_14 =>
 some (List.map (fun n=>UInt8.ofNat (Int.toNat n)) b_14)
def ann_ref02_Small:List (List Nat×Ann):=[([17],⟨none,[(.normal,⟨(anyN 3 (.cons yS19 (.cons kI (anyN 19 (.cons (.ty .bool) (anyN 10 .nil)))))),[],[⟨⟨0,(.int .u8),5,true,true⟩,false⟩],[0]⟩)]⟩),([8],⟨some ⟨(anyN 3 (.cons yS19 (.cons yI (anyN 30 .nil)))),[],[⟨⟨0,(.int .u8),5,true,true⟩,false⟩],[0]⟩,[(.exit 0,⟨(anyN 3 (.cons yS19 (anyN 31 .nil))),[],[⟨⟨0,(.int .u8),5,true,true⟩,false⟩],[0]⟩)]⟩)]
theorem told_ref02_Small:Told CC Tryz.prog 44 [.str] [.str] (fun x=>F_ref02_Small x):=told_of (n:=100000) (gok (an:=ann_ref02_Small) (fs:=[]) trivial) rfl rfl (fun x=>by kernel_rfl)
def F_reply_code (c_1:(List ((List UInt8×(Int×(Int×(List (List UInt8)×(Int×Int))))))×(Int×(List UInt8×(List UInt8×(Int×(Int×(List (List UInt8)×(Int×Int))))))))):Option (Int) :=
 if (c_1.2.1==2)=true then
  some 3
 else
  some 0
def ann_reply_code:List (List Nat×Ann):=[]
theorem told_reply_code:Told CC Tryz.prog 62 [yT6] [tI] (fun x=>F_reply_code x):=told_of (n:=100000) (gok (an:=ann_reply_code) (fs:=[]) trivial) rfl rfl (fun x=>by kernel_rfl)
end
end Go.Abs

set_option maxRecDepth 100000
namespace Go.Abs
open Go Go.Proofs
noncomputable section
def step_ref08_few_0 (l_1:List (List UInt8×Int×Int×Int×List UInt8)):Int→Option (Int ⊕ (Bool ⊕ Unit)):=fun i_2 =>
 if decide (i_2<(↑l_1.length:Int))=true then
  natOf i_2 fun n3 =>
  bnd (l_1[n3]?) fun x4 =>
  if decide (300<(↑(List.length x4.1):Int))=false then
   natOf i_2 fun n5 =>
   bnd (l_1[n5]?) fun x6 =>
   if decide (70000<(↑(List.length x6.2.2.2.2):Int))=true then
    some (.inr (.inl false))
   else
    gq l_1 <|
    some (.inl (IntKind.i64.wrap (i_2+1)))
  else
   some (.inr (.inl false))
 else
  some (.inr (.inr (())))
def F_ref08_few (l_1:List ((List UInt8×(Int×(Int×(Int×List UInt8)))))):Option (Bool) :=
 bnd (loopS (step_ref08_few_0 l_1) 0) fun o7 =>
 match o7 with
 | .inl s2_8 =>
  some s2_8
 | .inr _ =>
  some true
def ann_ref08_few:List (List Nat×Ann):=[([6],⟨some ⟨(.cons (.keep (.list tRR)) (anyN 2 (.cons yI (anyN 22 .nil)))),[],[],[]⟩,[(.ret,⟨(anyN 2 (.cons (.ty .bool) (anyN 23 .nil))),[],[],[]⟩),(.exit 0,⟨(anyN 26 .nil),[],[],[]⟩)]⟩)]
theorem told_ref08_few:Told CC Tryz.prog 69 [(.list tRR)] [.bool] (fun x=>F_ref08_few x):=told_of (n:=100000) (gok (an:=ann_ref08_few) (fs:=[]) trivial) rfl rfl (fun x=>by kernel_rfl)
def step_ref08_Small_0 (m_1:Int×Int×List (List UInt8×Int×Int)×List (List UInt8×Int×Int×Int×List UInt8)×List (List UInt8×Int×Int×Int×List UInt8)×List (List UInt8×Int×Int×Int×List UInt8)):Int→Option (Int ⊕ (Bool ⊕ Unit)):=fun i_2 =>
 if decide (i_2<(↑(List.length m_1.2.2.1):Int))=true then
  natOf i_2 fun n3 =>
  bnd (m_1.2.2.1[n3]?) fun x4 =>
  if decide (300<(↑(List.length x4.1):Int))=true then
   g6 m_1 <|
   some (.inr (.inl false))
  else
   g6 m_1 <|
   some (.inl (IntKind.i64.wrap (i_2+1)))
 else
  g6 m_1 <|
  some (.inr (.inr (())))
def F_ref08_Small (m_1:(Int×(Int×(List ((List UInt8×(Int×Int)))×(List ((List UInt8×(Int×(Int×(Int×List UInt8)))))×(List ((List UInt8×(Int×(Int×(Int×List UInt8)))))×List ((List UInt8×(Int×(Int×(Int×List UInt8))))))))))):Option (Bool) :=
 if decide (200<IntKind.i64.wrap (IntKind.i64.wrap (IntKind.i64.wrap ((↑(List.length m_1.2.2.1):Int)+(↑(List.length m_1.2.2.2.1):Int))+(↑(List.length m_1.2.2.2.2.1):Int))+(↑(List.length m_1.2.2.2.2.2):Int)))=true then
  some false
 else
  bnd (loopS (step_ref08_Small_0 m_1) 0) fun o5 =>
  match o5 with
  | .inl s2_6 =>
   some s2_6
  | .inr _ =>
   bnd (F_ref08_few m_1.2.2.2.1) fun v7 =>
   if v7=true then
    bnd (F_ref08_few m_1.2.2.2.2.1) fun v8 =>
    if v8=true then
     bnd (F_ref08_few m_1.2.2.2.2.2) fun v9 =>
     some v9
    else
     some false
   else
    some false
def ann_ref08_Small:List (List Nat×Ann):=[([16],⟨some ⟨(anyN 1 (.cons (.ptr 0 0) (anyN 2 (.cons yI (anyN 45 .nil))))),[.cells 63 true yS0],[],[]⟩,[(.ret,⟨(anyN 2 (.cons (.ty .bool) (anyN 47 .nil))),[.cells 63 true yS0],[],[]⟩),(.exit 0,⟨(anyN 1 (.cons (.ptr 0 0) (anyN 48 .nil))),[.cells 63 true yS0],[],[]⟩)]⟩)]
@[reducible] def fs_ref08_Small:List (Nat×SFn):=[(69,.pure [(.list tRR)] [.bool] (fun x=>F_ref08_few x))]
theorem told_ref08_Small:Told CC Tryz.prog 39 [tM] [.bool] (fun x=>F_ref08_Small x):=told_of (n:=100000) (gok (an:=ann_ref08_Small) (fs:=fs_ref08_Small) ⟨told_ref08_few,trivial⟩) rfl rfl (fun x=>by kernel_rfl)
def step_ref01_Put_0 (n_1:Int) (size_2:Int):(List (Int)×Int)→Option ((List (Int)×Int) ⊕ List (Int)):=fun (b_5,i_6) =>
 if decide (0≤i_6)=true then
  natOf (IntKind.i64.wrap (8*i_6)) fun n7 =>
  grd ((b_5.length+[IntKind.u8.wrap (bits BinOp.and IntKind.i64 (n_1.fdiv (2 ^ min n7 64)) 255)].length)*1≤roomLim) <|
  gq n_1<|gq size_2 <|
  some (.inl ((b_5++[IntKind.u8.wrap (bits BinOp.and IntKind.i64 (n_1.fdiv (2 ^ min n7 64)) 255)],IntKind.i64.wrap (i_6-1))))
 else
  gq n_1<|gq size_2 <|
  some (.inr b_5)
def F_ref01_Put (n_1:Int) (size_2:Int):Option (List UInt8) :=
 bnd (α:=(List UInt8 ⊕ Unit)) (if decide (size_2<1)=false then
   if decide (4<size_2)=false then
    if decide (n_1<0)=true then
     some (.inl ([]))
    else
     gq n_1<|gq size_2 <|
     some (.inr (()))
   else
    some (.inl ([]))
  else
   some (.inl ([]))) fun o3 =>
 match o3 with
 | .inl s4_4 =>
  some s4_4
 | .inr _ =>
  bnd (loopS (step_ref01_Put_0 n_1 size_2) (([],IntKind.i64.wrap (size_2-1)))) fun b_8 =>
  natOf (IntKind.i64.wrap (8*size_2)) fun n9 =>
  if decide (0<n_1.fdiv (2 ^ min n9 64))=true then
   some ([])
  else
   some (List.map (fun n=>UInt8.ofNat (Int.toNat n)) b_8)
def ann_ref01_Put:List (List Nat×Ann):=[([2],⟨none,[(.ret,⟨(anyN 4 (.cons (.ty .str) (anyN 34 .nil))),[],[],[]⟩),(.normal,⟨(.cons kI (.cons kI (anyN 37 .nil))),[],[],[]⟩)]⟩),([16],⟨some ⟨(.cons kI (.cons kI (anyN 3 (.cons yS19 (.cons yI (anyN 32 .nil)))))),[],[⟨⟨0,(.int .u8),5,false,false⟩,true⟩],[]⟩,[(.exit 0,⟨(.cons kI (.cons kI (anyN 3 (.cons yS19 (anyN 33 .nil))))),[],[⟨⟨1,(.int .u8),5,false,false⟩,true⟩],[]⟩)]⟩)]
theorem told_ref01_Put:Told CC Tryz.prog 71 [tI,tI] [.str] (fun x=>F_ref01_Put x.1 x.2):=told_of (n:=100000) (gok (an:=ann_ref01_Put) (fs:=[]) trivial) rfl rfl (fun x=>by kernel_rfl)
def F_ref08_Base (m_1:(Int×(Int×(List ((List UInt8×(Int×Int)))×(List ((List UInt8×(Int×(Int×(Int×List UInt8)))))×(List ((List UInt8×(Int×(Int×(Int×List UInt8)))))×List ((List UInt8×(Int×(Int×(Int×List UInt8))))))))))):Option (List UInt8) :=
 if decide (0<(↑(List.length m_1.2.2.1):Int))=true then
  bnd (m_1.2.2.1[0]?) fun x2 =>
  some x2.1
 else
  some ([0])
def ann_ref08_Base:List (List Nat×Ann):=[]
theorem told_ref08_Base:Told CC Tryz.prog 73 [tM] [.str] (fun x=>F_ref08_Base x):=told_of (n:=100000) (gok (an:=ann_ref08_Base) (fs:=[]) trivial) rfl rfl (fun x=>by kernel_rfl)
def step_ref02_Labels_0 (n_1:List UInt8):(List (List UInt8)×Int)→Option ((List (List UInt8)×Int) ⊕ ((List (List UInt8)×Bool) ⊕ Unit)):=fun (out_4,i_5) =>
 if decide (i_5<(↑n_1.length:Int))=true then
  natOf i_5 fun n6 =>
  bnd (n_1[n6]?) fun x7 =>
  if (IntKind.i64.wrap (↑x7.toNat:Int)==0)=true then
   some (.inr (.inl ((out_4,i_5==IntKind.i64.wrap ((↑n_1.length:Int)-1)))))
  else
   bnd (α:=(Bool ⊕ List (List UInt8))) (if decide (63<IntKind.i64.wrap (↑x7.toNat:Int))=false then
     if decide (IntKind.i64.wrap ((↑n_1.length:Int)-i_5)≤IntKind.i64.wrap (↑x7.toNat:Int))=true then
      some (.inl false)
     else
      grdEq n_1 n_1 <|
      grdEq i_5 i_5 <|
      grdEq (IntKind.i64.wrap (↑x7.toNat:Int)) (IntKind.i64.wrap (↑x7.toNat:Int)) <|
      some (.inr out_4)
    else
     some (.inl false)) fun o8 =>
   match o8 with
   | .inl s3_9 =>
    some (.inr (.inl (([],s3_9))))
   | .inr out_10 =>
    natOf (IntKind.i64.wrap (IntKind.i64.wrap (i_5+1)+IntKind.i64.wrap (↑x7.toNat:Int))) fun n11 =>
    grd (n11≤n_1.length) <|
    natOf (IntKind.i64.wrap (i_5+1)) fun n12 =>
    grd (n12≤n11) <|
    grd ((out_10.length+[List.drop n12 (List.take n11 n_1)].length)*16≤roomLim) <|
    grdEq n_1 n_1 <|
    some (.inl ((out_10++[List.drop n12 (List.take n11 n_1)],IntKind.i64.wrap (IntKind.i64.wrap (i_5+1)+IntKind.i64.wrap (↑x7.toNat:Int)))))
 else
  some (.inr (.inr (())))
def F_ref02_Labels (n_1:List UInt8):Option ((List (List UInt8)×Bool)) :=
 bnd (α:=(Bool ⊕ Unit)) (if decide ((↑n_1.length:Int)<1)=false then
   if decide (255<(↑n_1.length:Int))=true then
    some (.inl false)
   else
    grdEq n_1 n_1 <|
    some (.inr (()))
  else
   some (.inl false)) fun o2 =>
 match o2 with
 | .inl s3_3 =>
  some (([],s3_3))
 | .inr _ =>
  bnd (loopS (step_ref02_Labels_0 n_1) (([],0))) fun o13 =>
  match o13 with
  | .inl (s2_14,s3_15) =>
   some ((s2_14,s3_15))
  | .inr _ =>
   some (([],false))
def ann_ref02_Labels:List (List Nat×Ann):=[([4],⟨none,[(.ret,⟨(anyN 2 (.cons .nill (.cons (.ty .bool) (anyN 52 .nil)))),[],[],[]⟩),(.normal,⟨(.cons kS (anyN 3 (.cons .nill (anyN 51 .nil)))),[],[],[]⟩)]⟩),([34],⟨none,[(.ret,⟨(anyN 2 (.cons .nill (.cons (.ty .bool) (anyN 52 .nil)))),[],[⟨⟨0,.str,9,true,true⟩,false⟩],[]⟩),(.normal,⟨(.cons kS (anyN 3 (.cons yS34 (.cons kI (.cons kI (anyN 49 .nil)))))),[],[⟨⟨0,.str,9,true,true⟩,false⟩],[]⟩)]⟩),([16],⟨some ⟨(.cons kS (anyN 3 (.cons yS34 (.cons yI (anyN 50 .nil))))),[],[⟨⟨0,.str,9,true,true⟩,true⟩],[]⟩,[(.ret,⟨(anyN 2 (.cons yS34 (.cons (.ty .bool) (anyN 52 .nil)))),[],[⟨⟨0,.str,9,true,true⟩,false⟩],[]⟩),(.exit 0,⟨(anyN 56 .nil),[],[⟨⟨0,.str,9,true,true⟩,false⟩],[]⟩)]⟩)]
theorem told_ref02_Labels:Told CC Tryz.prog 74 [.str] [(.list .str),.bool] (fun x=>F_ref02_Labels x):=told_of (n:=100000) (gok (an:=ann_ref02_Labels) (fs:=[]) trivial) rfl rfl (fun x=>by kernel_rfl)
def F_ref02_Check (n_1:List UInt8):Option (Bool) :=
 bnd (F_ref02_Labels n_1) fun (v2,v3) =>
 some v3
def ann_ref02_Check:List (List Nat×Ann):=[]
@[reducible] def fs_ref02_Check:List (Nat×SFn):=[(74,.pure [.str] [(.list .str),.bool] (fun x=>F_ref02_Labels x))]
theorem told_ref02_Check:Told CC Tryz.prog 43 [.str] [.bool] (fun x=>F_ref02_Check x):=told_of (n:=100000) (gok (an:=ann_ref02_Check) (fs:=fs_ref02_Check) ⟨told_ref02_Labels,trivial⟩) rfl rfl (fun x=>by kernel_rfl)
end
end Go.Abs

set_option maxRecDepth 100000
namespace Go.Abs
open Go Go.Proofs
noncomputable section
def F_ref01_Take (s_1:List UInt8) (at_2:Int) (size_3:Int):Option ((List UInt8×Bool)) :=
 if decide (at_2<0)=false then
  if decide (size_3<0)=false then
   if decide ((↑s_1.length:Int)<at_2)=false then
    if decide (IntKind.i64.wrap ((↑s_1.length:Int)-at_2)<size_3)=true then
     some (([],false))
    else
     natOf (IntKind.i64.wrap (at_2+size_3)) fun n4 =>
     grd (n4≤s_1.length) <|
     natOf at_2 fun n5 =>
     grd (n5≤n4) <|
     some ((List.drop n5 (List.take n4 s_1),true))
   else
    some (([],false))
  else
   some (([],false))
 else
  some (([],false))
def ann_ref01_Take:List (List Nat×Ann):=[]
theorem told_ref01_Take:Told CC Tryz.prog 92 [.str,tI,tI] [.str,.bool] (fun x=>F_ref01_Take x.1 x.2.1 x.2.2):=told_of (n:=100000) (gok (an:=ann_ref01_Take) (fs:=[]) trivial) rfl rfl (fun x=>by kernel_rfl)
def step_ref01_Get_0 (size_3:Int) (v4:List UInt8):(Int×Int)→Option ((Int×Int) ⊕ Int):=fun (n_9,i_10) =>
 if decide (i_10<size_3)=true then
  natOf i_10 fun n11 =>
  bnd (v4[n11]?) fun x12 =>
  grdEq size_3 size_3 <|
  grdEq v4 v4 <|
  some (.inl ((IntKind.i64.wrap (IntKind.i64.wrap (256*n_9)+IntKind.i64.wrap (↑x12.toNat:Int)),IntKind.i64.wrap (i_10+1))))
 else
  some (.inr n_9)
def F_ref01_Get (s_1:List UInt8) (at_2:Int) (size_3:Int):Option ((Int×Bool)) :=
 bnd (F_ref01_Take s_1 at_2 size_3) fun (v4,v5) =>
 bnd (α:=((Int×Bool) ⊕ Unit)) (if (!v5)=false then
   if decide (size_3<1)=false then
    if decide (4<size_3)=true then
     some (.inl ((0,false)))
    else
     grdEq size_3 size_3 <|
     grdEq v4 v4 <|
     some (.inr (()))
   else
    some (.inl ((0,false)))
  else
   some (.inl ((0,false)))) fun o6 =>
 match o6 with
 | .inl (s6_7,s7_8) =>
  some ((s6_7,s7_8))
 | .inr _ =>
  bnd (loopS (step_ref01_Get_0 size_3 v4) ((0,0))) fun n_13 =>
  some ((n_13,true))
def ann_ref01_Get:List (List Nat×Ann):=[([4],⟨none,[(.ret,⟨(anyN 6 (.cons yI (.cons (.ty .bool) (anyN 34 .nil)))),[],[],[]⟩),(.normal,⟨(anyN 2 (.cons kI (anyN 5 (.cons kS (anyN 33 .nil))))),[],[],[]⟩)]⟩),([18],⟨some ⟨(anyN 2 (.cons kI (anyN 5 (.cons kS (anyN 1 (.cons yI (.cons yI (anyN 30 .nil)))))))),[],[],[]⟩,[(.exit 0,⟨(anyN 10 (.cons yI (anyN 31 .nil))),[],[],[]⟩)]⟩)]
@[reducible] def fs_ref01_Get:List (Nat×SFn):=[(92,.pure [.str,tI,tI] [.str,.bool] (fun x=>F_ref01_Take x.1 x.2.1 x.2.2))]
theorem told_ref01_Get:Told CC Tryz.prog 53 [.str,tI,tI] [tI,.bool] (fun x=>F_ref01_Get x.1 x.2.1 x.2.2):=told_of (n:=100000) (gok (an:=ann_ref01_Get) (fs:=fs_ref01_Get) ⟨told_ref01_Take,trivial⟩) rfl rfl (fun x=>by kernel_rfl)
def F_ref08_Head (s_1:List UInt8):Option ((Int×(Int×Bool))) :=
 if decide ((↑s_1.length:Int)<12)=true then
  some ((0,(0,false)))
 else
  bnd (F_ref01_Get s_1 0 2) fun (v2,v3) =>
  bnd (F_ref01_Get s_1 2 2) fun (v4,v5) =>
  some ((v2,(v4,true)))
def ann_ref08_Head:List (List Nat×Ann):=[]
@[reducible] def fs_ref08_Head:List (Nat×SFn):=[(53,.pure [.str,tI,tI] [tI,.bool] (fun x=>F_ref01_Get x.1 x.2.1 x.2.2))]
theorem told_ref08_Head:Told CC Tryz.prog 52 [.str] [tI,tI,.bool] (fun x=>F_ref08_Head x):=told_of (n:=100000) (gok (an:=ann_ref08_Head) (fs:=fs_ref08_Head) ⟨told_ref01_Get,trivial⟩) rfl rfl (fun x=>by kernel_rfl)
def F_flag_Field_may (f_1:Int) (bits_2:Int):Option (Bool) :=
 if decide (0≤bits_2)=true then
  if decide (bits_2≤65535)=true then
   if decide (0≤f_1)=true then
    some (decide (f_1<9))
   else
    some false
  else
   some false
 else
  some false
def ann_flag_Field_may:List (List Nat×Ann):=[]
theorem told_flag_Field_may:Told CC Tryz.prog 96 [tI,tI] [.bool] (fun x=>F_flag_Field_may x.1 x.2):=told_of (n:=100000) (gok (an:=ann_flag_Field_may) (fs:=[]) trivial) rfl rfl (fun x=>by kernel_rfl)
def F_flag_place_mask (p_1:(Int×Int)):Option (Int) :=
 natOf p_1.2 fun n2 =>
 some (IntKind.i64.wrap (IntKind.i64.wrap (1*2 ^ min n2 64)-1))
def ann_flag_place_mask:List (List Nat×Ann):=[]
theorem told_flag_place_mask:Told CC Tryz.prog 98 [(.agg (.cons tI tI))] [tI] (fun x=>F_flag_place_mask x):=told_of (n:=100000) (gok (an:=ann_flag_place_mask) (fs:=[]) trivial) rfl rfl (fun x=>by kernel_rfl)
def F_flag_Field_Of (f_1:Int) (bits_2:Int):Option (Int) :=
 bnd (F_flag_Field_may f_1 bits_2) fun v3 =>
 if (!v3)=true then
  some 0
 else
  if (f_1==0)=true then
   bnd (F_flag_place_mask (15,1)) fun v4 =>
   some (bits BinOp.and IntKind.i64 (bits_2.fdiv 32768) v4)
  else
   if (f_1==1)=true then
    bnd (F_flag_place_mask (11,4)) fun v5 =>
    some (bits BinOp.and IntKind.i64 (bits_2.fdiv 2048) v5)
   else
    if (f_1==2)=true then
     bnd (F_flag_place_mask (10,1)) fun v6 =>
     some (bits BinOp.and IntKind.i64 (bits_2.fdiv 1024) v6)
    else
     if (f_1==3)=true then
      bnd (F_flag_place_mask (9,1)) fun v7 =>
      some (bits BinOp.and IntKind.i64 (bits_2.fdiv 512) v7)
     else
      if (f_1==4)=true then
       bnd (F_flag_place_mask (8,1)) fun v8 =>
       some (bits BinOp.and IntKind.i64 (bits_2.fdiv 256) v8)
      else
       if (f_1==5)=true then
        bnd (F_flag_place_mask (7,1)) fun v9 =>
        some (bits BinOp.and IntKind.i64 (bits_2.fdiv 128) v9)
       else
        if (f_1==6)=true then
         bnd (F_flag_place_mask (5,1)) fun v10 =>
         some (bits BinOp.and IntKind.i64 (bits_2.fdiv 32) v10)
        else
         if (f_1==7)=true then
          bnd (F_flag_place_mask (4,1)) fun v11 =>
          some (bits BinOp.and IntKind.i64 (bits_2.fdiv 16) v11)
         else
          if (f_1==8)=true then
           bnd (F_flag_place_mask (0,4)) fun v12 =>
           some (bits BinOp.and IntKind.i64 (bits_2.fdiv 1) v12)
          else
           none
def ann_flag_Field_Of:List (List Nat×Ann):=[]
@[reducible] def fs_flag_Field_Of:List (Nat×SFn):=[(96,.pure [tI,tI] [.bool] (fun x=>F_flag_Field_may x.1 x.2)),(98,.pure [(.agg (.cons tI tI))] [tI] (fun x=>F_flag_place_mask x))]
theorem told_flag_Field_Of:Told CC Tryz.prog 57 [tI,tI] [tI] (fun x=>F_flag_Field_Of x.1 x.2):=told_of (n:=100000) (gok (an:=ann_flag_Field_Of) (fs:=fs_flag_Field_Of) ⟨told_flag_Field_may,told_flag_place_mask,trivial⟩) rfl rfl (fun x=>by kernel_rfl)
def F_flag_Field_With (f_1:Int) (bits_2:Int) (v_3:Int):Option ((Int×Bool)) :=
 bnd (F_flag_Field_may f_1 bits_2) fun v4 =>
 if (!v4)=true then
  some ((0,false))
 else
  if (f_1==0)=true then
   bnd (α:=((Int×Bool) ⊕ Unit)) (if decide (v_3<0)=false then
     bnd (F_flag_place_mask (15,1)) fun v5 =>
     if decide (v5<v_3)=true then
      gq (α:=Int) 15<|gq (α:=Int) 1<|gq (α:=Int) 11<|gq (α:=Int) 4<|gq (α:=Int) 10<|gq (α:=Int) 1<|gq (α:=Int) 9<|gq (α:=Int) 1<|gq (α:=Int) 8<|gq (α:=Int) 1<|gq (α:=Int) 7<|gq (α:=Int) 1<|gq (α:=Int) 5<|gq (α:=Int) 1<|gq (α:=Int) 4<|gq (α:=Int) 1<|gz<|gq (α:=Int) 4<|gq (α:=Int) 15<|gq (α:=Int) 1 <|
      some (.inl ((0,false)))
     else
      gq bits_2<|gq v_3<|gq (α:=Int) 15<|gq (α:=Int) 1<|gq (α:=Int) 11<|gq (α:=Int) 4<|gq (α:=Int) 10<|gq (α:=Int) 1<|gq (α:=Int) 9<|gq (α:=Int) 1<|gq (α:=Int) 8<|gq (α:=Int) 1<|gq (α:=Int) 7<|gq (α:=Int) 1<|gq (α:=Int) 5<|gq (α:=Int) 1<|gq (α:=Int) 4<|gq (α:=Int) 1<|gz<|gq (α:=Int) 4<|gq (α:=Int) 15<|gq (α:=Int) 1 <|
      some (.inr (()))
    else
     gq (α:=Int) 15<|gq (α:=Int) 1<|gq (α:=Int) 11<|gq (α:=Int) 4<|gq (α:=Int) 10<|gq (α:=Int) 1<|gq (α:=Int) 9<|gq (α:=Int) 1<|gq (α:=Int) 8<|gq (α:=Int) 1<|gq (α:=Int) 7<|gq (α:=Int) 1<|gq (α:=Int) 5<|gq (α:=Int) 1<|gq (α:=Int) 4<|gq (α:=Int) 1<|gz<|gq (α:=Int) 4<|gq (α:=Int) 15<|gq (α:=Int) 1 <|
     some (.inl ((0,false)))) fun o6 =>
   match o6 with
   | .inl (s6_7,s7_8) =>
    some ((s6_7,s7_8))
   | .inr _ =>
    bnd (F_flag_place_mask (15,1)) fun v9 =>
    some ((bits BinOp.or IntKind.i64 (bits BinOp.andNot IntKind.i64 bits_2 (IntKind.i64.wrap (v9*32768))) (IntKind.i64.wrap (v_3*32768)),true))
  else
   if (f_1==1)=true then
    bnd (α:=((Int×Bool) ⊕ Unit)) (if decide (v_3<0)=false then
      bnd (F_flag_place_mask (11,4)) fun v10 =>
      if decide (v10<v_3)=true then
       gq (α:=Int) 15<|gq (α:=Int) 1<|gq (α:=Int) 11<|gq (α:=Int) 4<|gq (α:=Int) 10<|gq (α:=Int) 1<|gq (α:=Int) 9<|gq (α:=Int) 1<|gq (α:=Int) 8<|gq (α:=Int) 1<|gq (α:=Int) 7<|gq (α:=Int) 1<|gq (α:=Int) 5<|gq (α:=Int) 1<|gq (α:=Int) 4<|gq (α:=Int) 1<|gz<|gq (α:=Int) 4<|gq (α:=Int) 11<|gq (α:=Int) 4 <|
       some (.inl ((0,false)))
      else
       gq bits_2<|gq v_3<|gq (α:=Int) 15<|gq (α:=Int) 1<|gq (α:=Int) 11<|gq (α:=Int) 4<|gq (α:=Int) 10<|gq (α:=Int) 1<|gq (α:=Int) 9<|gq (α:=Int) 1<|gq (α:=Int) 8<|gq (α:=Int) 1<|gq (α:=Int) 7<|gq (α:=Int) 1<|gq (α:=Int) 5<|gq (α:=Int) 1<|gq (α:=Int) 4<|gq (α:=Int) 1<|gz<|gq (α:=Int) 4<|gq (α:=Int) 11<|gq (α:=Int) 4 <|
       some (.inr (()))
     else
      gq (α:=Int) 15<|gq (α:=Int) 1<|gq (α:=Int) 11<|gq (α:=Int) 4<|gq (α:=Int) 10<|gq (α:=Int) 1<|gq (α:=Int) 9<|gq (α:=Int) 1<|gq (α:=Int) 8<|gq (α:=Int) 1<|gq (α:=Int) 7<|gq (α:=Int) 1<|gq (α:=Int) 5<|gq (α:=Int) 1<|gq (α:=Int) 4<|gq (α:=Int) 1<|gz<|gq (α:=Int) 4<|gq (α:=Int) 11<|gq (α:=Int) 4 <|
      some (.inl ((0,false)))) fun o11 =>
    match o11 with
    | .inl (s6_12,s7_13) =>
     some ((s6_12,s7_13))
    | .inr _ =>
     bnd (F_flag_place_mask (11,4)) fun v14 =>
     some ((bits BinOp.or IntKind.i64 (bits BinOp.andNot IntKind.i64 bits_2 (IntKind.i64.wrap (v14*2048))) (IntKind.i64.wrap (v_3*2048)),true))
   else
    if (f_1==2)=true then
     bnd (α:=((Int×Bool) ⊕ Unit)) (if decide (v_3<0)=false then
       bnd (F_flag_place_mask (10,1)) fun v15 =>
       if decide (v15<v_3)=true then
        gq (α:=Int) 15<|gq (α:=Int) 1<|gq (α:=Int) 11<|gq (α:=Int) 4<|gq (α:=Int) 10<|gq (α:=Int) 1<|gq (α:=Int) 9<|gq (α:=Int) 1<|gq (α:=Int) 8<|gq (α:=Int) 1<|gq (α:=Int) 7<|gq (α:=Int) 1<|gq (α:=Int) 5<|gq (α:=Int) 1<|gq (α:=Int) 4<|gq (α:=Int) 1<|gz<|gq (α:=Int) 4<|gq (α:=Int) 10<|gq (α:=Int) 1 <|
        some (.inl ((0,false)))
       else
        gq bits_2<|gq v_3<|gq (α:=Int) 15<|gq (α:=Int) 1<|gq (α:=Int) 11<|gq (α:=Int) 4<|gq (α:=Int) 10<|gq (α:=Int) 1<|gq (α:=Int) 9<|gq (α:=Int) 1<|gq (α:=Int) 8<|gq (α:=Int) 1<|gq (α:=Int) 7<|gq (α:=Int) 1<|gq (α:=Int) 5<|gq (α:=Int) 1<|gq (α:=Int) 4<|gq (α:=Int) 1<|gz<|gq (α:=Int) 4<|gq (α:=Int) 10<|gq (α:=Int) 1 <|
        some (.inr (()))
      else
       gq (α:=Int) 15<|gq (α:=Int) 1<|gq (α:=Int) 11<|gq (α:=Int) 4<|gq (α:=Int) 10<|gq (α:=Int) 1<|gq (α:=Int) 9<|gq (α:=Int) 1<|gq (α:=Int) 8<|gq (α:=Int) 1<|gq (α:=Int) 7<|gq (α:=Int) 1<|gq (α:=Int) 5<|gq (α:=Int) 1<|gq (α:=Int) 4<|gq (α:=Int) 1<|gz<|gq (α:=Int) 4<|gq (α:=Int) 10<|gq (α:=Int) 1 <|
       some (.inl ((0,false)))) fun o16 =>
     match o16 with
     | .inl (s6_17,s7_18) =>
      some ((s6_17,s7_18))
     | .inr _ =>
      bnd (F_flag_place_mask (10,1)) fun v19 =>
      some ((bits BinOp.or IntKind.i64 (bits BinOp.andNot IntKind.i64 bits_2 (IntKind.i64.wrap (v19*1024))) (IntKind.i64.wrap (v_3*1024)),true))
    else
     if (f_1==3)=true then
      bnd (α:=((Int×Bool) ⊕ Unit)) (if decide (v_3<0)=false then
        bnd (F_flag_place_mask (9,1)) fun v20 =>
        if decide (v20<v_3)=true then
         gq (α:=Int) 15<|gq (α:=Int) 1<|gq (α:=Int) 11<|gq (α:=Int) 4<|gq (α:=Int) 10<|gq (α:=Int) 1<|gq (α:=Int) 9<|gq (α:=Int) 1<|gq (α:=Int) 8<|gq (α:=Int) 1<|gq (α:=Int) 7<|gq (α:=Int) 1<|gq (α:=Int) 5<|gq (α:=Int) 1<|gq (α:=Int) 4<|gq (α:=Int) 1<|gz<|gq (α:=Int) 4<|gq (α:=Int) 9<|gq (α:=Int) 1 <|
         some (.inl ((0,false)))
        else
         gq bits_2<|gq v_3<|gq (α:=Int) 15<|gq (α:=Int) 1<|gq (α:=Int) 11<|gq (α:=Int) 4<|gq (α:=Int) 10<|gq (α:=Int) 1<|gq (α:=Int) 9<|gq (α:=Int) 1<|gq (α:=Int) 8<|gq (α:=Int) 1<|gq (α:=Int) 7<|gq (α:=Int) 1<|gq (α:=Int) 5<|gq (α:=Int) 1<|gq (α:=Int) 4<|gq (α:=Int) 1<|gz<|gq (α:=Int) 4<|gq (α:=Int) 9<|gq (α:=Int) 1 <|
         some (.inr (()))
       else
        gq (α:=Int) 15<|gq (α:=Int) 1<|gq (α:=Int) 11<|gq (α:=Int) 4<|gq (α:=Int) 10<|gq (α:=Int) 1<|gq (α:=Int) 9<|gq (α:=Int) 1<|gq (α:=Int) 8<|gq (α:=Int) 1<|gq (α:=Int) 7<|gq (α:=Int) 1<|gq (α:=Int) 5<|gq (α:=Int) 1<|gq (α:=Int) 4<|gq (α:=Int) 1<|gz<|gq (α:=Int) 4<|gq (α:=Int) 9<|gq (α:=Int) 1 <|
        some (.inl ((0,false)))) fun o21 =>
      match o21 with
      | .inl (s6_22,s7_23) =>
       some ((s6_22,s7_23))
      | .inr _ =>
       bnd (F_flag_place_mask (9,1)) fun v24 =>
       some ((bits BinOp.or IntKind.i64 (bits BinOp.andNot IntKind.i64 bits_2 (IntKind.i64.wrap (v24*512))) (IntKind.i64.wrap (v_3*512)),true))
     else
      if (f_1==4)=true then
       bnd (α:=((Int×Bool) ⊕ Unit)) (if decide (v_3<0)=false then
         bnd (F_flag_place_mask (8,1)) fun v25 =>
         if decide (v25<v_3)=true then
          gq (α:=Int) 15<|gq (α:=Int) 1<|gq (α:=Int) 11<|gq (α:=Int) 4<|gq (α:=Int) 10<|gq (α:=Int) 1<|gq (α:=Int) 9<|gq (α:=Int) 1<|gq (α:=Int) 8<|gq (α:=Int) 1<|gq (α:=Int) 7<|gq (α:=Int) 1<|gq (α:=Int) 5<|gq (α:=Int) 1<|gq (α:=Int) 4<|gq (α:=Int) 1<|gz<|gq (α:=Int) 4<|gq (α:=Int) 8<|gq (α:=Int) 1 <|
          some (.inl ((0,false)))
         else
          gq bits_2<|gq v_3<|gq (α:=Int) 15<|gq (α:=Int) 1<|gq (α:=Int) 11<|gq (α:=Int) 4<|gq (α:=Int) 10<|gq (α:=Int) 1<|gq (α:=Int) 9<|gq (α:=Int) 1<|gq (α:=Int) 8<|gq (α:=Int) 1<|gq (α:=Int) 7<|gq (α:=Int) 1<|gq (α:=Int) 5<|gq (α:=Int) 1<|gq (α:=Int) 4<|gq (α:=Int) 1<|gz<|gq (α:=Int) 4<|gq (α:=Int) 8<|gq (α:=Int) 1 <|
          some (.inr (()))
        else
         gq (α:=Int) 15<|gq (α:=Int) 1<|gq (α:=Int) 11<|gq (α:=Int) 4<|gq (α:=Int) 10<|gq (α:=Int) 1<|gq (α:=Int) 9<|gq (α:=Int) 1<|gq (α:=Int) 8<|gq (α:=Int) 1<|gq (α:=Int) 7<|gq (α:=Int) 1<|gq (α:=Int) 5<|gq (α:=Int) 1<|gq (α:=Int) 4<|gq (α:=Int) 1<|gz<|gq (α:=Int) 4<|gq (α:=Int) 8<|gq (α:=Int) 1 <|
         some (.inl ((0,false)))) fun o26 =>
       match o26 with
       | .inl (s6_27,s7_28) =>
        some ((s6_27,s7_28))
       | .inr _ =>
        bnd (F_flag_place_mask (8,1)) fun v29 =>
        some ((bits BinOp.or IntKind.i64 (bits BinOp.andNot IntKind.i64 bits_2 (IntKind.i64.wrap (v29*256))) (IntKind.i64.wrap (v_3*256)),true))
      else
       if (f_1==5)=true then
        bnd (α:=((Int×Bool) ⊕ Unit)) (if decide (v_3<0)=false then
          bnd (F_flag_place_mask (7,1)) fun v30 =>
          if decide (v30<v_3)=true then
           gq (α:=Int) 15<|gq (α:=Int) 1<|gq (α:=Int) 11<|gq (α:=Int) 4<|gq (α:=Int) 10<|gq (α:=Int) 1<|gq (α:=Int) 9<|gq (α:=Int) 1<|gq (α:=Int) 8<|gq (α:=Int) 1<|gq (α:=Int) 7<|gq (α:=Int) 1<|gq (α:=Int) 5<|gq (α:=Int) 1<|gq (α:=Int) 4<|gq (α:=Int) 1<|gz<|gq (α:=Int) 4<|gq (α:=Int) 7<|gq (α:=Int) 1 <|
           some (.inl ((0,false)))
          else
           gq bits_2<|gq v_3<|gq (α:=Int) 15<|gq (α:=Int) 1<|gq (α:=Int) 11<|gq (α:=Int) 4<|gq (α:=Int) 10<|gq (α:=Int) 1<|gq (α:=Int) 9<|gq (α:=Int) 1<|gq (α:=Int) 8<|gq (α:=Int) 1<|gq (α:=Int) 7<|gq (α:=Int) 1<|gq (α:=Int) 5<|gq (α:=Int) 1<|gq (α:=Int) 4<|gq (α:=Int) 1<|gz<|gq (α:=Int) 4<|gq (α:=Int) 7<|gq (α:=Int) 1 <|
           some (.inr (()))
         else
          gq (α:=Int) 15<|gq (α:=Int) 1<|gq (α:=Int) 11<|gq (α:=Int) 4<|gq (α:=Int) 10<|gq (α:=Int) 1<|gq (α:=Int) 9<|gq (α:=Int) 1<|gq (α:=Int) 8<|gq (α:=Int) 1<|gq (α:=Int) 7<|gq (α:=Int) 1<|gq (α:=Int) 5<|gq (α:=Int) 1<|gq (α:=Int) 4<|gq (α:=Int) 1<|gz<|gq (α:=Int) 4<|gq (α:=Int) 7<|gq (α:=Int) 1 <|
          some (.inl ((0,false)))) fun o31 =>
        match o31 with
        | .inl (s6_32,s7_33) =>
         some ((s6_32,s7_33))
        | .inr _ =>
         bnd (F_flag_place_mask (7,1)) fun v34 =>
         some ((bits BinOp.or IntKind.i64 (bits BinOp.andNot IntKind.i64 bits_2 (IntKind.i64.wrap (v34*128))) (IntKind.i64.wrap (v_3*128)),true))
       else
        if (f_1==6)=true then
         bnd (α:=((Int×Bool) ⊕ Unit)) (if decide (v_3<0)=false then
           bnd (F_flag_place_mask (5,1)) fun v35 =>
           if decide (v35<v_3)=true then
            gq (α:=Int) 15<|gq (α:=Int) 1<|gq (α:=Int) 11<|gq (α:=Int) 4<|gq (α:=Int) 10<|gq (α:=Int) 1<|gq (α:=Int) 9<|gq (α:=Int) 1<|gq (α:=Int) 8<|gq (α:=Int) 1<|gq (α:=Int) 7<|gq (α:=Int) 1<|gq (α:=Int) 5<|gq (α:=Int) 1<|gq (α:=Int) 4<|gq (α:=Int) 1<|gz<|gq (α:=Int) 4<|gq (α:=Int) 5<|gq (α:=Int) 1 <|
            some (.inl ((0,false)))
           else
            gq bits_2<|gq v_3<|gq (α:=Int) 15<|gq (α:=Int) 1<|gq (α:=Int) 11<|gq (α:=Int) 4<|gq (α:=Int) 10<|gq (α:=Int) 1<|gq (α:=Int) 9<|gq (α:=Int) 1<|gq (α:=Int) 8<|gq (α:=Int) 1<|gq (α:=Int) 7<|gq (α:=Int) 1<|gq (α:=Int) 5<|gq (α:=Int) 1<|gq (α:=Int) 4<|gq (α:=Int) 1<|gz<|gq (α:=Int) 4<|gq (α:=Int) 5<|gq (α:=Int) 1 <|
            some (.inr (()))
          else
           gq (α:=Int) 15<|gq (α:=Int) 1<|gq (α:=Int) 11<|gq (α:=Int) 4<|gq (α:=Int) 10<|gq (α:=Int) 1<|gq (α:=Int) 9<|gq (α:=Int) 1<|gq (α:=Int) 8<|gq (α:=Int) 1<|gq (α:=Int) 7<|gq (α:=Int) 1<|gq (α:=Int) 5<|gq (α:=Int) 1<|gq (α:=Int) 4<|gq (α:=Int) 1<|gz<|gq (α:=Int) 4<|gq (α:=Int) 5<|gq (α:=Int) 1 <|
           some (.inl ((0,false)))) fun o36 =>
         match o36 with
         | .inl (s6_37,s7_38) =>
          some ((s6_37,s7_38))
         | .inr _ =>
          bnd (F_flag_place_mask (5,1)) fun v39 =>
          some ((bits BinOp.or IntKind.i64 (bits BinOp.andNot IntKind.i64 bits_2 (IntKind.i64.wrap (v39*32))) (IntKind.i64.wrap (v_3*32)),true))
        else
         if (f_1==7)=true then
          bnd (α:=((Int×Bool) ⊕ Unit)) (if decide (v_3<0)=false then
            bnd (F_flag_place_mask (4,1)) fun v40 =>
            if decide (v40<v_3)=true then
             gq (α:=Int) 15<|gq (α:=Int) 1<|gq (α:=Int) 11<|gq (α:=Int) 4<|gq (α:=Int) 10<|gq (α:=Int) 1<|gq (α:=Int) 9<|gq (α:=Int) 1<|gq (α:=Int) 8<|gq (α:=Int) 1<|gq (α:=Int) 7<|gq (α:=Int) 1<|gq (α:=Int) 5<|gq (α:=Int) 1<|gq (α:=Int) 4<|gq (α:=Int) 1<|gz<|gq (α:=Int) 4<|gq (α:=Int) 4<|gq (α:=Int) 1 <|
             some (.inl ((0,false)))
            else
             gq bits_2<|gq v_3<|gq (α:=Int) 15<|gq (α:=Int) 1<|gq (α:=Int) 11<|gq (α:=Int) 4<|gq (α:=Int) 10<|gq (α:=Int) 1<|gq (α:=Int) 9<|gq (α:=Int) 1<|gq (α:=Int) 8<|gq (α:=Int) 1<|gq (α:=Int) 7<|gq (α:=Int) 1<|gq (α:=Int) 5<|gq (α:=Int) 1<|gq (α:=Int) 4<|gq (α:=Int) 1<|gz<|gq (α:=Int) 4<|gq (α:=Int) 4<|gq (α:=Int) 1 <|
             some (.inr (()))
           else
            gq (α:=Int) 15<|gq (α:=Int) 1<|gq (α:=Int) 11<|gq (α:=Int) 4<|gq (α:=Int) 10<|gq (α:=Int) 1<|gq (α:=Int) 9<|gq (α:=Int) 1<|gq (α:=Int) 8<|gq (α:=Int) 1<|gq (α:=Int) 7<|gq (α:=Int) 1<|gq (α:=Int) 5<|gq (α:=Int) 1<|gq (α:=Int) 4<|gq (α:=Int) 1<|gz<|gq (α:=Int) 4<|gq (α:=Int) 4<|gq (α:=Int) 1 <|
            some (.inl ((0,false)))) fun o41 =>
          match o41 with
          | .inl (s6_42,s7_43) =>
           some ((s6_42,s7_43))
          | .inr _ =>
           bnd (F_flag_place_mask (4,1)) fun v44 =>
           some ((bits BinOp.or IntKind.i64 (bits BinOp.andNot IntKind.i64 bits_2 (IntKind.i64.wrap (v44*16))) (IntKind.i64.wrap (v_3*16)),true))
         else
          if (f_1==8)=true then
           bnd (α:=((Int×Bool) ⊕ Unit)) (if decide (v_3<0)=false then
             bnd (F_flag_place_mask (0,4)) fun v45 =>
             if decide (v45<v_3)=true then
              gq (α:=Int) 15<|gq (α:=Int) 1<|gq (α:=Int) 11<|gq (α:=Int) 4<|gq (α:=Int) 10<|gq (α:=Int) 1<|gq (α:=Int) 9<|gq (α:=Int) 1<|gq (α:=Int) 8<|gq (α:=Int) 1<|gq (α:=Int) 7<|gq (α:=Int) 1<|gq (α:=Int) 5<|gq (α:=Int) 1<|gq (α:=Int) 4<|gq (α:=Int) 1<|gz<|gq (α:=Int) 4<|gz<|gq (α:=Int) 4 <|
              some (.inl ((0,false)))
             else
              gq bits_2<|gq v_3<|gq (α:=Int) 15<|gq (α:=Int) 1<|gq (α:=Int) 11<|gq (α:=Int) 4<|gq (α:=Int) 10<|gq (α:=Int) 1<|gq (α:=Int) 9<|gq (α:=Int) 1<|gq (α:=Int) 8<|gq (α:=Int) 1<|gq (α:=Int) 7<|gq (α:=Int) 1<|gq (α:=Int) 5<|gq (α:=Int) 1<|gq (α:=Int) 4<|gq (α:=Int) 1<|gz<|gq (α:=Int) 4<|gz<|gq (α:=Int) 4 <|
              some (.inr (()))
            else
             gq (α:=Int) 15<|gq (α:=Int) 1<|gq (α:=Int) 11<|gq (α:=Int) 4<|gq (α:=Int) 10<|gq (α:=Int) 1<|gq (α:=Int) 9<|gq (α:=Int) 1<|gq (α:=Int) 8<|gq (α:=Int) 1<|gq (α:=Int) 7<|gq (α:=Int) 1<|gq (α:=Int) 5<|gq (α:=Int) 1<|gq (α:=Int) 4<|gq (α:=Int) 1<|gz<|gq (α:=Int) 4<|gz<|gq (α:=Int) 4 <|
             some (.inl ((0,false)))) fun o46 =>
           match o46 with
           | .inl (s6_47,s7_48) =>
            some ((s6_47,s7_48))
           | .inr _ =>
            bnd (F_flag_place_mask (0,4)) fun v49 =>
            some ((bits BinOp.or IntKind.i64 (bits BinOp.andNot IntKind.i64 bits_2 (IntKind.i64.wrap (v49*1))) (IntKind.i64.wrap (v_3*1)),true))
          else
           none
def ann_flag_Field_With:List (List Nat×Ann):=[([12],⟨none,[(.ret,⟨(anyN 6 (.cons yI (.cons (.ty .bool) (anyN 28 .nil)))),[.cells 170 true (.cons kI (.cons kI (.cons kI (.cons kI (.cons kI (.cons kI (.cons kI (.cons kI (.cons kI (.cons kI (.cons kI (.cons kI (.cons kI (.cons kI (.cons kI yS20))))))))))))))),.cells 169 true yS7],[],[]⟩),(.normal,⟨(anyN 1 (.cons kI (.cons kI (anyN 5 (.cons (.ptr 1 0) (anyN 27 .nil)))))),[.cells 170 true (.cons kI (.cons kI (.cons kI (.cons kI (.cons kI (.cons kI (.cons kI (.cons kI (.cons kI (.cons kI (.cons kI (.cons kI (.cons kI (.cons kI (.cons kI yS20))))))))))))))),.cells 169 true yS7],[],[]⟩)]⟩)]
@[reducible] def fs_flag_Field_With:List (Nat×SFn):=[(96,.pure [tI,tI] [.bool] (fun x=>F_flag_Field_may x.1 x.2)),(98,.pure [(.agg (.cons tI tI))] [tI] (fun x=>F_flag_place_mask x))]
theorem told_flag_Field_With:Told CC Tryz.prog 63 [tI,tI,tI] [tI,.bool] (fun x=>F_flag_Field_With x.1 x.2.1 x.2.2):=told_of (n:=100000) (gok (an:=ann_flag_Field_With) (fs:=fs_flag_Field_With) ⟨told_flag_Field_may,told_flag_place_mask,trivial⟩) rfl rfl (fun x=>by kernel_rfl)
def F_ref08_small (n_1:Int):Option (Bool) :=
 if decide (0≤n_1)=true then
  some (decide (n_1≤65535))
 else
  some false
def ann_ref08_small:List (List Nat×Ann):=[]
theorem told_ref08_small:Told CC Tryz.prog 106 [tI] [.bool] (fun x=>F_ref08_small x):=told_of (n:=100000) (gok (an:=ann_ref08_small) (fs:=[]) trivial) rfl rfl (fun x=>by kernel_rfl)
end
end Go.Abs

set_option maxRecDepth 100000
namespace Go.Abs
open Go Go.Proofs
noncomputable section
def step_name_split_0:(List UInt8×List (List UInt8))→Option ((List UInt8×List (List UInt8)) ⊕ (Bool ⊕ (List UInt8×List (List UInt8)))):=fun (n_2,l_3) =>
 bnd (α:=(List (List UInt8) ⊕ List (List UInt8))) (if decide (0<(↑n_2.length:Int))=true then
   if (!n_2==[0])=true then
    gq n_2 <|
    some (.inl l_3)
   else
    gq n_2 <|
    some (.inr l_3)
  else
   gq n_2 <|
   some (.inr l_3)) fun o4 =>
 match o4 with
 | .inl l_5 =>
  bnd (n_2[0]?) fun x6 =>
  bnd (α:=(Bool ⊕ List (List UInt8))) (if decide (IntKind.i64.wrap (↑x6.toNat:Int)<1)=false then
    if decide (63<IntKind.i64.wrap (↑x6.toNat:Int))=false then
     if decide ((↑n_2.length:Int)≤IntKind.i64.wrap (IntKind.i64.wrap (↑x6.toNat:Int)+1))=true then
      some (.inl false)
     else
      gq n_2 <|
      grdEq (IntKind.i64.wrap (↑x6.toNat:Int)) (IntKind.i64.wrap (↑x6.toNat:Int)) <|
      some (.inr l_5)
    else
     some (.inl false)
   else
    some (.inl false)) fun o7 =>
  match o7 with
  | .inl s3_8 =>
   some (.inr (.inl s3_8))
  | .inr l_9 =>
   natOf (IntKind.i64.wrap (1+IntKind.i64.wrap (↑x6.toNat:Int))) fun n10 =>
   grd (n10≤n_2.length) <|
   grd (1≤n10) <|
   grd ((l_9.length+[List.drop 1 (List.take n10 n_2)].length)*16≤roomLim) <|
   natOf (IntKind.i64.wrap (1+IntKind.i64.wrap (↑x6.toNat:Int))) fun n11 =>
   grd (n11≤n_2.length) <|
   some (.inl ((List.drop n11 n_2,l_9++[List.drop 1 (List.take n10 n_2)])))
 | .inr l_12 =>
  some (.inr (.inr ((n_2,l_12))))
def F_name_split (n_1:List UInt8):Option ((List (List UInt8)×Bool)) :=
 if decide (255<(↑n_1.length:Int))=true then
  some (([],false))
 else
  bnd (loopS step_name_split_0 ((n_1,[]))) fun o13 =>
  match o13 with
  | .inl s3_14 =>
   some (([],s3_14))
  | .inr (n_15,l_16) =>
   some ((l_16,n_15==[0]))
def ann_name_split:List (List Nat×Ann):=[([15],⟨none,[(.normal,⟨(.cons kS yS41),[],[⟨⟨0,.str,9,true,true⟩,false⟩],[]⟩),(.exit 0,⟨(.cons kS yS41),[],[⟨⟨0,.str,9,true,true⟩,false⟩],[]⟩)]⟩),([24],⟨none,[(.ret,⟨(anyN 2 (.cons .nill (.cons (.ty .bool) (anyN 42 .nil)))),[],[⟨⟨0,.str,9,true,true⟩,false⟩],[]⟩),(.normal,⟨(.cons kS (anyN 3 (.cons yS34 (.cons kI (anyN 40 .nil))))),[],[⟨⟨0,.str,9,true,true⟩,false⟩],[]⟩)]⟩),([14],⟨some ⟨(.cons (.ty .str) yS41),[],[⟨⟨0,.str,9,true,true⟩,true⟩],[]⟩,[(.ret,⟨(anyN 2 (.cons .nill (.cons (.ty .bool) (anyN 42 .nil)))),[],[⟨⟨0,.str,9,true,true⟩,false⟩],[]⟩),(.exit 0,⟨(.cons (.ty .str) yS41),[],[⟨⟨0,.str,9,true,true⟩,false⟩],[]⟩)]⟩)]
theorem told_name_split:Told CC Tryz.prog 110 [.str] [(.list .str),.bool] (fun x=>F_name_split x):=told_of (n:=100000) (gok (an:=ann_name_split) (fs:=[]) trivial) rfl rfl (fun x=>by kernel_rfl)
def F_name_Check (n_1:List UInt8):Option (Bool) :=
 bnd (F_name_split n_1) fun (v2,v3) =>
 some v3
def ann_name_Check:List (List Nat×Ann):=[]
@[reducible] def fs_name_Check:List (Nat×SFn):=[(110,.pure [.str] [(.list .str),.bool] (fun x=>F_name_split x))]
theorem told_name_Check:Told CC Tryz.prog 75 [.str] [.bool] (fun x=>F_name_Check x):=told_of (n:=100000) (gok (an:=ann_name_Check) (fs:=fs_name_Check) ⟨told_name_split,trivial⟩) rfl rfl (fun x=>by kernel_rfl)
def F_group_in (n_1:Int) (most_2:Int):Option (Bool) :=
 if decide (0≤n_1)=true then
  some (decide (n_1≤most_2))
 else
  some false
def ann_group_in:List (List Nat×Ann):=[]
theorem told_group_in:Told CC Tryz.prog 113 [tI,tI] [.bool] (fun x=>F_group_in x.1 x.2):=told_of (n:=100000) (gok (an:=ann_group_in) (fs:=[]) trivial) rfl rfl (fun x=>by kernel_rfl)
def F_flag_Field_lay (f_1:Int) (bits_2:Int) (v_3:Int):Option (Int) :=
 bnd (F_flag_Field_With f_1 bits_2 v_3) fun (v4,v5) =>
 some v4
def ann_flag_Field_lay:List (List Nat×Ann):=[]
@[reducible] def fs_flag_Field_lay:List (Nat×SFn):=[(63,.pure [tI,tI,tI] [tI,.bool] (fun x=>F_flag_Field_With x.1 x.2.1 x.2.2))]
theorem told_flag_Field_lay:Told CC Tryz.prog 117 [tI,tI,tI] [tI] (fun x=>F_flag_Field_lay x.1 x.2.1 x.2.2):=told_of (n:=100000) (gok (an:=ann_flag_Field_lay) (fs:=fs_flag_Field_lay) ⟨told_flag_Field_With,trivial⟩) rfl rfl (fun x=>by kernel_rfl)
def step_flag_Answer_0 (asked_1:Int):(Int×Int)→Option ((Int×Int) ⊕ Int):=fun (bits_6,s17_7) =>
 if decide (s17_7<3)=true then
  natOf s17_7 fun n8 =>
  bnd ([1,4,7][n8]?) fun x9 =>
  bnd (F_flag_Field_Of x9 asked_1) fun v10 =>
  bnd (F_flag_Field_lay x9 bits_6 v10) fun v11 =>
  gq asked_1 <|
  grdEq (α:=List (Int)) ([1,4,7]) ([1,4,7]) <|
  gq (α:=Int) 3 <|
  some (.inl ((v11,IntKind.i64.wrap (s17_7+1))))
 else
  some (.inr bits_6)
def F_flag_Answer (asked_1:Int) (code_2:Int):Option (Int) :=
 bnd (F_flag_Field_lay 5 0 1) fun v3 =>
 bnd (F_flag_Field_lay 0 v3 1) fun v4 =>
 bnd (F_flag_Field_lay 8 v4 (bits BinOp.and IntKind.i64 (if 0 > code_2 then 0 else code_2) 15)) fun v5 =>
 bnd (loopS (step_flag_Answer_0 asked_1) ((v5,0))) fun bits_12 =>
 some bits_12
def ann_flag_Answer:List (List Nat×Ann):=[([10],⟨some ⟨(.cons kI (anyN 4 (.cons yI (.cons (.func 57 .nil .nil) (anyN 8 (.cons (.keep (.list tI)) (.cons kI (.cons yI (anyN 12 .nil))))))))),[],[],[]⟩,[(.exit 0,⟨(anyN 5 (.cons yI (anyN 24 .nil))),[],[],[]⟩)]⟩)]
@[reducible] def fs_flag_Answer:List (Nat×SFn):=[(57,.pure [tI,tI] [tI] (fun x=>F_flag_Field_Of x.1 x.2)),(117,.pure [tI,tI,tI] [tI] (fun x=>F_flag_Field_lay x.1 x.2.1 x.2.2))]
theorem told_flag_Answer:Told CC Tryz.prog 84 [tI,tI] [tI] (fun x=>F_flag_Answer x.1 x.2):=told_of (n:=100000) (gok (an:=ann_flag_Answer) (fs:=fs_flag_Answer) ⟨told_flag_Field_Of,told_flag_Field_lay,trivial⟩) rfl rfl (fun x=>by kernel_rfl)
def F_ref04_bad (e_1:Int):Option ((List UInt8×(Int×Int))) :=
 some (([],(0,e_1)))
def ann_ref04_bad:List (List Nat×Ann):=[]
theorem told_ref04_bad:Told CC Tryz.prog 121 [tI] [.str,tI,tI] (fun x=>F_ref04_bad x):=told_of (n:=100000) (gok (an:=ann_ref04_bad) (fs:=[]) trivial) rfl rfl (fun x=>by kernel_rfl)
def step_ref04_Read_0 (msg_1:List UInt8):(Int×(List UInt8×(Int×Int)))→Option ((Int×(List UInt8×(Int×Int))) ⊕ (List UInt8×(Int×Int))):=fun (at_3,out_4,next_5,least_6) =>
 bnd (F_ref01_Get msg_1 at_3 1) fun (v7,v8) =>
 if (!v8)=true then
  bnd (F_ref04_bad 2) fun (v9,v10,v11) =>
  some (.inr ((v9,(v10,v11))))
 else
  if (v7==0)=true then
   if decide (next_5<0)=true then
    grd (out_4.length+1≤maxStr) <|
    some (.inr ((out_4++[0],(IntKind.i64.wrap (at_3+1),0))))
   else
    grd (out_4.length+1≤maxStr) <|
    some (.inr ((out_4++[0],(next_5,0))))
  else
   if decide (192≤v7)=true then
    bnd (F_ref01_Get msg_1 at_3 2) fun (v12,v13) =>
    if (!v13)=true then
     bnd (F_ref04_bad 2) fun (v14,v15,v16) =>
     some (.inr ((v14,(v15,v16))))
    else
     if decide (least_6≤IntKind.i64.wrap (v12-49152))=true then
      bnd (F_ref04_bad 3) fun (v17,v18,v19) =>
      some (.inr ((v17,(v18,v19))))
     else
      if decide (next_5<0)=true then
       gq msg_1 <|
       some (.inl ((IntKind.i64.wrap (v12-49152),(out_4,(IntKind.i64.wrap (at_3+2),IntKind.i64.wrap (v12-49152))))))
      else
       gq msg_1 <|
       some (.inl ((IntKind.i64.wrap (v12-49152),(out_4,(next_5,IntKind.i64.wrap (v12-49152))))))
   else
    if decide (63<v7)=true then
     bnd (F_ref04_bad 3) fun (v20,v21,v22) =>
     some (.inr ((v20,(v21,v22))))
    else
     bnd (F_ref01_Take msg_1 at_3 (IntKind.i64.wrap (v7+1))) fun (v23,v24) =>
     if (!v24)=true then
      bnd (F_ref04_bad 2) fun (v25,v26,v27) =>
      some (.inr ((v25,(v26,v27))))
     else
      grd (out_4.length+v23.length≤maxStr) <|
      if decide (255<IntKind.i64.wrap ((↑(out_4++v23).length:Int)+1))=true then
       bnd (F_ref04_bad 3) fun (v28,v29,v30) =>
       some (.inr ((v28,(v29,v30))))
      else
       gq msg_1 <|
       some (.inl ((IntKind.i64.wrap (IntKind.i64.wrap (at_3+v7)+1),(out_4++v23,(next_5,least_6)))))
def F_ref04_Read (msg_1:List UInt8) (at_2:Int):Option ((List UInt8×(Int×Int))) :=
 bnd (loopS (step_ref04_Read_0 msg_1) ((at_2,([],(-1,at_2))))) fun (s4_31,s5_32,s6_33) =>
 some ((s4_31,(s5_32,s6_33)))
def ann_ref04_Read:List (List Nat×Ann):=[([9],⟨some ⟨(.cons kS (.cons yI (anyN 5 (.cons (.ty .str) (.cons yI (.cons yI (anyN 92 .nil))))))),[],[],[]⟩,[(.ret,⟨(anyN 4 (.cons (.ty .str) (.cons yI (.cons yI (anyN 95 .nil))))),[],[],[]⟩)]⟩)]
@[reducible] def fs_ref04_Read:List (Nat×SFn):=[(53,.pure [.str,tI,tI] [tI,.bool] (fun x=>F_ref01_Get x.1 x.2.1 x.2.2)),(121,.pure [tI] [.str,tI,tI] (fun x=>F_ref04_bad x)),(92,.pure [.str,tI,tI] [.str,.bool] (fun x=>F_ref01_Take x.1 x.2.1 x.2.2))]
theorem told_ref04_Read:Told CC Tryz.prog 93 [.str,tI] [.str,tI,tI] (fun x=>F_ref04_Read x.1 x.2):=told_of (n:=100000) (gok (an:=ann_ref04_Read) (fs:=fs_ref04_Read) ⟨told_ref01_Get,told_ref04_bad,told_ref01_Take,trivial⟩) rfl rfl (fun x=>by kernel_rfl)
def step_ref08_questions_0 (s_1:List UInt8) (many_3:Int):(Int×(List ((List UInt8×(Int×Int)))×Int))→Option ((Int×(List ((List UInt8×(Int×Int)))×Int)) ⊕ ((Int×Int) ⊕ (Int×List ((List UInt8×(Int×Int)))))):=fun (at_4,out_5,i_6) =>
 if decide (i_6<many_3)=true then
  bnd (F_ref04_Read s_1 at_4) fun (v7,v8,v9) =>
  if (v9 != 0)=true then
   some (.inr (.inl ((0,v9))))
  else
   bnd (F_ref01_Take s_1 v8 4) fun (v10,v11) =>
   if (!v11)=true then
    some (.inr (.inl ((0,2))))
   else
    bnd (F_ref01_Get s_1 v8 2) fun (v12,v13) =>
    bnd (F_ref01_Get s_1 (IntKind.i64.wrap (v8+2)) 2) fun (v14,v15) =>
    grd ((out_5.length+[(v7,v12,v14)].length)*32≤roomLim) <|
    gq s_1<|gq many_3 <|
    some (.inl ((IntKind.i64.wrap (v8+4),(out_5++[(v7,v12,v14)],IntKind.i64.wrap (i_6+1)))))
 else
  some (.inr (.inr ((at_4,out_5))))
def F_ref08_questions (s_1:List UInt8) (at_2:Int) (many_3:Int):Option ((List ((List UInt8×(Int×Int)))×(Int×Int))) :=
 bnd (loopS (step_ref08_questions_0 s_1 many_3) ((at_2,([],0)))) fun o16 =>
 match o16 with
 | .inl (s7_17,s8_18) =>
  some (([],(s7_17,s8_18)))
 | .inr (at_19,out_20) =>
  some ((out_20,(at_19,0)))
def ann_ref08_questions:List (List Nat×Ann):=[([8],⟨some ⟨(.cons kS (.cons yI (.cons kI (anyN 6 (.cons (.own tQ 0 true) (.cons yI (anyN 56 .nil))))))),[],[⟨⟨0,tQ,24,true,true⟩,true⟩],[]⟩,[(.ret,⟨(anyN 6 (.cons .nill (.cons yI (.cons yI (anyN 58 .nil))))),[],[⟨⟨0,tQ,24,true,true⟩,false⟩],[]⟩),(.exit 0,⟨(anyN 1 (.cons yI (anyN 7 (.cons (.own tQ 0 true) (anyN 57 .nil))))),[],[⟨⟨0,tQ,24,true,true⟩,false⟩],[]⟩)]⟩)]
@[reducible] def fs_ref08_questions:List (Nat×SFn):=[(93,.pure [.str,tI] [.str,tI,tI] (fun x=>F_ref04_Read x.1 x.2)),(92,.pure [.str,tI,tI] [.str,.bool] (fun x=>F_ref01_Take x.1 x.2.1 x.2.2)),(53,.pure [.str,tI,tI] [tI,.bool] (fun x=>F_ref01_Get x.1 x.2.1 x.2.2))]
theorem told_ref08_questions:Told CC Tryz.prog 54 [.str,tI,tI] [(.list tQ),tI,tI] (fun x=>F_ref08_questions x.1 x.2.1 x.2.2):=told_of (n:=100000) (gok (an:=ann_ref08_questions) (fs:=fs_ref08_questions) ⟨told_ref04_Read,told_ref01_Take,told_ref01_Get,trivial⟩) rfl rfl (fun x=>by kernel_rfl)
def F_octet_Take (s_1:List UInt8) (at_2:Int) (size_3:Int):Option ((List UInt8×Bool)) :=
 if decide (at_2<0)=false then
  if decide (size_3<0)=false then
   if decide ((↑s_1.length:Int)<at_2)=false then
    if decide (IntKind.i64.wrap ((↑s_1.length:Int)-at_2)<size_3)=true then
     some (([],false))
    else
     natOf at_2 fun n4 =>
     grd (n4≤s_1.length) <|
     natOf size_3 fun n5 =>
     grd (n5≤(List.drop n4 s_1).length) <|
     some ((List.take n5 (List.drop n4 s_1),true))
   else
    some (([],false))
  else
   some (([],false))
 else
  some (([],false))
def ann_octet_Take:List (List Nat×Ann):=[]
theorem told_octet_Take:Told CC Tryz.prog 123 [.str,tI,tI] [.str,.bool] (fun x=>F_octet_Take x.1 x.2.1 x.2.2):=told_of (n:=100000) (gok (an:=ann_octet_Take) (fs:=[]) trivial) rfl rfl (fun x=>by kernel_rfl)
def F_octet_sized (size_1:Int):Option (Bool) :=
 if decide (1≤size_1)=true then
  some (decide (size_1≤4))
 else
  some false
def ann_octet_sized:List (List Nat×Ann):=[]
theorem told_octet_sized:Told CC Tryz.prog 124 [tI] [.bool] (fun x=>F_octet_sized x):=told_of (n:=100000) (gok (an:=ann_octet_sized) (fs:=[]) trivial) rfl rfl (fun x=>by kernel_rfl)
def step_octet_Get_0 (size_3:Int) (v4:List UInt8):(Int×Int)→Option ((Int×Int) ⊕ Int):=fun (n_10,s27_11) =>
 if decide (s27_11<size_3)=true then
  natOf s27_11 fun n12 =>
  bnd (v4[n12]?) fun x13 =>
  grdEq v4 v4 <|
  grdEq size_3 size_3 <|
  some (.inl ((bits BinOp.or IntKind.i64 (IntKind.i64.wrap (n_10*256)) (IntKind.i64.wrap (↑x13.toNat:Int)),IntKind.i64.wrap (s27_11+1))))
 else
  some (.inr n_10)
def F_octet_Get (s_1:List UInt8) (at_2:Int) (size_3:Int):Option ((Int×Bool)) :=
 bnd (F_octet_Take s_1 at_2 size_3) fun (v4,v5) =>
 bnd (α:=((Int×Bool) ⊕ Unit)) (if (!v5)=false then
   bnd (F_octet_sized size_3) fun v6 =>
   if (!v6)=true then
    some (.inl ((0,false)))
   else
    grdEq size_3 size_3 <|
    grdEq v4 v4 <|
    some (.inr (()))
  else
   some (.inl ((0,false)))) fun o7 =>
 match o7 with
 | .inl (s6_8,s7_9) =>
  some ((s6_8,s7_9))
 | .inr _ =>
  bnd (loopS (step_octet_Get_0 size_3 v4) ((0,0))) fun n_14 =>
  some ((n_14,true))
def ann_octet_Get:List (List Nat×Ann):=[([4],⟨none,[(.ret,⟨(anyN 6 (.cons yI (.cons (.ty .bool) (anyN 31 .nil)))),[],[],[]⟩),(.normal,⟨(anyN 2 (.cons kI (anyN 5 (.cons kS (anyN 30 .nil))))),[],[],[]⟩)]⟩),([18],⟨some ⟨(anyN 8 (.cons kS (anyN 1 (.cons yI (anyN 15 (.cons kI (.cons yI (anyN 11 .nil)))))))),[],[],[]⟩,[(.exit 0,⟨(anyN 10 (.cons yI (anyN 28 .nil))),[],[],[]⟩)]⟩)]
@[reducible] def fs_octet_Get:List (Nat×SFn):=[(123,.pure [.str,tI,tI] [.str,.bool] (fun x=>F_octet_Take x.1 x.2.1 x.2.2)),(124,.pure [tI] [.bool] (fun x=>F_octet_sized x))]
theorem told_octet_Get:Told CC Tryz.prog 95 [.str,tI,tI] [tI,.bool] (fun x=>F_octet_Get x.1 x.2.1 x.2.2):=told_of (n:=100000) (gok (an:=ann_octet_Get) (fs:=fs_octet_Get) ⟨told_octet_Take,told_octet_sized,trivial⟩) rfl rfl (fun x=>by kernel_rfl)
def F_msg_Head (s_1:List UInt8):Option ((Int×(Int×Bool))) :=
 if decide ((↑s_1.length:Int)<12)=true then
  some ((0,(0,false)))
 else
  bnd (F_octet_Get s_1 0 2) fun (v2,v3) =>
  bnd (F_octet_Get s_1 2 2) fun (v4,v5) =>
  some ((v2,(v4,true)))
def ann_msg_Head:List (List Nat×Ann):=[]
@[reducible] def fs_msg_Head:List (Nat×SFn):=[(95,.pure [.str,tI,tI] [tI,.bool] (fun x=>F_octet_Get x.1 x.2.1 x.2.2))]
theorem told_msg_Head:Told CC Tryz.prog 56 [.str] [tI,tI,.bool] (fun x=>F_msg_Head x):=told_of (n:=100000) (gok (an:=ann_msg_Head) (fs:=fs_msg_Head) ⟨told_octet_Get,trivial⟩) rfl rfl (fun x=>by kernel_rfl)
def step_octet_Put_0 (n_1:Int) (size_2:Int):(List (Int)×Int)→Option ((List (Int)×Int) ⊕ List (Int)):=fun (b_7,s24_8) =>
 if decide (s24_8<size_2)=true then
  natOf (IntKind.i64.wrap (8*s24_8)) fun n9 =>
  natOf (IntKind.i64.wrap (IntKind.i64.wrap (size_2-1)-s24_8)) fun n10 =>
  bnd (b_7[n10]?) fun x11 =>
  gq n_1<|gq size_2<|gq size_2 <|
  some (.inl ((b_7.set n10 (IntKind.u8.wrap (n_1.fdiv (2 ^ min n9 64))),IntKind.i64.wrap (s24_8+1))))
 else
  some (.inr b_7)
def F_octet_Put (n_1:Int) (size_2:Int):Option (List UInt8) :=
 bnd (α:=(List UInt8 ⊕ Unit)) (bnd (F_octet_sized size_2) fun v3 =>
  if (!v3)=false then
   if decide (n_1<0)=false then
    natOf (IntKind.i64.wrap (8*size_2)) fun n4 =>
    if (n_1.fdiv (2 ^ min n4 64) != 0)=true then
     some (.inl ([]))
    else
     gq n_1<|gq size_2 <|
     some (.inr (()))
   else
    some (.inl ([]))
  else
   some (.inl ([]))) fun o5 =>
 match o5 with
 | .inl s4_6 =>
  some s4_6
 | .inr _ =>
  grd (0≤size_2∧size_2≤size_2∧size_2≤9223372036854775807∧1*size_2≤281474976710656) <|
  bnd (loopS (step_octet_Put_0 n_1 size_2) ((List.replicate size_2.toNat 0,0))) fun b_12 =>
  some (List.map (fun n=>UInt8.ofNat (Int.toNat n)) b_12)
def ann_octet_Put:List (List Nat×Ann):=[([2],⟨none,[(.ret,⟨(anyN 4 (.cons (.ty .str) (anyN 36 .nil))),[],[],[]⟩),(.normal,⟨(.cons kI (.cons kI (anyN 39 .nil))),[],[],[]⟩)]⟩),([16],⟨some ⟨(.cons kI (.cons kI (anyN 3 (.cons yS19 (anyN 17 (.cons kI (.cons yI (anyN 16 .nil)))))))),[],[⟨⟨0,(.int .u8),5,true,true⟩,false⟩],[0]⟩,[(.exit 0,⟨(anyN 5 (.cons yS19 (anyN 35 .nil))),[],[⟨⟨0,(.int .u8),5,true,true⟩,false⟩],[0]⟩)]⟩)]
@[reducible] def fs_octet_Put:List (Nat×SFn):=[(124,.pure [tI] [.bool] (fun x=>F_octet_sized x))]
theorem told_octet_Put:Told CC Tryz.prog 103 [tI,tI] [.str] (fun x=>F_octet_Put x.1 x.2):=told_of (n:=100000) (gok (an:=ann_octet_Put) (fs:=fs_octet_Put) ⟨told_octet_sized,trivial⟩) rfl rfl (fun x=>by kernel_rfl)
def F_msg_many (s_1:List UInt8) (list_2:Int):Option (Int) :=
 bnd (F_octet_Get s_1 (IntKind.i64.wrap (4+IntKind.i64.wrap (2*list_2))) 2) fun (v3,v4) =>
 some v3
def ann_msg_many:List (List Nat×Ann):=[]
@[reducible] def fs_msg_many:List (Nat×SFn):=[(95,.pure [.str,tI,tI] [tI,.bool] (fun x=>F_octet_Get x.1 x.2.1 x.2.2))]
theorem told_msg_many:Told CC Tryz.prog 125 [.str,tI] [tI] (fun x=>F_msg_many x.1 x.2):=told_of (n:=100000) (gok (an:=ann_msg_many) (fs:=fs_msg_many) ⟨told_octet_Get,trivial⟩) rfl rfl (fun x=>by kernel_rfl)
def F_edns_opt (r_1:(List UInt8×(Int×(Int×(Int×List UInt8))))):Option (Bool) :=
 some (r_1.2.1==41)
def ann_edns_opt:List (List Nat×Ann):=[]
theorem told_edns_opt:Told CC Tryz.prog 129 [tRR] [.bool] (fun x=>F_edns_opt x):=told_of (n:=100000) (gok (an:=ann_edns_opt) (fs:=[]) trivial) rfl rfl (fun x=>by kernel_rfl)
def F_edns_in (n_1:Int) (most_2:Int):Option (Bool) :=
 if decide (0≤n_1)=true then
  some (decide (n_1≤most_2))
 else
  some false
def ann_edns_in:List (List Nat×Ann):=[]
theorem told_edns_in:Told CC Tryz.prog 131 [tI,tI] [.bool] (fun x=>F_edns_in x.1 x.2):=told_of (n:=100000) (gok (an:=ann_edns_in) (fs:=[]) trivial) rfl rfl (fun x=>by kernel_rfl)
end
end Go.Abs

set_option maxRecDepth 100000
namespace Go.Abs
open Go Go.Proofs
noncomputable section
def step_edns_Find_0 (m_1:Int×Int×List (List UInt8×Int×Int)×List (List UInt8×Int×Int×Int×List UInt8)×List (List UInt8×Int×Int×Int×List UInt8)×List (List UInt8×Int×Int×Int×List UInt8)):Int→Option (Int ⊕ (Int ⊕ Unit)):=fun s8_2 =>
 if decide (s8_2<(↑(List.length m_1.2.2.2.2.2):Int))=true then
  natOf s8_2 fun n3 =>
  bnd (m_1.2.2.2.2.2[n3]?) fun x4 =>
  bnd (F_edns_opt (x4.1,x4.2.1,x4.2.2.1,x4.2.2.2.1,x4.2.2.2.2)) fun v5 =>
  if v5=true then
   g6 m_1<|gf<|gz<|gz<|gz<|gf <|
   some (.inr (.inl s8_2))
  else
   gq m_1.2.2.2.2.2 <|
   grdEq ((↑(List.length m_1.2.2.2.2.2):Int)) ((↑(List.length m_1.2.2.2.2.2):Int)) <|
   g6 m_1<|gf<|gz<|gz<|gz<|gf <|
   some (.inl (IntKind.i64.wrap (s8_2+1)))
 else
  g6 m_1<|gf<|gz<|gz<|gz<|gf <|
  some (.inr (.inr (())))
def step_edns_Find_1 (m_1:Int×Int×List (List UInt8×Int×Int)×List (List UInt8×Int×Int×Int×List UInt8)×List (List UInt8×Int×Int×Int×List UInt8)×List (List UInt8×Int×Int×Int×List UInt8)):Int→Option (Int ⊕ (Int ⊕ Unit)):=fun s8_8 =>
 if decide (s8_8<(↑(List.length m_1.2.2.2.1):Int))=true then
  natOf s8_8 fun n9 =>
  bnd (m_1.2.2.2.1[n9]?) fun x10 =>
  bnd (F_edns_opt (x10.1,x10.2.1,x10.2.2.1,x10.2.2.2.1,x10.2.2.2.2)) fun v11 =>
  if v11=true then
   g6 m_1<|gf<|gz<|gz<|gz<|gf <|
   some (.inr (.inl s8_8))
  else
   gq m_1.2.2.2.1 <|
   grdEq ((↑(List.length m_1.2.2.2.1):Int)) ((↑(List.length m_1.2.2.2.1):Int)) <|
   g6 m_1<|gf<|gz<|gz<|gz<|gf <|
   some (.inl (IntKind.i64.wrap (s8_8+1)))
 else
  g6 m_1<|gf<|gz<|gz<|gz<|gf <|
  some (.inr (.inr (())))
def step_edns_Find_2 (m_1:Int×Int×List (List UInt8×Int×Int)×List (List UInt8×Int×Int×Int×List UInt8)×List (List UInt8×Int×Int×Int×List UInt8)×List (List UInt8×Int×Int×Int×List UInt8)):Int→Option (Int ⊕ (Int ⊕ Unit)):=fun s8_14 =>
 if decide (s8_14<(↑(List.length m_1.2.2.2.2.1):Int))=true then
  natOf s8_14 fun n15 =>
  bnd (m_1.2.2.2.2.1[n15]?) fun x16 =>
  bnd (F_edns_opt (x16.1,x16.2.1,x16.2.2.1,x16.2.2.2.1,x16.2.2.2.2)) fun v17 =>
  if v17=true then
   g6 m_1<|gf<|gz<|gz<|gz<|gf <|
   some (.inr (.inl s8_14))
  else
   gq m_1.2.2.2.2.1 <|
   grdEq ((↑(List.length m_1.2.2.2.2.1):Int)) ((↑(List.length m_1.2.2.2.2.1):Int)) <|
   g6 m_1<|gf<|gz<|gz<|gz<|gf <|
   some (.inl (IntKind.i64.wrap (s8_14+1)))
 else
  g6 m_1<|gf<|gz<|gz<|gz<|gf <|
  some (.inr (.inr (())))
def step_edns_Find_3 (m_1:Int×Int×List (List UInt8×Int×Int)×List (List UInt8×Int×Int×Int×List UInt8)×List (List UInt8×Int×Int×Int×List UInt8)×List (List UInt8×Int×Int×Int×List UInt8)):Int→Option (Int ⊕ (Int ⊕ Unit)):=fun s8_20 =>
 if decide (s8_20<(↑(List.length m_1.2.2.2.2.1):Int))=true then
  natOf s8_20 fun n21 =>
  bnd (m_1.2.2.2.2.1[n21]?) fun x22 =>
  bnd (F_edns_opt (x22.1,x22.2.1,x22.2.2.1,x22.2.2.2.1,x22.2.2.2.2)) fun v23 =>
  if v23=true then
   g6 m_1<|gf<|gz<|gz<|gz<|gf <|
   some (.inr (.inl s8_20))
  else
   gq m_1.2.2.2.2.1 <|
   grdEq ((↑(List.length m_1.2.2.2.2.1):Int)) ((↑(List.length m_1.2.2.2.2.1):Int)) <|
   g6 m_1<|gf<|gz<|gz<|gz<|gf <|
   some (.inl (IntKind.i64.wrap (s8_20+1)))
 else
  g6 m_1<|gf<|gz<|gz<|gz<|gf <|
  some (.inr (.inr (())))
def step_edns_Find_4 (m_1:Int×Int×List (List UInt8×Int×Int)×List (List UInt8×Int×Int×Int×List UInt8)×List (List UInt8×Int×Int×Int×List UInt8)×List (List UInt8×Int×Int×Int×List UInt8)) (x30:(Ty.str.cons (tI.cons (tI.cons (tI.cons Ty.str)))).agg.den) (n31:Nat):Int→Option (Int ⊕ (Int ⊕ Unit)):=fun s8_32 =>
 if decide (s8_32<(↑(List.drop n31 m_1.2.2.2.2.2).length:Int))=true then
  natOf s8_32 fun n33 =>
  bnd ((List.drop n31 m_1.2.2.2.2.2)[n33]?) fun x34 =>
  bnd (F_edns_opt (x34.1,x34.2.1,x34.2.2.1,x34.2.2.2.1,x34.2.2.2.2)) fun v35 =>
  if v35=true then
   g6 m_1<|gf<|gz<|gz<|gz<|gf<|g5 x30 <|
   some (.inr (.inl s8_32))
  else
   grdEq (List.drop n31 m_1.2.2.2.2.2) (List.drop n31 m_1.2.2.2.2.2) <|
   grdEq ((↑(List.drop n31 m_1.2.2.2.2.2).length:Int)) ((↑(List.drop n31 m_1.2.2.2.2.2).length:Int)) <|
   g6 m_1<|gf<|gz<|gz<|gz<|gf<|g5 x30 <|
   some (.inl (IntKind.i64.wrap (s8_32+1)))
 else
  g6 m_1<|gf<|gz<|gz<|gz<|gf<|g5 x30 <|
  some (.inr (.inr (())))
def step_edns_Find_5 (m_1:Int×Int×List (List UInt8×Int×Int)×List (List UInt8×Int×Int×Int×List UInt8)×List (List UInt8×Int×Int×Int×List UInt8)×List (List UInt8×Int×Int×Int×List UInt8)):Int→Option (Int ⊕ (Int ⊕ Unit)):=fun s8_45 =>
 if decide (s8_45<(↑(List.length m_1.2.2.2.1):Int))=true then
  natOf s8_45 fun n46 =>
  bnd (m_1.2.2.2.1[n46]?) fun x47 =>
  bnd (F_edns_opt (x47.1,x47.2.1,x47.2.2.1,x47.2.2.2.1,x47.2.2.2.2)) fun v48 =>
  if v48=true then
   g6 m_1<|gf<|gz<|gz<|gz<|gf <|
   some (.inr (.inl s8_45))
  else
   gq m_1.2.2.2.1 <|
   grdEq ((↑(List.length m_1.2.2.2.1):Int)) ((↑(List.length m_1.2.2.2.1):Int)) <|
   g6 m_1<|gf<|gz<|gz<|gz<|gf <|
   some (.inl (IntKind.i64.wrap (s8_45+1)))
 else
  g6 m_1<|gf<|gz<|gz<|gz<|gf <|
  some (.inr (.inr (())))
def step_edns_Find_6 (m_1:Int×Int×List (List UInt8×Int×Int)×List (List UInt8×Int×Int×Int×List UInt8)×List (List UInt8×Int×Int×Int×List UInt8)×List (List UInt8×Int×Int×Int×List UInt8)):Int→Option (Int ⊕ (Int ⊕ Unit)):=fun s8_51 =>
 if decide (s8_51<(↑(List.length m_1.2.2.2.2.1):Int))=true then
  natOf s8_51 fun n52 =>
  bnd (m_1.2.2.2.2.1[n52]?) fun x53 =>
  bnd (F_edns_opt (x53.1,x53.2.1,x53.2.2.1,x53.2.2.2.1,x53.2.2.2.2)) fun v54 =>
  if v54=true then
   g6 m_1<|gf<|gz<|gz<|gz<|gf <|
   some (.inr (.inl s8_51))
  else
   gq m_1.2.2.2.2.1 <|
   grdEq ((↑(List.length m_1.2.2.2.2.1):Int)) ((↑(List.length m_1.2.2.2.2.1):Int)) <|
   g6 m_1<|gf<|gz<|gz<|gz<|gf <|
   some (.inl (IntKind.i64.wrap (s8_51+1)))
 else
  g6 m_1<|gf<|gz<|gz<|gz<|gf <|
  some (.inr (.inr (())))
def step_edns_Find_7 (m_1:Int×Int×List (List UInt8×Int×Int)×List (List UInt8×Int×Int×Int×List UInt8)×List (List UInt8×Int×Int×Int×List UInt8)×List (List UInt8×Int×Int×Int×List UInt8)):Int→Option (Int ⊕ (Int ⊕ Unit)):=fun s8_57 =>
 if decide (s8_57<(↑(List.length m_1.2.2.2.2.1):Int))=true then
  natOf s8_57 fun n58 =>
  bnd (m_1.2.2.2.2.1[n58]?) fun x59 =>
  bnd (F_edns_opt (x59.1,x59.2.1,x59.2.2.1,x59.2.2.2.1,x59.2.2.2.2)) fun v60 =>
  if v60=true then
   g6 m_1<|gf<|gz<|gz<|gz<|gf <|
   some (.inr (.inl s8_57))
  else
   gq m_1.2.2.2.2.1 <|
   grdEq ((↑(List.length m_1.2.2.2.2.1):Int)) ((↑(List.length m_1.2.2.2.2.1):Int)) <|
   g6 m_1<|gf<|gz<|gz<|gz<|gf <|
   some (.inl (IntKind.i64.wrap (s8_57+1)))
 else
  g6 m_1<|gf<|gz<|gz<|gz<|gf <|
  some (.inr (.inr (())))
def F_edns_Find (m_1:(Int×(Int×(List ((List UInt8×(Int×Int)))×(List ((List UInt8×(Int×(Int×(Int×List UInt8)))))×(List ((List UInt8×(Int×(Int×(Int×List UInt8)))))×List ((List UInt8×(Int×(Int×(Int×List UInt8))))))))))):Option (((Bool×(Int×(Int×(Int×Bool))))×Int)) :=
 bnd (loopS (step_edns_Find_0 m_1) 0) fun o6 =>
 match o6 with
 | .inl s4_7 =>
  bnd (α:=(Int ⊕ Unit)) (bnd (α:=Bool) (bnd (loopS (step_edns_Find_1 m_1) 0) fun o12 =>
    match o12 with
    | .inl s4_13 =>
     if decide (0≤s4_13)=false then
      bnd (loopS (step_edns_Find_2 m_1) 0) fun o18 =>
      match o18 with
      | .inl s4_19 =>
       gq s4_7<|g6 m_1<|gf<|gz<|gz<|gz<|gf <|
       some (decide (0≤s4_19))
      | .inr _ =>
       gq s4_7<|g6 m_1<|gf<|gz<|gz<|gz<|gf <|
       some false
     else
      gq s4_7<|g6 m_1<|gf<|gz<|gz<|gz<|gf <|
      some true
    | .inr _ =>
     bnd (loopS (step_edns_Find_3 m_1) 0) fun o24 =>
     match o24 with
     | .inl s4_25 =>
      gq s4_7<|g6 m_1<|gf<|gz<|gz<|gz<|gf <|
      some (decide (0≤s4_25))
     | .inr _ =>
      gq s4_7<|g6 m_1<|gf<|gz<|gz<|gz<|gf <|
      some false) fun s9_26 =>
   if s9_26=true then
    g6 m_1<|gf<|gz<|gz<|gz<|gf <|
    some (.inl 7)
   else
    if decide (s4_7<0)=true then
     g6 m_1<|gf<|gz<|gz<|gz<|gf <|
     some (.inl 0)
    else
     gq s4_7<|g6 m_1<|gf<|gz<|gz<|gz<|gf <|
     some (.inr (()))) fun o27 =>
  match o27 with
  | .inl s3_28 =>
   some (((false,(0,(0,(0,false)))),s3_28))
  | .inr _ =>
   natOf s4_7 fun n29 =>
   bnd (m_1.2.2.2.2.2[n29]?) fun x30 =>
   bnd (α:=(Int ⊕ Unit)) (bnd (α:=Bool) (natOf (IntKind.i64.wrap (s4_7+1)) fun n31 =>
     grd (n31≤List.length m_1.2.2.2.2.2) <|
     bnd (loopS (step_edns_Find_4 m_1 x30 n31) 0) fun o36 =>
     match o36 with
     | .inl s4_37 =>
      if decide (0≤s4_37)=false then
       if (!x30.1==[0])=false then
        bnd (F_edns_in x30.2.2.1 65535) fun v38 =>
        if (!v38)=false then
         bnd (F_edns_in x30.2.2.2.1 4294967295) fun v39 =>
         g6 m_1<|gf<|gz<|gz<|gz<|gf<|g5 x30 <|
         some (!v39)
        else
         g6 m_1<|gf<|gz<|gz<|gz<|gf<|g5 x30 <|
         some true
       else
        g6 m_1<|gf<|gz<|gz<|gz<|gf<|g5 x30 <|
        some true
      else
       g6 m_1<|gf<|gz<|gz<|gz<|gf<|g5 x30 <|
       some true
     | .inr _ =>
      if (!x30.1==[0])=false then
       bnd (F_edns_in x30.2.2.1 65535) fun v40 =>
       if (!v40)=false then
        bnd (F_edns_in x30.2.2.2.1 4294967295) fun v41 =>
        g6 m_1<|gf<|gz<|gz<|gz<|gf<|g5 x30 <|
        some (!v41)
       else
        g6 m_1<|gf<|gz<|gz<|gz<|gf<|g5 x30 <|
        some true
      else
       g6 m_1<|gf<|gz<|gz<|gz<|gf<|g5 x30 <|
       some true) fun s50_42 =>
    if s50_42=true then
     g6 m_1<|gf<|gz<|gz<|gz<|gf<|g5 x30 <|
     some (.inl 7)
    else
     g6 m_1<|gf<|gz<|gz<|gz<|gf<|g5 x30 <|
     some (.inr (()))) fun o43 =>
   match o43 with
   | .inl s3_44 =>
    some (((false,(0,(0,(0,false)))),s3_44))
   | .inr _ =>
    some (((true,(x30.2.2.1,(Int.fdiv x30.2.2.2.1 16777216,(bits BinOp.and IntKind.i64 (Int.fdiv x30.2.2.2.1 65536) 255,bits BinOp.and IntKind.i64 x30.2.2.2.1 32768 != 0)))),0))
 | .inr _ =>
  bnd (α:=(Int ⊕ Unit)) (bnd (α:=Bool) (bnd (loopS (step_edns_Find_5 m_1) 0) fun o49 =>
    match o49 with
    | .inl s4_50 =>
     if decide (0≤s4_50)=false then
      bnd (loopS (step_edns_Find_6 m_1) 0) fun o55 =>
      match o55 with
      | .inl s4_56 =>
       gq (α:=Int) (-1)<|g6 m_1<|gf<|gz<|gz<|gz<|gf <|
       some (decide (0≤s4_56))
      | .inr _ =>
       gq (α:=Int) (-1)<|g6 m_1<|gf<|gz<|gz<|gz<|gf <|
       some false
     else
      gq (α:=Int) (-1)<|g6 m_1<|gf<|gz<|gz<|gz<|gf <|
      some true
    | .inr _ =>
     bnd (loopS (step_edns_Find_7 m_1) 0) fun o61 =>
     match o61 with
     | .inl s4_62 =>
      gq (α:=Int) (-1)<|g6 m_1<|gf<|gz<|gz<|gz<|gf <|
      some (decide (0≤s4_62))
     | .inr _ =>
      gq (α:=Int) (-1)<|g6 m_1<|gf<|gz<|gz<|gz<|gf <|
      some false) fun s9_63 =>
   if s9_63=true then
    g6 m_1<|gf<|gz<|gz<|gz<|gf <|
    some (.inl 7)
   else
    g6 m_1<|gf<|gz<|gz<|gz<|gf <|
    some (.inl 0)) fun o64 =>
  match o64 with
  | .inl s3_65 =>
   some (((false,(0,(0,(0,false)))),s3_65))
  | .inr _ =>
   none
def ann_edns_Find:List (List Nat×Ann):=[([4],⟨none,[(.ret,⟨(anyN 2 (.cons (.ptr 1 0) (.cons yI (anyN 62 .nil)))),[.cells 63 true yS0,.cells 50 true yS4],[],[]⟩),(.normal,⟨(anyN 1 (.cons (.ptr 0 0) (.cons (.ptr 1 0) (anyN 1 (.cons kI (anyN 61 .nil)))))),[.cells 63 true yS0,.cells 50 true yS4],[],[]⟩)]⟩),([6],⟨none,[(.normal,⟨(anyN 1 (.cons (.ptr 0 0) (.cons (.ptr 1 0) (anyN 1 (.cons kI (anyN 4 (.cons (.ty .bool) (anyN 56 .nil)))))))),[.cells 63 true yS0,.cells 50 true yS4],[],[]⟩)]⟩),([21],⟨none,[(.ret,⟨(anyN 2 (.cons (.ptr 1 0) (.cons yI (anyN 62 .nil)))),[.cells 63 true yS0,.cells 50 true yS4,.cells 101 true yS10],[],[]⟩),(.normal,⟨(anyN 2 (.cons (.ptr 1 0) (anyN 2 (.cons (.ptr 2 0) (anyN 60 .nil))))),[.cells 63 true yS0,.cells 50 true yS4,.cells 101 true yS10],[],[]⟩)]⟩),([22],⟨none,[(.normal,⟨(anyN 2 (.cons (.ptr 1 0) (anyN 2 (.cons (.ptr 2 0) (anyN 44 (.cons (.ty .bool) (anyN 15 .nil))))))),[.cells 63 true yS0,.cells 50 true yS4,.cells 101 true yS10],[],[]⟩)]⟩),([6,128,2,3],⟨some ⟨yS32,[.cells 63 true yS0,.cells 50 true yS4],[],[]⟩,[(.ret,⟨yS23,[.cells 63 true yS0,.cells 50 true yS4],[],[]⟩),(.exit 0,⟨yS37,[.cells 63 true yS0,.cells 50 true yS4],[],[]⟩)]⟩),([6,128,2,3,130,2,7],⟨some ⟨yS32,[.cells 63 true yS0,.cells 50 true yS4],[],[]⟩,[(.ret,⟨yS23,[.cells 63 true yS0,.cells 50 true yS4],[],[]⟩),(.exit 0,⟨yS37,[.cells 63 true yS0,.cells 50 true yS4],[],[]⟩)]⟩),([6,128,2,3,130,6,7],⟨some ⟨yS32,[.cells 63 true yS0,.cells 50 true yS4],[],[]⟩,[(.ret,⟨yS23,[.cells 63 true yS0,.cells 50 true yS4],[],[]⟩),(.exit 0,⟨yS37,[.cells 63 true yS0,.cells 50 true yS4],[],[]⟩)]⟩),([6,128,2,3,130,5,23],⟨some ⟨yS32,[.cells 63 true yS0,.cells 50 true yS4,.cells 101 true yS10],[],[]⟩,[(.ret,⟨yS23,[.cells 63 true yS0,.cells 50 true yS4,.cells 101 true yS10],[],[]⟩),(.exit 0,⟨yS37,[.cells 63 true yS0,.cells 50 true yS4,.cells 101 true yS10],[],[]⟩)]⟩)]
@[reducible] def fs_edns_Find:List (Nat×SFn):=[(129,.pure [tRR] [.bool] (fun x=>F_edns_opt x)),(131,.pure [tI,tI] [.bool] (fun x=>F_edns_in x.1 x.2))]
theorem told_edns_Find:Told CC Tryz.prog 100 [tM] [yT14,tI] (fun x=>F_edns_Find x):=told_of (n:=100000) (gok (an:=ann_edns_Find) (fs:=fs_edns_Find) ⟨told_edns_opt,told_edns_in,trivial⟩) rfl rfl (fun x=>by kernel_rfl)
def F_edns_Opt_Record (o_1:(Bool×(Int×(Int×(Int×Bool))))):Option (((List UInt8×(Int×(Int×(Int×List UInt8))))×Bool)) :=
 bnd (α:=(Bool ⊕ Unit)) (bnd (α:=Bool) (if (!o_1.1)=false then
    bnd (F_edns_in o_1.2.1 65535) fun v2 =>
    if (!v2)=false then
     bnd (F_edns_in o_1.2.2.1 127) fun v3 =>
     if (!v3)=false then
      bnd (F_edns_in o_1.2.2.2.1 255) fun v4 =>
      g5 o_1<|gq (α:=List UInt8) ([])<|gz<|gz<|gz<|gq (α:=List UInt8) ([]) <|
      some (!v4)
     else
      g5 o_1<|gq (α:=List UInt8) ([])<|gz<|gz<|gz<|gq (α:=List UInt8) ([]) <|
      some true
    else
     g5 o_1<|gq (α:=List UInt8) ([])<|gz<|gz<|gz<|gq (α:=List UInt8) ([]) <|
     some true
   else
    g5 o_1<|gq (α:=List UInt8) ([])<|gz<|gz<|gz<|gq (α:=List UInt8) ([]) <|
    some true) fun s25_5 =>
  if s25_5=true then
   g5 o_1<|gq (α:=List UInt8) ([])<|gz<|gz<|gz<|gq (α:=List UInt8) ([]) <|
   some (.inl false)
  else
   g5 o_1<|gq (α:=List UInt8) ([])<|gz<|gz<|gz<|gq (α:=List UInt8) ([]) <|
   some (.inr (()))) fun o6 =>
 match o6 with
 | .inl s3_7 =>
  some ((([],(0,(0,(0,[])))),s3_7))
 | .inr _ =>
  if o_1.2.2.2.2=true then
   some ((([0],(41,(o_1.2.1,(bits BinOp.or IntKind.i64 (bits BinOp.or IntKind.i64 (IntKind.i64.wrap (o_1.2.2.1*16777216)) (IntKind.i64.wrap (o_1.2.2.2.1*65536))) 32768,[])))),true))
  else
   some ((([0],(41,(o_1.2.1,(bits BinOp.or IntKind.i64 (IntKind.i64.wrap (o_1.2.2.1*16777216)) (IntKind.i64.wrap (o_1.2.2.2.1*65536)),[])))),true))
def ann_edns_Opt_Record:List (List Nat×Ann):=[([2],⟨none,[(.ret,⟨(anyN 2 (.cons (.ptr 1 0) (.cons (.ty .bool) (anyN 40 .nil)))),[.cells 50 true yS4,.cells 101 true yS10],[],[]⟩),(.normal,⟨(anyN 1 (.cons (.ptr 0 0) (.cons (.ptr 1 0) (anyN 41 .nil)))),[.cells 50 true yS4,.cells 101 true yS10],[],[]⟩)]⟩),([3],⟨none,[(.normal,⟨(anyN 1 (.cons (.ptr 0 0) (.cons (.ptr 1 0) (anyN 22 (.cons (.ty .bool) (anyN 18 .nil)))))),[.cells 50 true yS4,.cells 101 true yS10],[],[]⟩)]⟩)]
@[reducible] def fs_edns_Opt_Record:List (Nat×SFn):=[(131,.pure [tI,tI] [.bool] (fun x=>F_edns_in x.1 x.2))]
theorem told_edns_Opt_Record:Told CC Tryz.prog 101 [yT14] [tRR,.bool] (fun x=>F_edns_Opt_Record x):=told_of (n:=100000) (gok (an:=ann_edns_Opt_Record) (fs:=fs_edns_Opt_Record) ⟨told_edns_in,trivial⟩) rfl rfl (fun x=>by kernel_rfl)
end
end Go.Abs

set_option maxRecDepth 100000
namespace Go.Abs
open Go Go.Proofs
noncomputable section
def F_msg_small (n_1:Int):Option (Bool) :=
 if decide (0≤n_1)=true then
  some (decide (n_1≤65535))
 else
  some false
def ann_msg_small:List (List Nat×Ann):=[]
theorem told_msg_small:Told CC Tryz.prog 132 [tI] [.bool] (fun x=>F_msg_small x):=told_of (n:=100000) (gok (an:=ann_msg_small) (fs:=[]) trivial) rfl rfl (fun x=>by kernel_rfl)
def F_msg_Check_2 (q_1:(List UInt8×(Int×Int))):Option (Bool) :=
 bnd (F_name_Check q_1.1) fun v2 =>
 if (!v2)=false then
  bnd (F_msg_small q_1.2.1) fun v3 =>
  if (!v3)=false then
   bnd (F_msg_small q_1.2.2) fun v4 =>
   some (!v4)
  else
   some true
 else
  some true
def ann_msg_Check_2:List (List Nat×Ann):=[]
@[reducible] def fs_msg_Check_2:List (Nat×SFn):=[(75,.pure [.str] [.bool] (fun x=>F_name_Check x)),(132,.pure [tI] [.bool] (fun x=>F_msg_small x))]
theorem told_msg_Check_2:Told CC Tryz.prog 134 [tQ] [.bool] (fun x=>F_msg_Check_2 x):=told_of (n:=100000) (gok (an:=ann_msg_Check_2) (fs:=fs_msg_Check_2) ⟨told_name_Check,told_msg_small,trivial⟩) rfl rfl (fun x=>by kernel_rfl)
def F_ref02_Same (a_1:List UInt8) (b_2:List UInt8):Option (Bool) :=
 bnd (F_ref02_Check a_1) fun v3 =>
 if v3=true then
  bnd (F_ref02_Check b_2) fun v4 =>
  if v4=true then
   bnd (F_ref02_Small a_1) fun v5 =>
   bnd (F_ref02_Small b_2) fun v6 =>
   some (v5==v6)
  else
   some false
 else
  some false
def ann_ref02_Same:List (List Nat×Ann):=[]
@[reducible] def fs_ref02_Same:List (Nat×SFn):=[(43,.pure [.str] [.bool] (fun x=>F_ref02_Check x)),(44,.pure [.str] [.str] (fun x=>F_ref02_Small x))]
theorem told_ref02_Same:Told CC Tryz.prog 137 [.str,.str] [.bool] (fun x=>F_ref02_Same x.1 x.2):=told_of (n:=100000) (gok (an:=ann_ref02_Same) (fs:=fs_ref02_Same) ⟨told_ref02_Check,told_ref02_Small,trivial⟩) rfl rfl (fun x=>by kernel_rfl)
def F_name_small (c_1:Int):Option (Int) :=
 if decide (65≤c_1)=true then
  if decide (c_1≤90)=true then
   some (IntKind.u8.wrap (c_1+32))
  else
   some c_1
 else
  some c_1
def ann_name_small:List (List Nat×Ann):=[]
theorem told_name_small:Told CC Tryz.prog 140 [(.int .u8)] [(.int .u8)] (fun x=>F_name_small x):=told_of (n:=100000) (gok (an:=ann_name_small) (fs:=[]) trivial) rfl rfl (fun x=>by kernel_rfl)
def step_name_low_0 (s_1:List UInt8):(List (Int)×(List (Int)×Int))→Option ((List (Int)×(List (Int)×Int)) ⊕ List (Int)):=fun (b_2,s8_3,s10_4) =>
 if decide (s10_4<(↑(List.map (fun b=>(↑b.toNat:Int)) s_1).length:Int))=true then
  natOf s10_4 fun n5 =>
  bnd (s8_3[n5]?) fun x6 =>
  bnd (F_name_small x6) fun v7 =>
  natOf s10_4 fun n8 =>
  bnd (b_2[n8]?) fun x9 =>
  grdEq ((↑(List.map (fun b=>(↑b.toNat:Int)) s_1).length:Int)) ((↑(List.map (fun b=>(↑b.toNat:Int)) s_1).length:Int)) <|
  some (.inl ((b_2.set n8 v7,(s8_3.set n8 v7,IntKind.i64.wrap (s10_4+1)))))
 else
  some (.inr b_2)
def F_name_low (s_1:List UInt8):Option (List UInt8) :=
 bnd (loopS (step_name_low_0 s_1) ((List.map (fun b=>(↑b.toNat:Int)) s_1,(List.map (fun b=>(↑b.toNat:Int)) s_1,0)))) fun b_10 =>
 some (List.map (fun n=>UInt8.ofNat (Int.toNat n)) b_10)
def ann_name_low:List (List Nat×Ann):=[([8],⟨some ⟨(anyN 3 (.cons yS19 (anyN 4 (.cons yS19 (.cons kI (.cons yI (anyN 12 .nil))))))),[],[⟨⟨0,(.int .u8),5,true,true⟩,false⟩],[0]⟩,[(.exit 0,⟨(anyN 3 (.cons yS19 yS37)),[],[⟨⟨0,(.int .u8),5,true,true⟩,false⟩],[0]⟩)]⟩)]
@[reducible] def fs_name_low:List (Nat×SFn):=[(140,.pure [(.int .u8)] [(.int .u8)] (fun x=>F_name_small x))]
theorem told_name_low:Told CC Tryz.prog 111 [.str] [.str] (fun x=>F_name_low x):=told_of (n:=100000) (gok (an:=ann_name_low) (fs:=fs_name_low) ⟨told_name_small,trivial⟩) rfl rfl (fun x=>by kernel_rfl)
def F_name_Low (n_1:List UInt8):Option (List UInt8) :=
 bnd (F_name_Check n_1) fun v2 =>
 if (!v2)=true then
  some ([])
 else
  bnd (F_name_low n_1) fun v3 =>
  some v3
def ann_name_Low:List (List Nat×Ann):=[]
@[reducible] def fs_name_Low:List (Nat×SFn):=[(75,.pure [.str] [.bool] (fun x=>F_name_Check x)),(111,.pure [.str] [.str] (fun x=>F_name_low x))]
theorem told_name_Low:Told CC Tryz.prog 76 [.str] [.str] (fun x=>F_name_Low x):=told_of (n:=100000) (gok (an:=ann_name_Low) (fs:=fs_name_Low) ⟨told_name_Check,told_name_low,trivial⟩) rfl rfl (fun x=>by kernel_rfl)
end
end Go.Abs
