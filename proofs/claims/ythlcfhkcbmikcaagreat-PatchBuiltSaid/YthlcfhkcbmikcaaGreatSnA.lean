/- Part of a proof. -/
import Derived.Test.YthlcfhkcbmikcaaGreatSm
set_option linter.unusedSimpArgs false
set_option linter.unusedVariables false
set_option linter.unusedSectionVars false
set_option maxRecDepth 100000
namespace Go.Abs
open Go Go.Proofs
noncomputable section
@[reducible] def gq {α ρ:Type} [DecidableEq α] (x:α) (K:Option ρ):Option ρ:=grdEq x x K
@[reducible] def gz {ρ:Type} (K:Option ρ):Option ρ:=grdEq (α:=Int) 0 0 K
@[reducible] def gf {ρ:Type} (K:Option ρ):Option ρ:=grdEq (α:=Bool) false false K
@[reducible] def ge {ρ:Type} (K:Option ρ):Option ρ:=grdEq (α:=List UInt8) [] [] K
@[reducible] def g3 {A0 A1 A2 ρ:Type} [DecidableEq A0] [DecidableEq A1] [DecidableEq A2] (x:A0×A1×A2) (K:Option ρ):Option ρ:=grdEq x.1 x.1<|grdEq x.2.1 x.2.1<|grdEq x.2.2 x.2.2 <|  K
@[reducible] def g5 {A0 A1 A2 A3 A4 ρ:Type} [DecidableEq A0] [DecidableEq A1] [DecidableEq A2] [DecidableEq A3] [DecidableEq A4] (x:A0×A1×A2×A3×A4) (K:Option ρ):Option ρ:=grdEq x.1 x.1<|grdEq x.2.1 x.2.1<|grdEq x.2.2.1 x.2.2.1<|grdEq x.2.2.2.1 x.2.2.2.1<|grdEq x.2.2.2.2 x.2.2.2.2 <|  K
@[reducible] def g6 {A0 A1 A2 A3 A4 A5 ρ:Type} [DecidableEq A0] [DecidableEq A1] [DecidableEq A2] [DecidableEq A3] [DecidableEq A4] [DecidableEq A5] (x:A0×A1×A2×A3×A4×A5) (K:Option ρ):Option ρ:=grdEq x.1 x.1<|grdEq x.2.1 x.2.1<|grdEq x.2.2.1 x.2.2.1<|grdEq x.2.2.2.1 x.2.2.2.1<|grdEq x.2.2.2.2.1 x.2.2.2.2.1<|grdEq x.2.2.2.2.2 x.2.2.2.2.2 <|  K
@[reducible] def g9 {A0 A1 A2 A3 A4 A5 A6 A7 A8 ρ:Type} [DecidableEq A0] [DecidableEq A1] [DecidableEq A2] [DecidableEq A3] [DecidableEq A4] [DecidableEq A5] [DecidableEq A6] [DecidableEq A7] [DecidableEq A8] (x:A0×A1×A2×A3×A4×A5×A6×A7×A8) (K:Option ρ):Option ρ:=grdEq x.1 x.1<|grdEq x.2.1 x.2.1<|grdEq x.2.2.1 x.2.2.1<|grdEq x.2.2.2.1 x.2.2.2.1<|grdEq x.2.2.2.2.1 x.2.2.2.2.1<|grdEq x.2.2.2.2.2.1 x.2.2.2.2.2.1<|grdEq x.2.2.2.2.2.2.1 x.2.2.2.2.2.2.1<|grdEq x.2.2.2.2.2.2.2.1 x.2.2.2.2.2.2.2.1<|grdEq x.2.2.2.2.2.2.2.2 x.2.2.2.2.2.2.2.2 <|  K
@[reducible] def g10 {A0 A1 A2 A3 A4 A5 A6 A7 A8 A9 ρ:Type} [DecidableEq A0] [DecidableEq A1] [DecidableEq A2] [DecidableEq A3] [DecidableEq A4] [DecidableEq A5] [DecidableEq A6] [DecidableEq A7] [DecidableEq A8] [DecidableEq A9] (x:A0×A1×A2×A3×A4×A5×A6×A7×A8×A9) (K:Option ρ):Option ρ:=grdEq x.1 x.1<|grdEq x.2.1 x.2.1<|grdEq x.2.2.1 x.2.2.1<|grdEq x.2.2.2.1 x.2.2.2.1<|grdEq x.2.2.2.2.1 x.2.2.2.2.1<|grdEq x.2.2.2.2.2.1 x.2.2.2.2.2.1<|grdEq x.2.2.2.2.2.2.1 x.2.2.2.2.2.2.1<|grdEq x.2.2.2.2.2.2.2.1 x.2.2.2.2.2.2.2.1<|grdEq x.2.2.2.2.2.2.2.2.1 x.2.2.2.2.2.2.2.2.1<|grdEq x.2.2.2.2.2.2.2.2.2 x.2.2.2.2.2.2.2.2.2 <|  K
@[reducible] def g17 {A0 A1 A2 A3 A4 A5 A6 A7 A8 A9 A10 A11 A12 A13 A14 A15 A16 ρ:Type} [DecidableEq A0] [DecidableEq A1] [DecidableEq A2] [DecidableEq A3] [DecidableEq A4] [DecidableEq A5] [DecidableEq A6] [DecidableEq A7] [DecidableEq A8] [DecidableEq A9] [DecidableEq A10] [DecidableEq A11] [DecidableEq A12] [DecidableEq A13] [DecidableEq A14] [DecidableEq A15] [DecidableEq A16] (x:A0×A1×A2×A3×A4×A5×A6×A7×A8×A9×A10×A11×A12×A13×A14×A15×A16) (K:Option ρ):Option ρ:=grdEq x.1 x.1<|grdEq x.2.1 x.2.1<|grdEq x.2.2.1 x.2.2.1<|grdEq x.2.2.2.1 x.2.2.2.1<|grdEq x.2.2.2.2.1 x.2.2.2.2.1<|grdEq x.2.2.2.2.2.1 x.2.2.2.2.2.1<|grdEq x.2.2.2.2.2.2.1 x.2.2.2.2.2.2.1<|grdEq x.2.2.2.2.2.2.2.1 x.2.2.2.2.2.2.2.1<|grdEq x.2.2.2.2.2.2.2.2.1 x.2.2.2.2.2.2.2.2.1<|grdEq x.2.2.2.2.2.2.2.2.2.1 x.2.2.2.2.2.2.2.2.2.1<|grdEq x.2.2.2.2.2.2.2.2.2.2.1 x.2.2.2.2.2.2.2.2.2.2.1<|grdEq x.2.2.2.2.2.2.2.2.2.2.2.1 x.2.2.2.2.2.2.2.2.2.2.2.1<|grdEq x.2.2.2.2.2.2.2.2.2.2.2.2.1 x.2.2.2.2.2.2.2.2.2.2.2.2.1<|grdEq x.2.2.2.2.2.2.2.2.2.2.2.2.2.1 x.2.2.2.2.2.2.2.2.2.2.2.2.2.1<|grdEq x.2.2.2.2.2.2.2.2.2.2.2.2.2.2.1 x.2.2.2.2.2.2.2.2.2.2.2.2.2.2.1<|grdEq x.2.2.2.2.2.2.2.2.2.2.2.2.2.2.2.1 x.2.2.2.2.2.2.2.2.2.2.2.2.2.2.2.1<|grdEq x.2.2.2.2.2.2.2.2.2.2.2.2.2.2.2.2 x.2.2.2.2.2.2.2.2.2.2.2.2.2.2.2.2 <|  K
@[reducible] def tI:Ty:=.int .i64
@[reducible] def kI:SSh:=.keep tI
@[reducible] def kS:SSh:=.keep .str
@[reducible] def kB:SSh:=.keep .bool
@[reducible] def yI:SSh:=.ty tI
@[reducible] def tK:Ty:=.agg (.cons tI (.cons tI tI))
@[reducible] def tRR:Ty:=(.agg (.cons .str (.cons tI (.cons tI (.cons tI .str)))))
@[reducible] def tQ:Ty:=(.agg (.cons .str (.cons tI tI)))
@[reducible] def tM:Ty:=(.agg (.cons tI (.cons tI (.cons (.list tQ) (.cons (.list tRR) (.cons (.list tRR) (.list tRR)))))))
@[reducible] def yS0:SSh:=(.cons (.keep (.list (.agg (.cons .str (.cons tI (.cons tI (.cons (.list .str) (.cons tI tI)))))))) (.cons kI (.cons kS (.cons kS (.cons kI (.cons kI (.cons (.keep (.list .str)) (.cons kI (.cons kI .nil)))))))))
@[reducible] def yT1:Ty:=(.agg (.cons (.list (.agg (.cons tI (.cons tI tI)))) (.cons tI .bool)))
@[reducible] def yT2:Ty:=(.agg (.cons (.list (.agg (.cons .str (.cons tI (.cons tI (.cons (.list .str) (.cons tI tI))))))) (.cons tI (.cons .str (.cons .str (.cons tI (.cons tI (.cons (.list .str) (.cons tI tI)))))))))
@[reducible] def yS3:SSh:=(.cons kI (.cons kI (.cons kS (.cons kI (.cons kI (.cons kB (.cons kI (.cons kI (.cons kI (.cons kB .nil))))))))))
@[reducible] def yS4:SSh:=(.cons kI (.cons kI (.cons (.keep (.list tQ)) (.cons (.keep (.list tRR)) (.cons (.keep (.list tRR)) (.cons (.keep (.list tRR)) .nil))))))
@[reducible] def yT5:Ty:=(.agg (.cons .str (.cons tI (.cons tI (.cons tI (.cons .str (.cons (.list yT1) (.cons tI (.cons tI (.cons .str (.cons tI (.cons tI (.cons .bool (.cons tI (.cons tI (.cons tI (.cons .bool tI)))))))))))))))))
@[reducible] def yS6:SSh:=(.cons kS (.cons kI (.cons kI (.cons kI (.cons kS (.cons (.keep (.list yT1)) (.cons kI (.cons kI (.cons kS (.cons kI (.cons kI (.cons kB (.cons kI (.cons kI (.cons kI (.cons kB (.cons kI .nil)))))))))))))))))
@[reducible] def yS7:SSh:=(.cons (.ptr 0 3) (.cons (.ptr 0 4) (.cons (.ptr 0 5) .nil)))
@[reducible] def yT8:Ty:=(.agg (.cons tI (.cons tI (.cons .str (.cons tI (.cons tI (.cons .bool (.cons tI (.cons tI (.cons tI .bool))))))))))
@[reducible] def yS9:SSh:=(.cons kI (.cons kI .nil))
@[reducible] def yS10:SSh:=(.cons kS (.cons kI (.cons kI (.cons kI (.cons kS (.cons (.keep (.list yT1)) .nil))))))
@[reducible] def yS11:SSh:=(.cons kS (.cons kI (.cons kI (.cons kI (.cons kS (.cons .nill .nil))))))
@[reducible] def yT12:Ty:=(.agg (.cons .str (.cons tI (.cons tI (.cons tI (.cons .str (.list yT1)))))))
@[reducible] def yS13:SSh:=(.cons kS (.cons kI (.cons kI (.cons (.keep (.list .str)) (.cons kI .nil)))))
@[reducible] def yS14:SSh:=(.cons kS (.cons kI (.cons kI (.cons (.keep (.list .str)) yS9))))
@[reducible] def yT15:Ty:=(.agg (.cons tI (.cons tI tI)))
@[reducible] def yT16:Ty:=(.agg (.cons .str (.cons tI (.cons tI (.cons (.list .str) (.cons tI tI))))))
@[reducible] def yS17:SSh:=(.cons kS (.cons kS (.cons (.own .str 0 true) .nil)))
@[reducible] def yS18:SSh:=(.cons kS (.cons kI (.cons kI (.cons kI (.cons (.ty .str) (.cons (.own yT1 0 true) .nil))))))
@[reducible] def yS19:SSh:=(.cons kS (.cons kS (.cons .nill .nil)))
@[reducible] def yS20:SSh:=(.cons (.keep (.list yT15)) (.cons kI (.cons kB .nil)))
@[reducible] def yT21:Ty:=(.agg (.cons (.list tRR) .bool))
@[reducible] def yS22:SSh:=(.own (.int .u8) 0 true)
@[reducible] def yT23:Ty:=(.agg (.cons .str (.cons tI (.cons tI (.cons (.list .str) tI)))))
@[reducible] def yS24:SSh:=(.cons kI yS9)
@[reducible] def yT25:Ty:=(.agg (.cons .bool (.cons tI (.cons tI (.cons tI .bool)))))
@[reducible] def yS26:SSh:=(anyN 4 (.cons (.ty .str) (anyN 2 (.cons kS (anyN 58 (.cons (.agg yS7) (.cons kI (anyN 4 (.cons (.keep (.list tRR)) (.cons kI (.cons yI (anyN 17 .nil))))))))))))
@[reducible] def yS27:SSh:=(.cons kS (.cons kI (.cons kI (.cons kI (.cons kS .nil)))))
@[reducible] def yS28:SSh:=(.cons kS yS9)
@[reducible] def yS29:SSh:=(.cons .nill (.cons kI (.cons kS (.cons kS (.cons kI (.cons kI (.cons .nill yS9)))))))
@[reducible] def yS30:SSh:=(.cons kS (.cons kI (.cons kI (.cons kI (.cons kS (.cons (.own yT1 0 true) .nil))))))
@[reducible] def yS31:SSh:=(.cons kI (.cons kI (.cons .nill (.cons .nill (.cons .nill (.cons .nill .nil))))))
@[reducible] def yS32:SSh:=(.cons (.keep (.list tQ)) (.cons (.own tRR 0 true) (.cons (.ty (.list tRR)) (.cons (.keep (.list tRR)) .nil))))
@[reducible] def yS33:SSh:=(.cons (.keep (.list yT21)) .nil)
@[reducible] def yS34:SSh:=(.cons (.keep (.list tRR)) (.cons (.func 133 .nil .nil) (anyN 5 (.cons kI (.cons yI (anyN 10 .nil))))))
@[reducible] def yS35:SSh:=(anyN 4 (.cons (.ty .str) (anyN 2 (.cons kS (anyN 58 (.cons (.agg yS7) (.cons kI (anyN 24 .nil))))))))
@[reducible] def yS36:SSh:=(.cons yI (.cons (.adr 0 4) (.cons yS22 .nil)))
@[reducible] def yS37:SSh:=(.own .str 0 true)
@[reducible] def yS38:SSh:=(.cons (.ptr 1 0) (.cons (.ptr 2 0) (anyN 1 (.cons (.ptr 3 0) (anyN 47 .nil)))))
@[reducible] def yS39:SSh:=(.cons (.own yT16 0 true) (.cons kI (.cons kS yS14)))
@[reducible] def yS40:SSh:=(.cons (.own yT15 1 true) (.cons kI (.cons kB .nil)))
@[reducible] def yS41:SSh:=(anyN 4 (.cons yI (anyN 14 .nil)))
@[reducible] def yS42:SSh:=(anyN 6 (.cons (.ptr 2 0) (.cons (.ty .bool) (anyN 48 .nil))))
@[reducible] def yS43:SSh:=(anyN 6 (.cons (.ty .str) (anyN 46 .nil)))
@[reducible] def yS44:SSh:=(.cons kB (.cons kI (.cons kI (.cons kI (.cons kB .nil)))))
@[reducible] def yS45:SSh:=(anyN 3 (.cons yS37 (anyN 41 .nil)))
instance dec8 {A B C D E F G H:Type} [DecidableEq A] [DecidableEq B] [DecidableEq C] [DecidableEq D] [DecidableEq E] [DecidableEq F] [DecidableEq G] [DecidableEq H]:DecidableEq (A×B×C×D×E×F×G×H):=@instDecidableEqProd _ _ _ (@instDecidableEqProd _ _ _ (@instDecidableEqProd _ _ _ (inferInstanceAs (DecidableEq (D×E×F×G×H)))))
instance decHit:DecidableEq (List UInt8×Int×Int×List (List UInt8)×Int×Int):=@instDecidableEqProd _ _ _ (@instDecidableEqProd _ _ _ (inferInstanceAs (DecidableEq (Int×List (List UInt8)×Int×Int))))
instance decHits:DecidableEq (List (List UInt8×Int×Int×List (List UInt8)×Int×Int)):=@instDecidableEqList _ decHit
instance decRR:DecidableEq (List UInt8×Int×Int×Int×List UInt8):=@instDecidableEqProd _ _ _ (@instDecidableEqProd _ _ _ (inferInstanceAs (DecidableEq (Int×Int×List UInt8))))
instance decRRs:DecidableEq (List (List UInt8×Int×Int×Int×List UInt8)):=@instDecidableEqList _ decRR
instance decPc:DecidableEq (List (List UInt8×Int×Int×Int×List UInt8)×Bool):=@instDecidableEqProd _ _ decRRs _
instance decPcs:DecidableEq (List (List (List UInt8×Int×Int×Int×List UInt8)×Bool)):=@instDecidableEqList _ decPc
@[reducible] def shpF (k:Int):Option (Int×Int×Int):=(sfind tI (.agg (.cons tI (.cons tI tI))) k (sputM tI (.agg (.cons tI (.cons tI tI))) 33 (6,1,0) (sputM tI (.agg (.cons tI (.cons tI tI))) 15 (2,1,0) (sputM tI (.agg (.cons tI (.cons tI tI))) 6 (0,2,20) (sputM tI (.agg (.cons tI (.cons tI tI))) 12 (0,1,0) (sputM tI (.agg (.cons tI (.cons tI tI))) 5 (0,1,0) (sputM tI (.agg (.cons tI (.cons tI tI))) 2 (0,1,0) (sputM tI (.agg (.cons tI (.cons tI tI))) 28 (16,0,0) (sputM tI (.agg (.cons tI (.cons tI tI))) 1 (4,0,0) [])))))))))
def F_law17_Own (a_1:(Int×(Int×(List UInt8×(Int×(Int×(Bool×(Int×(Int×(Int×Bool)))))))))):Option ((Int×(Int×(List UInt8×(Int×(Int×(Bool×(Int×(Int×(Int×Bool)))))))))) :=
 some ((a_1.1,(a_1.2.1,(a_1.2.2.1,(a_1.2.2.2.1,(a_1.2.2.2.2.1,(a_1.2.2.2.2.2.1,(a_1.2.2.2.2.2.2.1,(a_1.2.2.2.2.2.2.2.1,(a_1.2.2.2.2.2.2.2.2.1,a_1.2.2.2.2.2.2.2.2.2))))))))))
def ann_law17_Own:List (List Nat×Ann):=[]
theorem told_law17_Own:Told CC Tryz.prog 20 [yT8] [yT8] (fun x=>F_law17_Own x):=told_of (n:=100000) (gok (an:=ann_law17_Own) (fs:=[]) trivial) rfl rfl (fun x=>by kernel_rfl)
def F_edns_Opt_Limit (o_1:(Bool×(Int×(Int×(Int×Bool))))):Option (Int) :=
 if (!o_1.1)=true then
  some 512
 else
  some (if 4096<if 512 > o_1.2.1 then 512 else o_1.2.1 then 4096 else if 512 > o_1.2.1 then 512 else o_1.2.1)
def ann_edns_Opt_Limit:List (List Nat×Ann):=[]
theorem told_edns_Opt_Limit:Told CC Tryz.prog 26 [yT25] [tI] (fun x=>F_edns_Opt_Limit x):=told_of (n:=100000) (gok (an:=ann_edns_Opt_Limit) (fs:=[]) trivial) rfl rfl (fun x=>by kernel_rfl)
def step_law19_later_0 (c_1:List (List UInt8×Int×Int×List (List UInt8)×Int×Int)×Int×List UInt8×List UInt8×Int×Int×List (List UInt8)×Int×Int) (by_2:Int):(Int×List ((List UInt8×(Int×(Int×(List (List UInt8)×(Int×Int)))))))→Option ((Int×List ((List UInt8×(Int×(Int×(List (List UInt8)×(Int×Int))))))) ⊕ List ((List UInt8×(Int×(Int×(List (List UInt8)×(Int×Int))))))):=fun (i_3,b2a_4) =>
 if decide (i_3<(↑(List.length c_1.1):Int))=true then
  natOf i_3 fun n5 =>
  bnd (c_1.1[n5]?) fun x6 =>
  grd ((b2a_4.length+[(x6.1,x6.2.1,x6.2.2.1,x6.2.2.2.1,x6.2.2.2.2.1,IntKind.i64.wrap (x6.2.2.2.2.2-by_2))].length)*72≤roomLim) <|
  gq by_2<|g9 c_1<|gz<|gq (α:=List UInt8) ([])<|gq (α:=List UInt8) ([])<|gz<|gz<|gz<|gz<|gq c_1.2.1<|gq c_1.2.2.1<|gq c_1.2.2.2.1<|gq c_1.2.2.2.2.1<|gq c_1.2.2.2.2.2.1<|gq c_1.2.2.2.2.2.2.1<|gq c_1.2.2.2.2.2.2.2.1 <|
  grdEq (IntKind.i64.wrap (c_1.2.2.2.2.2.2.2.2-by_2)) (IntKind.i64.wrap (c_1.2.2.2.2.2.2.2.2-by_2)) <|
  some (.inl ((IntKind.i64.wrap (i_3+1),b2a_4++[(x6.1,x6.2.1,x6.2.2.1,x6.2.2.2.1,x6.2.2.2.2.1,IntKind.i64.wrap (x6.2.2.2.2.2-by_2))])))
 else
  g9 c_1<|gz<|gq (α:=List UInt8) ([])<|gq (α:=List UInt8) ([])<|gz<|gz<|gz<|gz<|gq c_1.2.1<|gq c_1.2.2.1<|gq c_1.2.2.2.1<|gq c_1.2.2.2.2.1<|gq c_1.2.2.2.2.2.1<|gq c_1.2.2.2.2.2.2.1<|gq c_1.2.2.2.2.2.2.2.1 <|
  grdEq (IntKind.i64.wrap (c_1.2.2.2.2.2.2.2.2-by_2)) (IntKind.i64.wrap (c_1.2.2.2.2.2.2.2.2-by_2)) <|
  some (.inr b2a_4)
def F_law19_later (c_1:(List ((List UInt8×(Int×(Int×(List (List UInt8)×(Int×Int))))))×(Int×(List UInt8×(List UInt8×(Int×(Int×(List (List UInt8)×(Int×Int))))))))) (by_2:Int):Option ((List ((List UInt8×(Int×(Int×(List (List UInt8)×(Int×Int))))))×(Int×(List UInt8×(List UInt8×(Int×(Int×(List (List UInt8)×(Int×Int))))))))) :=
 bnd (loopS (step_law19_later_0 c_1 by_2) ((0,[]))) fun b2a_7 =>
 some ((b2a_7,(c_1.2.1,(c_1.2.2.1,(c_1.2.2.2.1,(c_1.2.2.2.2.1,(c_1.2.2.2.2.2.1,(c_1.2.2.2.2.2.2.1,(c_1.2.2.2.2.2.2.2.1,IntKind.i64.wrap (c_1.2.2.2.2.2.2.2.2-by_2))))))))))
def ann_law19_later:List (List Nat×Ann):=[([10],⟨some ⟨(anyN 1 (.cons kI (.cons (.ptr 0 0) (anyN 1 (.cons (.ptr 1 0) (.cons (.ptr 2 0) (.cons yI (anyN 39 .nil)))))))),[.cells 36 true yS0,.cells 36 true yS29,.cells 36 true yS39],[⟨⟨0,yT16,34,true,true⟩,true⟩],[]⟩,[(.exit 0,⟨(anyN 4 (.cons (.ptr 1 0) (.cons (.ptr 2 0) (anyN 40 .nil)))),[.cells 36 true yS0,.cells 36 true yS29,.cells 36 true yS39],[⟨⟨1,yT16,34,true,true⟩,true⟩],[]⟩)]⟩)]
theorem told_law19_later:Told CC Tryz.prog 41 [yT2,tI] [yT2] (fun x=>F_law19_later x.1 x.2):=told_of (n:=100000) (gok (an:=ann_law19_later) (fs:=[]) trivial) rfl rfl (fun x=>by kernel_rfl)
def step_ref10_Small_0 (s_1:List UInt8×Int×Int×List (List UInt8)×Int):Int→Option (Int ⊕ (Bool ⊕ Unit)):=fun i_2 =>
 if decide (i_2<(↑(List.length s_1.2.2.2.1):Int))=true then
  natOf i_2 fun n3 =>
  bnd (s_1.2.2.2.1[n3]?) fun x4 =>
  if decide (2000<(↑(List.length x4):Int))=false then
   if decide (60<(↑(List.length s_1.2.2.2.1):Int))=true then
    g5 s_1 <|
    some (.inr (.inl false))
   else
    g5 s_1 <|
    some (.inl (IntKind.i64.wrap (i_2+1)))
  else
   g5 s_1 <|
   some (.inr (.inl false))
 else
  g5 s_1 <|
  some (.inr (.inr (())))
def F_ref10_Small (s_1:(List UInt8×(Int×(Int×(List (List UInt8)×Int))))):Option (Bool) :=
 bnd (loopS (step_ref10_Small_0 s_1) 0) fun o5 =>
 match o5 with
 | .inl s2_6 =>
  some s2_6
 | .inr _ =>
  some (decide ((↑(List.length s_1.1):Int)≤300))
def ann_ref10_Small:List (List Nat×Ann):=[([6],⟨some ⟨(anyN 1 (.cons (.ptr 0 0) (anyN 1 (.cons yI (anyN 25 .nil))))),[.cells 32 true yS13],[],[]⟩,[(.ret,⟨(anyN 2 (.cons (.ty .bool) (anyN 26 .nil))),[.cells 32 true yS13],[],[]⟩),(.exit 0,⟨(anyN 1 (.cons (.ptr 0 0) (anyN 27 .nil))),[.cells 32 true yS13],[],[]⟩)]⟩)]
theorem told_ref10_Small:Told CC Tryz.prog 42 [yT23] [.bool] (fun x=>F_ref10_Small x):=told_of (n:=100000) (gok (an:=ann_ref10_Small) (fs:=[]) trivial) rfl rfl (fun x=>by kernel_rfl)
def step_ref17_Small_0 (c_1:List (List UInt8×Int×Int×List (List UInt8)×Int×Int)×Int×List UInt8×List UInt8×Int×Int×List (List UInt8)×Int×Int):Int→Option (Int ⊕ (Bool ⊕ Unit)):=fun i_2 =>
 if decide (i_2<(↑(List.length c_1.1):Int))=true then
  natOf i_2 fun n3 =>
  bnd (c_1.1[n3]?) fun x4 =>
  bnd (F_ref10_Small (x4.1,x4.2.1,x4.2.2.1,x4.2.2.2.1,x4.2.2.2.2.1)) fun v5 =>
  if (!v5)=true then
   g9 c_1 <|
   some (.inr (.inl false))
  else
   g9 c_1 <|
   some (.inl (IntKind.i64.wrap (i_2+1)))
 else
  g9 c_1 <|
  some (.inr (.inr (())))
def F_ref17_Small (c_1:(List ((List UInt8×(Int×(Int×(List (List UInt8)×(Int×Int))))))×(Int×(List UInt8×(List UInt8×(Int×(Int×(List (List UInt8)×(Int×Int))))))))):Option (Bool) :=
 bnd (loopS (step_ref17_Small_0 c_1) 0) fun o6 =>
 match o6 with
 | .inl s2_7 =>
  some s2_7
 | .inr _ =>
  if decide ((↑(List.length c_1.1):Int)≤12)=true then
   bnd (F_ref10_Small (c_1.2.2.2.1,c_1.2.2.2.2.1,c_1.2.2.2.2.2.1,c_1.2.2.2.2.2.2.1,c_1.2.2.2.2.2.2.2.1)) fun v8 =>
   some v8
  else
   some false
def ann_ref17_Small:List (List Nat×Ann):=[([6],⟨some ⟨(anyN 1 (.cons (.ptr 0 0) (anyN 1 (.cons yI (anyN 25 .nil))))),[.cells 36 true yS0],[],[]⟩,[(.ret,⟨(anyN 2 (.cons (.ty .bool) (anyN 26 .nil))),[.cells 36 true yS0],[],[]⟩),(.exit 0,⟨(anyN 1 (.cons (.ptr 0 0) (anyN 27 .nil))),[.cells 36 true yS0],[],[]⟩)]⟩)]
@[reducible] def fs_ref17_Small:List (Nat×SFn):=[(42,.pure [yT23] [.bool] (fun x=>F_ref10_Small x))]
theorem told_ref17_Small:Told CC Tryz.prog 15 [yT2] [.bool] (fun x=>F_ref17_Small x):=told_of (n:=100000) (gok (an:=ann_ref17_Small) (fs:=fs_ref17_Small) ⟨told_ref10_Small,trivial⟩) rfl rfl (fun x=>by kernel_rfl)
def step_ref02_Small_0:(List (Int)×Int)→Option ((List (Int)×Int) ⊕ List (Int)):=fun (b_2,i_3) =>
 if decide (i_3<(↑b_2.length:Int))=true then
  bnd (α:=(List (Int)×Bool)) (natOf i_3 fun n4 =>
   bnd (b_2[n4]?) fun x5 =>
   if decide (65≤x5)=true then
    natOf i_3 fun n6 =>
    bnd (b_2[n6]?) fun x7 =>
    gq i_3 <|
    some ((b_2,decide (x7≤90)))
   else
    gq i_3 <|
    some ((b_2,false))) fun (b_8,s24_9) =>
  if s24_9=true then
   natOf i_3 fun n10 =>
   bnd (b_8[n10]?) fun x11 =>
   natOf i_3 fun n12 =>
   bnd (b_8[n12]?) fun x13 =>
   some (.inl ((b_8.set n12 (IntKind.u8.wrap (x11+32)),IntKind.i64.wrap (i_3+1))))
  else
   some (.inl ((b_8,IntKind.i64.wrap (i_3+1))))
 else
  some (.inr b_2)
def F_ref02_Small (s_1:List UInt8):Option (List UInt8) :=
 bnd (loopS step_ref02_Small_0 ((List.map (fun b=>(↑b.toNat:Int)) s_1,0))) fun b_14 =>
 some (List.map (fun n=>UInt8.ofNat (Int.toNat n)) b_14)
def ann_ref02_Small:List (List Nat×Ann):=[([17],⟨none,[(.normal,⟨(anyN 3 (.cons yS22 (.cons kI (anyN 19 (.cons (.ty .bool) (anyN 10 .nil)))))),[],[⟨⟨0,(.int .u8),5,true,true⟩,false⟩],[0]⟩)]⟩),([8],⟨some ⟨(anyN 3 (.cons yS22 (.cons yI (anyN 30 .nil)))),[],[⟨⟨0,(.int .u8),5,true,true⟩,false⟩],[0]⟩,[(.exit 0,⟨(anyN 3 (.cons yS22 (anyN 31 .nil))),[],[⟨⟨0,(.int .u8),5,true,true⟩,false⟩],[0]⟩)]⟩)]
theorem told_ref02_Small:Told CC Tryz.prog 44 [.str] [.str] (fun x=>F_ref02_Small x):=told_of (n:=100000) (gok (an:=ann_ref02_Small) (fs:=[]) trivial) rfl rfl (fun x=>by kernel_rfl)
def F_tmpl_in (n_1:Int) (most_2:Int):Option (Bool) :=
 if decide (0≤n_1)=true then
  some (decide (n_1≤most_2))
 else
  some false
def ann_tmpl_in:List (List Nat×Ann):=[]
theorem told_tmpl_in:Told CC Tryz.prog 45 [tI,tI] [.bool] (fun x=>F_tmpl_in x.1 x.2):=told_of (n:=100000) (gok (an:=ann_tmpl_in) (fs:=[]) trivial) rfl rfl (fun x=>by kernel_rfl)
def F_reply_code (c_1:(List ((List UInt8×(Int×(Int×(List (List UInt8)×(Int×Int))))))×(Int×(List UInt8×(List UInt8×(Int×(Int×(List (List UInt8)×(Int×Int))))))))):Option (Int) :=
 if (c_1.2.1==2)=true then
  some 3
 else
  some 0
def ann_reply_code:List (List Nat×Ann):=[]
theorem told_reply_code:Told CC Tryz.prog 62 [yT2] [tI] (fun x=>F_reply_code x):=told_of (n:=100000) (gok (an:=ann_reply_code) (fs:=[]) trivial) rfl rfl (fun x=>by kernel_rfl)
end
end Go.Abs

set_option maxRecDepth 100000
namespace Go.Abs
open Go Go.Proofs
noncomputable section
def step_ref02_Labels_0 (n_1:List UInt8):(List (List UInt8)×Int)→Option ((List (List UInt8)×Int) ⊕ ((List (List UInt8)×Bool) ⊕ Unit)):=fun (out_4,i_5) =>
 if decide (i_5<(↑n_1.length:Int))=true then
  natOf i_5 fun n6 =>
  bnd (n_1[n6]?) fun x7 =>
  if (IntKind.i64.wrap (↑x7.toNat:Int)==0)=true then
   some (.inr (.inl ((out_4,i_5==IntKind.i64.wrap ((↑n_1.length:Int)-1)))))
  else
   bnd (α:=(Bool ⊕ List (List UInt8))) (if decide (63<IntKind.i64.wrap (↑x7.toNat:Int))=false then
     if decide (IntKind.i64.wrap ((↑n_1.length:Int)-i_5)≤IntKind.i64.wrap (↑x7.toNat:Int))=true then
      some (.inl false)
     else
      grdEq n_1 n_1 <|
      grdEq i_5 i_5 <|
      grdEq (IntKind.i64.wrap (↑x7.toNat:Int)) (IntKind.i64.wrap (↑x7.toNat:Int)) <|
      some (.inr out_4)
    else
     some (.inl false)) fun o8 =>
   match o8 with
   | .inl s3_9 =>
    some (.inr (.inl (([],s3_9))))
   | .inr out_10 =>
    natOf (IntKind.i64.wrap (IntKind.i64.wrap (i_5+1)+IntKind.i64.wrap (↑x7.toNat:Int))) fun n11 =>
    grd (n11≤n_1.length) <|
    natOf (IntKind.i64.wrap (i_5+1)) fun n12 =>
    grd (n12≤n11) <|
    grd ((out_10.length+[List.drop n12 (List.take n11 n_1)].length)*16≤roomLim) <|
    grdEq n_1 n_1 <|
    some (.inl ((out_10++[List.drop n12 (List.take n11 n_1)],IntKind.i64.wrap (IntKind.i64.wrap (i_5+1)+IntKind.i64.wrap (↑x7.toNat:Int)))))
 else
  some (.inr (.inr (())))
def F_ref02_Labels (n_1:List UInt8):Option ((List (List UInt8)×Bool)) :=
 bnd (α:=(Bool ⊕ Unit)) (if decide ((↑n_1.length:Int)<1)=false then
   if decide (255<(↑n_1.length:Int))=true then
    some (.inl false)
   else
    grdEq n_1 n_1 <|
    some (.inr (()))
  else
   some (.inl false)) fun o2 =>
 match o2 with
 | .inl s3_3 =>
  some (([],s3_3))
 | .inr _ =>
  bnd (loopS (step_ref02_Labels_0 n_1) (([],0))) fun o13 =>
  match o13 with
  | .inl (s2_14,s3_15) =>
   some ((s2_14,s3_15))
  | .inr _ =>
   some (([],false))
def ann_ref02_Labels:List (List Nat×Ann):=[([4],⟨none,[(.ret,⟨(anyN 2 (.cons .nill (.cons (.ty .bool) (anyN 52 .nil)))),[],[],[]⟩),(.normal,⟨(.cons kS (anyN 3 (.cons .nill (anyN 51 .nil)))),[],[],[]⟩)]⟩),([34],⟨none,[(.ret,⟨(anyN 2 (.cons .nill (.cons (.ty .bool) (anyN 52 .nil)))),[],[⟨⟨0,.str,9,true,true⟩,false⟩],[]⟩),(.normal,⟨(.cons kS (anyN 3 (.cons yS37 (.cons kI (.cons kI (anyN 49 .nil)))))),[],[⟨⟨0,.str,9,true,true⟩,false⟩],[]⟩)]⟩),([16],⟨some ⟨(.cons kS (anyN 3 (.cons yS37 (.cons yI (anyN 50 .nil))))),[],[⟨⟨0,.str,9,true,true⟩,true⟩],[]⟩,[(.ret,⟨(anyN 2 (.cons yS37 (.cons (.ty .bool) (anyN 52 .nil)))),[],[⟨⟨0,.str,9,true,true⟩,false⟩],[]⟩),(.exit 0,⟨(anyN 56 .nil),[],[⟨⟨0,.str,9,true,true⟩,false⟩],[]⟩)]⟩)]
theorem told_ref02_Labels:Told CC Tryz.prog 74 [.str] [(.list .str),.bool] (fun x=>F_ref02_Labels x):=told_of (n:=100000) (gok (an:=ann_ref02_Labels) (fs:=[]) trivial) rfl rfl (fun x=>by kernel_rfl)
def F_ref02_Check (n_1:List UInt8):Option (Bool) :=
 bnd (F_ref02_Labels n_1) fun (v2,v3) =>
 some v3
def ann_ref02_Check:List (List Nat×Ann):=[]
@[reducible] def fs_ref02_Check:List (Nat×SFn):=[(74,.pure [.str] [(.list .str),.bool] (fun x=>F_ref02_Labels x))]
theorem told_ref02_Check:Told CC Tryz.prog 43 [.str] [.bool] (fun x=>F_ref02_Check x):=told_of (n:=100000) (gok (an:=ann_ref02_Check) (fs:=fs_ref02_Check) ⟨told_ref02_Labels,trivial⟩) rfl rfl (fun x=>by kernel_rfl)
def F_ref02_Low (n_1:List UInt8):Option (List UInt8) :=
 bnd (F_ref02_Check n_1) fun v2 =>
 if (!v2)=true then
  some ([])
 else
  bnd (F_ref02_Small n_1) fun v3 =>
  some v3
def ann_ref02_Low:List (List Nat×Ann):=[]
@[reducible] def fs_ref02_Low:List (Nat×SFn):=[(43,.pure [.str] [.bool] (fun x=>F_ref02_Check x)),(44,.pure [.str] [.str] (fun x=>F_ref02_Small x))]
theorem told_ref02_Low:Told CC Tryz.prog 17 [.str] [.str] (fun x=>F_ref02_Low x):=told_of (n:=100000) (gok (an:=ann_ref02_Low) (fs:=fs_ref02_Low) ⟨told_ref02_Check,told_ref02_Small,trivial⟩) rfl rfl (fun x=>by kernel_rfl)
def step_tmpl_Template_Check_1 (t_1:List UInt8×Int×Int×Int×List UInt8×List (List (Int×Int×Int)×Int×Bool)) (s10_2:Int) (x4:((tI.cons (tI.cons tI)).agg.list.cons (tI.cons Ty.bool)).agg.den):Int→Option (Int ⊕ (Bool ⊕ Unit)):=fun s21_5 =>
 if decide (s21_5<(↑(List.length x4.1):Int))=true then
  natOf s21_5 fun n6 =>
  bnd (x4.1[n6]?) fun x7 =>
  if decide (x7.1<0)=false then
   if decide (x7.2.2<x7.1)=false then
    if decide ((↑(List.length t_1.2.2.2.2.1):Int)<x7.2.1)=false then
     if decide (x7.2.1<x7.2.2)=false then
      if decide (IntKind.i64.wrap (x7.2.1-x7.2.2)<4)=true then
       g6 t_1<|g3 x4 <|
       some (.inr (.inl false))
      else
       gq t_1.2.2.2.2.2 <|
       grdEq ((↑(List.length t_1.2.2.2.2.2):Int)) ((↑(List.length t_1.2.2.2.2.2):Int)) <|
       gq s10_2<|gq x4.1 <|
       grdEq ((↑(List.length x4.1):Int)) ((↑(List.length x4.1):Int)) <|
       g6 t_1<|g3 x4 <|
       some (.inl (IntKind.i64.wrap (s21_5+1)))
     else
      g6 t_1<|g3 x4 <|
      some (.inr (.inl false))
    else
     g6 t_1<|g3 x4 <|
     some (.inr (.inl false))
   else
    g6 t_1<|g3 x4 <|
    some (.inr (.inl false))
  else
   g6 t_1<|g3 x4 <|
   some (.inr (.inl false))
 else
  gq t_1.2.2.2.2.2 <|
  grdEq ((↑(List.length t_1.2.2.2.2.2):Int)) ((↑(List.length t_1.2.2.2.2.2):Int)) <|
  gq s10_2<|g6 t_1<|g3 x4 <|
  some (.inr (.inr (())))
def step_tmpl_Template_Check_0 (t_1:List UInt8×Int×Int×Int×List UInt8×List (List (Int×Int×Int)×Int×Bool)):Int→Option (Int ⊕ (Bool ⊕ Unit)):=fun s10_2 =>
 if decide (s10_2<(↑(List.length t_1.2.2.2.2.2):Int))=true then
  natOf s10_2 fun n3 =>
  bnd (t_1.2.2.2.2.2[n3]?) fun x4 =>
  if ((↑(List.length x4.1):Int)==0)=true then
   g6 t_1 <|
   some (.inr (.inl false))
  else
   bnd (loopS (step_tmpl_Template_Check_1 t_1 s10_2 x4) 0) fun o8 =>
   match o8 with
   | .inl s2_9 =>
    g6 t_1 <|
    some (.inr (.inl s2_9))
   | .inr _ =>
    gq t_1.2.2.2.2.2 <|
    grdEq ((↑(List.length t_1.2.2.2.2.2):Int)) ((↑(List.length t_1.2.2.2.2.2):Int)) <|
    g6 t_1 <|
    some (.inl (IntKind.i64.wrap (s10_2+1)))
 else
  g6 t_1 <|
  some (.inr (.inr (())))
def F_tmpl_Template_Check (t_1:(List UInt8×(Int×(Int×(Int×(List UInt8×List ((List ((Int×(Int×Int)))×(Int×Bool))))))))):Option (Bool) :=
 bnd (loopS (step_tmpl_Template_Check_0 t_1) 0) fun o10 =>
 match o10 with
 | .inl s2_11 =>
  some s2_11
 | .inr _ =>
  some true
def ann_tmpl_Template_Check:List (List Nat×Ann):=[([6],⟨some ⟨(anyN 1 (.cons (.ptr 0 0) (anyN 6 (.cons (.keep (.list yT1)) (.cons kI (.cons yI (anyN 49 .nil))))))),[.cells 42 true yS10],[],[]⟩,[(.ret,⟨(anyN 2 (.cons (.ty .bool) (anyN 57 .nil))),[.cells 42 true yS10],[],[]⟩),(.exit 0,⟨(anyN 60 .nil),[.cells 42 true yS10],[],[]⟩)]⟩),([28],⟨some ⟨(anyN 1 (.cons (.ptr 0 0) (anyN 6 (.cons (.keep (.list yT1)) (.cons kI (.cons kI (anyN 8 (.cons (.keep (.list yT15)) (.cons kI (.cons yI (anyN 38 .nil))))))))))),[.cells 42 true yS10,.cells 69 true yS20],[],[]⟩,[(.ret,⟨(anyN 2 (.cons (.ty .bool) (anyN 57 .nil))),[.cells 42 true yS10,.cells 69 true yS20],[],[]⟩),(.exit 2,⟨(anyN 1 (.cons (.ptr 0 0) (anyN 6 (.cons (.keep (.list yT1)) (.cons kI (.cons kI (anyN 49 .nil))))))),[.cells 42 true yS10,.cells 69 true yS20],[],[]⟩)]⟩)]
theorem told_tmpl_Template_Check:Told CC Tryz.prog 80 [yT12] [.bool] (fun x=>F_tmpl_Template_Check x):=told_of (n:=100000) (gok (an:=ann_tmpl_Template_Check) (fs:=[]) trivial) rfl rfl (fun x=>by kernel_rfl)
def F_patch_in (n_1:Int) (most_2:Int):Option (Bool) :=
 if decide (0≤n_1)=true then
  some (decide (n_1≤most_2))
 else
  some false
def ann_patch_in:List (List Nat×Ann):=[]
theorem told_patch_in:Told CC Tryz.prog 81 [tI,tI] [.bool] (fun x=>F_patch_in x.1 x.2):=told_of (n:=100000) (gok (an:=ann_patch_in) (fs:=[]) trivial) rfl rfl (fun x=>by kernel_rfl)
def F_age_within_int (n_1:Int) (most_2:Int):Option (Bool) :=
 if decide (0≤n_1)=true then
  some (decide (n_1≤most_2))
 else
  some false
def ann_age_within_int:List (List Nat×Ann):=[]
theorem told_age_within_int:Told CC Tryz.prog 83 [tI,tI] [.bool] (fun x=>F_age_within_int x.1 x.2):=told_of (n:=100000) (gok (an:=ann_age_within_int) (fs:=[]) trivial) rfl rfl (fun x=>by kernel_rfl)
def F_age_Live (now_1:Int) (until_2:Int):Option (Bool) :=
 bnd (F_age_within_int now_1 1099511627776) fun v3 =>
 if v3=true then
  some (decide (now_1<until_2))
 else
  some false
def ann_age_Live:List (List Nat×Ann):=[]
@[reducible] def fs_age_Live:List (Nat×SFn):=[(83,.pure [tI,tI] [.bool] (fun x=>F_age_within_int x.1 x.2))]
theorem told_age_Live:Told CC Tryz.prog 49 [tI,tI] [.bool] (fun x=>F_age_Live x.1 x.2):=told_of (n:=100000) (gok (an:=ann_age_Live) (fs:=fs_age_Live) ⟨told_age_within_int,trivial⟩) rfl rfl (fun x=>by kernel_rfl)
def step_tmpl_Template_Live_0 (t_1:List UInt8×Int×Int×Int×List UInt8×List (List (Int×Int×Int)×Int×Bool)) (now_2:Int):Int→Option (Int ⊕ (Bool ⊕ Unit)):=fun s10_3 =>
 if decide (s10_3<(↑(List.length t_1.2.2.2.2.2):Int))=true then
  natOf s10_3 fun n4 =>
  bnd (t_1.2.2.2.2.2[n4]?) fun x5 =>
  bnd (F_age_Live now_2 x5.2.1) fun v6 =>
  if (!v6)=true then
   g6 t_1 <|
   some (.inr (.inl false))
  else
   gq now_2<|gq t_1.2.2.2.2.2 <|
   grdEq ((↑(List.length t_1.2.2.2.2.2):Int)) ((↑(List.length t_1.2.2.2.2.2):Int)) <|
   g6 t_1 <|
   some (.inl (IntKind.i64.wrap (s10_3+1)))
 else
  gq now_2<|g6 t_1 <|
  some (.inr (.inr (())))
def F_tmpl_Template_Live (t_1:(List UInt8×(Int×(Int×(Int×(List UInt8×List ((List ((Int×(Int×Int)))×(Int×Bool))))))))) (now_2:Int):Option (Bool) :=
 bnd (loopS (step_tmpl_Template_Live_0 t_1 now_2) 0) fun o7 =>
 match o7 with
 | .inl s4_8 =>
  some s4_8
 | .inr _ =>
  bnd (F_tmpl_in now_2 1099511627776) fun v9 =>
  some v9
def ann_tmpl_Template_Live:List (List Nat×Ann):=[([6],⟨some ⟨(anyN 1 (.cons kI (anyN 6 (.cons (.keep (.list yT1)) (.cons kI (.cons yI (anyN 11 .nil))))))),[.cells 42 true yS10],[],[]⟩,[(.ret,⟨(anyN 4 (.cons (.ty .bool) (anyN 17 .nil))),[.cells 42 true yS10],[],[]⟩),(.exit 0,⟨(anyN 1 (.cons kI (anyN 20 .nil))),[.cells 42 true yS10],[],[]⟩)]⟩)]
@[reducible] def fs_tmpl_Template_Live:List (Nat×SFn):=[(49,.pure [tI,tI] [.bool] (fun x=>F_age_Live x.1 x.2)),(45,.pure [tI,tI] [.bool] (fun x=>F_tmpl_in x.1 x.2))]
theorem told_tmpl_Template_Live:Told CC Tryz.prog 22 [yT12,tI] [.bool] (fun x=>F_tmpl_Template_Live x.1 x.2):=told_of (n:=100000) (gok (an:=ann_tmpl_Template_Live) (fs:=fs_tmpl_Template_Live) ⟨told_age_Live,told_tmpl_in,trivial⟩) rfl rfl (fun x=>by kernel_rfl)
def step_patch_counts_0 (l_1:List (List (Int×Int×Int)×Int×Bool)):(Int×(Int×Int))→Option ((Int×(Int×Int)) ⊕ (Int×Int)):=fun (an_2,ns_3,s10_4) =>
 if decide (s10_4<(↑l_1.length:Int))=true then
  natOf s10_4 fun n5 =>
  bnd (l_1[n5]?) fun x6 =>
  if x6.2.2=true then
   gq l_1 <|
   grdEq ((↑l_1.length:Int)) ((↑l_1.length:Int)) <|
   some (.inl ((an_2,(IntKind.i64.wrap (ns_3+(↑(List.length x6.1):Int)),IntKind.i64.wrap (s10_4+1)))))
  else
   gq l_1 <|
   grdEq ((↑l_1.length:Int)) ((↑l_1.length:Int)) <|
   some (.inl ((IntKind.i64.wrap (an_2+(↑(List.length x6.1):Int)),(ns_3,IntKind.i64.wrap (s10_4+1)))))
 else
  some (.inr ((an_2,ns_3)))
def F_patch_counts (l_1:List ((List ((Int×(Int×Int)))×(Int×Bool)))):Option ((Int×Int)) :=
 bnd (loopS (step_patch_counts_0 l_1) ((0,(0,0)))) fun (an_7,ns_8) =>
 some ((an_7,ns_8))
def ann_patch_counts:List (List Nat×Ann):=[([8],⟨some ⟨(anyN 4 (.cons yI (.cons yI (anyN 2 (.cons (.keep (.list yT1)) (.cons kI (.cons yI (anyN 18 .nil)))))))),[],[],[]⟩,[(.exit 0,⟨(anyN 4 (.cons yI (.cons yI (anyN 23 .nil)))),[],[],[]⟩)]⟩)]
theorem told_patch_counts:Told CC Tryz.prog 85 [(.list yT1)] [tI,tI] (fun x=>F_patch_counts x):=told_of (n:=100000) (gok (an:=ann_patch_counts) (fs:=[]) trivial) rfl rfl (fun x=>by kernel_rfl)
def step_patch_bytes_0 (p_1:List (Int×Int×Int)×Int×Bool):(Int×Int)→Option ((Int×Int) ⊕ Int):=fun (n_2,s9_3) =>
 if decide (s9_3<(↑(List.length p_1.1):Int))=true then
  natOf s9_3 fun n4 =>
  bnd (p_1.1[n4]?) fun x5 =>
  gq p_1.1 <|
  grdEq ((↑(List.length p_1.1):Int)) ((↑(List.length p_1.1):Int)) <|
  g3 p_1 <|
  some (.inl ((IntKind.i64.wrap (n_2+IntKind.i64.wrap (x5.2.1-x5.1)),IntKind.i64.wrap (s9_3+1))))
 else
  g3 p_1 <|
  some (.inr n_2)
def F_patch_bytes (p_1:(List ((Int×(Int×Int)))×(Int×Bool))):Option (Int) :=
 bnd (loopS (step_patch_bytes_0 p_1) ((0,0))) fun n_6 =>
 some n_6
def ann_patch_bytes:List (List Nat×Ann):=[([8],⟨some ⟨(anyN 3 (.cons yI (anyN 3 (.cons (.keep (.list yT15)) (.cons kI (.cons yI (anyN 12 .nil))))))),[.cells 69 true yS20],[],[]⟩,[(.exit 0,⟨(anyN 3 (.cons yI (anyN 18 .nil))),[.cells 69 true yS20],[],[]⟩)]⟩)]
theorem told_patch_bytes:Told CC Tryz.prog 91 [yT1] [tI] (fun x=>F_patch_bytes x):=told_of (n:=100000) (gok (an:=ann_patch_bytes) (fs:=[]) trivial) rfl rfl (fun x=>by kernel_rfl)
end
end Go.Abs

set_option maxRecDepth 100000
namespace Go.Abs
open Go Go.Proofs
noncomputable section
def step_patch_copier_room_0 (c_1:List UInt8×Int×Int×Int×List UInt8×List (List (Int×Int×Int)×Int×Bool)×Int×Int×List UInt8×Int×Int×Bool×Int×Int×Int×Bool×Int) (v3:Int):(Int×Int)→Option ((Int×Int) ⊕ ((Int×Int) ⊕ Int)):=fun (n_4,s30_5) =>
 if decide (s30_5<(↑(List.length c_1.2.2.2.2.2.1):Int))=true then
  natOf s30_5 fun n6 =>
  bnd (c_1.2.2.2.2.2.1[n6]?) fun x7 =>
  bnd (F_patch_bytes (x7.1,x7.2.1,x7.2.2)) fun v8 =>
  if decide (v3<IntKind.i64.wrap (n_4+v8))=true then
   g17 c_1 <|
   some (.inr (.inl ((s30_5,n_4))))
  else
   gq v3<|gq c_1.2.2.2.2.2.1 <|
   grdEq ((↑(List.length c_1.2.2.2.2.2.1):Int)) ((↑(List.length c_1.2.2.2.2.2.1):Int)) <|
   g17 c_1 <|
   some (.inl ((IntKind.i64.wrap (n_4+v8),IntKind.i64.wrap (s30_5+1))))
 else
  g17 c_1 <|
  some (.inr (.inr n_4))
def F_patch_copier_room (c_1:(List UInt8×(Int×(Int×(Int×(List UInt8×(List ((List ((Int×(Int×Int)))×(Int×Bool)))×(Int×(Int×(List UInt8×(Int×(Int×(Bool×(Int×(Int×(Int×(Bool×Int))))))))))))))))):Option ((Int×Int)) :=
 bnd (α:=Int) (if c_1.2.2.2.2.2.2.2.2.2.2.2.1=true then
   g17 c_1 <|
   some (IntKind.i64.wrap (IntKind.i64.wrap (IntKind.i64.wrap (12+(↑(List.length c_1.2.2.2.2.2.2.2.2.1):Int))+4)+11))
  else
   g17 c_1 <|
   some (IntKind.i64.wrap (IntKind.i64.wrap (12+(↑(List.length c_1.2.2.2.2.2.2.2.2.1):Int))+4))) fun n_2 =>
 bnd (F_edns_Opt_Limit (c_1.2.2.2.2.2.2.2.2.2.2.2.1,c_1.2.2.2.2.2.2.2.2.2.2.2.2.1,c_1.2.2.2.2.2.2.2.2.2.2.2.2.2.1,c_1.2.2.2.2.2.2.2.2.2.2.2.2.2.2.1,c_1.2.2.2.2.2.2.2.2.2.2.2.2.2.2.2.1)) fun v3 =>
 bnd (loopS (step_patch_copier_room_0 c_1 v3) ((n_2,0))) fun o9 =>
 match o9 with
 | .inl (s2_10,s3_11) =>
  some ((s2_10,s3_11))
 | .inr n_12 =>
  some (((↑(List.length c_1.2.2.2.2.2.1):Int),n_12))
def ann_patch_copier_room:List (List Nat×Ann):=[([4],⟨none,[(.normal,⟨(anyN 1 (.cons (.ptr 0 0) (anyN 2 (.cons yI (anyN 48 .nil))))),[.cells 106 true yS6],[],[]⟩)]⟩),([16],⟨some ⟨(anyN 1 (.cons (.ptr 0 0) (anyN 2 (.cons yI (.cons kI (anyN 22 (.cons (.keep (.list yT1)) (.cons kI (.cons yI (anyN 22 .nil)))))))))),[.cells 106 true yS6],[],[]⟩,[(.ret,⟨(anyN 2 (.cons yI (.cons yI (anyN 49 .nil)))),[.cells 106 true yS6],[],[]⟩),(.exit 0,⟨(anyN 1 (.cons (.ptr 0 0) (anyN 2 (.cons yI (anyN 48 .nil))))),[.cells 106 true yS6],[],[]⟩)]⟩)]
@[reducible] def fs_patch_copier_room:List (Nat×SFn):=[(91,.pure [yT1] [tI] (fun x=>F_patch_bytes x)),(26,.pure [yT25] [tI] (fun x=>F_edns_Opt_Limit x))]
theorem told_patch_copier_room:Told CC Tryz.prog 51 [yT5] [tI,tI] (fun x=>F_patch_copier_room x):=told_of (n:=100000) (gok (an:=ann_patch_copier_room) (fs:=fs_patch_copier_room) ⟨told_patch_bytes,told_edns_Opt_Limit,trivial⟩) rfl rfl (fun x=>by kernel_rfl)
def F_ref01_Take (s_1:List UInt8) (at_2:Int) (size_3:Int):Option ((List UInt8×Bool)) :=
 if decide (at_2<0)=false then
  if decide (size_3<0)=false then
   if decide ((↑s_1.length:Int)<at_2)=false then
    if decide (IntKind.i64.wrap ((↑s_1.length:Int)-at_2)<size_3)=true then
     some (([],false))
    else
     natOf (IntKind.i64.wrap (at_2+size_3)) fun n4 =>
     grd (n4≤s_1.length) <|
     natOf at_2 fun n5 =>
     grd (n5≤n4) <|
     some ((List.drop n5 (List.take n4 s_1),true))
   else
    some (([],false))
  else
   some (([],false))
 else
  some (([],false))
def ann_ref01_Take:List (List Nat×Ann):=[]
theorem told_ref01_Take:Told CC Tryz.prog 92 [.str,tI,tI] [.str,.bool] (fun x=>F_ref01_Take x.1 x.2.1 x.2.2):=told_of (n:=100000) (gok (an:=ann_ref01_Take) (fs:=[]) trivial) rfl rfl (fun x=>by kernel_rfl)
def step_ref01_Get_0 (size_3:Int) (v4:List UInt8):(Int×Int)→Option ((Int×Int) ⊕ Int):=fun (n_9,i_10) =>
 if decide (i_10<size_3)=true then
  natOf i_10 fun n11 =>
  bnd (v4[n11]?) fun x12 =>
  grdEq size_3 size_3 <|
  grdEq v4 v4 <|
  some (.inl ((IntKind.i64.wrap (IntKind.i64.wrap (256*n_9)+IntKind.i64.wrap (↑x12.toNat:Int)),IntKind.i64.wrap (i_10+1))))
 else
  some (.inr n_9)
def F_ref01_Get (s_1:List UInt8) (at_2:Int) (size_3:Int):Option ((Int×Bool)) :=
 bnd (F_ref01_Take s_1 at_2 size_3) fun (v4,v5) =>
 bnd (α:=((Int×Bool) ⊕ Unit)) (if (!v5)=false then
   if decide (size_3<1)=false then
    if decide (4<size_3)=true then
     some (.inl ((0,false)))
    else
     grdEq size_3 size_3 <|
     grdEq v4 v4 <|
     some (.inr (()))
   else
    some (.inl ((0,false)))
  else
   some (.inl ((0,false)))) fun o6 =>
 match o6 with
 | .inl (s6_7,s7_8) =>
  some ((s6_7,s7_8))
 | .inr _ =>
  bnd (loopS (step_ref01_Get_0 size_3 v4) ((0,0))) fun n_13 =>
  some ((n_13,true))
def ann_ref01_Get:List (List Nat×Ann):=[([4],⟨none,[(.ret,⟨(anyN 6 (.cons yI (.cons (.ty .bool) (anyN 34 .nil)))),[],[],[]⟩),(.normal,⟨(anyN 2 (.cons kI (anyN 5 (.cons kS (anyN 33 .nil))))),[],[],[]⟩)]⟩),([18],⟨some ⟨(anyN 2 (.cons kI (anyN 5 (.cons kS (anyN 1 (.cons yI (.cons yI (anyN 30 .nil)))))))),[],[],[]⟩,[(.exit 0,⟨(anyN 10 (.cons yI (anyN 31 .nil))),[],[],[]⟩)]⟩)]
@[reducible] def fs_ref01_Get:List (Nat×SFn):=[(92,.pure [.str,tI,tI] [.str,.bool] (fun x=>F_ref01_Take x.1 x.2.1 x.2.2))]
theorem told_ref01_Get:Told CC Tryz.prog 53 [.str,tI,tI] [tI,.bool] (fun x=>F_ref01_Get x.1 x.2.1 x.2.2):=told_of (n:=100000) (gok (an:=ann_ref01_Get) (fs:=fs_ref01_Get) ⟨told_ref01_Take,trivial⟩) rfl rfl (fun x=>by kernel_rfl)
def F_ref08_Head (s_1:List UInt8):Option ((Int×(Int×Bool))) :=
 if decide ((↑s_1.length:Int)<12)=true then
  some ((0,(0,false)))
 else
  bnd (F_ref01_Get s_1 0 2) fun (v2,v3) =>
  bnd (F_ref01_Get s_1 2 2) fun (v4,v5) =>
  some ((v2,(v4,true)))
def ann_ref08_Head:List (List Nat×Ann):=[]
@[reducible] def fs_ref08_Head:List (Nat×SFn):=[(53,.pure [.str,tI,tI] [tI,.bool] (fun x=>F_ref01_Get x.1 x.2.1 x.2.2))]
theorem told_ref08_Head:Told CC Tryz.prog 52 [.str] [tI,tI,.bool] (fun x=>F_ref08_Head x):=told_of (n:=100000) (gok (an:=ann_ref08_Head) (fs:=fs_ref08_Head) ⟨told_ref01_Get,trivial⟩) rfl rfl (fun x=>by kernel_rfl)
def F_flag_Field_may (f_1:Int) (bits_2:Int):Option (Bool) :=
 if decide (0≤bits_2)=true then
  if decide (bits_2≤65535)=true then
   if decide (0≤f_1)=true then
    some (decide (f_1<9))
   else
    some false
  else
   some false
 else
  some false
def ann_flag_Field_may:List (List Nat×Ann):=[]
theorem told_flag_Field_may:Told CC Tryz.prog 96 [tI,tI] [.bool] (fun x=>F_flag_Field_may x.1 x.2):=told_of (n:=100000) (gok (an:=ann_flag_Field_may) (fs:=[]) trivial) rfl rfl (fun x=>by kernel_rfl)
def F_flag_place_mask (p_1:(Int×Int)):Option (Int) :=
 natOf p_1.2 fun n2 =>
 some (IntKind.i64.wrap (IntKind.i64.wrap (1*2 ^ min n2 64)-1))
def ann_flag_place_mask:List (List Nat×Ann):=[]
theorem told_flag_place_mask:Told CC Tryz.prog 98 [(.agg (.cons tI tI))] [tI] (fun x=>F_flag_place_mask x):=told_of (n:=100000) (gok (an:=ann_flag_place_mask) (fs:=[]) trivial) rfl rfl (fun x=>by kernel_rfl)
def F_flag_Field_Of (f_1:Int) (bits_2:Int):Option (Int) :=
 bnd (F_flag_Field_may f_1 bits_2) fun v3 =>
 if (!v3)=true then
  some 0
 else
  if (f_1==0)=true then
   bnd (F_flag_place_mask (15,1)) fun v4 =>
   some (bits BinOp.and IntKind.i64 (bits_2.fdiv 32768) v4)
  else
   if (f_1==1)=true then
    bnd (F_flag_place_mask (11,4)) fun v5 =>
    some (bits BinOp.and IntKind.i64 (bits_2.fdiv 2048) v5)
   else
    if (f_1==2)=true then
     bnd (F_flag_place_mask (10,1)) fun v6 =>
     some (bits BinOp.and IntKind.i64 (bits_2.fdiv 1024) v6)
    else
     if (f_1==3)=true then
      bnd (F_flag_place_mask (9,1)) fun v7 =>
      some (bits BinOp.and IntKind.i64 (bits_2.fdiv 512) v7)
     else
      if (f_1==4)=true then
       bnd (F_flag_place_mask (8,1)) fun v8 =>
       some (bits BinOp.and IntKind.i64 (bits_2.fdiv 256) v8)
      else
       if (f_1==5)=true then
        bnd (F_flag_place_mask (7,1)) fun v9 =>
        some (bits BinOp.and IntKind.i64 (bits_2.fdiv 128) v9)
       else
        if (f_1==6)=true then
         bnd (F_flag_place_mask (5,1)) fun v10 =>
         some (bits BinOp.and IntKind.i64 (bits_2.fdiv 32) v10)
        else
         if (f_1==7)=true then
          bnd (F_flag_place_mask (4,1)) fun v11 =>
          some (bits BinOp.and IntKind.i64 (bits_2.fdiv 16) v11)
         else
          if (f_1==8)=true then
           bnd (F_flag_place_mask (0,4)) fun v12 =>
           some (bits BinOp.and IntKind.i64 (bits_2.fdiv 1) v12)
          else
           none
def ann_flag_Field_Of:List (List Nat×Ann):=[]
@[reducible] def fs_flag_Field_Of:List (Nat×SFn):=[(96,.pure [tI,tI] [.bool] (fun x=>F_flag_Field_may x.1 x.2)),(98,.pure [(.agg (.cons tI tI))] [tI] (fun x=>F_flag_place_mask x))]
theorem told_flag_Field_Of:Told CC Tryz.prog 57 [tI,tI] [tI] (fun x=>F_flag_Field_Of x.1 x.2):=told_of (n:=100000) (gok (an:=ann_flag_Field_Of) (fs:=fs_flag_Field_Of) ⟨told_flag_Field_may,told_flag_place_mask,trivial⟩) rfl rfl (fun x=>by kernel_rfl)
def F_flag_Field_With (f_1:Int) (bits_2:Int) (v_3:Int):Option ((Int×Bool)) :=
 bnd (F_flag_Field_may f_1 bits_2) fun v4 =>
 if (!v4)=true then
  some ((0,false))
 else
  if (f_1==0)=true then
   bnd (α:=((Int×Bool) ⊕ Unit)) (if decide (v_3<0)=false then
     bnd (F_flag_place_mask (15,1)) fun v5 =>
     if decide (v5<v_3)=true then
      gq (α:=Int) 15<|gq (α:=Int) 1<|gq (α:=Int) 11<|gq (α:=Int) 4<|gq (α:=Int) 10<|gq (α:=Int) 1<|gq (α:=Int) 9<|gq (α:=Int) 1<|gq (α:=Int) 8<|gq (α:=Int) 1<|gq (α:=Int) 7<|gq (α:=Int) 1<|gq (α:=Int) 5<|gq (α:=Int) 1<|gq (α:=Int) 4<|gq (α:=Int) 1<|gz<|gq (α:=Int) 4<|gq (α:=Int) 15<|gq (α:=Int) 1 <|
      some (.inl ((0,false)))
     else
      gq bits_2<|gq v_3<|gq (α:=Int) 15<|gq (α:=Int) 1<|gq (α:=Int) 11<|gq (α:=Int) 4<|gq (α:=Int) 10<|gq (α:=Int) 1<|gq (α:=Int) 9<|gq (α:=Int) 1<|gq (α:=Int) 8<|gq (α:=Int) 1<|gq (α:=Int) 7<|gq (α:=Int) 1<|gq (α:=Int) 5<|gq (α:=Int) 1<|gq (α:=Int) 4<|gq (α:=Int) 1<|gz<|gq (α:=Int) 4<|gq (α:=Int) 15<|gq (α:=Int) 1 <|
      some (.inr (()))
    else
     gq (α:=Int) 15<|gq (α:=Int) 1<|gq (α:=Int) 11<|gq (α:=Int) 4<|gq (α:=Int) 10<|gq (α:=Int) 1<|gq (α:=Int) 9<|gq (α:=Int) 1<|gq (α:=Int) 8<|gq (α:=Int) 1<|gq (α:=Int) 7<|gq (α:=Int) 1<|gq (α:=Int) 5<|gq (α:=Int) 1<|gq (α:=Int) 4<|gq (α:=Int) 1<|gz<|gq (α:=Int) 4<|gq (α:=Int) 15<|gq (α:=Int) 1 <|
     some (.inl ((0,false)))) fun o6 =>
   match o6 with
   | .inl (s6_7,s7_8) =>
    some ((s6_7,s7_8))
   | .inr _ =>
    bnd (F_flag_place_mask (15,1)) fun v9 =>
    some ((bits BinOp.or IntKind.i64 (bits BinOp.andNot IntKind.i64 bits_2 (IntKind.i64.wrap (v9*32768))) (IntKind.i64.wrap (v_3*32768)),true))
  else
   if (f_1==1)=true then
    bnd (α:=((Int×Bool) ⊕ Unit)) (if decide (v_3<0)=false then
      bnd (F_flag_place_mask (11,4)) fun v10 =>
      if decide (v10<v_3)=true then
       gq (α:=Int) 15<|gq (α:=Int) 1<|gq (α:=Int) 11<|gq (α:=Int) 4<|gq (α:=Int) 10<|gq (α:=Int) 1<|gq (α:=Int) 9<|gq (α:=Int) 1<|gq (α:=Int) 8<|gq (α:=Int) 1<|gq (α:=Int) 7<|gq (α:=Int) 1<|gq (α:=Int) 5<|gq (α:=Int) 1<|gq (α:=Int) 4<|gq (α:=Int) 1<|gz<|gq (α:=Int) 4<|gq (α:=Int) 11<|gq (α:=Int) 4 <|
       some (.inl ((0,false)))
      else
       gq bits_2<|gq v_3<|gq (α:=Int) 15<|gq (α:=Int) 1<|gq (α:=Int) 11<|gq (α:=Int) 4<|gq (α:=Int) 10<|gq (α:=Int) 1<|gq (α:=Int) 9<|gq (α:=Int) 1<|gq (α:=Int) 8<|gq (α:=Int) 1<|gq (α:=Int) 7<|gq (α:=Int) 1<|gq (α:=Int) 5<|gq (α:=Int) 1<|gq (α:=Int) 4<|gq (α:=Int) 1<|gz<|gq (α:=Int) 4<|gq (α:=Int) 11<|gq (α:=Int) 4 <|
       some (.inr (()))
     else
      gq (α:=Int) 15<|gq (α:=Int) 1<|gq (α:=Int) 11<|gq (α:=Int) 4<|gq (α:=Int) 10<|gq (α:=Int) 1<|gq (α:=Int) 9<|gq (α:=Int) 1<|gq (α:=Int) 8<|gq (α:=Int) 1<|gq (α:=Int) 7<|gq (α:=Int) 1<|gq (α:=Int) 5<|gq (α:=Int) 1<|gq (α:=Int) 4<|gq (α:=Int) 1<|gz<|gq (α:=Int) 4<|gq (α:=Int) 11<|gq (α:=Int) 4 <|
      some (.inl ((0,false)))) fun o11 =>
    match o11 with
    | .inl (s6_12,s7_13) =>
     some ((s6_12,s7_13))
    | .inr _ =>
     bnd (F_flag_place_mask (11,4)) fun v14 =>
     some ((bits BinOp.or IntKind.i64 (bits BinOp.andNot IntKind.i64 bits_2 (IntKind.i64.wrap (v14*2048))) (IntKind.i64.wrap (v_3*2048)),true))
   else
    if (f_1==2)=true then
     bnd (α:=((Int×Bool) ⊕ Unit)) (if decide (v_3<0)=false then
       bnd (F_flag_place_mask (10,1)) fun v15 =>
       if decide (v15<v_3)=true then
        gq (α:=Int) 15<|gq (α:=Int) 1<|gq (α:=Int) 11<|gq (α:=Int) 4<|gq (α:=Int) 10<|gq (α:=Int) 1<|gq (α:=Int) 9<|gq (α:=Int) 1<|gq (α:=Int) 8<|gq (α:=Int) 1<|gq (α:=Int) 7<|gq (α:=Int) 1<|gq (α:=Int) 5<|gq (α:=Int) 1<|gq (α:=Int) 4<|gq (α:=Int) 1<|gz<|gq (α:=Int) 4<|gq (α:=Int) 10<|gq (α:=Int) 1 <|
        some (.inl ((0,false)))
       else
        gq bits_2<|gq v_3<|gq (α:=Int) 15<|gq (α:=Int) 1<|gq (α:=Int) 11<|gq (α:=Int) 4<|gq (α:=Int) 10<|gq (α:=Int) 1<|gq (α:=Int) 9<|gq (α:=Int) 1<|gq (α:=Int) 8<|gq (α:=Int) 1<|gq (α:=Int) 7<|gq (α:=Int) 1<|gq (α:=Int) 5<|gq (α:=Int) 1<|gq (α:=Int) 4<|gq (α:=Int) 1<|gz<|gq (α:=Int) 4<|gq (α:=Int) 10<|gq (α:=Int) 1 <|
        some (.inr (()))
      else
       gq (α:=Int) 15<|gq (α:=Int) 1<|gq (α:=Int) 11<|gq (α:=Int) 4<|gq (α:=Int) 10<|gq (α:=Int) 1<|gq (α:=Int) 9<|gq (α:=Int) 1<|gq (α:=Int) 8<|gq (α:=Int) 1<|gq (α:=Int) 7<|gq (α:=Int) 1<|gq (α:=Int) 5<|gq (α:=Int) 1<|gq (α:=Int) 4<|gq (α:=Int) 1<|gz<|gq (α:=Int) 4<|gq (α:=Int) 10<|gq (α:=Int) 1 <|
       some (.inl ((0,false)))) fun o16 =>
     match o16 with
     | .inl (s6_17,s7_18) =>
      some ((s6_17,s7_18))
     | .inr _ =>
      bnd (F_flag_place_mask (10,1)) fun v19 =>
      some ((bits BinOp.or IntKind.i64 (bits BinOp.andNot IntKind.i64 bits_2 (IntKind.i64.wrap (v19*1024))) (IntKind.i64.wrap (v_3*1024)),true))
    else
     if (f_1==3)=true then
      bnd (α:=((Int×Bool) ⊕ Unit)) (if decide (v_3<0)=false then
        bnd (F_flag_place_mask (9,1)) fun v20 =>
        if decide (v20<v_3)=true then
         gq (α:=Int) 15<|gq (α:=Int) 1<|gq (α:=Int) 11<|gq (α:=Int) 4<|gq (α:=Int) 10<|gq (α:=Int) 1<|gq (α:=Int) 9<|gq (α:=Int) 1<|gq (α:=Int) 8<|gq (α:=Int) 1<|gq (α:=Int) 7<|gq (α:=Int) 1<|gq (α:=Int) 5<|gq (α:=Int) 1<|gq (α:=Int) 4<|gq (α:=Int) 1<|gz<|gq (α:=Int) 4<|gq (α:=Int) 9<|gq (α:=Int) 1 <|
         some (.inl ((0,false)))
        else
         gq bits_2<|gq v_3<|gq (α:=Int) 15<|gq (α:=Int) 1<|gq (α:=Int) 11<|gq (α:=Int) 4<|gq (α:=Int) 10<|gq (α:=Int) 1<|gq (α:=Int) 9<|gq (α:=Int) 1<|gq (α:=Int) 8<|gq (α:=Int) 1<|gq (α:=Int) 7<|gq (α:=Int) 1<|gq (α:=Int) 5<|gq (α:=Int) 1<|gq (α:=Int) 4<|gq (α:=Int) 1<|gz<|gq (α:=Int) 4<|gq (α:=Int) 9<|gq (α:=Int) 1 <|
         some (.inr (()))
       else
        gq (α:=Int) 15<|gq (α:=Int) 1<|gq (α:=Int) 11<|gq (α:=Int) 4<|gq (α:=Int) 10<|gq (α:=Int) 1<|gq (α:=Int) 9<|gq (α:=Int) 1<|gq (α:=Int) 8<|gq (α:=Int) 1<|gq (α:=Int) 7<|gq (α:=Int) 1<|gq (α:=Int) 5<|gq (α:=Int) 1<|gq (α:=Int) 4<|gq (α:=Int) 1<|gz<|gq (α:=Int) 4<|gq (α:=Int) 9<|gq (α:=Int) 1 <|
        some (.inl ((0,false)))) fun o21 =>
      match o21 with
      | .inl (s6_22,s7_23) =>
       some ((s6_22,s7_23))
      | .inr _ =>
       bnd (F_flag_place_mask (9,1)) fun v24 =>
       some ((bits BinOp.or IntKind.i64 (bits BinOp.andNot IntKind.i64 bits_2 (IntKind.i64.wrap (v24*512))) (IntKind.i64.wrap (v_3*512)),true))
     else
      if (f_1==4)=true then
       bnd (α:=((Int×Bool) ⊕ Unit)) (if decide (v_3<0)=false then
         bnd (F_flag_place_mask (8,1)) fun v25 =>
         if decide (v25<v_3)=true then
          gq (α:=Int) 15<|gq (α:=Int) 1<|gq (α:=Int) 11<|gq (α:=Int) 4<|gq (α:=Int) 10<|gq (α:=Int) 1<|gq (α:=Int) 9<|gq (α:=Int) 1<|gq (α:=Int) 8<|gq (α:=Int) 1<|gq (α:=Int) 7<|gq (α:=Int) 1<|gq (α:=Int) 5<|gq (α:=Int) 1<|gq (α:=Int) 4<|gq (α:=Int) 1<|gz<|gq (α:=Int) 4<|gq (α:=Int) 8<|gq (α:=Int) 1 <|
          some (.inl ((0,false)))
         else
          gq bits_2<|gq v_3<|gq (α:=Int) 15<|gq (α:=Int) 1<|gq (α:=Int) 11<|gq (α:=Int) 4<|gq (α:=Int) 10<|gq (α:=Int) 1<|gq (α:=Int) 9<|gq (α:=Int) 1<|gq (α:=Int) 8<|gq (α:=Int) 1<|gq (α:=Int) 7<|gq (α:=Int) 1<|gq (α:=Int) 5<|gq (α:=Int) 1<|gq (α:=Int) 4<|gq (α:=Int) 1<|gz<|gq (α:=Int) 4<|gq (α:=Int) 8<|gq (α:=Int) 1 <|
          some (.inr (()))
        else
         gq (α:=Int) 15<|gq (α:=Int) 1<|gq (α:=Int) 11<|gq (α:=Int) 4<|gq (α:=Int) 10<|gq (α:=Int) 1<|gq (α:=Int) 9<|gq (α:=Int) 1<|gq (α:=Int) 8<|gq (α:=Int) 1<|gq (α:=Int) 7<|gq (α:=Int) 1<|gq (α:=Int) 5<|gq (α:=Int) 1<|gq (α:=Int) 4<|gq (α:=Int) 1<|gz<|gq (α:=Int) 4<|gq (α:=Int) 8<|gq (α:=Int) 1 <|
         some (.inl ((0,false)))) fun o26 =>
       match o26 with
       | .inl (s6_27,s7_28) =>
        some ((s6_27,s7_28))
       | .inr _ =>
        bnd (F_flag_place_mask (8,1)) fun v29 =>
        some ((bits BinOp.or IntKind.i64 (bits BinOp.andNot IntKind.i64 bits_2 (IntKind.i64.wrap (v29*256))) (IntKind.i64.wrap (v_3*256)),true))
      else
       if (f_1==5)=true then
        bnd (α:=((Int×Bool) ⊕ Unit)) (if decide (v_3<0)=false then
          bnd (F_flag_place_mask (7,1)) fun v30 =>
          if decide (v30<v_3)=true then
           gq (α:=Int) 15<|gq (α:=Int) 1<|gq (α:=Int) 11<|gq (α:=Int) 4<|gq (α:=Int) 10<|gq (α:=Int) 1<|gq (α:=Int) 9<|gq (α:=Int) 1<|gq (α:=Int) 8<|gq (α:=Int) 1<|gq (α:=Int) 7<|gq (α:=Int) 1<|gq (α:=Int) 5<|gq (α:=Int) 1<|gq (α:=Int) 4<|gq (α:=Int) 1<|gz<|gq (α:=Int) 4<|gq (α:=Int) 7<|gq (α:=Int) 1 <|
           some (.inl ((0,false)))
          else
           gq bits_2<|gq v_3<|gq (α:=Int) 15<|gq (α:=Int) 1<|gq (α:=Int) 11<|gq (α:=Int) 4<|gq (α:=Int) 10<|gq (α:=Int) 1<|gq (α:=Int) 9<|gq (α:=Int) 1<|gq (α:=Int) 8<|gq (α:=Int) 1<|gq (α:=Int) 7<|gq (α:=Int) 1<|gq (α:=Int) 5<|gq (α:=Int) 1<|gq (α:=Int) 4<|gq (α:=Int) 1<|gz<|gq (α:=Int) 4<|gq (α:=Int) 7<|gq (α:=Int) 1 <|
           some (.inr (()))
         else
          gq (α:=Int) 15<|gq (α:=Int) 1<|gq (α:=Int) 11<|gq (α:=Int) 4<|gq (α:=Int) 10<|gq (α:=Int) 1<|gq (α:=Int) 9<|gq (α:=Int) 1<|gq (α:=Int) 8<|gq (α:=Int) 1<|gq (α:=Int) 7<|gq (α:=Int) 1<|gq (α:=Int) 5<|gq (α:=Int) 1<|gq (α:=Int) 4<|gq (α:=Int) 1<|gz<|gq (α:=Int) 4<|gq (α:=Int) 7<|gq (α:=Int) 1 <|
          some (.inl ((0,false)))) fun o31 =>
        match o31 with
        | .inl (s6_32,s7_33) =>
         some ((s6_32,s7_33))
        | .inr _ =>
         bnd (F_flag_place_mask (7,1)) fun v34 =>
         some ((bits BinOp.or IntKind.i64 (bits BinOp.andNot IntKind.i64 bits_2 (IntKind.i64.wrap (v34*128))) (IntKind.i64.wrap (v_3*128)),true))
       else
        if (f_1==6)=true then
         bnd (α:=((Int×Bool) ⊕ Unit)) (if decide (v_3<0)=false then
           bnd (F_flag_place_mask (5,1)) fun v35 =>
           if decide (v35<v_3)=true then
            gq (α:=Int) 15<|gq (α:=Int) 1<|gq (α:=Int) 11<|gq (α:=Int) 4<|gq (α:=Int) 10<|gq (α:=Int) 1<|gq (α:=Int) 9<|gq (α:=Int) 1<|gq (α:=Int) 8<|gq (α:=Int) 1<|gq (α:=Int) 7<|gq (α:=Int) 1<|gq (α:=Int) 5<|gq (α:=Int) 1<|gq (α:=Int) 4<|gq (α:=Int) 1<|gz<|gq (α:=Int) 4<|gq (α:=Int) 5<|gq (α:=Int) 1 <|
            some (.inl ((0,false)))
           else
            gq bits_2<|gq v_3<|gq (α:=Int) 15<|gq (α:=Int) 1<|gq (α:=Int) 11<|gq (α:=Int) 4<|gq (α:=Int) 10<|gq (α:=Int) 1<|gq (α:=Int) 9<|gq (α:=Int) 1<|gq (α:=Int) 8<|gq (α:=Int) 1<|gq (α:=Int) 7<|gq (α:=Int) 1<|gq (α:=Int) 5<|gq (α:=Int) 1<|gq (α:=Int) 4<|gq (α:=Int) 1<|gz<|gq (α:=Int) 4<|gq (α:=Int) 5<|gq (α:=Int) 1 <|
            some (.inr (()))
          else
           gq (α:=Int) 15<|gq (α:=Int) 1<|gq (α:=Int) 11<|gq (α:=Int) 4<|gq (α:=Int) 10<|gq (α:=Int) 1<|gq (α:=Int) 9<|gq (α:=Int) 1<|gq (α:=Int) 8<|gq (α:=Int) 1<|gq (α:=Int) 7<|gq (α:=Int) 1<|gq (α:=Int) 5<|gq (α:=Int) 1<|gq (α:=Int) 4<|gq (α:=Int) 1<|gz<|gq (α:=Int) 4<|gq (α:=Int) 5<|gq (α:=Int) 1 <|
           some (.inl ((0,false)))) fun o36 =>
         match o36 with
         | .inl (s6_37,s7_38) =>
          some ((s6_37,s7_38))
         | .inr _ =>
          bnd (F_flag_place_mask (5,1)) fun v39 =>
          some ((bits BinOp.or IntKind.i64 (bits BinOp.andNot IntKind.i64 bits_2 (IntKind.i64.wrap (v39*32))) (IntKind.i64.wrap (v_3*32)),true))
        else
         if (f_1==7)=true then
          bnd (α:=((Int×Bool) ⊕ Unit)) (if decide (v_3<0)=false then
            bnd (F_flag_place_mask (4,1)) fun v40 =>
            if decide (v40<v_3)=true then
             gq (α:=Int) 15<|gq (α:=Int) 1<|gq (α:=Int) 11<|gq (α:=Int) 4<|gq (α:=Int) 10<|gq (α:=Int) 1<|gq (α:=Int) 9<|gq (α:=Int) 1<|gq (α:=Int) 8<|gq (α:=Int) 1<|gq (α:=Int) 7<|gq (α:=Int) 1<|gq (α:=Int) 5<|gq (α:=Int) 1<|gq (α:=Int) 4<|gq (α:=Int) 1<|gz<|gq (α:=Int) 4<|gq (α:=Int) 4<|gq (α:=Int) 1 <|
             some (.inl ((0,false)))
            else
             gq bits_2<|gq v_3<|gq (α:=Int) 15<|gq (α:=Int) 1<|gq (α:=Int) 11<|gq (α:=Int) 4<|gq (α:=Int) 10<|gq (α:=Int) 1<|gq (α:=Int) 9<|gq (α:=Int) 1<|gq (α:=Int) 8<|gq (α:=Int) 1<|gq (α:=Int) 7<|gq (α:=Int) 1<|gq (α:=Int) 5<|gq (α:=Int) 1<|gq (α:=Int) 4<|gq (α:=Int) 1<|gz<|gq (α:=Int) 4<|gq (α:=Int) 4<|gq (α:=Int) 1 <|
             some (.inr (()))
           else
            gq (α:=Int) 15<|gq (α:=Int) 1<|gq (α:=Int) 11<|gq (α:=Int) 4<|gq (α:=Int) 10<|gq (α:=Int) 1<|gq (α:=Int) 9<|gq (α:=Int) 1<|gq (α:=Int) 8<|gq (α:=Int) 1<|gq (α:=Int) 7<|gq (α:=Int) 1<|gq (α:=Int) 5<|gq (α:=Int) 1<|gq (α:=Int) 4<|gq (α:=Int) 1<|gz<|gq (α:=Int) 4<|gq (α:=Int) 4<|gq (α:=Int) 1 <|
            some (.inl ((0,false)))) fun o41 =>
          match o41 with
          | .inl (s6_42,s7_43) =>
           some ((s6_42,s7_43))
          | .inr _ =>
           bnd (F_flag_place_mask (4,1)) fun v44 =>
           some ((bits BinOp.or IntKind.i64 (bits BinOp.andNot IntKind.i64 bits_2 (IntKind.i64.wrap (v44*16))) (IntKind.i64.wrap (v_3*16)),true))
         else
          if (f_1==8)=true then
           bnd (α:=((Int×Bool) ⊕ Unit)) (if decide (v_3<0)=false then
             bnd (F_flag_place_mask (0,4)) fun v45 =>
             if decide (v45<v_3)=true then
              gq (α:=Int) 15<|gq (α:=Int) 1<|gq (α:=Int) 11<|gq (α:=Int) 4<|gq (α:=Int) 10<|gq (α:=Int) 1<|gq (α:=Int) 9<|gq (α:=Int) 1<|gq (α:=Int) 8<|gq (α:=Int) 1<|gq (α:=Int) 7<|gq (α:=Int) 1<|gq (α:=Int) 5<|gq (α:=Int) 1<|gq (α:=Int) 4<|gq (α:=Int) 1<|gz<|gq (α:=Int) 4<|gz<|gq (α:=Int) 4 <|
              some (.inl ((0,false)))
             else
              gq bits_2<|gq v_3<|gq (α:=Int) 15<|gq (α:=Int) 1<|gq (α:=Int) 11<|gq (α:=Int) 4<|gq (α:=Int) 10<|gq (α:=Int) 1<|gq (α:=Int) 9<|gq (α:=Int) 1<|gq (α:=Int) 8<|gq (α:=Int) 1<|gq (α:=Int) 7<|gq (α:=Int) 1<|gq (α:=Int) 5<|gq (α:=Int) 1<|gq (α:=Int) 4<|gq (α:=Int) 1<|gz<|gq (α:=Int) 4<|gz<|gq (α:=Int) 4 <|
              some (.inr (()))
            else
             gq (α:=Int) 15<|gq (α:=Int) 1<|gq (α:=Int) 11<|gq (α:=Int) 4<|gq (α:=Int) 10<|gq (α:=Int) 1<|gq (α:=Int) 9<|gq (α:=Int) 1<|gq (α:=Int) 8<|gq (α:=Int) 1<|gq (α:=Int) 7<|gq (α:=Int) 1<|gq (α:=Int) 5<|gq (α:=Int) 1<|gq (α:=Int) 4<|gq (α:=Int) 1<|gz<|gq (α:=Int) 4<|gz<|gq (α:=Int) 4 <|
             some (.inl ((0,false)))) fun o46 =>
           match o46 with
           | .inl (s6_47,s7_48) =>
            some ((s6_47,s7_48))
           | .inr _ =>
            bnd (F_flag_place_mask (0,4)) fun v49 =>
            some ((bits BinOp.or IntKind.i64 (bits BinOp.andNot IntKind.i64 bits_2 (IntKind.i64.wrap (v49*1))) (IntKind.i64.wrap (v_3*1)),true))
          else
           none
def ann_flag_Field_With:List (List Nat×Ann):=[([12],⟨none,[(.ret,⟨(anyN 6 (.cons yI (.cons (.ty .bool) (anyN 28 .nil)))),[.cells 170 true (.cons kI (.cons kI (.cons kI (.cons kI (.cons kI (.cons kI (.cons kI (.cons kI (.cons kI (.cons kI (.cons kI (.cons kI (.cons kI (.cons kI (.cons kI yS24))))))))))))))),.cells 169 true yS9],[],[]⟩),(.normal,⟨(anyN 1 (.cons kI (.cons kI (anyN 5 (.cons (.ptr 1 0) (anyN 27 .nil)))))),[.cells 170 true (.cons kI (.cons kI (.cons kI (.cons kI (.cons kI (.cons kI (.cons kI (.cons kI (.cons kI (.cons kI (.cons kI (.cons kI (.cons kI (.cons kI (.cons kI yS24))))))))))))))),.cells 169 true yS9],[],[]⟩)]⟩)]
@[reducible] def fs_flag_Field_With:List (Nat×SFn):=[(96,.pure [tI,tI] [.bool] (fun x=>F_flag_Field_may x.1 x.2)),(98,.pure [(.agg (.cons tI tI))] [tI] (fun x=>F_flag_place_mask x))]
theorem told_flag_Field_With:Told CC Tryz.prog 63 [tI,tI,tI] [tI,.bool] (fun x=>F_flag_Field_With x.1 x.2.1 x.2.2):=told_of (n:=100000) (gok (an:=ann_flag_Field_With) (fs:=fs_flag_Field_With) ⟨told_flag_Field_may,told_flag_place_mask,trivial⟩) rfl rfl (fun x=>by kernel_rfl)
end
end Go.Abs

set_option maxRecDepth 100000
namespace Go.Abs
open Go Go.Proofs
noncomputable section
def step_name_split_0:(List UInt8×List (List UInt8))→Option ((List UInt8×List (List UInt8)) ⊕ (Bool ⊕ (List UInt8×List (List UInt8)))):=fun (n_2,l_3) =>
 bnd (α:=(List (List UInt8) ⊕ List (List UInt8))) (if decide (0<(↑n_2.length:Int))=true then
   if (!n_2==[0])=true then
    gq n_2 <|
    some (.inl l_3)
   else
    gq n_2 <|
    some (.inr l_3)
  else
   gq n_2 <|
   some (.inr l_3)) fun o4 =>
 match o4 with
 | .inl l_5 =>
  bnd (n_2[0]?) fun x6 =>
  bnd (α:=(Bool ⊕ List (List UInt8))) (if decide (IntKind.i64.wrap (↑x6.toNat:Int)<1)=false then
    if decide (63<IntKind.i64.wrap (↑x6.toNat:Int))=false then
     if decide ((↑n_2.length:Int)≤IntKind.i64.wrap (IntKind.i64.wrap (↑x6.toNat:Int)+1))=true then
      some (.inl false)
     else
      gq n_2 <|
      grdEq (IntKind.i64.wrap (↑x6.toNat:Int)) (IntKind.i64.wrap (↑x6.toNat:Int)) <|
      some (.inr l_5)
    else
     some (.inl false)
   else
    some (.inl false)) fun o7 =>
  match o7 with
  | .inl s3_8 =>
   some (.inr (.inl s3_8))
  | .inr l_9 =>
   natOf (IntKind.i64.wrap (1+IntKind.i64.wrap (↑x6.toNat:Int))) fun n10 =>
   grd (n10≤n_2.length) <|
   grd (1≤n10) <|
   grd ((l_9.length+[List.drop 1 (List.take n10 n_2)].length)*16≤roomLim) <|
   natOf (IntKind.i64.wrap (1+IntKind.i64.wrap (↑x6.toNat:Int))) fun n11 =>
   grd (n11≤n_2.length) <|
   some (.inl ((List.drop n11 n_2,l_9++[List.drop 1 (List.take n10 n_2)])))
 | .inr l_12 =>
  some (.inr (.inr ((n_2,l_12))))
def F_name_split (n_1:List UInt8):Option ((List (List UInt8)×Bool)) :=
 if decide (255<(↑n_1.length:Int))=true then
  some (([],false))
 else
  bnd (loopS step_name_split_0 ((n_1,[]))) fun o13 =>
  match o13 with
  | .inl s3_14 =>
   some (([],s3_14))
  | .inr (n_15,l_16) =>
   some ((l_16,n_15==[0]))
def ann_name_split:List (List Nat×Ann):=[([15],⟨none,[(.normal,⟨(.cons kS yS45),[],[⟨⟨0,.str,9,true,true⟩,false⟩],[]⟩),(.exit 0,⟨(.cons kS yS45),[],[⟨⟨0,.str,9,true,true⟩,false⟩],[]⟩)]⟩),([24],⟨none,[(.ret,⟨(anyN 2 (.cons .nill (.cons (.ty .bool) (anyN 42 .nil)))),[],[⟨⟨0,.str,9,true,true⟩,false⟩],[]⟩),(.normal,⟨(.cons kS (anyN 3 (.cons yS37 (.cons kI (anyN 40 .nil))))),[],[⟨⟨0,.str,9,true,true⟩,false⟩],[]⟩)]⟩),([14],⟨some ⟨(.cons (.ty .str) yS45),[],[⟨⟨0,.str,9,true,true⟩,true⟩],[]⟩,[(.ret,⟨(anyN 2 (.cons .nill (.cons (.ty .bool) (anyN 42 .nil)))),[],[⟨⟨0,.str,9,true,true⟩,false⟩],[]⟩),(.exit 0,⟨(.cons (.ty .str) yS45),[],[⟨⟨0,.str,9,true,true⟩,false⟩],[]⟩)]⟩)]
theorem told_name_split:Told CC Tryz.prog 110 [.str] [(.list .str),.bool] (fun x=>F_name_split x):=told_of (n:=100000) (gok (an:=ann_name_split) (fs:=[]) trivial) rfl rfl (fun x=>by kernel_rfl)
def F_name_Check (n_1:List UInt8):Option (Bool) :=
 bnd (F_name_split n_1) fun (v2,v3) =>
 some v3
def ann_name_Check:List (List Nat×Ann):=[]
@[reducible] def fs_name_Check:List (Nat×SFn):=[(110,.pure [.str] [(.list .str),.bool] (fun x=>F_name_split x))]
theorem told_name_Check:Told CC Tryz.prog 75 [.str] [.bool] (fun x=>F_name_Check x):=told_of (n:=100000) (gok (an:=ann_name_Check) (fs:=fs_name_Check) ⟨told_name_split,trivial⟩) rfl rfl (fun x=>by kernel_rfl)
def F_group_in (n_1:Int) (most_2:Int):Option (Bool) :=
 if decide (0≤n_1)=true then
  some (decide (n_1≤most_2))
 else
  some false
def ann_group_in:List (List Nat×Ann):=[]
theorem told_group_in:Told CC Tryz.prog 113 [tI,tI] [.bool] (fun x=>F_group_in x.1 x.2):=told_of (n:=100000) (gok (an:=ann_group_in) (fs:=[]) trivial) rfl rfl (fun x=>by kernel_rfl)
def F_flag_Field_lay (f_1:Int) (bits_2:Int) (v_3:Int):Option (Int) :=
 bnd (F_flag_Field_With f_1 bits_2 v_3) fun (v4,v5) =>
 some v4
def ann_flag_Field_lay:List (List Nat×Ann):=[]
@[reducible] def fs_flag_Field_lay:List (Nat×SFn):=[(63,.pure [tI,tI,tI] [tI,.bool] (fun x=>F_flag_Field_With x.1 x.2.1 x.2.2))]
theorem told_flag_Field_lay:Told CC Tryz.prog 117 [tI,tI,tI] [tI] (fun x=>F_flag_Field_lay x.1 x.2.1 x.2.2):=told_of (n:=100000) (gok (an:=ann_flag_Field_lay) (fs:=fs_flag_Field_lay) ⟨told_flag_Field_With,trivial⟩) rfl rfl (fun x=>by kernel_rfl)
def step_flag_Answer_0 (asked_1:Int):(Int×Int)→Option ((Int×Int) ⊕ Int):=fun (bits_6,s17_7) =>
 if decide (s17_7<3)=true then
  natOf s17_7 fun n8 =>
  bnd ([1,4,7][n8]?) fun x9 =>
  bnd (F_flag_Field_Of x9 asked_1) fun v10 =>
  bnd (F_flag_Field_lay x9 bits_6 v10) fun v11 =>
  gq asked_1 <|
  grdEq (α:=List (Int)) ([1,4,7]) ([1,4,7]) <|
  gq (α:=Int) 3 <|
  some (.inl ((v11,IntKind.i64.wrap (s17_7+1))))
 else
  some (.inr bits_6)
def F_flag_Answer (asked_1:Int) (code_2:Int):Option (Int) :=
 bnd (F_flag_Field_lay 5 0 1) fun v3 =>
 bnd (F_flag_Field_lay 0 v3 1) fun v4 =>
 bnd (F_flag_Field_lay 8 v4 (bits BinOp.and IntKind.i64 (if 0 > code_2 then 0 else code_2) 15)) fun v5 =>
 bnd (loopS (step_flag_Answer_0 asked_1) ((v5,0))) fun bits_12 =>
 some bits_12
def ann_flag_Answer:List (List Nat×Ann):=[([10],⟨some ⟨(.cons kI (anyN 4 (.cons yI (.cons (.func 57 .nil .nil) (anyN 8 (.cons (.keep (.list tI)) (.cons kI (.cons yI (anyN 12 .nil))))))))),[],[],[]⟩,[(.exit 0,⟨(anyN 5 (.cons yI (anyN 24 .nil))),[],[],[]⟩)]⟩)]
@[reducible] def fs_flag_Answer:List (Nat×SFn):=[(57,.pure [tI,tI] [tI] (fun x=>F_flag_Field_Of x.1 x.2)),(117,.pure [tI,tI,tI] [tI] (fun x=>F_flag_Field_lay x.1 x.2.1 x.2.2))]
theorem told_flag_Answer:Told CC Tryz.prog 84 [tI,tI] [tI] (fun x=>F_flag_Answer x.1 x.2):=told_of (n:=100000) (gok (an:=ann_flag_Answer) (fs:=fs_flag_Answer) ⟨told_flag_Field_Of,told_flag_Field_lay,trivial⟩) rfl rfl (fun x=>by kernel_rfl)
def F_age_Left (now_1:Int) (until_2:Int):Option (Int) :=
 bnd (F_age_Live now_1 until_2) fun v3 =>
 if (!v3)=true then
  some 0
 else
  some (if 604800<IntKind.i64.wrap (until_2-now_1) then 604800 else IntKind.i64.wrap (until_2-now_1))
def ann_age_Left:List (List Nat×Ann):=[]
@[reducible] def fs_age_Left:List (Nat×SFn):=[(49,.pure [tI,tI] [.bool] (fun x=>F_age_Live x.1 x.2))]
theorem told_age_Left:Told CC Tryz.prog 119 [tI,tI] [tI] (fun x=>F_age_Left x.1 x.2):=told_of (n:=100000) (gok (an:=ann_age_Left) (fs:=fs_age_Left) ⟨told_age_Live,trivial⟩) rfl rfl (fun x=>by kernel_rfl)
def F_ref04_bad (e_1:Int):Option ((List UInt8×(Int×Int))) :=
 some (([],(0,e_1)))
def ann_ref04_bad:List (List Nat×Ann):=[]
theorem told_ref04_bad:Told CC Tryz.prog 121 [tI] [.str,tI,tI] (fun x=>F_ref04_bad x):=told_of (n:=100000) (gok (an:=ann_ref04_bad) (fs:=[]) trivial) rfl rfl (fun x=>by kernel_rfl)
def step_ref04_Read_0 (msg_1:List UInt8):(Int×(List UInt8×(Int×Int)))→Option ((Int×(List UInt8×(Int×Int))) ⊕ (List UInt8×(Int×Int))):=fun (at_3,out_4,next_5,least_6) =>
 bnd (F_ref01_Get msg_1 at_3 1) fun (v7,v8) =>
 if (!v8)=true then
  bnd (F_ref04_bad 2) fun (v9,v10,v11) =>
  some (.inr ((v9,(v10,v11))))
 else
  if (v7==0)=true then
   if decide (next_5<0)=true then
    grd (out_4.length+1≤maxStr) <|
    some (.inr ((out_4++[0],(IntKind.i64.wrap (at_3+1),0))))
   else
    grd (out_4.length+1≤maxStr) <|
    some (.inr ((out_4++[0],(next_5,0))))
  else
   if decide (192≤v7)=true then
    bnd (F_ref01_Get msg_1 at_3 2) fun (v12,v13) =>
    if (!v13)=true then
     bnd (F_ref04_bad 2) fun (v14,v15,v16) =>
     some (.inr ((v14,(v15,v16))))
    else
     if decide (least_6≤IntKind.i64.wrap (v12-49152))=true then
      bnd (F_ref04_bad 3) fun (v17,v18,v19) =>
      some (.inr ((v17,(v18,v19))))
     else
      if decide (next_5<0)=true then
       gq msg_1 <|
       some (.inl ((IntKind.i64.wrap (v12-49152),(out_4,(IntKind.i64.wrap (at_3+2),IntKind.i64.wrap (v12-49152))))))
      else
       gq msg_1 <|
       some (.inl ((IntKind.i64.wrap (v12-49152),(out_4,(next_5,IntKind.i64.wrap (v12-49152))))))
   else
    if decide (63<v7)=true then
     bnd (F_ref04_bad 3) fun (v20,v21,v22) =>
     some (.inr ((v20,(v21,v22))))
    else
     bnd (F_ref01_Take msg_1 at_3 (IntKind.i64.wrap (v7+1))) fun (v23,v24) =>
     if (!v24)=true then
      bnd (F_ref04_bad 2) fun (v25,v26,v27) =>
      some (.inr ((v25,(v26,v27))))
     else
      grd (out_4.length+v23.length≤maxStr) <|
      if decide (255<IntKind.i64.wrap ((↑(out_4++v23).length:Int)+1))=true then
       bnd (F_ref04_bad 3) fun (v28,v29,v30) =>
       some (.inr ((v28,(v29,v30))))
      else
       gq msg_1 <|
       some (.inl ((IntKind.i64.wrap (IntKind.i64.wrap (at_3+v7)+1),(out_4++v23,(next_5,least_6)))))
def F_ref04_Read (msg_1:List UInt8) (at_2:Int):Option ((List UInt8×(Int×Int))) :=
 bnd (loopS (step_ref04_Read_0 msg_1) ((at_2,([],(-1,at_2))))) fun (s4_31,s5_32,s6_33) =>
 some ((s4_31,(s5_32,s6_33)))
def ann_ref04_Read:List (List Nat×Ann):=[([9],⟨some ⟨(.cons kS (.cons yI (anyN 5 (.cons (.ty .str) (.cons yI (.cons yI (anyN 92 .nil))))))),[],[],[]⟩,[(.ret,⟨(anyN 4 (.cons (.ty .str) (.cons yI (.cons yI (anyN 95 .nil))))),[],[],[]⟩)]⟩)]
@[reducible] def fs_ref04_Read:List (Nat×SFn):=[(53,.pure [.str,tI,tI] [tI,.bool] (fun x=>F_ref01_Get x.1 x.2.1 x.2.2)),(121,.pure [tI] [.str,tI,tI] (fun x=>F_ref04_bad x)),(92,.pure [.str,tI,tI] [.str,.bool] (fun x=>F_ref01_Take x.1 x.2.1 x.2.2))]
theorem told_ref04_Read:Told CC Tryz.prog 93 [.str,tI] [.str,tI,tI] (fun x=>F_ref04_Read x.1 x.2):=told_of (n:=100000) (gok (an:=ann_ref04_Read) (fs:=fs_ref04_Read) ⟨told_ref01_Get,told_ref04_bad,told_ref01_Take,trivial⟩) rfl rfl (fun x=>by kernel_rfl)
def step_ref08_questions_0 (s_1:List UInt8) (many_3:Int):(Int×(List ((List UInt8×(Int×Int)))×Int))→Option ((Int×(List ((List UInt8×(Int×Int)))×Int)) ⊕ ((Int×Int) ⊕ (Int×List ((List UInt8×(Int×Int)))))):=fun (at_4,out_5,i_6) =>
 if decide (i_6<many_3)=true then
  bnd (F_ref04_Read s_1 at_4) fun (v7,v8,v9) =>
  if (v9 != 0)=true then
   some (.inr (.inl ((0,v9))))
  else
   bnd (F_ref01_Take s_1 v8 4) fun (v10,v11) =>
   if (!v11)=true then
    some (.inr (.inl ((0,2))))
   else
    bnd (F_ref01_Get s_1 v8 2) fun (v12,v13) =>
    bnd (F_ref01_Get s_1 (IntKind.i64.wrap (v8+2)) 2) fun (v14,v15) =>
    grd ((out_5.length+[(v7,v12,v14)].length)*32≤roomLim) <|
    gq s_1<|gq many_3 <|
    some (.inl ((IntKind.i64.wrap (v8+4),(out_5++[(v7,v12,v14)],IntKind.i64.wrap (i_6+1)))))
 else
  some (.inr (.inr ((at_4,out_5))))
def F_ref08_questions (s_1:List UInt8) (at_2:Int) (many_3:Int):Option ((List ((List UInt8×(Int×Int)))×(Int×Int))) :=
 bnd (loopS (step_ref08_questions_0 s_1 many_3) ((at_2,([],0)))) fun o16 =>
 match o16 with
 | .inl (s7_17,s8_18) =>
  some (([],(s7_17,s8_18)))
 | .inr (at_19,out_20) =>
  some ((out_20,(at_19,0)))
def ann_ref08_questions:List (List Nat×Ann):=[([8],⟨some ⟨(.cons kS (.cons yI (.cons kI (anyN 6 (.cons (.own tQ 0 true) (.cons yI (anyN 56 .nil))))))),[],[⟨⟨0,tQ,24,true,true⟩,true⟩],[]⟩,[(.ret,⟨(anyN 6 (.cons .nill (.cons yI (.cons yI (anyN 58 .nil))))),[],[⟨⟨0,tQ,24,true,true⟩,false⟩],[]⟩),(.exit 0,⟨(anyN 1 (.cons yI (anyN 7 (.cons (.own tQ 0 true) (anyN 57 .nil))))),[],[⟨⟨0,tQ,24,true,true⟩,false⟩],[]⟩)]⟩)]
@[reducible] def fs_ref08_questions:List (Nat×SFn):=[(93,.pure [.str,tI] [.str,tI,tI] (fun x=>F_ref04_Read x.1 x.2)),(92,.pure [.str,tI,tI] [.str,.bool] (fun x=>F_ref01_Take x.1 x.2.1 x.2.2)),(53,.pure [.str,tI,tI] [tI,.bool] (fun x=>F_ref01_Get x.1 x.2.1 x.2.2))]
theorem told_ref08_questions:Told CC Tryz.prog 54 [.str,tI,tI] [(.list tQ),tI,tI] (fun x=>F_ref08_questions x.1 x.2.1 x.2.2):=told_of (n:=100000) (gok (an:=ann_ref08_questions) (fs:=fs_ref08_questions) ⟨told_ref04_Read,told_ref01_Take,told_ref01_Get,trivial⟩) rfl rfl (fun x=>by kernel_rfl)
def F_octet_Take (s_1:List UInt8) (at_2:Int) (size_3:Int):Option ((List UInt8×Bool)) :=
 if decide (at_2<0)=false then
  if decide (size_3<0)=false then
   if decide ((↑s_1.length:Int)<at_2)=false then
    if decide (IntKind.i64.wrap ((↑s_1.length:Int)-at_2)<size_3)=true then
     some (([],false))
    else
     natOf at_2 fun n4 =>
     grd (n4≤s_1.length) <|
     natOf size_3 fun n5 =>
     grd (n5≤(List.drop n4 s_1).length) <|
     some ((List.take n5 (List.drop n4 s_1),true))
   else
    some (([],false))
  else
   some (([],false))
 else
  some (([],false))
def ann_octet_Take:List (List Nat×Ann):=[]
theorem told_octet_Take:Told CC Tryz.prog 123 [.str,tI,tI] [.str,.bool] (fun x=>F_octet_Take x.1 x.2.1 x.2.2):=told_of (n:=100000) (gok (an:=ann_octet_Take) (fs:=[]) trivial) rfl rfl (fun x=>by kernel_rfl)
def F_octet_sized (size_1:Int):Option (Bool) :=
 if decide (1≤size_1)=true then
  some (decide (size_1≤4))
 else
  some false
def ann_octet_sized:List (List Nat×Ann):=[]
theorem told_octet_sized:Told CC Tryz.prog 124 [tI] [.bool] (fun x=>F_octet_sized x):=told_of (n:=100000) (gok (an:=ann_octet_sized) (fs:=[]) trivial) rfl rfl (fun x=>by kernel_rfl)
def step_octet_Get_0 (size_3:Int) (v4:List UInt8):(Int×Int)→Option ((Int×Int) ⊕ Int):=fun (n_10,s27_11) =>
 if decide (s27_11<size_3)=true then
  natOf s27_11 fun n12 =>
  bnd (v4[n12]?) fun x13 =>
  grdEq v4 v4 <|
  grdEq size_3 size_3 <|
  some (.inl ((bits BinOp.or IntKind.i64 (IntKind.i64.wrap (n_10*256)) (IntKind.i64.wrap (↑x13.toNat:Int)),IntKind.i64.wrap (s27_11+1))))
 else
  some (.inr n_10)
def F_octet_Get (s_1:List UInt8) (at_2:Int) (size_3:Int):Option ((Int×Bool)) :=
 bnd (F_octet_Take s_1 at_2 size_3) fun (v4,v5) =>
 bnd (α:=((Int×Bool) ⊕ Unit)) (if (!v5)=false then
   bnd (F_octet_sized size_3) fun v6 =>
   if (!v6)=true then
    some (.inl ((0,false)))
   else
    grdEq size_3 size_3 <|
    grdEq v4 v4 <|
    some (.inr (()))
  else
   some (.inl ((0,false)))) fun o7 =>
 match o7 with
 | .inl (s6_8,s7_9) =>
  some ((s6_8,s7_9))
 | .inr _ =>
  bnd (loopS (step_octet_Get_0 size_3 v4) ((0,0))) fun n_14 =>
  some ((n_14,true))
def ann_octet_Get:List (List Nat×Ann):=[([4],⟨none,[(.ret,⟨(anyN 6 (.cons yI (.cons (.ty .bool) (anyN 31 .nil)))),[],[],[]⟩),(.normal,⟨(anyN 2 (.cons kI (anyN 5 (.cons kS (anyN 30 .nil))))),[],[],[]⟩)]⟩),([18],⟨some ⟨(anyN 8 (.cons kS (anyN 1 (.cons yI (anyN 15 (.cons kI (.cons yI (anyN 11 .nil)))))))),[],[],[]⟩,[(.exit 0,⟨(anyN 10 (.cons yI (anyN 28 .nil))),[],[],[]⟩)]⟩)]
@[reducible] def fs_octet_Get:List (Nat×SFn):=[(123,.pure [.str,tI,tI] [.str,.bool] (fun x=>F_octet_Take x.1 x.2.1 x.2.2)),(124,.pure [tI] [.bool] (fun x=>F_octet_sized x))]
theorem told_octet_Get:Told CC Tryz.prog 95 [.str,tI,tI] [tI,.bool] (fun x=>F_octet_Get x.1 x.2.1 x.2.2):=told_of (n:=100000) (gok (an:=ann_octet_Get) (fs:=fs_octet_Get) ⟨told_octet_Take,told_octet_sized,trivial⟩) rfl rfl (fun x=>by kernel_rfl)
def step_octet_Put_0 (n_1:Int) (size_2:Int):(List (Int)×Int)→Option ((List (Int)×Int) ⊕ List (Int)):=fun (b_7,s24_8) =>
 if decide (s24_8<size_2)=true then
  natOf (IntKind.i64.wrap (8*s24_8)) fun n9 =>
  natOf (IntKind.i64.wrap (IntKind.i64.wrap (size_2-1)-s24_8)) fun n10 =>
  bnd (b_7[n10]?) fun x11 =>
  gq n_1<|gq size_2<|gq size_2 <|
  some (.inl ((b_7.set n10 (IntKind.u8.wrap (n_1.fdiv (2 ^ min n9 64))),IntKind.i64.wrap (s24_8+1))))
 else
  some (.inr b_7)
def F_octet_Put (n_1:Int) (size_2:Int):Option (List UInt8) :=
 bnd (α:=(List UInt8 ⊕ Unit)) (bnd (F_octet_sized size_2) fun v3 =>
  if (!v3)=false then
   if decide (n_1<0)=false then
    natOf (IntKind.i64.wrap (8*size_2)) fun n4 =>
    if (n_1.fdiv (2 ^ min n4 64) != 0)=true then
     some (.inl ([]))
    else
     gq n_1<|gq size_2 <|
     some (.inr (()))
   else
    some (.inl ([]))
  else
   some (.inl ([]))) fun o5 =>
 match o5 with
 | .inl s4_6 =>
  some s4_6
 | .inr _ =>
  grd (0≤size_2∧size_2≤size_2∧size_2≤9223372036854775807∧1*size_2≤281474976710656) <|
  bnd (loopS (step_octet_Put_0 n_1 size_2) ((List.replicate size_2.toNat 0,0))) fun b_12 =>
  some (List.map (fun n=>UInt8.ofNat (Int.toNat n)) b_12)
def ann_octet_Put:List (List Nat×Ann):=[([2],⟨none,[(.ret,⟨(anyN 4 (.cons (.ty .str) (anyN 36 .nil))),[],[],[]⟩),(.normal,⟨(.cons kI (.cons kI (anyN 39 .nil))),[],[],[]⟩)]⟩),([16],⟨some ⟨(.cons kI (.cons kI (anyN 3 (.cons yS22 (anyN 17 (.cons kI (.cons yI (anyN 16 .nil)))))))),[],[⟨⟨0,(.int .u8),5,true,true⟩,false⟩],[0]⟩,[(.exit 0,⟨(anyN 5 (.cons yS22 (anyN 35 .nil))),[],[⟨⟨0,(.int .u8),5,true,true⟩,false⟩],[0]⟩)]⟩)]
@[reducible] def fs_octet_Put:List (Nat×SFn):=[(124,.pure [tI] [.bool] (fun x=>F_octet_sized x))]
theorem told_octet_Put:Told CC Tryz.prog 103 [tI,tI] [.str] (fun x=>F_octet_Put x.1 x.2):=told_of (n:=100000) (gok (an:=ann_octet_Put) (fs:=fs_octet_Put) ⟨told_octet_sized,trivial⟩) rfl rfl (fun x=>by kernel_rfl)
def F_patch_two (n_1:Int):Option (List UInt8) :=
 bnd (F_octet_Put n_1 2) fun v2 =>
 some v2
def ann_patch_two:List (List Nat×Ann):=[]
@[reducible] def fs_patch_two:List (Nat×SFn):=[(103,.pure [tI,tI] [.str] (fun x=>F_octet_Put x.1 x.2))]
theorem told_patch_two:Told CC Tryz.prog 88 [tI] [.str] (fun x=>F_patch_two x):=told_of (n:=100000) (gok (an:=ann_patch_two) (fs:=fs_patch_two) ⟨told_octet_Put,trivial⟩) rfl rfl (fun x=>by kernel_rfl)
def step_tmpl_Template_Part_0 (t_1:List UInt8×Int×Int×Int×List UInt8×List (List (Int×Int×Int)×Int×Bool)) (x9:((tI.cons (tI.cons tI)).agg.list.cons (tI.cons Ty.bool)).agg.den) (at_11:Int) (v13:List UInt8):(Int×List (Int))→Option ((Int×List (Int)) ⊕ List (Int)):=fun (s8_14,b3b_15) =>
 if decide (s8_14<(↑(List.length x9.1):Int))=true then
  if (↑(List.length x9.1):Int)=0 then
   none
  else
   natOf ((IntKind.i64.wrap (at_11+s8_14)).tmod (↑(List.length x9.1):Int)) fun n16 =>
   bnd (x9.1[n16]?) fun x17 =>
   natOf x17.2.2 fun n18 =>
   grd (n18≤List.length t_1.2.2.2.2.1) <|
   natOf x17.1 fun n19 =>
   grd (n19≤n18) <|
   grd ((b3b_15.length+(List.map (fun b=>(↑b.toNat:Int)) (List.drop n19 (List.take n18 t_1.2.2.2.2.1))).length)*1≤roomLim) <|
   grd (((b3b_15++List.map (fun b=>(↑b.toNat:Int)) (List.drop n19 (List.take n18 t_1.2.2.2.2.1))).length+(List.map (fun b=>(↑b.toNat:Int)) v13).length)*1≤roomLim) <|
   natOf x17.2.1 fun n20 =>
   grd (n20≤List.length t_1.2.2.2.2.1) <|
   natOf (IntKind.i64.wrap (x17.2.2+4)) fun n21 =>
   grd (n21≤n20) <|
   grd (((b3b_15++List.map (fun b=>(↑b.toNat:Int)) (List.drop n19 (List.take n18 t_1.2.2.2.2.1))++List.map (fun b=>(↑b.toNat:Int)) v13).length+(List.map (fun b=>(↑b.toNat:Int)) (List.drop n21 (List.take n20 t_1.2.2.2.2.1))).length)*1≤roomLim) <|
   grdEq ((↑(List.length x9.1):Int)) ((↑(List.length x9.1):Int)) <|
   g6 t_1<|g3 x9<|gq v13<|g3 x9<|gq at_11 <|
   some (.inl ((IntKind.i64.wrap (s8_14+1),b3b_15++List.map (fun b=>(↑b.toNat:Int)) (List.drop n19 (List.take n18 t_1.2.2.2.2.1))++List.map (fun b=>(↑b.toNat:Int)) v13++List.map (fun b=>(↑b.toNat:Int)) (List.drop n21 (List.take n20 t_1.2.2.2.2.1)))))
 else
  g6 t_1<|g3 x9<|gq v13<|g3 x9<|gq at_11 <|
  some (.inr b3b_15)
def F_tmpl_Template_Part (t_1:(List UInt8×(Int×(Int×(Int×(List UInt8×List ((List ((Int×(Int×Int)))×(Int×Bool))))))))) (i_2:Int) (now_3:Int) (turn_4:Int):Option (List UInt8) :=
 bnd (α:=(List UInt8 ⊕ Unit)) (if decide (i_2<0)=false then
   if decide ((↑(List.length t_1.2.2.2.2.2):Int)≤i_2)=false then
    if decide (turn_4<0)=false then
     bnd (F_tmpl_Template_Check (t_1.1,t_1.2.1,t_1.2.2.1,t_1.2.2.2.1,t_1.2.2.2.2.1,t_1.2.2.2.2.2)) fun v5 =>
     if (!v5)=true then
      g6 t_1 <|
      some (.inl ([]))
     else
      gq i_2<|gq now_3<|gq turn_4<|g6 t_1 <|
      some (.inr (()))
    else
     g6 t_1 <|
     some (.inl ([]))
   else
    g6 t_1 <|
    some (.inl ([]))
  else
   g6 t_1 <|
   some (.inl ([]))) fun o6 =>
 match o6 with
 | .inl s8_7 =>
  some s8_7
 | .inr _ =>
  natOf i_2 fun n8 =>
  bnd (t_1.2.2.2.2.2[n8]?) fun x9 =>
  bnd (F_age_Live now_3 x9.2.1) fun v10 =>
  if (!v10)=true then
   some ([])
  else
   if (↑(List.length x9.1):Int)=0 then
    none
   else
    bnd (α:=Int) (if x9.2.2=true then
      gq now_3<|g6 t_1<|g3 x9 <|
      some 0
     else
      gq now_3<|g6 t_1<|g3 x9 <|
      some (turn_4.tmod (↑(List.length x9.1):Int))) fun at_11 =>
    bnd (F_age_Left now_3 x9.2.1) fun v12 =>
    bnd (F_octet_Put v12 4) fun v13 =>
    bnd (loopS (step_tmpl_Template_Part_0 t_1 x9 at_11 v13) ((0,[]))) fun b3b_22 =>
    grd (b3b_22.length≤9223372036854775807) <|
    grd (∀(n:(Ty.int IntKind.u8).den),n∈b3b_22→0≤n∧n<256) <|
    some (List.map (fun n=>UInt8.ofNat (Int.toNat n)) b3b_22)
def ann_tmpl_Template_Part:List (List Nat×Ann):=[([2],⟨none,[(.ret,⟨(anyN 8 (.cons (.ty .str) (anyN 69 .nil))),[.cells 42 true yS10],[],[]⟩),(.normal,⟨(anyN 1 (.cons kI (.cons kI (.cons kI (.cons (.ptr 0 0) (anyN 73 .nil)))))),[.cells 42 true yS10],[],[]⟩)]⟩),([22],⟨none,[(.normal,⟨(anyN 2 (.cons kI (anyN 1 (.cons (.ptr 0 0) (anyN 4 (.cons (.ptr 1 0) (.cons yI (anyN 67 .nil)))))))),[.cells 42 true yS10,.cells 69 true yS20],[],[]⟩)]⟩),([3,150,0,36],⟨some ⟨(.cons .yld (.cons (.ptr 4 0) (.cons (.ptr 5 0) (anyN 4 (.cons kI (.cons yI (anyN 17 .nil))))))),[.cells 42 true yS10,.cells 69 true yS20,.cells 9 true (.cons kS .nil),.cells 154 true (.cons (.adr 3 0) (.cons yS22 .nil)),.cells 69 true yS20,.cells 3 true (.cons kI .nil)],[⟨⟨0,(.int .u8),5,false,false⟩,true⟩],[]⟩,[(.exit 0,⟨(anyN 26 .nil),[.cells 42 true yS10,.cells 69 true yS20,.cells 9 true (.cons kS .nil),.cells 154 true (.cons (.adr 3 0) (.cons yS22 .nil)),.cells 69 true yS20,.cells 3 true (.cons kI .nil)],[⟨⟨1,(.int .u8),5,false,false⟩,true⟩],[]⟩)]⟩)]
@[reducible] def fs_tmpl_Template_Part:List (Nat×SFn):=[(80,.pure [yT12] [.bool] (fun x=>F_tmpl_Template_Check x)),(49,.pure [tI,tI] [.bool] (fun x=>F_age_Live x.1 x.2)),(119,.pure [tI,tI] [tI] (fun x=>F_age_Left x.1 x.2)),(103,.pure [tI,tI] [.str] (fun x=>F_octet_Put x.1 x.2))]
theorem told_tmpl_Template_Part:Told CC Tryz.prog 89 [yT12,tI,tI,tI] [.str] (fun x=>F_tmpl_Template_Part x.1 x.2.1 x.2.2.1 x.2.2.2):=told_of (n:=100000) (gok (an:=ann_tmpl_Template_Part) (fs:=fs_tmpl_Template_Part) ⟨told_tmpl_Template_Check,told_age_Live,told_age_Left,told_octet_Put,trivial⟩) rfl rfl (fun x=>by kernel_rfl)
def F_edns_in (n_1:Int) (most_2:Int):Option (Bool) :=
 if decide (0≤n_1)=true then
  some (decide (n_1≤most_2))
 else
  some false
def ann_edns_in:List (List Nat×Ann):=[]
theorem told_edns_in:Told CC Tryz.prog 131 [tI,tI] [.bool] (fun x=>F_edns_in x.1 x.2):=told_of (n:=100000) (gok (an:=ann_edns_in) (fs:=[]) trivial) rfl rfl (fun x=>by kernel_rfl)
end
end Go.Abs

set_option maxRecDepth 100000
namespace Go.Abs
open Go Go.Proofs
noncomputable section
def F_edns_Opt_Record (o_1:(Bool×(Int×(Int×(Int×Bool))))):Option (((List UInt8×(Int×(Int×(Int×List UInt8))))×Bool)) :=
 bnd (α:=(Bool ⊕ Unit)) (bnd (α:=Bool) (if (!o_1.1)=false then
    bnd (F_edns_in o_1.2.1 65535) fun v2 =>
    if (!v2)=false then
     bnd (F_edns_in o_1.2.2.1 127) fun v3 =>
     if (!v3)=false then
      bnd (F_edns_in o_1.2.2.2.1 255) fun v4 =>
      g5 o_1<|gq (α:=List UInt8) ([])<|gz<|gz<|gz<|gq (α:=List UInt8) ([]) <|
      some (!v4)
     else
      g5 o_1<|gq (α:=List UInt8) ([])<|gz<|gz<|gz<|gq (α:=List UInt8) ([]) <|
      some true
    else
     g5 o_1<|gq (α:=List UInt8) ([])<|gz<|gz<|gz<|gq (α:=List UInt8) ([]) <|
     some true
   else
    g5 o_1<|gq (α:=List UInt8) ([])<|gz<|gz<|gz<|gq (α:=List UInt8) ([]) <|
    some true) fun s25_5 =>
  if s25_5=true then
   g5 o_1<|gq (α:=List UInt8) ([])<|gz<|gz<|gz<|gq (α:=List UInt8) ([]) <|
   some (.inl false)
  else
   g5 o_1<|gq (α:=List UInt8) ([])<|gz<|gz<|gz<|gq (α:=List UInt8) ([]) <|
   some (.inr (()))) fun o6 =>
 match o6 with
 | .inl s3_7 =>
  some ((([],(0,(0,(0,[])))),s3_7))
 | .inr _ =>
  if o_1.2.2.2.2=true then
   some ((([0],(41,(o_1.2.1,(bits BinOp.or IntKind.i64 (bits BinOp.or IntKind.i64 (IntKind.i64.wrap (o_1.2.2.1*16777216)) (IntKind.i64.wrap (o_1.2.2.2.1*65536))) 32768,[])))),true))
  else
   some ((([0],(41,(o_1.2.1,(bits BinOp.or IntKind.i64 (IntKind.i64.wrap (o_1.2.2.1*16777216)) (IntKind.i64.wrap (o_1.2.2.2.1*65536)),[])))),true))
def ann_edns_Opt_Record:List (List Nat×Ann):=[([2],⟨none,[(.ret,⟨(anyN 2 (.cons (.ptr 1 0) (.cons (.ty .bool) (anyN 40 .nil)))),[.cells 50 true yS44,.cells 101 true yS27],[],[]⟩),(.normal,⟨(anyN 1 (.cons (.ptr 0 0) (.cons (.ptr 1 0) (anyN 41 .nil)))),[.cells 50 true yS44,.cells 101 true yS27],[],[]⟩)]⟩),([3],⟨none,[(.normal,⟨(anyN 1 (.cons (.ptr 0 0) (.cons (.ptr 1 0) (anyN 22 (.cons (.ty .bool) (anyN 18 .nil)))))),[.cells 50 true yS44,.cells 101 true yS27],[],[]⟩)]⟩)]
@[reducible] def fs_edns_Opt_Record:List (Nat×SFn):=[(131,.pure [tI,tI] [.bool] (fun x=>F_edns_in x.1 x.2))]
theorem told_edns_Opt_Record:Told CC Tryz.prog 101 [yT25] [tRR,.bool] (fun x=>F_edns_Opt_Record x):=told_of (n:=100000) (gok (an:=ann_edns_Opt_Record) (fs:=fs_edns_Opt_Record) ⟨told_edns_in,trivial⟩) rfl rfl (fun x=>by kernel_rfl)
def F_patch_copier_opt (c_1:(List UInt8×(Int×(Int×(Int×(List UInt8×(List ((List ((Int×(Int×Int)))×(Int×Bool)))×(Int×(Int×(List UInt8×(Int×(Int×(Bool×(Int×(Int×(Int×(Bool×Int))))))))))))))))):Option ((List UInt8×Int)) :=
 if (!c_1.2.2.2.2.2.2.2.2.2.2.2.1)=true then
  some (([],0))
 else
  bnd (F_edns_Opt_Record (true,4096,0,0,c_1.2.2.2.2.2.2.2.2.2.2.2.2.2.2.2.1)) fun (v2,v3) =>
  bnd (F_patch_two v2.2.1) fun v4 =>
  grd (List.length v2.1+v4.length≤maxStr) <|
  bnd (F_patch_two v2.2.2.1) fun v5 =>
  grd ((v2.1++v4).length+v5.length≤maxStr) <|
  bnd (F_octet_Put v2.2.2.2.1 4) fun v6 =>
  grd ((v2.1++v4++v5).length+v6.length≤maxStr) <|
  bnd (F_patch_two 0) fun v7 =>
  grd ((v2.1++v4++v5++v6).length+v7.length≤maxStr) <|
  some ((v2.1++v4++v5++v6++v7,1))
def ann_patch_copier_opt:List (List Nat×Ann):=[]
@[reducible] def fs_patch_copier_opt:List (Nat×SFn):=[(101,.pure [yT25] [tRR,.bool] (fun x=>F_edns_Opt_Record x)),(88,.pure [tI] [.str] (fun x=>F_patch_two x)),(103,.pure [tI,tI] [.str] (fun x=>F_octet_Put x.1 x.2))]
theorem told_patch_copier_opt:Told CC Tryz.prog 86 [yT5] [.str,tI] (fun x=>F_patch_copier_opt x):=told_of (n:=100000) (gok (an:=ann_patch_copier_opt) (fs:=fs_patch_copier_opt) ⟨told_edns_Opt_Record,told_patch_two,told_octet_Put,trivial⟩) rfl rfl (fun x=>by kernel_rfl)
end
end Go.Abs

set_option maxRecDepth 100000
namespace Go.Abs
open Go Go.Proofs
noncomputable section
def step_patch_copier_copy_0 (c_1:List UInt8×Int×Int×Int×List UInt8×List (List (Int×Int×Int)×Int×Bool)×Int×Int×List UInt8×Int×Int×Bool×Int×Int×Int×Bool×Int) (turn_2:Int) (v3:Int) (bits_8:Int) (v10:Int) (v11:Int) (v12:List UInt8) (v13:Int):(Int×List (Int))→Option ((Int×List (Int)) ⊕ List (Int)):=fun (s62_14,b1b_15) =>
 if decide (s62_14<(↑[c_1.2.2.2.2.2.2.1,bits_8,1,v10,v11,v13].length:Int))=true then
  natOf s62_14 fun n16 =>
  bnd ([c_1.2.2.2.2.2.2.1,bits_8,1,v10,v11,v13][n16]?) fun x17 =>
  bnd (F_patch_two x17) fun v18 =>
  grd ((b1b_15.length+(List.map (fun b=>(↑b.toNat:Int)) v18).length)*1≤roomLim) <|
  gq turn_2<|gq v3<|gq v12 <|
  grdEq ([c_1.2.2.2.2.2.2.1,bits_8,1,v10,v11,v13]) ([c_1.2.2.2.2.2.2.1,bits_8,1,v10,v11,v13]) <|
  grdEq ((↑[c_1.2.2.2.2.2.2.1,bits_8,1,v10,v11,v13].length:Int)) ((↑[c_1.2.2.2.2.2.2.1,bits_8,1,v10,v11,v13].length:Int)) <|
  g17 c_1 <|
  some (.inl ((IntKind.i64.wrap (s62_14+1),b1b_15++List.map (fun b=>(↑b.toNat:Int)) v18)))
 else
  gq turn_2<|gq v3<|gq v12<|g17 c_1 <|
  some (.inr b1b_15)
def step_patch_copier_copy_1 (c_1:List UInt8×Int×Int×Int×List UInt8×List (List (Int×Int×Int)×Int×Bool)×Int×Int×List UInt8×Int×Int×Bool×Int×Int×Int×Bool×Int) (turn_2:Int) (v3:Int) (v12:List UInt8):(Int×List (Int))→Option ((Int×List (Int)) ⊕ List (Int)):=fun (s88_22,b1b_23) =>
 if decide (s88_22<v3)=true then
  bnd (F_tmpl_Template_Part (c_1.1,c_1.2.1,c_1.2.2.1,c_1.2.2.2.1,c_1.2.2.2.2.1,c_1.2.2.2.2.2.1) s88_22 c_1.2.2.2.2.2.2.2.2.2.2.2.2.2.2.2.2 turn_2) fun v24 =>
  grd ((b1b_23.length+(List.map (fun b=>(↑b.toNat:Int)) v24).length)*1≤roomLim) <|
  gq turn_2<|gq v12<|gq v3<|g17 c_1 <|
  some (.inl ((IntKind.i64.wrap (s88_22+1),b1b_23++List.map (fun b=>(↑b.toNat:Int)) v24)))
 else
  gq v12<|g17 c_1 <|
  some (.inr b1b_23)
def F_patch_copier_copy (c_1:(List UInt8×(Int×(Int×(Int×(List UInt8×(List ((List ((Int×(Int×Int)))×(Int×Bool)))×(Int×(Int×(List UInt8×(Int×(Int×(Bool×(Int×(Int×(Int×(Bool×Int))))))))))))))))) (turn_2:Int):Option (List UInt8) :=
 bnd (F_patch_copier_room (c_1.1,c_1.2.1,c_1.2.2.1,c_1.2.2.2.1,c_1.2.2.2.2.1,c_1.2.2.2.2.2.1,c_1.2.2.2.2.2.2.1,c_1.2.2.2.2.2.2.2.1,c_1.2.2.2.2.2.2.2.2.1,c_1.2.2.2.2.2.2.2.2.2.1,c_1.2.2.2.2.2.2.2.2.2.2.1,c_1.2.2.2.2.2.2.2.2.2.2.2.1,c_1.2.2.2.2.2.2.2.2.2.2.2.2.1,c_1.2.2.2.2.2.2.2.2.2.2.2.2.2.1,c_1.2.2.2.2.2.2.2.2.2.2.2.2.2.2.1,c_1.2.2.2.2.2.2.2.2.2.2.2.2.2.2.2.1,c_1.2.2.2.2.2.2.2.2.2.2.2.2.2.2.2.2)) fun (v3,v4) =>
 bnd (F_flag_Answer c_1.2.2.2.2.2.2.2.1 c_1.2.2.2.1) fun v5 =>
 bnd (α:=Int) (if decide (v3<(↑(List.length c_1.2.2.2.2.2.1):Int))=true then
   bnd (F_flag_Field_With 3 v5 1) fun (v6,v7) =>
   gq turn_2<|gq v3<|g17 c_1 <|
   some v6
  else
   gq turn_2<|gq v3<|g17 c_1 <|
   some v5) fun bits_8 =>
 natOf v3 fun n9 =>
 grd (n9≤List.length c_1.2.2.2.2.2.1) <|
 bnd (F_patch_counts (List.take n9 c_1.2.2.2.2.2.1)) fun (v10,v11) =>
 bnd (F_patch_copier_opt (c_1.1,c_1.2.1,c_1.2.2.1,c_1.2.2.2.1,c_1.2.2.2.2.1,c_1.2.2.2.2.2.1,c_1.2.2.2.2.2.2.1,c_1.2.2.2.2.2.2.2.1,c_1.2.2.2.2.2.2.2.2.1,c_1.2.2.2.2.2.2.2.2.2.1,c_1.2.2.2.2.2.2.2.2.2.2.1,c_1.2.2.2.2.2.2.2.2.2.2.2.1,c_1.2.2.2.2.2.2.2.2.2.2.2.2.1,c_1.2.2.2.2.2.2.2.2.2.2.2.2.2.1,c_1.2.2.2.2.2.2.2.2.2.2.2.2.2.2.1,c_1.2.2.2.2.2.2.2.2.2.2.2.2.2.2.2.1,c_1.2.2.2.2.2.2.2.2.2.2.2.2.2.2.2.2)) fun (v12,v13) =>
 bnd (loopS (step_patch_copier_copy_0 c_1 turn_2 v3 bits_8 v10 v11 v12 v13) ((0,[]))) fun b1b_19 =>
 bnd (F_patch_two c_1.2.2.2.2.2.2.2.2.2.1) fun v20 =>
 grd (List.length c_1.2.2.2.2.2.2.2.2.1+v20.length≤maxStr) <|
 bnd (F_patch_two c_1.2.2.2.2.2.2.2.2.2.2.1) fun v21 =>
 grd ((c_1.2.2.2.2.2.2.2.2.1++v20).length+v21.length≤maxStr) <|
 grd ((b1b_19.length+(List.map (fun b=>(↑b.toNat:Int)) (c_1.2.2.2.2.2.2.2.2.1++v20++v21)).length)*1≤roomLim) <|
 bnd (loopS (step_patch_copier_copy_1 c_1 turn_2 v3 v12) ((0,b1b_19++List.map (fun b=>(↑b.toNat:Int)) (c_1.2.2.2.2.2.2.2.2.1++v20++v21)))) fun b1b_25 =>
 grd ((b1b_25.length+(List.map (fun b=>(↑b.toNat:Int)) v12).length)*1≤roomLim) <|
 grd ((b1b_25++List.map (fun b=>(↑b.toNat:Int)) v12).length≤9223372036854775807) <|
 grd (∀(n:(Ty.int IntKind.u8).den),n∈b1b_25++List.map (fun b=>(↑b.toNat:Int)) v12→0≤n∧n<256) <|
 some (List.map (fun n=>UInt8.ofNat (Int.toNat n)) (b1b_25++List.map (fun b=>(↑b.toNat:Int)) v12))
def ann_patch_copier_copy:List (List Nat×Ann):=[([6],⟨none,[(.normal,⟨(anyN 1 (.cons kI (.cons (.ptr 0 0) (anyN 2 (.cons kI (anyN 1 (.cons yI (anyN 95 .nil)))))))),[.cells 106 true yS6],[],[]⟩)]⟩),([22],⟨some ⟨(anyN 1 (.cons kI (.cons (.ptr 0 0) (anyN 2 (.cons kI (anyN 4 (.cons kS (anyN 1 (.cons (.ptr 1 0) (anyN 47 (.cons (.keep (.list tI)) (.cons kI (.cons yI (anyN 40 .nil)))))))))))))),[.cells 106 true yS6,.cells 154 true (.cons (.adr 1 0) (.cons yS22 .nil))],[⟨⟨0,(.int .u8),5,false,false⟩,true⟩],[]⟩,[(.exit 0,⟨(anyN 1 (.cons kI (.cons (.ptr 0 0) (anyN 2 (.cons kI (anyN 4 (.cons kS (anyN 1 (.cons (.ptr 1 0) (anyN 90 .nil)))))))))),[.cells 106 true yS6,.cells 154 true (.cons (.adr 1 0) (.cons yS22 .nil))],[⟨⟨0,(.int .u8),5,false,false⟩,false⟩],[]⟩)]⟩),([41],⟨some ⟨(anyN 1 (.cons kI (.cons (.ptr 0 0) (anyN 7 (.cons kS (anyN 1 (.cons (.ptr 1 0) (anyN 74 (.cons kI (.cons yI (anyN 14 .nil))))))))))),[.cells 106 true yS6,.cells 154 true (.cons (.ptr 1 0) (.cons yS22 .nil))],[⟨⟨4,(.int .u8),5,false,false⟩,true⟩],[]⟩,[(.exit 2,⟨(anyN 10 (.cons kS (anyN 1 (.cons (.ptr 1 0) (anyN 90 .nil))))),[.cells 106 true yS6,.cells 154 true (.cons (.ptr 1 0) (.cons yS22 .nil))],[⟨⟨5,(.int .u8),5,false,false⟩,true⟩],[]⟩)]⟩)]
@[reducible] def fs_patch_copier_copy:List (Nat×SFn):=[(88,.pure [tI] [.str] (fun x=>F_patch_two x)),(89,.pure [yT12,tI,tI,tI] [.str] (fun x=>F_tmpl_Template_Part x.1 x.2.1 x.2.2.1 x.2.2.2)),(51,.pure [yT5] [tI,tI] (fun x=>F_patch_copier_room x)),(84,.pure [tI,tI] [tI] (fun x=>F_flag_Answer x.1 x.2)),(63,.pure [tI,tI,tI] [tI,.bool] (fun x=>F_flag_Field_With x.1 x.2.1 x.2.2)),(85,.pure [(.list yT1)] [tI,tI] (fun x=>F_patch_counts x)),(86,.pure [yT5] [.str,tI] (fun x=>F_patch_copier_opt x))]
theorem told_patch_copier_copy:Told CC Tryz.prog 50 [yT5,tI] [.str] (fun x=>F_patch_copier_copy x.1 x.2):=told_of (n:=100000) (gok (an:=ann_patch_copier_copy) (fs:=fs_patch_copier_copy) ⟨told_patch_two,told_tmpl_Template_Part,told_patch_copier_room,told_flag_Answer,told_flag_Field_With,told_patch_counts,told_patch_copier_opt,trivial⟩) rfl rfl (fun x=>by kernel_rfl)
def F_msg_small (n_1:Int):Option (Bool) :=
 if decide (0≤n_1)=true then
  some (decide (n_1≤65535))
 else
  some false
def ann_msg_small:List (List Nat×Ann):=[]
theorem told_msg_small:Told CC Tryz.prog 132 [tI] [.bool] (fun x=>F_msg_small x):=told_of (n:=100000) (gok (an:=ann_msg_small) (fs:=[]) trivial) rfl rfl (fun x=>by kernel_rfl)
def F_msg_Check_2 (q_1:(List UInt8×(Int×Int))):Option (Bool) :=
 bnd (F_name_Check q_1.1) fun v2 =>
 if (!v2)=false then
  bnd (F_msg_small q_1.2.1) fun v3 =>
  if (!v3)=false then
   bnd (F_msg_small q_1.2.2) fun v4 =>
   some (!v4)
  else
   some true
 else
  some true
def ann_msg_Check_2:List (List Nat×Ann):=[]
@[reducible] def fs_msg_Check_2:List (Nat×SFn):=[(75,.pure [.str] [.bool] (fun x=>F_name_Check x)),(132,.pure [tI] [.bool] (fun x=>F_msg_small x))]
theorem told_msg_Check_2:Told CC Tryz.prog 134 [tQ] [.bool] (fun x=>F_msg_Check_2 x):=told_of (n:=100000) (gok (an:=ann_msg_Check_2) (fs:=fs_msg_Check_2) ⟨told_name_Check,told_msg_small,trivial⟩) rfl rfl (fun x=>by kernel_rfl)
def F_name_small (c_1:Int):Option (Int) :=
 if decide (65≤c_1)=true then
  if decide (c_1≤90)=true then
   some (IntKind.u8.wrap (c_1+32))
  else
   some c_1
 else
  some c_1
def ann_name_small:List (List Nat×Ann):=[]
theorem told_name_small:Told CC Tryz.prog 140 [(.int .u8)] [(.int .u8)] (fun x=>F_name_small x):=told_of (n:=100000) (gok (an:=ann_name_small) (fs:=[]) trivial) rfl rfl (fun x=>by kernel_rfl)
def step_name_low_0 (s_1:List UInt8):(List (Int)×(List (Int)×Int))→Option ((List (Int)×(List (Int)×Int)) ⊕ List (Int)):=fun (b_2,s8_3,s10_4) =>
 if decide (s10_4<(↑(List.map (fun b=>(↑b.toNat:Int)) s_1).length:Int))=true then
  natOf s10_4 fun n5 =>
  bnd (s8_3[n5]?) fun x6 =>
  bnd (F_name_small x6) fun v7 =>
  natOf s10_4 fun n8 =>
  bnd (b_2[n8]?) fun x9 =>
  grdEq ((↑(List.map (fun b=>(↑b.toNat:Int)) s_1).length:Int)) ((↑(List.map (fun b=>(↑b.toNat:Int)) s_1).length:Int)) <|
  some (.inl ((b_2.set n8 v7,(s8_3.set n8 v7,IntKind.i64.wrap (s10_4+1)))))
 else
  some (.inr b_2)
def F_name_low (s_1:List UInt8):Option (List UInt8) :=
 bnd (loopS (step_name_low_0 s_1) ((List.map (fun b=>(↑b.toNat:Int)) s_1,(List.map (fun b=>(↑b.toNat:Int)) s_1,0)))) fun b_10 =>
 some (List.map (fun n=>UInt8.ofNat (Int.toNat n)) b_10)
def ann_name_low:List (List Nat×Ann):=[([8],⟨some ⟨(anyN 3 (.cons yS22 (anyN 4 (.cons yS22 (.cons kI (.cons yI (anyN 12 .nil))))))),[],[⟨⟨0,(.int .u8),5,true,true⟩,false⟩],[0]⟩,[(.exit 0,⟨(anyN 3 (.cons yS22 (anyN 19 .nil))),[],[⟨⟨0,(.int .u8),5,true,true⟩,false⟩],[0]⟩)]⟩)]
@[reducible] def fs_name_low:List (Nat×SFn):=[(140,.pure [(.int .u8)] [(.int .u8)] (fun x=>F_name_small x))]
theorem told_name_low:Told CC Tryz.prog 111 [.str] [.str] (fun x=>F_name_low x):=told_of (n:=100000) (gok (an:=ann_name_low) (fs:=fs_name_low) ⟨told_name_small,trivial⟩) rfl rfl (fun x=>by kernel_rfl)
def F_name_Low (n_1:List UInt8):Option (List UInt8) :=
 bnd (F_name_Check n_1) fun v2 =>
 if (!v2)=true then
  some ([])
 else
  bnd (F_name_low n_1) fun v3 =>
  some v3
def ann_name_Low:List (List Nat×Ann):=[]
@[reducible] def fs_name_Low:List (Nat×SFn):=[(75,.pure [.str] [.bool] (fun x=>F_name_Check x)),(111,.pure [.str] [.str] (fun x=>F_name_low x))]
theorem told_name_Low:Told CC Tryz.prog 76 [.str] [.str] (fun x=>F_name_Low x):=told_of (n:=100000) (gok (an:=ann_name_Low) (fs:=fs_name_Low) ⟨told_name_Check,told_name_low,trivial⟩) rfl rfl (fun x=>by kernel_rfl)
def F_tmpl_asked (q_1:(List UInt8×(Int×Int))):Option (Bool) :=
 bnd (F_name_Check q_1.1) fun v2 =>
 if v2=true then
  bnd (F_name_Low q_1.1) fun v3 =>
  if (v3==q_1.1)=true then
   bnd (F_tmpl_in q_1.2.1 65535) fun v4 =>
   if v4=true then
    bnd (F_tmpl_in q_1.2.2 65535) fun v5 =>
    some v5
   else
    some false
  else
   some false
 else
  some false
def ann_tmpl_asked:List (List Nat×Ann):=[]
@[reducible] def fs_tmpl_asked:List (Nat×SFn):=[(75,.pure [.str] [.bool] (fun x=>F_name_Check x)),(76,.pure [.str] [.str] (fun x=>F_name_Low x)),(45,.pure [tI,tI] [.bool] (fun x=>F_tmpl_in x.1 x.2))]
theorem told_tmpl_asked:Told CC Tryz.prog 46 [tQ] [.bool] (fun x=>F_tmpl_asked x):=told_of (n:=100000) (gok (an:=ann_tmpl_asked) (fs:=fs_tmpl_asked) ⟨told_name_Check,told_name_Low,told_tmpl_in,trivial⟩) rfl rfl (fun x=>by kernel_rfl)
def F_patch_copier_asked (c_1:(List UInt8×(Int×(Int×(Int×(List UInt8×(List ((List ((Int×(Int×Int)))×(Int×Bool)))×(Int×(Int×(List UInt8×(Int×(Int×(Bool×(Int×(Int×(Int×(Bool×Int))))))))))))))))):Option (Bool) :=
 bnd (F_name_Low c_1.2.2.2.2.2.2.2.2.1) fun v2 =>
 if (!v2==[])=true then
  if (v2==c_1.1)=true then
   if (c_1.2.2.2.2.2.2.2.2.2.1==c_1.2.1)=true then
    if (c_1.2.2.2.2.2.2.2.2.2.2.1==c_1.2.2.1)=true then
     bnd (F_patch_in c_1.2.2.2.2.2.2.2.2.2.1 65535) fun v3 =>
     if v3=true then
      bnd (F_patch_in c_1.2.2.2.2.2.2.2.2.2.2.1 65535) fun v4 =>
      some v4
     else
      some false
    else
     some false
   else
    some false
  else
   some false
 else
  some false
def ann_patch_copier_asked:List (List Nat×Ann):=[]
@[reducible] def fs_patch_copier_asked:List (Nat×SFn):=[(76,.pure [.str] [.str] (fun x=>F_name_Low x)),(81,.pure [tI,tI] [.bool] (fun x=>F_patch_in x.1 x.2))]
theorem told_patch_copier_asked:Told CC Tryz.prog 82 [yT5] [.bool] (fun x=>F_patch_copier_asked x):=told_of (n:=100000) (gok (an:=ann_patch_copier_asked) (fs:=fs_patch_copier_asked) ⟨told_name_Low,told_patch_in,trivial⟩) rfl rfl (fun x=>by kernel_rfl)
def step_patch_copier_fits_0 (c_1:List UInt8×Int×Int×Int×List UInt8×List (List (Int×Int×Int)×Int×Bool)×Int×Int×List UInt8×Int×Int×Bool×Int×Int×Int×Bool×Int):Int→Option (Int ⊕ (Bool ⊕ Unit)):=fun s9_2 =>
 if decide (s9_2<(↑(List.length c_1.2.2.2.2.2.1):Int))=true then
  natOf s9_2 fun n3 =>
  bnd (c_1.2.2.2.2.2.1[n3]?) fun x4 =>
  if x4.2.2=true then
   if (s9_2 != IntKind.i64.wrap ((↑(List.length c_1.2.2.2.2.2.1):Int)-1))=true then
    g17 c_1 <|
    some (.inr (.inl false))
   else
    gq c_1.2.2.2.2.2.1 <|
    grdEq ((↑(List.length c_1.2.2.2.2.2.1):Int)) ((↑(List.length c_1.2.2.2.2.2.1):Int)) <|
    g17 c_1 <|
    some (.inl (IntKind.i64.wrap (s9_2+1)))
  else
   gq c_1.2.2.2.2.2.1 <|
   grdEq ((↑(List.length c_1.2.2.2.2.2.1):Int)) ((↑(List.length c_1.2.2.2.2.2.1):Int)) <|
   g17 c_1 <|
   some (.inl (IntKind.i64.wrap (s9_2+1)))
 else
  g17 c_1 <|
  some (.inr (.inr (())))
def F_patch_copier_fits (c_1:(List UInt8×(Int×(Int×(Int×(List UInt8×(List ((List ((Int×(Int×Int)))×(Int×Bool)))×(Int×(Int×(List UInt8×(Int×(Int×(Bool×(Int×(Int×(Int×(Bool×Int))))))))))))))))):Option (Bool) :=
 bnd (loopS (step_patch_copier_fits_0 c_1) 0) fun o5 =>
 match o5 with
 | .inl s2_6 =>
  some s2_6
 | .inr _ =>
  bnd (F_tmpl_Template_Check (c_1.1,c_1.2.1,c_1.2.2.1,c_1.2.2.2.1,c_1.2.2.2.2.1,c_1.2.2.2.2.2.1)) fun v7 =>
  if v7=true then
   bnd (F_tmpl_Template_Live (c_1.1,c_1.2.1,c_1.2.2.1,c_1.2.2.2.1,c_1.2.2.2.2.1,c_1.2.2.2.2.2.1) c_1.2.2.2.2.2.2.2.2.2.2.2.2.2.2.2.2) fun v8 =>
   if v8=true then
    bnd (F_patch_in c_1.2.2.2.1 15) fun v9 =>
    if v9=true then
     bnd (F_patch_in c_1.2.2.2.2.2.2.1 65535) fun v10 =>
     if v10=true then
      bnd (F_patch_copier_asked (c_1.1,c_1.2.1,c_1.2.2.1,c_1.2.2.2.1,c_1.2.2.2.2.1,c_1.2.2.2.2.2.1,c_1.2.2.2.2.2.2.1,c_1.2.2.2.2.2.2.2.1,c_1.2.2.2.2.2.2.2.2.1,c_1.2.2.2.2.2.2.2.2.2.1,c_1.2.2.2.2.2.2.2.2.2.2.1,c_1.2.2.2.2.2.2.2.2.2.2.2.1,c_1.2.2.2.2.2.2.2.2.2.2.2.2.1,c_1.2.2.2.2.2.2.2.2.2.2.2.2.2.1,c_1.2.2.2.2.2.2.2.2.2.2.2.2.2.2.1,c_1.2.2.2.2.2.2.2.2.2.2.2.2.2.2.2.1,c_1.2.2.2.2.2.2.2.2.2.2.2.2.2.2.2.2)) fun v11 =>
      some v11
     else
      some false
    else
     some false
   else
    some false
  else
   some false
def ann_patch_copier_fits:List (List Nat×Ann):=[([6],⟨some ⟨(anyN 1 (.cons (.ptr 0 0) (anyN 5 (.cons (.keep (.list yT1)) (.cons kI (.cons yI (anyN 42 .nil))))))),[.cells 106 true yS6],[],[]⟩,[(.ret,⟨(anyN 2 (.cons (.ty .bool) (anyN 49 .nil))),[.cells 106 true yS6],[],[]⟩),(.exit 0,⟨(anyN 1 (.cons (.ptr 0 0) (anyN 50 .nil))),[.cells 106 true yS6],[],[]⟩)]⟩)]
@[reducible] def fs_patch_copier_fits:List (Nat×SFn):=[(80,.pure [yT12] [.bool] (fun x=>F_tmpl_Template_Check x)),(22,.pure [yT12,tI] [.bool] (fun x=>F_tmpl_Template_Live x.1 x.2)),(81,.pure [tI,tI] [.bool] (fun x=>F_patch_in x.1 x.2)),(82,.pure [yT5] [.bool] (fun x=>F_patch_copier_asked x))]
theorem told_patch_copier_fits:Told CC Tryz.prog 48 [yT5] [.bool] (fun x=>F_patch_copier_fits x):=told_of (n:=100000) (gok (an:=ann_patch_copier_fits) (fs:=fs_patch_copier_fits) ⟨told_tmpl_Template_Check,told_tmpl_Template_Live,told_patch_in,told_patch_copier_asked,trivial⟩) rfl rfl (fun x=>by kernel_rfl)
def F_patch_Fits (t_1:(List UInt8×(Int×(Int×(Int×(List UInt8×List ((List ((Int×(Int×Int)))×(Int×Bool))))))))) (a_2:(Int×(Int×(List UInt8×(Int×(Int×(Bool×(Int×(Int×(Int×Bool)))))))))) (now_3:Int):Option (Bool) :=
 bnd (F_patch_copier_fits (t_1.1,t_1.2.1,t_1.2.2.1,t_1.2.2.2.1,t_1.2.2.2.2.1,t_1.2.2.2.2.2,a_2.1,a_2.2.1,a_2.2.2.1,a_2.2.2.2.1,a_2.2.2.2.2.1,a_2.2.2.2.2.2.1,a_2.2.2.2.2.2.2.1,a_2.2.2.2.2.2.2.2.1,a_2.2.2.2.2.2.2.2.2.1,a_2.2.2.2.2.2.2.2.2.2,now_3)) fun v4 =>
 some v4
def ann_patch_Fits:List (List Nat×Ann):=[]
@[reducible] def fs_patch_Fits:List (Nat×SFn):=[(48,.pure [yT5] [.bool] (fun x=>F_patch_copier_fits x))]
theorem told_patch_Fits:Told CC Tryz.prog 21 [yT12,yT8,tI] [.bool] (fun x=>F_patch_Fits x.1 x.2.1 x.2.2):=told_of (n:=100000) (gok (an:=ann_patch_Fits) (fs:=fs_patch_Fits) ⟨told_patch_copier_fits,trivial⟩) rfl rfl (fun x=>by kernel_rfl)
def F_patch_Copy (t_1:(List UInt8×(Int×(Int×(Int×(List UInt8×List ((List ((Int×(Int×Int)))×(Int×Bool))))))))) (a_2:(Int×(Int×(List UInt8×(Int×(Int×(Bool×(Int×(Int×(Int×Bool)))))))))) (now_3:Int) (turn_4:Int):Option ((List UInt8×Bool)) :=
 if decide (turn_4<0)=false then
  bnd (F_patch_copier_fits (t_1.1,t_1.2.1,t_1.2.2.1,t_1.2.2.2.1,t_1.2.2.2.2.1,t_1.2.2.2.2.2,a_2.1,a_2.2.1,a_2.2.2.1,a_2.2.2.2.1,a_2.2.2.2.2.1,a_2.2.2.2.2.2.1,a_2.2.2.2.2.2.2.1,a_2.2.2.2.2.2.2.2.1,a_2.2.2.2.2.2.2.2.2.1,a_2.2.2.2.2.2.2.2.2.2,now_3)) fun v5 =>
  if (!v5)=true then
   some (([],false))
  else
   bnd (F_patch_copier_copy (t_1.1,t_1.2.1,t_1.2.2.1,t_1.2.2.2.1,t_1.2.2.2.2.1,t_1.2.2.2.2.2,a_2.1,a_2.2.1,a_2.2.2.1,a_2.2.2.2.1,a_2.2.2.2.2.1,a_2.2.2.2.2.2.1,a_2.2.2.2.2.2.2.1,a_2.2.2.2.2.2.2.2.1,a_2.2.2.2.2.2.2.2.2.1,a_2.2.2.2.2.2.2.2.2.2,now_3) turn_4) fun v6 =>
   some ((v6,true))
 else
  some (([],false))
def ann_patch_Copy:List (List Nat×Ann):=[]
@[reducible] def fs_patch_Copy:List (Nat×SFn):=[(48,.pure [yT5] [.bool] (fun x=>F_patch_copier_fits x)),(50,.pure [yT5,tI] [.str] (fun x=>F_patch_copier_copy x.1 x.2))]
theorem told_patch_Copy:Told CC Tryz.prog 23 [yT12,yT8,tI,tI] [.str,.bool] (fun x=>F_patch_Copy x.1 x.2.1 x.2.2.1 x.2.2.2):=told_of (n:=100000) (gok (an:=ann_patch_Copy) (fs:=fs_patch_Copy) ⟨told_patch_copier_fits,told_patch_copier_copy,trivial⟩) rfl rfl (fun x=>by kernel_rfl)
def F_patch_Size (t_1:(List UInt8×(Int×(Int×(Int×(List UInt8×List ((List ((Int×(Int×Int)))×(Int×Bool))))))))) (a_2:(Int×(Int×(List UInt8×(Int×(Int×(Bool×(Int×(Int×(Int×Bool)))))))))) (now_3:Int):Option ((Int×Int)) :=
 bnd (F_patch_copier_fits (t_1.1,t_1.2.1,t_1.2.2.1,t_1.2.2.2.1,t_1.2.2.2.2.1,t_1.2.2.2.2.2,a_2.1,a_2.2.1,a_2.2.2.1,a_2.2.2.2.1,a_2.2.2.2.2.1,a_2.2.2.2.2.2.1,a_2.2.2.2.2.2.2.1,a_2.2.2.2.2.2.2.2.1,a_2.2.2.2.2.2.2.2.2.1,a_2.2.2.2.2.2.2.2.2.2,now_3)) fun v4 =>
 if (!v4)=true then
  some ((0,0))
 else
  bnd (F_patch_copier_room (t_1.1,t_1.2.1,t_1.2.2.1,t_1.2.2.2.1,t_1.2.2.2.2.1,t_1.2.2.2.2.2,a_2.1,a_2.2.1,a_2.2.2.1,a_2.2.2.2.1,a_2.2.2.2.2.1,a_2.2.2.2.2.2.1,a_2.2.2.2.2.2.2.1,a_2.2.2.2.2.2.2.2.1,a_2.2.2.2.2.2.2.2.2.1,a_2.2.2.2.2.2.2.2.2.2,now_3)) fun (v5,v6) =>
  some ((v5,v6))
def ann_patch_Size:List (List Nat×Ann):=[]
@[reducible] def fs_patch_Size:List (Nat×SFn):=[(48,.pure [yT5] [.bool] (fun x=>F_patch_copier_fits x)),(51,.pure [yT5] [tI,tI] (fun x=>F_patch_copier_room x))]
theorem told_patch_Size:Told CC Tryz.prog 24 [yT12,yT8,tI] [tI,tI] (fun x=>F_patch_Size x.1 x.2.1 x.2.2):=told_of (n:=100000) (gok (an:=ann_patch_Size) (fs:=fs_patch_Size) ⟨told_patch_copier_fits,told_patch_copier_room,trivial⟩) rfl rfl (fun x=>by kernel_rfl)
end
end Go.Abs
