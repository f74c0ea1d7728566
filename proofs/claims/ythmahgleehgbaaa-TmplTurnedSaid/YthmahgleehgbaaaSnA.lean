/- Part of a proof: a machine of plain data, and what the functions come to on it. -/
import Derived.Test.YthmahgleehgbaaaSm
set_option linter.unusedSimpArgs false
set_option linter.unusedVariables false
set_option linter.unusedSectionVars false
set_option maxRecDepth 100000
namespace Go.Abs
open Go Go.Proofs
noncomputable section
@[reducible] def tRR : Ty := (.agg (.cons .str (.cons (.int .i64) (.cons (.int .i64) (.cons (.int .i64) .str)))))
@[reducible] def tQ : Ty := (.agg (.cons .str (.cons (.int .i64) (.int .i64))))
instance dec8 {A B C D E F G H : Type} [DecidableEq A] [DecidableEq B] [DecidableEq C] [DecidableEq D] [DecidableEq E] [DecidableEq F] [DecidableEq G] [DecidableEq H] : DecidableEq (A × B × C × D × E × F × G × H) := @instDecidableEqProd _ _ _ (@instDecidableEqProd _ _ _ (@instDecidableEqProd _ _ _ (inferInstanceAs (DecidableEq (D × E × F × G × H)))))
instance decHit : DecidableEq (List UInt8 × Int × Int × List (List UInt8) × Int × Int) := @instDecidableEqProd _ _ _ (@instDecidableEqProd _ _ _ (inferInstanceAs (DecidableEq (Int × List (List UInt8) × Int × Int))))
instance decHits : DecidableEq (List (List UInt8 × Int × Int × List (List UInt8) × Int × Int)) := @instDecidableEqList _ decHit
@[reducible] def shpF (k : Int) : Option (Int × Int × Int) := (sfind (Ty.int Go.IntKind.i64) (.agg (.cons (.int .i64) (.cons (.int .i64) (.int .i64)))) k (sputM (Ty.int Go.IntKind.i64) (.agg (.cons (.int .i64) (.cons (.int .i64) (.int .i64)))) 33 (6, 1, 0) (sputM (Ty.int Go.IntKind.i64) (.agg (.cons (.int .i64) (.cons (.int .i64) (.int .i64)))) 15 (2, 1, 0) (sputM (Ty.int Go.IntKind.i64) (.agg (.cons (.int .i64) (.cons (.int .i64) (.int .i64)))) 6 (0, 2, 20) (sputM (Ty.int Go.IntKind.i64) (.agg (.cons (.int .i64) (.cons (.int .i64) (.int .i64)))) 12 (0, 1, 0) (sputM (Ty.int Go.IntKind.i64) (.agg (.cons (.int .i64) (.cons (.int .i64) (.int .i64)))) 5 (0, 1, 0) (sputM (Ty.int Go.IntKind.i64) (.agg (.cons (.int .i64) (.cons (.int .i64) (.int .i64)))) 2 (0, 1, 0) (sputM (Ty.int Go.IntKind.i64) (.agg (.cons (.int .i64) (.cons (.int .i64) (.int .i64)))) 28 (16, 0, 0) (sputM (Ty.int Go.IntKind.i64) (.agg (.cons (.int .i64) (.cons (.int .i64) (.int .i64)))) 1 (4, 0, 0) [])))))))))
def step_law17_Chain_0 (k_1 : List (List UInt8 × Int × Int × List (List UInt8) × Int × Int) × Int × List UInt8 × List UInt8 × Int × Int × List (List UInt8) × Int × Int) : (Int × List ((List UInt8 × (Int × (Int × (List (List UInt8) × (Int × Int))))))) → Option ((Int × List ((List UInt8 × (Int × (Int × (List (List UInt8) × (Int × Int))))))) ⊕ List ((List UInt8 × (Int × (Int × (List (List UInt8) × (Int × Int))))))) := fun (i_2, b2a_3) =>
  if decide (i_2 < (↑(List.length k_1.1) : Int)) = true then
    natOf i_2 fun n4 =>
    bnd (k_1.1[n4]?) fun x5 =>
    grd ((b2a_3.length + [(x5.1, x5.2.1, x5.2.2.1, x5.2.2.2.1, x5.2.2.2.2.1, x5.2.2.2.2.2)].length) * 72 ≤ roomLim) <|
    grdEq k_1.1 k_1.1 <|
    grdEq k_1.2.1 k_1.2.1 <|
    grdEq k_1.2.2.1 k_1.2.2.1 <|
    grdEq k_1.2.2.2.1 k_1.2.2.2.1 <|
    grdEq k_1.2.2.2.2.1 k_1.2.2.2.2.1 <|
    grdEq k_1.2.2.2.2.2.1 k_1.2.2.2.2.2.1 <|
    grdEq k_1.2.2.2.2.2.2.1 k_1.2.2.2.2.2.2.1 <|
    grdEq k_1.2.2.2.2.2.2.2.1 k_1.2.2.2.2.2.2.2.1 <|
    grdEq k_1.2.2.2.2.2.2.2.2 k_1.2.2.2.2.2.2.2.2 <|
    grdEq (α := Int) 0 0 <|
    grdEq (α := List UInt8) ([]) ([]) <|
    grdEq (α := List UInt8) ([]) ([]) <|
    grdEq (α := Int) 0 0 <|
    grdEq (α := Int) 0 0 <|
    grdEq (α := Int) 0 0 <|
    grdEq (α := Int) 0 0 <|
    grdEq k_1.2.1 k_1.2.1 <|
    grdEq k_1.2.2.1 k_1.2.2.1 <|
    grdEq k_1.2.2.2.1 k_1.2.2.2.1 <|
    grdEq k_1.2.2.2.2.1 k_1.2.2.2.2.1 <|
    grdEq k_1.2.2.2.2.2.1 k_1.2.2.2.2.2.1 <|
    grdEq k_1.2.2.2.2.2.2.1 k_1.2.2.2.2.2.2.1 <|
    grdEq k_1.2.2.2.2.2.2.2.1 k_1.2.2.2.2.2.2.2.1 <|
    grdEq k_1.2.2.2.2.2.2.2.2 k_1.2.2.2.2.2.2.2.2 <|
    some (.inl ((Go.IntKind.i64.wrap (i_2 + 1), b2a_3 ++ [(x5.1, x5.2.1, x5.2.2.1, x5.2.2.2.1, x5.2.2.2.2.1, x5.2.2.2.2.2)])))
  else
    grdEq k_1.1 k_1.1 <|
    grdEq k_1.2.1 k_1.2.1 <|
    grdEq k_1.2.2.1 k_1.2.2.1 <|
    grdEq k_1.2.2.2.1 k_1.2.2.2.1 <|
    grdEq k_1.2.2.2.2.1 k_1.2.2.2.2.1 <|
    grdEq k_1.2.2.2.2.2.1 k_1.2.2.2.2.2.1 <|
    grdEq k_1.2.2.2.2.2.2.1 k_1.2.2.2.2.2.2.1 <|
    grdEq k_1.2.2.2.2.2.2.2.1 k_1.2.2.2.2.2.2.2.1 <|
    grdEq k_1.2.2.2.2.2.2.2.2 k_1.2.2.2.2.2.2.2.2 <|
    grdEq (α := Int) 0 0 <|
    grdEq (α := List UInt8) ([]) ([]) <|
    grdEq (α := List UInt8) ([]) ([]) <|
    grdEq (α := Int) 0 0 <|
    grdEq (α := Int) 0 0 <|
    grdEq (α := Int) 0 0 <|
    grdEq (α := Int) 0 0 <|
    grdEq k_1.2.1 k_1.2.1 <|
    grdEq k_1.2.2.1 k_1.2.2.1 <|
    grdEq k_1.2.2.2.1 k_1.2.2.2.1 <|
    grdEq k_1.2.2.2.2.1 k_1.2.2.2.2.1 <|
    grdEq k_1.2.2.2.2.2.1 k_1.2.2.2.2.2.1 <|
    grdEq k_1.2.2.2.2.2.2.1 k_1.2.2.2.2.2.2.1 <|
    grdEq k_1.2.2.2.2.2.2.2.1 k_1.2.2.2.2.2.2.2.1 <|
    grdEq k_1.2.2.2.2.2.2.2.2 k_1.2.2.2.2.2.2.2.2 <|
    some (.inr b2a_3)
def F_law17_Chain (k_1 : (List ((List UInt8 × (Int × (Int × (List (List UInt8) × (Int × Int)))))) × (Int × (List UInt8 × (List UInt8 × (Int × (Int × (List (List UInt8) × (Int × Int))))))))) : Option ((List ((List UInt8 × (Int × (Int × (List (List UInt8) × (Int × Int)))))) × (Int × (List UInt8 × (List UInt8 × (Int × (Int × (List (List UInt8) × (Int × Int))))))))) :=
  bnd (loopS (step_law17_Chain_0 k_1) ((0, []))) fun b2a_6 =>
  some ((b2a_6, (k_1.2.1, (k_1.2.2.1, (k_1.2.2.2.1, (k_1.2.2.2.2.1, (k_1.2.2.2.2.2.1, (k_1.2.2.2.2.2.2.1, (k_1.2.2.2.2.2.2.2.1, k_1.2.2.2.2.2.2.2.2)))))))))
def ann_law17_Chain : List (List Nat × Ann) := [([8], ⟨some ⟨(anyN 1 (.cons (.ptr 0 0) (.cons (.ptr 1 0) (.cons (.ptr 2 0) (.cons (.ty (.int .i64)) (anyN 25 .nil)))))), [.cells 31 true (.cons (.keep (.list (.agg (.cons .str (.cons (.int .i64) (.cons (.int .i64) (.cons (.list .str) (.cons (.int .i64) (.int .i64))))))))) (.cons (.keep (.int .i64)) (.cons (.keep .str) (.cons (.keep .str) (.cons (.keep (.int .i64)) (.cons (.keep (.int .i64)) (.cons (.keep (.list .str)) (.cons (.keep (.int .i64)) (.cons (.keep (.int .i64)) .nil))))))))), .cells 42 true (.cons .nill (.cons (.keep (.int .i64)) (.cons (.keep .str) (.cons (.keep .str) (.cons (.keep (.int .i64)) (.cons (.keep (.int .i64)) (.cons .nill (.cons (.keep (.int .i64)) (.cons (.keep (.int .i64)) .nil))))))))), .cells 42 true (.cons (.own (.agg (.cons .str (.cons (.int .i64) (.cons (.int .i64) (.cons (.list .str) (.cons (.int .i64) (.int .i64))))))) 0 true) (.cons (.keep (.int .i64)) (.cons (.keep .str) (.cons (.keep .str) (.cons (.keep (.int .i64)) (.cons (.keep (.int .i64)) (.cons (.keep (.list .str)) (.cons (.keep (.int .i64)) (.cons (.keep (.int .i64)) .nil)))))))))], [⟨⟨0, (.agg (.cons .str (.cons (.int .i64) (.cons (.int .i64) (.cons (.list .str) (.cons (.int .i64) (.int .i64))))))), 40, true, true⟩, true⟩], []⟩, [(.exit 0, ⟨(anyN 2 (.cons (.ptr 1 0) (.cons (.ptr 2 0) (anyN 26 .nil)))), [.cells 31 true (.cons (.keep (.list (.agg (.cons .str (.cons (.int .i64) (.cons (.int .i64) (.cons (.list .str) (.cons (.int .i64) (.int .i64))))))))) (.cons (.keep (.int .i64)) (.cons (.keep .str) (.cons (.keep .str) (.cons (.keep (.int .i64)) (.cons (.keep (.int .i64)) (.cons (.keep (.list .str)) (.cons (.keep (.int .i64)) (.cons (.keep (.int .i64)) .nil))))))))), .cells 42 true (.cons .nill (.cons (.keep (.int .i64)) (.cons (.keep .str) (.cons (.keep .str) (.cons (.keep (.int .i64)) (.cons (.keep (.int .i64)) (.cons .nill (.cons (.keep (.int .i64)) (.cons (.keep (.int .i64)) .nil))))))))), .cells 42 true (.cons (.own (.agg (.cons .str (.cons (.int .i64) (.cons (.int .i64) (.cons (.list .str) (.cons (.int .i64) (.int .i64))))))) 0 true) (.cons (.keep (.int .i64)) (.cons (.keep .str) (.cons (.keep .str) (.cons (.keep (.int .i64)) (.cons (.keep (.int .i64)) (.cons (.keep (.list .str)) (.cons (.keep (.int .i64)) (.cons (.keep (.int .i64)) .nil)))))))))], [⟨⟨1, (.agg (.cons .str (.cons (.int .i64) (.cons (.int .i64) (.cons (.list .str) (.cons (.int .i64) (.int .i64))))))), 40, true, true⟩, true⟩], []⟩)]⟩)]
def cfg_law17_Chain : SCfg := SCfg.of ([] ++ inlL) ann_law17_Chain keepL
theorem eq_law17_Chain (x : HL [(.agg (.cons (.list (.agg (.cons .str (.cons (.int .i64) (.cons (.int .i64) (.cons (.list .str) (.cons (.int .i64) (.int .i64)))))))) (.cons (.int .i64) (.cons .str (.cons .str (.cons (.int .i64) (.cons (.int .i64) (.cons (.list .str) (.cons (.int .i64) (.int .i64))))))))))]) : fnK cfg_law17_Chain Try.prog 100000 12 [(.agg (.cons (.list (.agg (.cons .str (.cons (.int .i64) (.cons (.int .i64) (.cons (.list .str) (.cons (.int .i64) (.int .i64)))))))) (.cons (.int .i64) (.cons .str (.cons .str (.cons (.int .i64) (.cons (.int .i64) (.cons (.list .str) (.cons (.int .i64) (.int .i64))))))))))] [(.agg (.cons (.list (.agg (.cons .str (.cons (.int .i64) (.cons (.int .i64) (.cons (.list .str) (.cons (.int .i64) (.int .i64)))))))) (.cons (.int .i64) (.cons .str (.cons .str (.cons (.int .i64) (.cons (.int .i64) (.cons (.list .str) (.cons (.int .i64) (.int .i64))))))))))] x = (fun x => F_law17_Chain x) x := by kernel_rfl
theorem told_law17_Chain : Told CC Try.prog 12 [(.agg (.cons (.list (.agg (.cons .str (.cons (.int .i64) (.cons (.int .i64) (.cons (.list .str) (.cons (.int .i64) (.int .i64)))))))) (.cons (.int .i64) (.cons .str (.cons .str (.cons (.int .i64) (.cons (.int .i64) (.cons (.list .str) (.cons (.int .i64) (.int .i64))))))))))] [(.agg (.cons (.list (.agg (.cons .str (.cons (.int .i64) (.cons (.int .i64) (.cons (.list .str) (.cons (.int .i64) (.int .i64)))))))) (.cons (.int .i64) (.cons .str (.cons .str (.cons (.int .i64) (.cons (.int .i64) (.cons (.list .str) (.cons (.int .i64) (.int .i64))))))))))] (fun x => F_law17_Chain x) := told_of (gok (an := ann_law17_Chain) (fs := []) trivial) rfl rfl eq_law17_Chain
def step_ref18_Small_0 (t_1 : List UInt8 × Int × Int × Int × List UInt8 × List (List (Int × Int × Int) × Int × Bool)) : Int → Option (Int ⊕ (Bool ⊕ Unit)) := fun i_2 =>
  if decide (i_2 < (↑(List.length t_1.2.2.2.2.2) : Int)) = true then
    natOf i_2 fun n3 =>
    bnd (t_1.2.2.2.2.2[n3]?) fun x4 =>
    if decide (60 < (↑(List.length x4.1) : Int)) = false then
      if decide (20 < (↑(List.length t_1.2.2.2.2.2) : Int)) = true then
        grdEq t_1.1 t_1.1 <|
        grdEq t_1.2.1 t_1.2.1 <|
        grdEq t_1.2.2.1 t_1.2.2.1 <|
        grdEq t_1.2.2.2.1 t_1.2.2.2.1 <|
        grdEq t_1.2.2.2.2.1 t_1.2.2.2.2.1 <|
        grdEq t_1.2.2.2.2.2 t_1.2.2.2.2.2 <|
        some (.inr (.inl false))
      else
        grdEq t_1.1 t_1.1 <|
        grdEq t_1.2.1 t_1.2.1 <|
        grdEq t_1.2.2.1 t_1.2.2.1 <|
        grdEq t_1.2.2.2.1 t_1.2.2.2.1 <|
        grdEq t_1.2.2.2.2.1 t_1.2.2.2.2.1 <|
        grdEq t_1.2.2.2.2.2 t_1.2.2.2.2.2 <|
        some (.inl (Go.IntKind.i64.wrap (i_2 + 1)))
    else
      grdEq t_1.1 t_1.1 <|
      grdEq t_1.2.1 t_1.2.1 <|
      grdEq t_1.2.2.1 t_1.2.2.1 <|
      grdEq t_1.2.2.2.1 t_1.2.2.2.1 <|
      grdEq t_1.2.2.2.2.1 t_1.2.2.2.2.1 <|
      grdEq t_1.2.2.2.2.2 t_1.2.2.2.2.2 <|
      some (.inr (.inl false))
  else
    grdEq t_1.1 t_1.1 <|
    grdEq t_1.2.1 t_1.2.1 <|
    grdEq t_1.2.2.1 t_1.2.2.1 <|
    grdEq t_1.2.2.2.1 t_1.2.2.2.1 <|
    grdEq t_1.2.2.2.2.1 t_1.2.2.2.2.1 <|
    grdEq t_1.2.2.2.2.2 t_1.2.2.2.2.2 <|
    some (.inr (.inr (())))
def F_ref18_Small (t_1 : (List UInt8 × (Int × (Int × (Int × (List UInt8 × List ((List ((Int × (Int × Int))) × (Int × Bool))))))))) : Option (Bool) :=
  bnd (loopS (step_ref18_Small_0 t_1) 0) fun o5 =>
  match o5 with
  | .inl s2_6 =>
    some s2_6
  | .inr _ =>
    if decide ((↑(List.length t_1.2.2.2.2.1) : Int) ≤ 20000) = true then
      some (decide ((↑(List.length t_1.1) : Int) ≤ 300))
    else
      some false
def ann_ref18_Small : List (List Nat × Ann) := [([6], ⟨some ⟨(anyN 1 (.cons (.ptr 0 0) (anyN 1 (.cons (.ty (.int .i64)) (anyN 32 .nil))))), [.cells 46 true (.cons (.keep .str) (.cons (.keep (.int .i64)) (.cons (.keep (.int .i64)) (.cons (.keep (.int .i64)) (.cons (.keep .str) (.cons (.keep (.list (.agg (.cons (.list (.agg (.cons (.int .i64) (.cons (.int .i64) (.int .i64))))) (.cons (.int .i64) .bool))))) .nil))))))], [], []⟩, [(.ret, ⟨(anyN 2 (.cons (.ty .bool) (anyN 33 .nil))), [.cells 46 true (.cons (.keep .str) (.cons (.keep (.int .i64)) (.cons (.keep (.int .i64)) (.cons (.keep (.int .i64)) (.cons (.keep .str) (.cons (.keep (.list (.agg (.cons (.list (.agg (.cons (.int .i64) (.cons (.int .i64) (.int .i64))))) (.cons (.int .i64) .bool))))) .nil))))))], [], []⟩), (.exit 0, ⟨(anyN 1 (.cons (.ptr 0 0) (anyN 34 .nil))), [.cells 46 true (.cons (.keep .str) (.cons (.keep (.int .i64)) (.cons (.keep (.int .i64)) (.cons (.keep (.int .i64)) (.cons (.keep .str) (.cons (.keep (.list (.agg (.cons (.list (.agg (.cons (.int .i64) (.cons (.int .i64) (.int .i64))))) (.cons (.int .i64) .bool))))) .nil))))))], [], []⟩)]⟩)]
def cfg_ref18_Small : SCfg := SCfg.of ([] ++ inlL) ann_ref18_Small keepL
theorem eq_ref18_Small (x : HL [(.agg (.cons .str (.cons (.int .i64) (.cons (.int .i64) (.cons (.int .i64) (.cons .str (.list (.agg (.cons (.list (.agg (.cons (.int .i64) (.cons (.int .i64) (.int .i64))))) (.cons (.int .i64) .bool))))))))))]) : fnK cfg_ref18_Small Try.prog 100000 16 [(.agg (.cons .str (.cons (.int .i64) (.cons (.int .i64) (.cons (.int .i64) (.cons .str (.list (.agg (.cons (.list (.agg (.cons (.int .i64) (.cons (.int .i64) (.int .i64))))) (.cons (.int .i64) .bool))))))))))] [.bool] x = (fun x => F_ref18_Small x) x := by kernel_rfl
theorem told_ref18_Small : Told CC Try.prog 16 [(.agg (.cons .str (.cons (.int .i64) (.cons (.int .i64) (.cons (.int .i64) (.cons .str (.list (.agg (.cons (.list (.agg (.cons (.int .i64) (.cons (.int .i64) (.int .i64))))) (.cons (.int .i64) .bool))))))))))] [.bool] (fun x => F_ref18_Small x) := told_of (gok (an := ann_ref18_Small) (fs := []) trivial) rfl rfl eq_ref18_Small
end
end Go.Abs

set_option maxRecDepth 100000
namespace Go.Abs
open Go Go.Proofs
noncomputable section
def step_law18_Own_1 (t_1 : List UInt8 × Int × Int × Int × List UInt8 × List (List (Int × Int × Int) × Int × Bool)) (i_2 : Int) (x5 : (((Ty.int Go.IntKind.i64).cons ((Ty.int Go.IntKind.i64).cons (Ty.int Go.IntKind.i64))).agg.list.cons ((Ty.int Go.IntKind.i64).cons Ty.bool)).agg.den) (x7 : (((Ty.int Go.IntKind.i64).cons ((Ty.int Go.IntKind.i64).cons (Ty.int Go.IntKind.i64))).agg.list.cons ((Ty.int Go.IntKind.i64).cons Ty.bool)).agg.den) : (Int × (List ((List ((Int × (Int × Int))) × (Int × Bool))) × List ((Int × (Int × Int))))) → Option ((Int × (List ((List ((Int × (Int × Int))) × (Int × Bool))) × List ((Int × (Int × Int))))) ⊕ (List ((List ((Int × (Int × Int))) × (Int × Bool))) × List ((Int × (Int × Int))))) := fun (k_8, b2f_9, b3a_10) =>
  natOf i_2 fun n11 =>
  bnd (t_1.2.2.2.2.2[n11]?) fun x12 =>
  if decide (k_8 < (↑(List.length x12.1) : Int)) = true then
    natOf i_2 fun n13 =>
    bnd (t_1.2.2.2.2.2[n13]?) fun x14 =>
    natOf k_8 fun n15 =>
    bnd (x14.1[n15]?) fun x16 =>
    grd ((b3a_10.length + [(x16.1, x16.2.1, x16.2.2)].length) * 24 ≤ roomLim) <|
    grdEq i_2 i_2 <|
    grdEq t_1.1 t_1.1 <|
    grdEq t_1.2.1 t_1.2.1 <|
    grdEq t_1.2.2.1 t_1.2.2.1 <|
    grdEq t_1.2.2.2.1 t_1.2.2.2.1 <|
    grdEq t_1.2.2.2.2.1 t_1.2.2.2.2.1 <|
    grdEq t_1.2.2.2.2.2 t_1.2.2.2.2.2 <|
    grdEq (α := List UInt8) ([]) ([]) <|
    grdEq (α := Int) 0 0 <|
    grdEq (α := Int) 0 0 <|
    grdEq (α := Int) 0 0 <|
    grdEq (α := List UInt8) ([]) ([]) <|
    grdEq t_1.1 t_1.1 <|
    grdEq t_1.2.1 t_1.2.1 <|
    grdEq t_1.2.2.1 t_1.2.2.1 <|
    grdEq t_1.2.2.2.1 t_1.2.2.2.1 <|
    grdEq t_1.2.2.2.2.1 t_1.2.2.2.2.1 <|
    grdEq x5.2.1 x5.2.1 <|
    grdEq x7.2.2 x7.2.2 <|
    some (.inl ((Go.IntKind.i64.wrap (k_8 + 1), (b2f_9, b3a_10 ++ [(x16.1, x16.2.1, x16.2.2)]))))
  else
    grdEq i_2 i_2 <|
    grdEq t_1.1 t_1.1 <|
    grdEq t_1.2.1 t_1.2.1 <|
    grdEq t_1.2.2.1 t_1.2.2.1 <|
    grdEq t_1.2.2.2.1 t_1.2.2.2.1 <|
    grdEq t_1.2.2.2.2.1 t_1.2.2.2.2.1 <|
    grdEq t_1.2.2.2.2.2 t_1.2.2.2.2.2 <|
    grdEq (α := List UInt8) ([]) ([]) <|
    grdEq (α := Int) 0 0 <|
    grdEq (α := Int) 0 0 <|
    grdEq (α := Int) 0 0 <|
    grdEq (α := List UInt8) ([]) ([]) <|
    grdEq t_1.1 t_1.1 <|
    grdEq t_1.2.1 t_1.2.1 <|
    grdEq t_1.2.2.1 t_1.2.2.1 <|
    grdEq t_1.2.2.2.1 t_1.2.2.2.1 <|
    grdEq t_1.2.2.2.2.1 t_1.2.2.2.2.1 <|
    grdEq x5.2.1 x5.2.1 <|
    grdEq x7.2.2 x7.2.2 <|
    some (.inr ((b2f_9, b3a_10)))
def step_law18_Own_0 (t_1 : List UInt8 × Int × Int × Int × List UInt8 × List (List (Int × Int × Int) × Int × Bool)) : (Int × List ((List ((Int × (Int × Int))) × (Int × Bool)))) → Option ((Int × List ((List ((Int × (Int × Int))) × (Int × Bool)))) ⊕ List ((List ((Int × (Int × Int))) × (Int × Bool)))) := fun (i_2, b2f_3) =>
  if decide (i_2 < (↑(List.length t_1.2.2.2.2.2) : Int)) = true then
    natOf i_2 fun n4 =>
    bnd (t_1.2.2.2.2.2[n4]?) fun x5 =>
    natOf i_2 fun n6 =>
    bnd (t_1.2.2.2.2.2[n6]?) fun x7 =>
    bnd (loopS (step_law18_Own_1 t_1 i_2 x5 x7) ((0, (b2f_3, [])))) fun (b2f_17, b3a_18) =>
    grd ((b2f_17.length + [(b3a_18, x5.2.1, x7.2.2)].length) * 40 ≤ roomLim) <|
    grdEq t_1.1 t_1.1 <|
    grdEq t_1.2.1 t_1.2.1 <|
    grdEq t_1.2.2.1 t_1.2.2.1 <|
    grdEq t_1.2.2.2.1 t_1.2.2.2.1 <|
    grdEq t_1.2.2.2.2.1 t_1.2.2.2.2.1 <|
    grdEq t_1.2.2.2.2.2 t_1.2.2.2.2.2 <|
    grdEq (α := List UInt8) ([]) ([]) <|
    grdEq (α := Int) 0 0 <|
    grdEq (α := Int) 0 0 <|
    grdEq (α := Int) 0 0 <|
    grdEq (α := List UInt8) ([]) ([]) <|
    grdEq t_1.1 t_1.1 <|
    grdEq t_1.2.1 t_1.2.1 <|
    grdEq t_1.2.2.1 t_1.2.2.1 <|
    grdEq t_1.2.2.2.1 t_1.2.2.2.1 <|
    grdEq t_1.2.2.2.2.1 t_1.2.2.2.2.1 <|
    some (.inl ((Go.IntKind.i64.wrap (i_2 + 1), b2f_17 ++ [(b3a_18, x5.2.1, x7.2.2)])))
  else
    grdEq t_1.1 t_1.1 <|
    grdEq t_1.2.1 t_1.2.1 <|
    grdEq t_1.2.2.1 t_1.2.2.1 <|
    grdEq t_1.2.2.2.1 t_1.2.2.2.1 <|
    grdEq t_1.2.2.2.2.1 t_1.2.2.2.2.1 <|
    grdEq t_1.2.2.2.2.2 t_1.2.2.2.2.2 <|
    grdEq (α := List UInt8) ([]) ([]) <|
    grdEq (α := Int) 0 0 <|
    grdEq (α := Int) 0 0 <|
    grdEq (α := Int) 0 0 <|
    grdEq (α := List UInt8) ([]) ([]) <|
    grdEq t_1.1 t_1.1 <|
    grdEq t_1.2.1 t_1.2.1 <|
    grdEq t_1.2.2.1 t_1.2.2.1 <|
    grdEq t_1.2.2.2.1 t_1.2.2.2.1 <|
    grdEq t_1.2.2.2.2.1 t_1.2.2.2.2.1 <|
    some (.inr b2f_3)
def F_law18_Own (t_1 : (List UInt8 × (Int × (Int × (Int × (List UInt8 × List ((List ((Int × (Int × Int))) × (Int × Bool))))))))) : Option ((List UInt8 × (Int × (Int × (Int × (List UInt8 × List ((List ((Int × (Int × Int))) × (Int × Bool))))))))) :=
  bnd (loopS (step_law18_Own_0 t_1) ((0, []))) fun b2f_19 =>
  some ((t_1.1, (t_1.2.1, (t_1.2.2.1, (t_1.2.2.2.1, (t_1.2.2.2.2.1, b2f_19))))))
def ann_law18_Own : List (List Nat × Ann) := [([8], ⟨some ⟨(anyN 1 (.cons (.ptr 0 0) (.cons (.ptr 1 0) (.cons (.ptr 2 0) (.cons (.ty (.int .i64)) (anyN 61 .nil)))))), [.cells 46 true (.cons (.keep .str) (.cons (.keep (.int .i64)) (.cons (.keep (.int .i64)) (.cons (.keep (.int .i64)) (.cons (.keep .str) (.cons (.keep (.list (.agg (.cons (.list (.agg (.cons (.int .i64) (.cons (.int .i64) (.int .i64))))) (.cons (.int .i64) .bool))))) .nil)))))), .cells 36 true (.cons (.keep .str) (.cons (.keep (.int .i64)) (.cons (.keep (.int .i64)) (.cons (.keep (.int .i64)) (.cons (.keep .str) (.cons .nill .nil)))))), .cells 36 true (.cons (.keep .str) (.cons (.keep (.int .i64)) (.cons (.keep (.int .i64)) (.cons (.keep (.int .i64)) (.cons (.keep .str) (.cons (.own (.agg (.cons (.list (.agg (.cons (.int .i64) (.cons (.int .i64) (.int .i64))))) (.cons (.int .i64) .bool))) 0 true) .nil))))))], [⟨⟨0, (.agg (.cons (.list (.agg (.cons (.int .i64) (.cons (.int .i64) (.int .i64))))) (.cons (.int .i64) .bool))), 69, true, true⟩, true⟩], []⟩, [(.exit 0, ⟨(anyN 2 (.cons (.ptr 1 0) (.cons (.ptr 2 0) (anyN 62 .nil)))), [.cells 46 true (.cons (.keep .str) (.cons (.keep (.int .i64)) (.cons (.keep (.int .i64)) (.cons (.keep (.int .i64)) (.cons (.keep .str) (.cons (.keep (.list (.agg (.cons (.list (.agg (.cons (.int .i64) (.cons (.int .i64) (.int .i64))))) (.cons (.int .i64) .bool))))) .nil)))))), .cells 36 true (.cons (.keep .str) (.cons (.keep (.int .i64)) (.cons (.keep (.int .i64)) (.cons (.keep (.int .i64)) (.cons (.keep .str) (.cons .nill .nil)))))), .cells 36 true (.cons (.keep .str) (.cons (.keep (.int .i64)) (.cons (.keep (.int .i64)) (.cons (.keep (.int .i64)) (.cons (.keep .str) (.cons (.own (.agg (.cons (.list (.agg (.cons (.int .i64) (.cons (.int .i64) (.int .i64))))) (.cons (.int .i64) .bool))) 0 true) .nil))))))], [⟨⟨0, (.agg (.cons (.list (.agg (.cons (.int .i64) (.cons (.int .i64) (.int .i64))))) (.cons (.int .i64) .bool))), 69, true, true⟩, false⟩], []⟩)]⟩), ([23], ⟨some ⟨(anyN 1 (.cons (.ptr 0 0) (.cons (.ptr 1 0) (.cons (.ptr 2 0) (.cons (.keep (.int .i64)) (.cons (.ptr 3 0) (.cons (.ty (.int .i64)) (anyN 59 .nil)))))))), [.cells 46 true (.cons (.keep .str) (.cons (.keep (.int .i64)) (.cons (.keep (.int .i64)) (.cons (.keep (.int .i64)) (.cons (.keep .str) (.cons (.keep (.list (.agg (.cons (.list (.agg (.cons (.int .i64) (.cons (.int .i64) (.int .i64))))) (.cons (.int .i64) .bool))))) .nil)))))), .cells 36 true (.cons (.keep .str) (.cons (.keep (.int .i64)) (.cons (.keep (.int .i64)) (.cons (.keep (.int .i64)) (.cons (.keep .str) (.cons .nill .nil)))))), .cells 36 true (.cons (.keep .str) (.cons (.keep (.int .i64)) (.cons (.keep (.int .i64)) (.cons (.keep (.int .i64)) (.cons (.keep .str) (.cons (.own (.agg (.cons (.list (.agg (.cons (.int .i64) (.cons (.int .i64) (.int .i64))))) (.cons (.int .i64) .bool))) 0 true) .nil)))))), .cells 69 true (.cons (.own (.agg (.cons (.int .i64) (.cons (.int .i64) (.int .i64)))) 1 true) (.cons (.keep (.int .i64)) (.cons (.keep .bool) .nil)))], [⟨⟨0, (.agg (.cons (.list (.agg (.cons (.int .i64) (.cons (.int .i64) (.int .i64))))) (.cons (.int .i64) .bool))), 69, true, true⟩, false⟩, ⟨⟨0, (.agg (.cons (.int .i64) (.cons (.int .i64) (.int .i64)))), 71, true, true⟩, true⟩], []⟩, [(.exit 2, ⟨(anyN 1 (.cons (.ptr 0 0) (.cons (.ptr 1 0) (.cons (.ptr 2 0) (.cons (.keep (.int .i64)) (.cons (.ptr 3 0) (anyN 60 .nil))))))), [.cells 46 true (.cons (.keep .str) (.cons (.keep (.int .i64)) (.cons (.keep (.int .i64)) (.cons (.keep (.int .i64)) (.cons (.keep .str) (.cons (.keep (.list (.agg (.cons (.list (.agg (.cons (.int .i64) (.cons (.int .i64) (.int .i64))))) (.cons (.int .i64) .bool))))) .nil)))))), .cells 36 true (.cons (.keep .str) (.cons (.keep (.int .i64)) (.cons (.keep (.int .i64)) (.cons (.keep (.int .i64)) (.cons (.keep .str) (.cons .nill .nil)))))), .cells 36 true (.cons (.keep .str) (.cons (.keep (.int .i64)) (.cons (.keep (.int .i64)) (.cons (.keep (.int .i64)) (.cons (.keep .str) (.cons (.own (.agg (.cons (.list (.agg (.cons (.int .i64) (.cons (.int .i64) (.int .i64))))) (.cons (.int .i64) .bool))) 0 true) .nil)))))), .cells 69 true (.cons (.own (.agg (.cons (.int .i64) (.cons (.int .i64) (.int .i64)))) 1 true) (.cons (.keep (.int .i64)) (.cons (.keep .bool) .nil)))], [⟨⟨0, (.agg (.cons (.list (.agg (.cons (.int .i64) (.cons (.int .i64) (.int .i64))))) (.cons (.int .i64) .bool))), 69, true, true⟩, false⟩, ⟨⟨1, (.agg (.cons (.int .i64) (.cons (.int .i64) (.int .i64)))), 71, true, true⟩, true⟩], []⟩)]⟩)]
def cfg_law18_Own : SCfg := SCfg.of ([] ++ inlL) ann_law18_Own keepL
theorem eq_law18_Own (x : HL [(.agg (.cons .str (.cons (.int .i64) (.cons (.int .i64) (.cons (.int .i64) (.cons .str (.list (.agg (.cons (.list (.agg (.cons (.int .i64) (.cons (.int .i64) (.int .i64))))) (.cons (.int .i64) .bool))))))))))]) : fnK cfg_law18_Own Try.prog 100000 17 [(.agg (.cons .str (.cons (.int .i64) (.cons (.int .i64) (.cons (.int .i64) (.cons .str (.list (.agg (.cons (.list (.agg (.cons (.int .i64) (.cons (.int .i64) (.int .i64))))) (.cons (.int .i64) .bool))))))))))] [(.agg (.cons .str (.cons (.int .i64) (.cons (.int .i64) (.cons (.int .i64) (.cons .str (.list (.agg (.cons (.list (.agg (.cons (.int .i64) (.cons (.int .i64) (.int .i64))))) (.cons (.int .i64) .bool))))))))))] x = (fun x => F_law18_Own x) x := by kernel_rfl
theorem told_law18_Own : Told CC Try.prog 17 [(.agg (.cons .str (.cons (.int .i64) (.cons (.int .i64) (.cons (.int .i64) (.cons .str (.list (.agg (.cons (.list (.agg (.cons (.int .i64) (.cons (.int .i64) (.int .i64))))) (.cons (.int .i64) .bool))))))))))] [(.agg (.cons .str (.cons (.int .i64) (.cons (.int .i64) (.cons (.int .i64) (.cons .str (.list (.agg (.cons (.list (.agg (.cons (.int .i64) (.cons (.int .i64) (.int .i64))))) (.cons (.int .i64) .bool))))))))))] (fun x => F_law18_Own x) := told_of (gok (an := ann_law18_Own) (fs := []) trivial) rfl rfl eq_law18_Own
def step_tmpl_Template_Check_1 (t_1 : List UInt8 × Int × Int × Int × List UInt8 × List (List (Int × Int × Int) × Int × Bool)) (s10_2 : Int) (x4 : (((Ty.int Go.IntKind.i64).cons ((Ty.int Go.IntKind.i64).cons (Ty.int Go.IntKind.i64))).agg.list.cons ((Ty.int Go.IntKind.i64).cons Ty.bool)).agg.den) : Int → Option (Int ⊕ (Bool ⊕ Unit)) := fun s21_5 =>
  if decide (s21_5 < (↑(List.length x4.1) : Int)) = true then
    natOf s21_5 fun n6 =>
    bnd (x4.1[n6]?) fun x7 =>
    if decide (x7.1 < 0) = false then
      if decide (x7.2.2 < x7.1) = false then
        if decide ((↑(List.length t_1.2.2.2.2.1) : Int) < x7.2.1) = false then
          if decide (x7.2.1 < x7.2.2) = false then
            if decide (Go.IntKind.i64.wrap (x7.2.1 - x7.2.2) < 4) = true then
              grdEq t_1.1 t_1.1 <|
              grdEq t_1.2.1 t_1.2.1 <|
              grdEq t_1.2.2.1 t_1.2.2.1 <|
              grdEq t_1.2.2.2.1 t_1.2.2.2.1 <|
              grdEq t_1.2.2.2.2.1 t_1.2.2.2.2.1 <|
              grdEq t_1.2.2.2.2.2 t_1.2.2.2.2.2 <|
              grdEq x4.1 x4.1 <|
              grdEq x4.2.1 x4.2.1 <|
              grdEq x4.2.2 x4.2.2 <|
              some (.inr (.inl false))
            else
              grdEq t_1.2.2.2.2.2 t_1.2.2.2.2.2 <|
              grdEq ((↑(List.length t_1.2.2.2.2.2) : Int)) ((↑(List.length t_1.2.2.2.2.2) : Int)) <|
              grdEq s10_2 s10_2 <|
              grdEq x4.1 x4.1 <|
              grdEq ((↑(List.length x4.1) : Int)) ((↑(List.length x4.1) : Int)) <|
              grdEq t_1.1 t_1.1 <|
              grdEq t_1.2.1 t_1.2.1 <|
              grdEq t_1.2.2.1 t_1.2.2.1 <|
              grdEq t_1.2.2.2.1 t_1.2.2.2.1 <|
              grdEq t_1.2.2.2.2.1 t_1.2.2.2.2.1 <|
              grdEq t_1.2.2.2.2.2 t_1.2.2.2.2.2 <|
              grdEq x4.1 x4.1 <|
              grdEq x4.2.1 x4.2.1 <|
              grdEq x4.2.2 x4.2.2 <|
              some (.inl (Go.IntKind.i64.wrap (s21_5 + 1)))
          else
            grdEq t_1.1 t_1.1 <|
            grdEq t_1.2.1 t_1.2.1 <|
            grdEq t_1.2.2.1 t_1.2.2.1 <|
            grdEq t_1.2.2.2.1 t_1.2.2.2.1 <|
            grdEq t_1.2.2.2.2.1 t_1.2.2.2.2.1 <|
            grdEq t_1.2.2.2.2.2 t_1.2.2.2.2.2 <|
            grdEq x4.1 x4.1 <|
            grdEq x4.2.1 x4.2.1 <|
            grdEq x4.2.2 x4.2.2 <|
            some (.inr (.inl false))
        else
          grdEq t_1.1 t_1.1 <|
          grdEq t_1.2.1 t_1.2.1 <|
          grdEq t_1.2.2.1 t_1.2.2.1 <|
          grdEq t_1.2.2.2.1 t_1.2.2.2.1 <|
          grdEq t_1.2.2.2.2.1 t_1.2.2.2.2.1 <|
          grdEq t_1.2.2.2.2.2 t_1.2.2.2.2.2 <|
          grdEq x4.1 x4.1 <|
          grdEq x4.2.1 x4.2.1 <|
          grdEq x4.2.2 x4.2.2 <|
          some (.inr (.inl false))
      else
        grdEq t_1.1 t_1.1 <|
        grdEq t_1.2.1 t_1.2.1 <|
        grdEq t_1.2.2.1 t_1.2.2.1 <|
        grdEq t_1.2.2.2.1 t_1.2.2.2.1 <|
        grdEq t_1.2.2.2.2.1 t_1.2.2.2.2.1 <|
        grdEq t_1.2.2.2.2.2 t_1.2.2.2.2.2 <|
        grdEq x4.1 x4.1 <|
        grdEq x4.2.1 x4.2.1 <|
        grdEq x4.2.2 x4.2.2 <|
        some (.inr (.inl false))
    else
      grdEq t_1.1 t_1.1 <|
      grdEq t_1.2.1 t_1.2.1 <|
      grdEq t_1.2.2.1 t_1.2.2.1 <|
      grdEq t_1.2.2.2.1 t_1.2.2.2.1 <|
      grdEq t_1.2.2.2.2.1 t_1.2.2.2.2.1 <|
      grdEq t_1.2.2.2.2.2 t_1.2.2.2.2.2 <|
      grdEq x4.1 x4.1 <|
      grdEq x4.2.1 x4.2.1 <|
      grdEq x4.2.2 x4.2.2 <|
      some (.inr (.inl false))
  else
    grdEq t_1.2.2.2.2.2 t_1.2.2.2.2.2 <|
    grdEq ((↑(List.length t_1.2.2.2.2.2) : Int)) ((↑(List.length t_1.2.2.2.2.2) : Int)) <|
    grdEq s10_2 s10_2 <|
    grdEq t_1.1 t_1.1 <|
    grdEq t_1.2.1 t_1.2.1 <|
    grdEq t_1.2.2.1 t_1.2.2.1 <|
    grdEq t_1.2.2.2.1 t_1.2.2.2.1 <|
    grdEq t_1.2.2.2.2.1 t_1.2.2.2.2.1 <|
    grdEq t_1.2.2.2.2.2 t_1.2.2.2.2.2 <|
    grdEq x4.1 x4.1 <|
    grdEq x4.2.1 x4.2.1 <|
    grdEq x4.2.2 x4.2.2 <|
    some (.inr (.inr (())))
def step_tmpl_Template_Check_0 (t_1 : List UInt8 × Int × Int × Int × List UInt8 × List (List (Int × Int × Int) × Int × Bool)) : Int → Option (Int ⊕ (Bool ⊕ Unit)) := fun s10_2 =>
  if decide (s10_2 < (↑(List.length t_1.2.2.2.2.2) : Int)) = true then
    natOf s10_2 fun n3 =>
    bnd (t_1.2.2.2.2.2[n3]?) fun x4 =>
    if ((↑(List.length x4.1) : Int) == 0) = true then
      grdEq t_1.1 t_1.1 <|
      grdEq t_1.2.1 t_1.2.1 <|
      grdEq t_1.2.2.1 t_1.2.2.1 <|
      grdEq t_1.2.2.2.1 t_1.2.2.2.1 <|
      grdEq t_1.2.2.2.2.1 t_1.2.2.2.2.1 <|
      grdEq t_1.2.2.2.2.2 t_1.2.2.2.2.2 <|
      some (.inr (.inl false))
    else
      bnd (loopS (step_tmpl_Template_Check_1 t_1 s10_2 x4) 0) fun o8 =>
      match o8 with
      | .inl s2_9 =>
        grdEq t_1.1 t_1.1 <|
        grdEq t_1.2.1 t_1.2.1 <|
        grdEq t_1.2.2.1 t_1.2.2.1 <|
        grdEq t_1.2.2.2.1 t_1.2.2.2.1 <|
        grdEq t_1.2.2.2.2.1 t_1.2.2.2.2.1 <|
        grdEq t_1.2.2.2.2.2 t_1.2.2.2.2.2 <|
        some (.inr (.inl s2_9))
      | .inr _ =>
        grdEq t_1.2.2.2.2.2 t_1.2.2.2.2.2 <|
        grdEq ((↑(List.length t_1.2.2.2.2.2) : Int)) ((↑(List.length t_1.2.2.2.2.2) : Int)) <|
        grdEq t_1.1 t_1.1 <|
        grdEq t_1.2.1 t_1.2.1 <|
        grdEq t_1.2.2.1 t_1.2.2.1 <|
        grdEq t_1.2.2.2.1 t_1.2.2.2.1 <|
        grdEq t_1.2.2.2.2.1 t_1.2.2.2.2.1 <|
        grdEq t_1.2.2.2.2.2 t_1.2.2.2.2.2 <|
        some (.inl (Go.IntKind.i64.wrap (s10_2 + 1)))
  else
    grdEq t_1.1 t_1.1 <|
    grdEq t_1.2.1 t_1.2.1 <|
    grdEq t_1.2.2.1 t_1.2.2.1 <|
    grdEq t_1.2.2.2.1 t_1.2.2.2.1 <|
    grdEq t_1.2.2.2.2.1 t_1.2.2.2.2.1 <|
    grdEq t_1.2.2.2.2.2 t_1.2.2.2.2.2 <|
    some (.inr (.inr (())))
def F_tmpl_Template_Check (t_1 : (List UInt8 × (Int × (Int × (Int × (List UInt8 × List ((List ((Int × (Int × Int))) × (Int × Bool))))))))) : Option (Bool) :=
  bnd (loopS (step_tmpl_Template_Check_0 t_1) 0) fun o10 =>
  match o10 with
  | .inl s2_11 =>
    some s2_11
  | .inr _ =>
    some true
def ann_tmpl_Template_Check : List (List Nat × Ann) := [([6], ⟨some ⟨(anyN 1 (.cons (.ptr 0 0) (anyN 6 (.cons (.keep (.list (.agg (.cons (.list (.agg (.cons (.int .i64) (.cons (.int .i64) (.int .i64))))) (.cons (.int .i64) .bool))))) (.cons (.keep (.int .i64)) (.cons (.ty (.int .i64)) (anyN 49 .nil))))))), [.cells 36 true (.cons (.keep .str) (.cons (.keep (.int .i64)) (.cons (.keep (.int .i64)) (.cons (.keep (.int .i64)) (.cons (.keep .str) (.cons (.keep (.list (.agg (.cons (.list (.agg (.cons (.int .i64) (.cons (.int .i64) (.int .i64))))) (.cons (.int .i64) .bool))))) .nil))))))], [], []⟩, [(.ret, ⟨(anyN 2 (.cons (.ty .bool) (anyN 57 .nil))), [.cells 36 true (.cons (.keep .str) (.cons (.keep (.int .i64)) (.cons (.keep (.int .i64)) (.cons (.keep (.int .i64)) (.cons (.keep .str) (.cons (.keep (.list (.agg (.cons (.list (.agg (.cons (.int .i64) (.cons (.int .i64) (.int .i64))))) (.cons (.int .i64) .bool))))) .nil))))))], [], []⟩), (.exit 0, ⟨(anyN 60 .nil), [.cells 36 true (.cons (.keep .str) (.cons (.keep (.int .i64)) (.cons (.keep (.int .i64)) (.cons (.keep (.int .i64)) (.cons (.keep .str) (.cons (.keep (.list (.agg (.cons (.list (.agg (.cons (.int .i64) (.cons (.int .i64) (.int .i64))))) (.cons (.int .i64) .bool))))) .nil))))))], [], []⟩)]⟩), ([28], ⟨some ⟨(anyN 1 (.cons (.ptr 0 0) (anyN 6 (.cons (.keep (.list (.agg (.cons (.list (.agg (.cons (.int .i64) (.cons (.int .i64) (.int .i64))))) (.cons (.int .i64) .bool))))) (.cons (.keep (.int .i64)) (.cons (.keep (.int .i64)) (anyN 8 (.cons (.keep (.list (.agg (.cons (.int .i64) (.cons (.int .i64) (.int .i64)))))) (.cons (.keep (.int .i64)) (.cons (.ty (.int .i64)) (anyN 38 .nil))))))))))), [.cells 36 true (.cons (.keep .str) (.cons (.keep (.int .i64)) (.cons (.keep (.int .i64)) (.cons (.keep (.int .i64)) (.cons (.keep .str) (.cons (.keep (.list (.agg (.cons (.list (.agg (.cons (.int .i64) (.cons (.int .i64) (.int .i64))))) (.cons (.int .i64) .bool))))) .nil)))))), .cells 69 true (.cons (.keep (.list (.agg (.cons (.int .i64) (.cons (.int .i64) (.int .i64)))))) (.cons (.keep (.int .i64)) (.cons (.keep .bool) .nil)))], [], []⟩, [(.ret, ⟨(anyN 2 (.cons (.ty .bool) (anyN 57 .nil))), [.cells 36 true (.cons (.keep .str) (.cons (.keep (.int .i64)) (.cons (.keep (.int .i64)) (.cons (.keep (.int .i64)) (.cons (.keep .str) (.cons (.keep (.list (.agg (.cons (.list (.agg (.cons (.int .i64) (.cons (.int .i64) (.int .i64))))) (.cons (.int .i64) .bool))))) .nil)))))), .cells 69 true (.cons (.keep (.list (.agg (.cons (.int .i64) (.cons (.int .i64) (.int .i64)))))) (.cons (.keep (.int .i64)) (.cons (.keep .bool) .nil)))], [], []⟩), (.exit 2, ⟨(anyN 1 (.cons (.ptr 0 0) (anyN 6 (.cons (.keep (.list (.agg (.cons (.list (.agg (.cons (.int .i64) (.cons (.int .i64) (.int .i64))))) (.cons (.int .i64) .bool))))) (.cons (.keep (.int .i64)) (.cons (.keep (.int .i64)) (anyN 49 .nil))))))), [.cells 36 true (.cons (.keep .str) (.cons (.keep (.int .i64)) (.cons (.keep (.int .i64)) (.cons (.keep (.int .i64)) (.cons (.keep .str) (.cons (.keep (.list (.agg (.cons (.list (.agg (.cons (.int .i64) (.cons (.int .i64) (.int .i64))))) (.cons (.int .i64) .bool))))) .nil)))))), .cells 69 true (.cons (.keep (.list (.agg (.cons (.int .i64) (.cons (.int .i64) (.int .i64)))))) (.cons (.keep (.int .i64)) (.cons (.keep .bool) .nil)))], [], []⟩)]⟩)]
def cfg_tmpl_Template_Check : SCfg := SCfg.of ([] ++ inlL) ann_tmpl_Template_Check keepL
theorem eq_tmpl_Template_Check (x : HL [(.agg (.cons .str (.cons (.int .i64) (.cons (.int .i64) (.cons (.int .i64) (.cons .str (.list (.agg (.cons (.list (.agg (.cons (.int .i64) (.cons (.int .i64) (.int .i64))))) (.cons (.int .i64) .bool))))))))))]) : fnK cfg_tmpl_Template_Check Try.prog 100000 18 [(.agg (.cons .str (.cons (.int .i64) (.cons (.int .i64) (.cons (.int .i64) (.cons .str (.list (.agg (.cons (.list (.agg (.cons (.int .i64) (.cons (.int .i64) (.int .i64))))) (.cons (.int .i64) .bool))))))))))] [.bool] x = (fun x => F_tmpl_Template_Check x) x := by kernel_rfl
theorem told_tmpl_Template_Check : Told CC Try.prog 18 [(.agg (.cons .str (.cons (.int .i64) (.cons (.int .i64) (.cons (.int .i64) (.cons .str (.list (.agg (.cons (.list (.agg (.cons (.int .i64) (.cons (.int .i64) (.int .i64))))) (.cons (.int .i64) .bool))))))))))] [.bool] (fun x => F_tmpl_Template_Check x) := told_of (gok (an := ann_tmpl_Template_Check) (fs := []) trivial) rfl rfl eq_tmpl_Template_Check
def F_tmpl_in (n_1 : Int) (most_2 : Int) : Option (Bool) :=
  if decide (0 ≤ n_1) = true then
    some (decide (n_1 ≤ most_2))
  else
    some false
def ann_tmpl_in : List (List Nat × Ann) := []
def cfg_tmpl_in : SCfg := SCfg.of ([] ++ inlL) ann_tmpl_in keepL
theorem eq_tmpl_in (x : HL [(.int .i64), (.int .i64)]) : fnK cfg_tmpl_in Try.prog 100000 27 [(.int .i64), (.int .i64)] [.bool] x = (fun x => F_tmpl_in x.1 x.2) x := by kernel_rfl
theorem told_tmpl_in : Told CC Try.prog 27 [(.int .i64), (.int .i64)] [.bool] (fun x => F_tmpl_in x.1 x.2) := told_of (gok (an := ann_tmpl_in) (fs := []) trivial) rfl rfl eq_tmpl_in
def F_age_within_int (n_1 : Int) (most_2 : Int) : Option (Bool) :=
  if decide (0 ≤ n_1) = true then
    some (decide (n_1 ≤ most_2))
  else
    some false
def ann_age_within_int : List (List Nat × Ann) := []
def cfg_age_within_int : SCfg := SCfg.of ([] ++ inlL) ann_age_within_int keepL
theorem eq_age_within_int (x : HL [(.int .i64), (.int .i64)]) : fnK cfg_age_within_int Try.prog 100000 55 [(.int .i64), (.int .i64)] [.bool] x = (fun x => F_age_within_int x.1 x.2) x := by kernel_rfl
theorem told_age_within_int : Told CC Try.prog 55 [(.int .i64), (.int .i64)] [.bool] (fun x => F_age_within_int x.1 x.2) := told_of (gok (an := ann_age_within_int) (fs := []) trivial) rfl rfl eq_age_within_int
def F_age_Live (now_1 : Int) (until_2 : Int) : Option (Bool) :=
  bnd (F_age_within_int now_1 1099511627776) fun v3 =>
  if v3 = true then
    some (decide (now_1 < until_2))
  else
    some false
def ann_age_Live : List (List Nat × Ann) := []
@[reducible] def fs_age_Live : List (Nat × SFn) := [(55, .pure [(.int .i64), (.int .i64)] [.bool] (fun x => F_age_within_int x.1 x.2))]
def cfg_age_Live : SCfg := SCfg.of (fs_age_Live ++ inlL) ann_age_Live keepL
theorem eq_age_Live (x : HL [(.int .i64), (.int .i64)]) : fnK cfg_age_Live Try.prog 100000 33 [(.int .i64), (.int .i64)] [.bool] x = (fun x => F_age_Live x.1 x.2) x := by kernel_rfl
theorem told_age_Live : Told CC Try.prog 33 [(.int .i64), (.int .i64)] [.bool] (fun x => F_age_Live x.1 x.2) := told_of (gok (an := ann_age_Live) (fs := fs_age_Live) ⟨told_age_within_int, trivial⟩) rfl rfl eq_age_Live
def step_tmpl_Template_Live_0 (t_1 : List UInt8 × Int × Int × Int × List UInt8 × List (List (Int × Int × Int) × Int × Bool)) (now_2 : Int) : Int → Option (Int ⊕ (Bool ⊕ Unit)) := fun s10_3 =>
  if decide (s10_3 < (↑(List.length t_1.2.2.2.2.2) : Int)) = true then
    natOf s10_3 fun n4 =>
    bnd (t_1.2.2.2.2.2[n4]?) fun x5 =>
    bnd (F_age_Live now_2 x5.2.1) fun v6 =>
    if (!v6) = true then
      grdEq t_1.1 t_1.1 <|
      grdEq t_1.2.1 t_1.2.1 <|
      grdEq t_1.2.2.1 t_1.2.2.1 <|
      grdEq t_1.2.2.2.1 t_1.2.2.2.1 <|
      grdEq t_1.2.2.2.2.1 t_1.2.2.2.2.1 <|
      grdEq t_1.2.2.2.2.2 t_1.2.2.2.2.2 <|
      some (.inr (.inl false))
    else
      grdEq now_2 now_2 <|
      grdEq t_1.2.2.2.2.2 t_1.2.2.2.2.2 <|
      grdEq ((↑(List.length t_1.2.2.2.2.2) : Int)) ((↑(List.length t_1.2.2.2.2.2) : Int)) <|
      grdEq t_1.1 t_1.1 <|
      grdEq t_1.2.1 t_1.2.1 <|
      grdEq t_1.2.2.1 t_1.2.2.1 <|
      grdEq t_1.2.2.2.1 t_1.2.2.2.1 <|
      grdEq t_1.2.2.2.2.1 t_1.2.2.2.2.1 <|
      grdEq t_1.2.2.2.2.2 t_1.2.2.2.2.2 <|
      some (.inl (Go.IntKind.i64.wrap (s10_3 + 1)))
  else
    grdEq now_2 now_2 <|
    grdEq t_1.1 t_1.1 <|
    grdEq t_1.2.1 t_1.2.1 <|
    grdEq t_1.2.2.1 t_1.2.2.1 <|
    grdEq t_1.2.2.2.1 t_1.2.2.2.1 <|
    grdEq t_1.2.2.2.2.1 t_1.2.2.2.2.1 <|
    grdEq t_1.2.2.2.2.2 t_1.2.2.2.2.2 <|
    some (.inr (.inr (())))
def F_tmpl_Template_Live (t_1 : (List UInt8 × (Int × (Int × (Int × (List UInt8 × List ((List ((Int × (Int × Int))) × (Int × Bool))))))))) (now_2 : Int) : Option (Bool) :=
  bnd (loopS (step_tmpl_Template_Live_0 t_1 now_2) 0) fun o7 =>
  match o7 with
  | .inl s4_8 =>
    some s4_8
  | .inr _ =>
    bnd (F_tmpl_in now_2 1099511627776) fun v9 =>
    some v9
def ann_tmpl_Template_Live : List (List Nat × Ann) := [([6], ⟨some ⟨(anyN 1 (.cons (.keep (.int .i64)) (anyN 6 (.cons (.keep (.list (.agg (.cons (.list (.agg (.cons (.int .i64) (.cons (.int .i64) (.int .i64))))) (.cons (.int .i64) .bool))))) (.cons (.keep (.int .i64)) (.cons (.ty (.int .i64)) (anyN 11 .nil))))))), [.cells 36 true (.cons (.keep .str) (.cons (.keep (.int .i64)) (.cons (.keep (.int .i64)) (.cons (.keep (.int .i64)) (.cons (.keep .str) (.cons (.keep (.list (.agg (.cons (.list (.agg (.cons (.int .i64) (.cons (.int .i64) (.int .i64))))) (.cons (.int .i64) .bool))))) .nil))))))], [], []⟩, [(.ret, ⟨(anyN 4 (.cons (.ty .bool) (anyN 17 .nil))), [.cells 36 true (.cons (.keep .str) (.cons (.keep (.int .i64)) (.cons (.keep (.int .i64)) (.cons (.keep (.int .i64)) (.cons (.keep .str) (.cons (.keep (.list (.agg (.cons (.list (.agg (.cons (.int .i64) (.cons (.int .i64) (.int .i64))))) (.cons (.int .i64) .bool))))) .nil))))))], [], []⟩), (.exit 0, ⟨(anyN 1 (.cons (.keep (.int .i64)) (anyN 20 .nil))), [.cells 36 true (.cons (.keep .str) (.cons (.keep (.int .i64)) (.cons (.keep (.int .i64)) (.cons (.keep (.int .i64)) (.cons (.keep .str) (.cons (.keep (.list (.agg (.cons (.list (.agg (.cons (.int .i64) (.cons (.int .i64) (.int .i64))))) (.cons (.int .i64) .bool))))) .nil))))))], [], []⟩)]⟩)]
@[reducible] def fs_tmpl_Template_Live : List (Nat × SFn) := [(33, .pure [(.int .i64), (.int .i64)] [.bool] (fun x => F_age_Live x.1 x.2)), (27, .pure [(.int .i64), (.int .i64)] [.bool] (fun x => F_tmpl_in x.1 x.2))]
def cfg_tmpl_Template_Live : SCfg := SCfg.of (fs_tmpl_Template_Live ++ inlL) ann_tmpl_Template_Live keepL
theorem eq_tmpl_Template_Live (x : HL [(.agg (.cons .str (.cons (.int .i64) (.cons (.int .i64) (.cons (.int .i64) (.cons .str (.list (.agg (.cons (.list (.agg (.cons (.int .i64) (.cons (.int .i64) (.int .i64))))) (.cons (.int .i64) .bool)))))))))), (.int .i64)]) : fnK cfg_tmpl_Template_Live Try.prog 100000 20 [(.agg (.cons .str (.cons (.int .i64) (.cons (.int .i64) (.cons (.int .i64) (.cons .str (.list (.agg (.cons (.list (.agg (.cons (.int .i64) (.cons (.int .i64) (.int .i64))))) (.cons (.int .i64) .bool)))))))))), (.int .i64)] [.bool] x = (fun x => F_tmpl_Template_Live x.1 x.2) x := by kernel_rfl
theorem told_tmpl_Template_Live : Told CC Try.prog 20 [(.agg (.cons .str (.cons (.int .i64) (.cons (.int .i64) (.cons (.int .i64) (.cons .str (.list (.agg (.cons (.list (.agg (.cons (.int .i64) (.cons (.int .i64) (.int .i64))))) (.cons (.int .i64) .bool)))))))))), (.int .i64)] [.bool] (fun x => F_tmpl_Template_Live x.1 x.2) := told_of (gok (an := ann_tmpl_Template_Live) (fs := fs_tmpl_Template_Live) ⟨told_age_Live, told_tmpl_in, trivial⟩) rfl rfl eq_tmpl_Template_Live
def F_age_Left (now_1 : Int) (until_2 : Int) : Option (Int) :=
  bnd (F_age_Live now_1 until_2) fun v3 =>
  if (!v3) = true then
    some 0
  else
    some (if 604800 < Go.IntKind.i64.wrap (until_2 - now_1) then 604800 else Go.IntKind.i64.wrap (until_2 - now_1))
def ann_age_Left : List (List Nat × Ann) := []
@[reducible] def fs_age_Left : List (Nat × SFn) := [(33, .pure [(.int .i64), (.int .i64)] [.bool] (fun x => F_age_Live x.1 x.2))]
def cfg_age_Left : SCfg := SCfg.of (fs_age_Left ++ inlL) ann_age_Left keepL
theorem eq_age_Left (x : HL [(.int .i64), (.int .i64)]) : fnK cfg_age_Left Try.prog 100000 36 [(.int .i64), (.int .i64)] [(.int .i64)] x = (fun x => F_age_Left x.1 x.2) x := by kernel_rfl
theorem told_age_Left : Told CC Try.prog 36 [(.int .i64), (.int .i64)] [(.int .i64)] (fun x => F_age_Left x.1 x.2) := told_of (gok (an := ann_age_Left) (fs := fs_age_Left) ⟨told_age_Live, trivial⟩) rfl rfl eq_age_Left
def F_octet_sized (size_1 : Int) : Option (Bool) :=
  if decide (1 ≤ size_1) = true then
    some (decide (size_1 ≤ 4))
  else
    some false
def ann_octet_sized : List (List Nat × Ann) := []
def cfg_octet_sized : SCfg := SCfg.of ([] ++ inlL) ann_octet_sized keepL
theorem eq_octet_sized (x : HL [(.int .i64)]) : fnK cfg_octet_sized Try.prog 100000 56 [(.int .i64)] [.bool] x = (fun x => F_octet_sized x) x := by kernel_rfl
theorem told_octet_sized : Told CC Try.prog 56 [(.int .i64)] [.bool] (fun x => F_octet_sized x) := told_of (gok (an := ann_octet_sized) (fs := []) trivial) rfl rfl eq_octet_sized
end
end Go.Abs

set_option maxRecDepth 100000
namespace Go.Abs
open Go Go.Proofs
noncomputable section
def step_octet_Put_0 (n_1 : Int) (size_2 : Int) : (List (Int) × Int) → Option ((List (Int) × Int) ⊕ List (Int)) := fun (b_7, s24_8) =>
  if decide (s24_8 < size_2) = true then
    natOf (Go.IntKind.i64.wrap (8 * s24_8)) fun n9 =>
    natOf (Go.IntKind.i64.wrap (Go.IntKind.i64.wrap (size_2 - 1) - s24_8)) fun n10 =>
    bnd (b_7[n10]?) fun x11 =>
    grdEq n_1 n_1 <|
    grdEq size_2 size_2 <|
    grdEq size_2 size_2 <|
    some (.inl ((b_7.set n10 (Go.IntKind.u8.wrap (n_1.fdiv (2 ^ min n9 64))), Go.IntKind.i64.wrap (s24_8 + 1))))
  else
    some (.inr b_7)
def F_octet_Put (n_1 : Int) (size_2 : Int) : Option (List UInt8) :=
  bnd (α := (List UInt8 ⊕ Unit)) (bnd (F_octet_sized size_2) fun v3 =>
    if (!v3) = false then
      if decide (n_1 < 0) = false then
        natOf (Go.IntKind.i64.wrap (8 * size_2)) fun n4 =>
        if (n_1.fdiv (2 ^ min n4 64) != 0) = true then
          some (.inl ([]))
        else
          grdEq n_1 n_1 <|
          grdEq size_2 size_2 <|
          some (.inr (()))
      else
        some (.inl ([]))
    else
      some (.inl ([]))) fun o5 =>
  match o5 with
  | .inl s4_6 =>
    some s4_6
  | .inr _ =>
    grd (0 ≤ size_2 ∧ size_2 ≤ size_2 ∧ size_2 ≤ 9223372036854775807 ∧ 1 * size_2 ≤ 281474976710656) <|
    bnd (loopS (step_octet_Put_0 n_1 size_2) ((List.replicate size_2.toNat 0, 0))) fun b_12 =>
    some (List.map (fun n => UInt8.ofNat (Int.toNat n)) b_12)
def ann_octet_Put : List (List Nat × Ann) := [([2], ⟨none, [(.ret, ⟨(anyN 4 (.cons (.ty .str) (anyN 36 .nil))), [], [], []⟩), (.normal, ⟨(.cons (.keep (.int .i64)) (.cons (.keep (.int .i64)) (anyN 39 .nil))), [], [], []⟩)]⟩), ([16], ⟨some ⟨(.cons (.keep (.int .i64)) (.cons (.keep (.int .i64)) (anyN 3 (.cons (.own (.int .u8) 0 true) (anyN 17 (.cons (.keep (.int .i64)) (.cons (.ty (.int .i64)) (anyN 16 .nil)))))))), [], [⟨⟨0, (.int .u8), 5, true, true⟩, false⟩], [0]⟩, [(.exit 0, ⟨(anyN 5 (.cons (.own (.int .u8) 0 true) (anyN 35 .nil))), [], [⟨⟨0, (.int .u8), 5, true, true⟩, false⟩], [0]⟩)]⟩)]
@[reducible] def fs_octet_Put : List (Nat × SFn) := [(56, .pure [(.int .i64)] [.bool] (fun x => F_octet_sized x))]
def cfg_octet_Put : SCfg := SCfg.of (fs_octet_Put ++ inlL) ann_octet_Put keepL
theorem eq_octet_Put (x : HL [(.int .i64), (.int .i64)]) : fnK cfg_octet_Put Try.prog 100000 35 [(.int .i64), (.int .i64)] [.str] x = (fun x => F_octet_Put x.1 x.2) x := by kernel_rfl
theorem told_octet_Put : Told CC Try.prog 35 [(.int .i64), (.int .i64)] [.str] (fun x => F_octet_Put x.1 x.2) := told_of (gok (an := ann_octet_Put) (fs := fs_octet_Put) ⟨told_octet_sized, trivial⟩) rfl rfl eq_octet_Put
def step_tmpl_Template_Part_0 (t_1 : List UInt8 × Int × Int × Int × List UInt8 × List (List (Int × Int × Int) × Int × Bool)) (x9 : (((Ty.int Go.IntKind.i64).cons ((Ty.int Go.IntKind.i64).cons (Ty.int Go.IntKind.i64))).agg.list.cons ((Ty.int Go.IntKind.i64).cons Ty.bool)).agg.den) (at_11 : Int) (v13 : List UInt8) : (Int × List (Int)) → Option ((Int × List (Int)) ⊕ List (Int)) := fun (s8_14, b3b_15) =>
  if decide (s8_14 < (↑(List.length x9.1) : Int)) = true then
    if (↑(List.length x9.1) : Int) = 0 then
      none
    else
      natOf ((Go.IntKind.i64.wrap (at_11 + s8_14)).tmod (↑(List.length x9.1) : Int)) fun n16 =>
      bnd (x9.1[n16]?) fun x17 =>
      natOf x17.2.2 fun n18 =>
      grd (n18 ≤ List.length t_1.2.2.2.2.1) <|
      natOf x17.1 fun n19 =>
      grd (n19 ≤ n18) <|
      grd ((b3b_15.length + (List.map (fun b => (↑b.toNat : Int)) (List.drop n19 (List.take n18 t_1.2.2.2.2.1))).length) * 1 ≤ roomLim) <|
      grd (((b3b_15 ++ List.map (fun b => (↑b.toNat : Int)) (List.drop n19 (List.take n18 t_1.2.2.2.2.1))).length + (List.map (fun b => (↑b.toNat : Int)) v13).length) * 1 ≤ roomLim) <|
      natOf x17.2.1 fun n20 =>
      grd (n20 ≤ List.length t_1.2.2.2.2.1) <|
      natOf (Go.IntKind.i64.wrap (x17.2.2 + 4)) fun n21 =>
      grd (n21 ≤ n20) <|
      grd (((b3b_15 ++ List.map (fun b => (↑b.toNat : Int)) (List.drop n19 (List.take n18 t_1.2.2.2.2.1)) ++ List.map (fun b => (↑b.toNat : Int)) v13).length + (List.map (fun b => (↑b.toNat : Int)) (List.drop n21 (List.take n20 t_1.2.2.2.2.1))).length) * 1 ≤ roomLim) <|
      grdEq ((↑(List.length x9.1) : Int)) ((↑(List.length x9.1) : Int)) <|
      grdEq t_1.1 t_1.1 <|
      grdEq t_1.2.1 t_1.2.1 <|
      grdEq t_1.2.2.1 t_1.2.2.1 <|
      grdEq t_1.2.2.2.1 t_1.2.2.2.1 <|
      grdEq t_1.2.2.2.2.1 t_1.2.2.2.2.1 <|
      grdEq t_1.2.2.2.2.2 t_1.2.2.2.2.2 <|
      grdEq x9.1 x9.1 <|
      grdEq x9.2.1 x9.2.1 <|
      grdEq x9.2.2 x9.2.2 <|
      grdEq v13 v13 <|
      grdEq x9.1 x9.1 <|
      grdEq x9.2.1 x9.2.1 <|
      grdEq x9.2.2 x9.2.2 <|
      grdEq at_11 at_11 <|
      some (.inl ((Go.IntKind.i64.wrap (s8_14 + 1), b3b_15 ++ List.map (fun b => (↑b.toNat : Int)) (List.drop n19 (List.take n18 t_1.2.2.2.2.1)) ++ List.map (fun b => (↑b.toNat : Int)) v13 ++ List.map (fun b => (↑b.toNat : Int)) (List.drop n21 (List.take n20 t_1.2.2.2.2.1)))))
  else
    grdEq t_1.1 t_1.1 <|
    grdEq t_1.2.1 t_1.2.1 <|
    grdEq t_1.2.2.1 t_1.2.2.1 <|
    grdEq t_1.2.2.2.1 t_1.2.2.2.1 <|
    grdEq t_1.2.2.2.2.1 t_1.2.2.2.2.1 <|
    grdEq t_1.2.2.2.2.2 t_1.2.2.2.2.2 <|
    grdEq x9.1 x9.1 <|
    grdEq x9.2.1 x9.2.1 <|
    grdEq x9.2.2 x9.2.2 <|
    grdEq v13 v13 <|
    grdEq x9.1 x9.1 <|
    grdEq x9.2.1 x9.2.1 <|
    grdEq x9.2.2 x9.2.2 <|
    grdEq at_11 at_11 <|
    some (.inr b3b_15)
def F_tmpl_Template_Part (t_1 : (List UInt8 × (Int × (Int × (Int × (List UInt8 × List ((List ((Int × (Int × Int))) × (Int × Bool))))))))) (i_2 : Int) (now_3 : Int) (turn_4 : Int) : Option (List UInt8) :=
  bnd (α := (List UInt8 ⊕ Unit)) (if decide (i_2 < 0) = false then
      if decide ((↑(List.length t_1.2.2.2.2.2) : Int) ≤ i_2) = false then
        if decide (turn_4 < 0) = false then
          bnd (F_tmpl_Template_Check (t_1.1, t_1.2.1, t_1.2.2.1, t_1.2.2.2.1, t_1.2.2.2.2.1, t_1.2.2.2.2.2)) fun v5 =>
          if (!v5) = true then
            grdEq t_1.1 t_1.1 <|
            grdEq t_1.2.1 t_1.2.1 <|
            grdEq t_1.2.2.1 t_1.2.2.1 <|
            grdEq t_1.2.2.2.1 t_1.2.2.2.1 <|
            grdEq t_1.2.2.2.2.1 t_1.2.2.2.2.1 <|
            grdEq t_1.2.2.2.2.2 t_1.2.2.2.2.2 <|
            some (.inl ([]))
          else
            grdEq i_2 i_2 <|
            grdEq now_3 now_3 <|
            grdEq turn_4 turn_4 <|
            grdEq t_1.1 t_1.1 <|
            grdEq t_1.2.1 t_1.2.1 <|
            grdEq t_1.2.2.1 t_1.2.2.1 <|
            grdEq t_1.2.2.2.1 t_1.2.2.2.1 <|
            grdEq t_1.2.2.2.2.1 t_1.2.2.2.2.1 <|
            grdEq t_1.2.2.2.2.2 t_1.2.2.2.2.2 <|
            some (.inr (()))
        else
          grdEq t_1.1 t_1.1 <|
          grdEq t_1.2.1 t_1.2.1 <|
          grdEq t_1.2.2.1 t_1.2.2.1 <|
          grdEq t_1.2.2.2.1 t_1.2.2.2.1 <|
          grdEq t_1.2.2.2.2.1 t_1.2.2.2.2.1 <|
          grdEq t_1.2.2.2.2.2 t_1.2.2.2.2.2 <|
          some (.inl ([]))
      else
        grdEq t_1.1 t_1.1 <|
        grdEq t_1.2.1 t_1.2.1 <|
        grdEq t_1.2.2.1 t_1.2.2.1 <|
        grdEq t_1.2.2.2.1 t_1.2.2.2.1 <|
        grdEq t_1.2.2.2.2.1 t_1.2.2.2.2.1 <|
        grdEq t_1.2.2.2.2.2 t_1.2.2.2.2.2 <|
        some (.inl ([]))
    else
      grdEq t_1.1 t_1.1 <|
      grdEq t_1.2.1 t_1.2.1 <|
      grdEq t_1.2.2.1 t_1.2.2.1 <|
      grdEq t_1.2.2.2.1 t_1.2.2.2.1 <|
      grdEq t_1.2.2.2.2.1 t_1.2.2.2.2.1 <|
      grdEq t_1.2.2.2.2.2 t_1.2.2.2.2.2 <|
      some (.inl ([]))) fun o6 =>
  match o6 with
  | .inl s8_7 =>
    some s8_7
  | .inr _ =>
    natOf i_2 fun n8 =>
    bnd (t_1.2.2.2.2.2[n8]?) fun x9 =>
    bnd (F_age_Live now_3 x9.2.1) fun v10 =>
    if (!v10) = true then
      some ([])
    else
      if (↑(List.length x9.1) : Int) = 0 then
        none
      else
        bnd (α := Int) (if x9.2.2 = true then
            grdEq now_3 now_3 <|
            grdEq t_1.1 t_1.1 <|
            grdEq t_1.2.1 t_1.2.1 <|
            grdEq t_1.2.2.1 t_1.2.2.1 <|
            grdEq t_1.2.2.2.1 t_1.2.2.2.1 <|
            grdEq t_1.2.2.2.2.1 t_1.2.2.2.2.1 <|
            grdEq t_1.2.2.2.2.2 t_1.2.2.2.2.2 <|
            grdEq x9.1 x9.1 <|
            grdEq x9.2.1 x9.2.1 <|
            grdEq x9.2.2 x9.2.2 <|
            some 0
          else
            grdEq now_3 now_3 <|
            grdEq t_1.1 t_1.1 <|
            grdEq t_1.2.1 t_1.2.1 <|
            grdEq t_1.2.2.1 t_1.2.2.1 <|
            grdEq t_1.2.2.2.1 t_1.2.2.2.1 <|
            grdEq t_1.2.2.2.2.1 t_1.2.2.2.2.1 <|
            grdEq t_1.2.2.2.2.2 t_1.2.2.2.2.2 <|
            grdEq x9.1 x9.1 <|
            grdEq x9.2.1 x9.2.1 <|
            grdEq x9.2.2 x9.2.2 <|
            some (turn_4.tmod (↑(List.length x9.1) : Int))) fun at_11 =>
        bnd (F_age_Left now_3 x9.2.1) fun v12 =>
        bnd (F_octet_Put v12 4) fun v13 =>
        bnd (loopS (step_tmpl_Template_Part_0 t_1 x9 at_11 v13) ((0, []))) fun b3b_22 =>
        grd (b3b_22.length ≤ 9223372036854775807) <|
        grd (∀ (n : (Ty.int Go.IntKind.u8).den), n ∈ b3b_22 → 0 ≤ n ∧ n < 256) <|
        some (List.map (fun n => UInt8.ofNat (Int.toNat n)) b3b_22)
def ann_tmpl_Template_Part : List (List Nat × Ann) := [([2], ⟨none, [(.ret, ⟨(anyN 8 (.cons (.ty .str) (anyN 69 .nil))), [.cells 36 true (.cons (.keep .str) (.cons (.keep (.int .i64)) (.cons (.keep (.int .i64)) (.cons (.keep (.int .i64)) (.cons (.keep .str) (.cons (.keep (.list (.agg (.cons (.list (.agg (.cons (.int .i64) (.cons (.int .i64) (.int .i64))))) (.cons (.int .i64) .bool))))) .nil))))))], [], []⟩), (.normal, ⟨(anyN 1 (.cons (.keep (.int .i64)) (.cons (.keep (.int .i64)) (.cons (.keep (.int .i64)) (.cons (.ptr 0 0) (anyN 73 .nil)))))), [.cells 36 true (.cons (.keep .str) (.cons (.keep (.int .i64)) (.cons (.keep (.int .i64)) (.cons (.keep (.int .i64)) (.cons (.keep .str) (.cons (.keep (.list (.agg (.cons (.list (.agg (.cons (.int .i64) (.cons (.int .i64) (.int .i64))))) (.cons (.int .i64) .bool))))) .nil))))))], [], []⟩)]⟩), ([22], ⟨none, [(.normal, ⟨(anyN 2 (.cons (.keep (.int .i64)) (anyN 1 (.cons (.ptr 0 0) (anyN 4 (.cons (.ptr 1 0) (.cons (.ty (.int .i64)) (anyN 67 .nil)))))))), [.cells 36 true (.cons (.keep .str) (.cons (.keep (.int .i64)) (.cons (.keep (.int .i64)) (.cons (.keep (.int .i64)) (.cons (.keep .str) (.cons (.keep (.list (.agg (.cons (.list (.agg (.cons (.int .i64) (.cons (.int .i64) (.int .i64))))) (.cons (.int .i64) .bool))))) .nil)))))), .cells 69 true (.cons (.keep (.list (.agg (.cons (.int .i64) (.cons (.int .i64) (.int .i64)))))) (.cons (.keep (.int .i64)) (.cons (.keep .bool) .nil)))], [], []⟩)]⟩), ([3, 57, 0, 36], ⟨some ⟨(.cons .yld (.cons (.ptr 4 0) (.cons (.ptr 5 0) (anyN 4 (.cons (.keep (.int .i64)) (.cons (.ty (.int .i64)) (anyN 17 .nil))))))), [.cells 36 true (.cons (.keep .str) (.cons (.keep (.int .i64)) (.cons (.keep (.int .i64)) (.cons (.keep (.int .i64)) (.cons (.keep .str) (.cons (.keep (.list (.agg (.cons (.list (.agg (.cons (.int .i64) (.cons (.int .i64) (.int .i64))))) (.cons (.int .i64) .bool))))) .nil)))))), .cells 69 true (.cons (.keep (.list (.agg (.cons (.int .i64) (.cons (.int .i64) (.int .i64)))))) (.cons (.keep (.int .i64)) (.cons (.keep .bool) .nil))), .cells 9 true (.cons (.keep .str) .nil), .cells 86 true (.cons (.adr 3 0) (.cons (.own (.int .u8) 0 true) .nil)), .cells 69 true (.cons (.keep (.list (.agg (.cons (.int .i64) (.cons (.int .i64) (.int .i64)))))) (.cons (.keep (.int .i64)) (.cons (.keep .bool) .nil))), .cells 3 true (.cons (.keep (.int .i64)) .nil)], [⟨⟨0, (.int .u8), 5, false, false⟩, true⟩], []⟩, [(.exit 0, ⟨(anyN 26 .nil), [.cells 36 true (.cons (.keep .str) (.cons (.keep (.int .i64)) (.cons (.keep (.int .i64)) (.cons (.keep (.int .i64)) (.cons (.keep .str) (.cons (.keep (.list (.agg (.cons (.list (.agg (.cons (.int .i64) (.cons (.int .i64) (.int .i64))))) (.cons (.int .i64) .bool))))) .nil)))))), .cells 69 true (.cons (.keep (.list (.agg (.cons (.int .i64) (.cons (.int .i64) (.int .i64)))))) (.cons (.keep (.int .i64)) (.cons (.keep .bool) .nil))), .cells 9 true (.cons (.keep .str) .nil), .cells 86 true (.cons (.adr 3 0) (.cons (.own (.int .u8) 0 true) .nil)), .cells 69 true (.cons (.keep (.list (.agg (.cons (.int .i64) (.cons (.int .i64) (.int .i64)))))) (.cons (.keep (.int .i64)) (.cons (.keep .bool) .nil))), .cells 3 true (.cons (.keep (.int .i64)) .nil)], [⟨⟨1, (.int .u8), 5, false, false⟩, true⟩], []⟩)]⟩)]
@[reducible] def fs_tmpl_Template_Part : List (Nat × SFn) := [(18, .pure [(.agg (.cons .str (.cons (.int .i64) (.cons (.int .i64) (.cons (.int .i64) (.cons .str (.list (.agg (.cons (.list (.agg (.cons (.int .i64) (.cons (.int .i64) (.int .i64))))) (.cons (.int .i64) .bool))))))))))] [.bool] (fun x => F_tmpl_Template_Check x)), (33, .pure [(.int .i64), (.int .i64)] [.bool] (fun x => F_age_Live x.1 x.2)), (36, .pure [(.int .i64), (.int .i64)] [(.int .i64)] (fun x => F_age_Left x.1 x.2)), (35, .pure [(.int .i64), (.int .i64)] [.str] (fun x => F_octet_Put x.1 x.2))]
def cfg_tmpl_Template_Part : SCfg := SCfg.of (fs_tmpl_Template_Part ++ inlL) ann_tmpl_Template_Part keepL
theorem eq_tmpl_Template_Part (x : HL [(.agg (.cons .str (.cons (.int .i64) (.cons (.int .i64) (.cons (.int .i64) (.cons .str (.list (.agg (.cons (.list (.agg (.cons (.int .i64) (.cons (.int .i64) (.int .i64))))) (.cons (.int .i64) .bool)))))))))), (.int .i64), (.int .i64), (.int .i64)]) : fnK cfg_tmpl_Template_Part Try.prog 100000 22 [(.agg (.cons .str (.cons (.int .i64) (.cons (.int .i64) (.cons (.int .i64) (.cons .str (.list (.agg (.cons (.list (.agg (.cons (.int .i64) (.cons (.int .i64) (.int .i64))))) (.cons (.int .i64) .bool)))))))))), (.int .i64), (.int .i64), (.int .i64)] [.str] x = (fun x => F_tmpl_Template_Part x.1 x.2.1 x.2.2.1 x.2.2.2) x := by kernel_rfl
theorem told_tmpl_Template_Part : Told CC Try.prog 22 [(.agg (.cons .str (.cons (.int .i64) (.cons (.int .i64) (.cons (.int .i64) (.cons .str (.list (.agg (.cons (.list (.agg (.cons (.int .i64) (.cons (.int .i64) (.int .i64))))) (.cons (.int .i64) .bool)))))))))), (.int .i64), (.int .i64), (.int .i64)] [.str] (fun x => F_tmpl_Template_Part x.1 x.2.1 x.2.2.1 x.2.2.2) := told_of (gok (an := ann_tmpl_Template_Part) (fs := fs_tmpl_Template_Part) ⟨told_tmpl_Template_Check, told_age_Live, told_age_Left, told_octet_Put, trivial⟩) rfl rfl eq_tmpl_Template_Part
def step_name_split_0 : (List UInt8 × List (List UInt8)) → Option ((List UInt8 × List (List UInt8)) ⊕ (Bool ⊕ (List UInt8 × List (List UInt8)))) := fun (n_2, l_3) =>
  bnd (α := (List (List UInt8) ⊕ List (List UInt8))) (if decide (0 < (↑n_2.length : Int)) = true then
      if (!n_2 == [0]) = true then
        grdEq n_2 n_2 <|
        some (.inl l_3)
      else
        grdEq n_2 n_2 <|
        some (.inr l_3)
    else
      grdEq n_2 n_2 <|
      some (.inr l_3)) fun o4 =>
  match o4 with
  | .inl l_5 =>
    bnd (n_2[0]?) fun x6 =>
    bnd (α := (Bool ⊕ List (List UInt8))) (if decide (Go.IntKind.i64.wrap (↑x6.toNat : Int) < 1) = false then
        if decide (63 < Go.IntKind.i64.wrap (↑x6.toNat : Int)) = false then
          if decide ((↑n_2.length : Int) ≤ Go.IntKind.i64.wrap (Go.IntKind.i64.wrap (↑x6.toNat : Int) + 1)) = true then
            some (.inl false)
          else
            grdEq n_2 n_2 <|
            grdEq (Go.IntKind.i64.wrap (↑x6.toNat : Int)) (Go.IntKind.i64.wrap (↑x6.toNat : Int)) <|
            some (.inr l_5)
        else
          some (.inl false)
      else
        some (.inl false)) fun o7 =>
    match o7 with
    | .inl s3_8 =>
      some (.inr (.inl s3_8))
    | .inr l_9 =>
      natOf (Go.IntKind.i64.wrap (1 + Go.IntKind.i64.wrap (↑x6.toNat : Int))) fun n10 =>
      grd (n10 ≤ n_2.length) <|
      grd (1 ≤ n10) <|
      grd ((l_9.length + [List.drop 1 (List.take n10 n_2)].length) * 16 ≤ roomLim) <|
      natOf (Go.IntKind.i64.wrap (1 + Go.IntKind.i64.wrap (↑x6.toNat : Int))) fun n11 =>
      grd (n11 ≤ n_2.length) <|
      some (.inl ((List.drop n11 n_2, l_9 ++ [List.drop 1 (List.take n10 n_2)])))
  | .inr l_12 =>
    some (.inr (.inr ((n_2, l_12))))
def F_name_split (n_1 : List UInt8) : Option ((List (List UInt8) × Bool)) :=
  if decide (255 < (↑n_1.length : Int)) = true then
    some (([], false))
  else
    bnd (loopS step_name_split_0 ((n_1, []))) fun o13 =>
    match o13 with
    | .inl s3_14 =>
      some (([], s3_14))
    | .inr (n_15, l_16) =>
      some ((l_16, n_15 == [0]))
def ann_name_split : List (List Nat × Ann) := [([15], ⟨none, [(.normal, ⟨(.cons (.keep .str) (anyN 3 (.cons (.own .str 0 true) (anyN 41 .nil)))), [], [⟨⟨0, .str, 9, true, true⟩, false⟩], []⟩), (.exit 0, ⟨(.cons (.keep .str) (anyN 3 (.cons (.own .str 0 true) (anyN 41 .nil)))), [], [⟨⟨0, .str, 9, true, true⟩, false⟩], []⟩)]⟩), ([24], ⟨none, [(.ret, ⟨(anyN 2 (.cons .nill (.cons (.ty .bool) (anyN 42 .nil)))), [], [⟨⟨0, .str, 9, true, true⟩, false⟩], []⟩), (.normal, ⟨(.cons (.keep .str) (anyN 3 (.cons (.own .str 0 true) (.cons (.keep (.int .i64)) (anyN 40 .nil))))), [], [⟨⟨0, .str, 9, true, true⟩, false⟩], []⟩)]⟩), ([14], ⟨some ⟨(.cons (.ty .str) (anyN 3 (.cons (.own .str 0 true) (anyN 41 .nil)))), [], [⟨⟨0, .str, 9, true, true⟩, true⟩], []⟩, [(.ret, ⟨(anyN 2 (.cons .nill (.cons (.ty .bool) (anyN 42 .nil)))), [], [⟨⟨0, .str, 9, true, true⟩, false⟩], []⟩), (.exit 0, ⟨(.cons (.ty .str) (anyN 3 (.cons (.own .str 0 true) (anyN 41 .nil)))), [], [⟨⟨0, .str, 9, true, true⟩, false⟩], []⟩)]⟩)]
def cfg_name_split : SCfg := SCfg.of ([] ++ inlL) ann_name_split keepL
theorem eq_name_split (x : HL [.str]) : fnK cfg_name_split Try.prog 100000 65 [.str] [(.list .str), .bool] x = (fun x => F_name_split x) x := by kernel_rfl
theorem told_name_split : Told CC Try.prog 65 [.str] [(.list .str), .bool] (fun x => F_name_split x) := told_of (gok (an := ann_name_split) (fs := []) trivial) rfl rfl eq_name_split
def F_name_Check (n_1 : List UInt8) : Option (Bool) :=
  bnd (F_name_split n_1) fun (v2, v3) =>
  some v3
def ann_name_Check : List (List Nat × Ann) := []
@[reducible] def fs_name_Check : List (Nat × SFn) := [(65, .pure [.str] [(.list .str), .bool] (fun x => F_name_split x))]
def cfg_name_Check : SCfg := SCfg.of (fs_name_Check ++ inlL) ann_name_Check keepL
theorem eq_name_Check (x : HL [.str]) : fnK cfg_name_Check Try.prog 100000 46 [.str] [.bool] x = (fun x => F_name_Check x) x := by kernel_rfl
theorem told_name_Check : Told CC Try.prog 46 [.str] [.bool] (fun x => F_name_Check x) := told_of (gok (an := ann_name_Check) (fs := fs_name_Check) ⟨told_name_split, trivial⟩) rfl rfl eq_name_Check
def F_group_in (n_1 : Int) (most_2 : Int) : Option (Bool) :=
  if decide (0 ≤ n_1) = true then
    some (decide (n_1 ≤ most_2))
  else
    some false
def ann_group_in : List (List Nat × Ann) := []
def cfg_group_in : SCfg := SCfg.of ([] ++ inlL) ann_group_in keepL
theorem eq_group_in (x : HL [(.int .i64), (.int .i64)]) : fnK cfg_group_in Try.prog 100000 68 [(.int .i64), (.int .i64)] [.bool] x = (fun x => F_group_in x.1 x.2) x := by kernel_rfl
theorem told_group_in : Told CC Try.prog 68 [(.int .i64), (.int .i64)] [.bool] (fun x => F_group_in x.1 x.2) := told_of (gok (an := ann_group_in) (fs := []) trivial) rfl rfl eq_group_in
def F_name_small (c_1 : Int) : Option (Int) :=
  if decide (65 ≤ c_1) = true then
    if decide (c_1 ≤ 90) = true then
      some (Go.IntKind.u8.wrap (c_1 + 32))
    else
      some c_1
  else
    some c_1
def ann_name_small : List (List Nat × Ann) := []
def cfg_name_small : SCfg := SCfg.of ([] ++ inlL) ann_name_small keepL
theorem eq_name_small (x : HL [(.int .u8)]) : fnK cfg_name_small Try.prog 100000 79 [(.int .u8)] [(.int .u8)] x = (fun x => F_name_small x) x := by kernel_rfl
theorem told_name_small : Told CC Try.prog 79 [(.int .u8)] [(.int .u8)] (fun x => F_name_small x) := told_of (gok (an := ann_name_small) (fs := []) trivial) rfl rfl eq_name_small
def step_name_low_0 (s_1 : List UInt8) : (List (Int) × (List (Int) × Int)) → Option ((List (Int) × (List (Int) × Int)) ⊕ List (Int)) := fun (b_2, s8_3, s10_4) =>
  if decide (s10_4 < (↑(List.map (fun b => (↑b.toNat : Int)) s_1).length : Int)) = true then
    natOf s10_4 fun n5 =>
    bnd (s8_3[n5]?) fun x6 =>
    bnd (F_name_small x6) fun v7 =>
    natOf s10_4 fun n8 =>
    bnd (b_2[n8]?) fun x9 =>
    grdEq ((↑(List.map (fun b => (↑b.toNat : Int)) s_1).length : Int)) ((↑(List.map (fun b => (↑b.toNat : Int)) s_1).length : Int)) <|
    some (.inl ((b_2.set n8 v7, (s8_3.set n8 v7, Go.IntKind.i64.wrap (s10_4 + 1)))))
  else
    some (.inr b_2)
def F_name_low (s_1 : List UInt8) : Option (List UInt8) :=
  bnd (loopS (step_name_low_0 s_1) ((List.map (fun b => (↑b.toNat : Int)) s_1, (List.map (fun b => (↑b.toNat : Int)) s_1, 0)))) fun b_10 =>
  some (List.map (fun n => UInt8.ofNat (Int.toNat n)) b_10)
def ann_name_low : List (List Nat × Ann) := [([8], ⟨some ⟨(anyN 3 (.cons (.own (.int .u8) 0 true) (anyN 4 (.cons (.own (.int .u8) 0 true) (.cons (.keep (.int .i64)) (.cons (.ty (.int .i64)) (anyN 12 .nil))))))), [], [⟨⟨0, (.int .u8), 5, true, true⟩, false⟩], [0]⟩, [(.exit 0, ⟨(anyN 3 (.cons (.own (.int .u8) 0 true) (anyN 19 .nil))), [], [⟨⟨0, (.int .u8), 5, true, true⟩, false⟩], [0]⟩)]⟩)]
@[reducible] def fs_name_low : List (Nat × SFn) := [(79, .pure [(.int .u8)] [(.int .u8)] (fun x => F_name_small x))]
def cfg_name_low : SCfg := SCfg.of (fs_name_low ++ inlL) ann_name_low keepL
theorem eq_name_low (x : HL [.str]) : fnK cfg_name_low Try.prog 100000 66 [.str] [.str] x = (fun x => F_name_low x) x := by kernel_rfl
theorem told_name_low : Told CC Try.prog 66 [.str] [.str] (fun x => F_name_low x) := told_of (gok (an := ann_name_low) (fs := fs_name_low) ⟨told_name_small, trivial⟩) rfl rfl eq_name_low
def F_name_Low (n_1 : List UInt8) : Option (List UInt8) :=
  bnd (F_name_Check n_1) fun v2 =>
  if (!v2) = true then
    some ([])
  else
    bnd (F_name_low n_1) fun v3 =>
    some v3
def ann_name_Low : List (List Nat × Ann) := []
@[reducible] def fs_name_Low : List (Nat × SFn) := [(46, .pure [.str] [.bool] (fun x => F_name_Check x)), (66, .pure [.str] [.str] (fun x => F_name_low x))]
def cfg_name_Low : SCfg := SCfg.of (fs_name_Low ++ inlL) ann_name_Low keepL
theorem eq_name_Low (x : HL [.str]) : fnK cfg_name_Low Try.prog 100000 47 [.str] [.str] x = (fun x => F_name_Low x) x := by kernel_rfl
theorem told_name_Low : Told CC Try.prog 47 [.str] [.str] (fun x => F_name_Low x) := told_of (gok (an := ann_name_Low) (fs := fs_name_Low) ⟨told_name_Check, told_name_low, trivial⟩) rfl rfl eq_name_Low
def F_tmpl_asked (q_1 : (List UInt8 × (Int × Int))) : Option (Bool) :=
  bnd (F_name_Check q_1.1) fun v2 =>
  if v2 = true then
    bnd (F_name_Low q_1.1) fun v3 =>
    if (v3 == q_1.1) = true then
      bnd (F_tmpl_in q_1.2.1 65535) fun v4 =>
      if v4 = true then
        bnd (F_tmpl_in q_1.2.2 65535) fun v5 =>
        some v5
      else
        some false
    else
      some false
  else
    some false
def ann_tmpl_asked : List (List Nat × Ann) := []
@[reducible] def fs_tmpl_asked : List (Nat × SFn) := [(46, .pure [.str] [.bool] (fun x => F_name_Check x)), (47, .pure [.str] [.str] (fun x => F_name_Low x)), (27, .pure [(.int .i64), (.int .i64)] [.bool] (fun x => F_tmpl_in x.1 x.2))]
def cfg_tmpl_asked : SCfg := SCfg.of (fs_tmpl_asked ++ inlL) ann_tmpl_asked keepL
theorem eq_tmpl_asked (x : HL [tQ]) : fnK cfg_tmpl_asked Try.prog 100000 28 [tQ] [.bool] x = (fun x => F_tmpl_asked x) x := by kernel_rfl
theorem told_tmpl_asked : Told CC Try.prog 28 [tQ] [.bool] (fun x => F_tmpl_asked x) := told_of (gok (an := ann_tmpl_asked) (fs := fs_tmpl_asked) ⟨told_name_Check, told_name_Low, told_tmpl_in, trivial⟩) rfl rfl eq_tmpl_asked
end
end Go.Abs

set_option maxRecDepth 100000
namespace Go.Abs
open Go Go.Proofs
noncomputable section
def F_name_Up (n_1 : List UInt8) : Option ((List UInt8 × Bool)) :=
  bnd (F_name_Check n_1) fun v2 =>
  if (!v2) = false then
    if (n_1 == [0]) = true then
      some (([], false))
    else
      bnd (n_1[0]?) fun x3 =>
      natOf (Go.IntKind.i64.wrap (1 + Go.IntKind.i64.wrap (↑x3.toNat : Int))) fun n4 =>
      grd (n4 ≤ n_1.length) <|
      some ((List.drop n4 n_1, true))
  else
    some (([], false))
def ann_name_Up : List (List Nat × Ann) := []
@[reducible] def fs_name_Up : List (Nat × SFn) := [(46, .pure [.str] [.bool] (fun x => F_name_Check x))]
def cfg_name_Up : SCfg := SCfg.of (fs_name_Up ++ inlL) ann_name_Up keepL
theorem eq_name_Up (x : HL [.str]) : fnK cfg_name_Up Try.prog 100000 84 [.str] [.str, .bool] x = (fun x => F_name_Up x) x := by kernel_rfl
theorem told_name_Up : Told CC Try.prog 84 [.str] [.str, .bool] (fun x => F_name_Up x) := told_of (gok (an := ann_name_Up) (fs := fs_name_Up) ⟨told_name_Check, trivial⟩) rfl rfl eq_name_Up
def F_record_in (n_1 : Int) (most_2 : Int) : Option (Bool) :=
  if decide (0 ≤ n_1) = true then
    some (decide (n_1 ≤ most_2))
  else
    some false
def ann_record_in : List (List Nat × Ann) := []
def cfg_record_in : SCfg := SCfg.of ([] ++ inlL) ann_record_in keepL
theorem eq_record_in (x : HL [(.int .i64), (.int .i64)]) : fnK cfg_record_in Try.prog 100000 87 [(.int .i64), (.int .i64)] [.bool] x = (fun x => F_record_in x.1 x.2) x := by kernel_rfl
theorem told_record_in : Told CC Try.prog 87 [(.int .i64), (.int .i64)] [.bool] (fun x => F_record_in x.1 x.2) := told_of (gok (an := ann_record_in) (fs := []) trivial) rfl rfl eq_record_in
def F_data_parts_whole (p_1 : (List UInt8 × (List UInt8 × List (List UInt8)))) : Option (List UInt8) :=
  bnd (F_strings_Join p_1.2.2 []) fun v2 =>
  grd (List.length p_1.1 + v2.length ≤ maxStr) <|
  grd ((p_1.1 ++ v2).length + List.length p_1.2.1 ≤ maxStr) <|
  some (p_1.1 ++ v2 ++ p_1.2.1)
def ann_data_parts_whole : List (List Nat × Ann) := []
@[reducible] def fs_data_parts_whole : List (Nat × SFn) := [(102, .pure [.list .str, .str] [.str] (fun x => F_strings_Join x.1 x.2))]
def cfg_data_parts_whole : SCfg := SCfg.of (fs_data_parts_whole ++ inlL) ann_data_parts_whole keepL
theorem eq_data_parts_whole (x : HL [(.agg (.cons .str (.cons .str (.list .str))))]) : fnK cfg_data_parts_whole Try.prog 100000 92 [(.agg (.cons .str (.cons .str (.list .str))))] [.str] x = (fun x => F_data_parts_whole x) x := by kernel_rfl
theorem told_data_parts_whole : Told CC Try.prog 92 [(.agg (.cons .str (.cons .str (.list .str))))] [.str] (fun x => F_data_parts_whole x) := told_of (gok (an := ann_data_parts_whole) (fs := fs_data_parts_whole) ⟨told_strings_Join, trivial⟩) rfl rfl eq_data_parts_whole
def step_slices_Index_string_0 (s_1 : List (List UInt8)) (v_2 : List UInt8) : Int → Option (Int ⊕ (Int ⊕ Unit)) := fun s8_3 =>
  if decide (s8_3 < (↑s_1.length : Int)) = true then
    natOf s8_3 fun n4 =>
    bnd (s_1[n4]?) fun x5 =>
    if (v_2 == x5) = true then
      some (.inr (.inl s8_3))
    else
      grdEq s_1 s_1 <|
      grdEq v_2 v_2 <|
      grdEq ((↑s_1.length : Int)) ((↑s_1.length : Int)) <|
      some (.inl (Go.IntKind.i64.wrap (s8_3 + 1)))
  else
    some (.inr (.inr (())))
def F_slices_Index_string (s_1 : List (List UInt8)) (v_2 : List UInt8) : Option (Int) :=
  bnd (loopS (step_slices_Index_string_0 s_1 v_2) 0) fun o6 =>
  match o6 with
  | .inl s4_7 =>
    some s4_7
  | .inr _ =>
    some (-1)
def ann_slices_Index_string : List (List Nat × Ann) := [([6], ⟨some ⟨(.cons (.keep (.list .str)) (.cons (.keep .str) (anyN 5 (.cons (.keep (.int .i64)) (.cons (.ty (.int .i64)) (anyN 10 .nil)))))), [], [], []⟩, [(.ret, ⟨(anyN 4 (.cons (.ty (.int .i64)) (anyN 14 .nil))), [], [], []⟩), (.exit 0, ⟨(anyN 19 .nil), [], [], []⟩)]⟩)]
def cfg_slices_Index_string : SCfg := SCfg.of ([] ++ inlL) ann_slices_Index_string keepL
theorem eq_slices_Index_string (x : HL [(.list .str), .str]) : fnK cfg_slices_Index_string Try.prog 100000 93 [(.list .str), .str] [(.int .i64)] x = (fun x => F_slices_Index_string x.1 x.2) x := by kernel_rfl
theorem told_slices_Index_string : Told CC Try.prog 93 [(.list .str), .str] [(.int .i64)] (fun x => F_slices_Index_string x.1 x.2) := told_of (gok (an := ann_slices_Index_string) (fs := []) trivial) rfl rfl eq_slices_Index_string
def F_slices_Contains_string (s_1 : List (List UInt8)) (v_2 : List UInt8) : Option (Bool) :=
  bnd (F_slices_Index_string s_1 v_2) fun v3 =>
  some (decide (0 ≤ v3))
def ann_slices_Contains_string : List (List Nat × Ann) := []
@[reducible] def fs_slices_Contains_string : List (Nat × SFn) := [(93, .pure [(.list .str), .str] [(.int .i64)] (fun x => F_slices_Index_string x.1 x.2))]
def cfg_slices_Contains_string : SCfg := SCfg.of (fs_slices_Contains_string ++ inlL) ann_slices_Contains_string keepL
theorem eq_slices_Contains_string (x : HL [(.list .str), .str]) : fnK cfg_slices_Contains_string Try.prog 100000 82 [(.list .str), .str] [.bool] x = (fun x => F_slices_Contains_string x.1 x.2) x := by kernel_rfl
theorem told_slices_Contains_string : Told CC Try.prog 82 [(.list .str), .str] [.bool] (fun x => F_slices_Contains_string x.1 x.2) := told_of (gok (an := ann_slices_Contains_string) (fs := fs_slices_Contains_string) ⟨told_slices_Index_string, trivial⟩) rfl rfl eq_slices_Contains_string
def F_name_Same (a_1 : List UInt8) (b_2 : List UInt8) : Option (Bool) :=
  bnd (F_name_Check a_1) fun v3 =>
  if v3 = true then
    bnd (F_name_Check b_2) fun v4 =>
    if v4 = true then
      bnd (F_name_low a_1) fun v5 =>
      bnd (F_name_low b_2) fun v6 =>
      some (v5 == v6)
    else
      some false
  else
    some false
def ann_name_Same : List (List Nat × Ann) := []
@[reducible] def fs_name_Same : List (Nat × SFn) := [(46, .pure [.str] [.bool] (fun x => F_name_Check x)), (66, .pure [.str] [.str] (fun x => F_name_low x))]
def cfg_name_Same : SCfg := SCfg.of (fs_name_Same ++ inlL) ann_name_Same keepL
theorem eq_name_Same (x : HL [.str, .str]) : fnK cfg_name_Same Try.prog 100000 94 [.str, .str] [.bool] x = (fun x => F_name_Same x.1 x.2) x := by kernel_rfl
theorem told_name_Same : Told CC Try.prog 94 [.str, .str] [.bool] (fun x => F_name_Same x.1 x.2) := told_of (gok (an := ann_name_Same) (fs := fs_name_Same) ⟨told_name_Check, told_name_low, trivial⟩) rfl rfl eq_name_Same
def step_comp_place_0 (base_1 : List UInt8) (n_2 : List UInt8) : (List UInt8 × Bool) → Option ((List UInt8 × Bool) ⊕ (Int ⊕ Unit)) := fun (end_3, is_4) =>
  bnd (α := (Unit ⊕ Unit)) (if is_4 = true then
      if decide (1 < (↑end_3.length : Int)) = true then
        grdEq base_1 base_1 <|
        grdEq n_2 n_2 <|
        grdEq end_3 end_3 <|
        some (.inl (()))
      else
        some (.inr (()))
    else
      some (.inr (()))) fun o5 =>
  match o5 with
  | .inl _ =>
    bnd (F_name_Same end_3 n_2) fun v6 =>
    if v6 = true then
      some (.inr (.inl (Go.IntKind.i64.wrap ((↑base_1.length : Int) - (↑end_3.length : Int)))))
    else
      bnd (F_name_Up end_3) fun (v7, v8) =>
      grdEq base_1 base_1 <|
      grdEq n_2 n_2 <|
      some (.inl ((v7, v8)))
  | .inr _ =>
    some (.inr (.inr (())))
def F_comp_place (base_1 : List UInt8) (n_2 : List UInt8) : Option (Int) :=
  bnd (loopS (step_comp_place_0 base_1 n_2) ((base_1, true))) fun o9 =>
  match o9 with
  | .inl s4_10 =>
    some s4_10
  | .inr _ =>
    some (-1)
def ann_comp_place : List (List Nat × Ann) := [([7], ⟨none, [(.normal, ⟨(.cons (.keep .str) (.cons (.keep .str) (anyN 3 (.cons (.keep .str) (anyN 21 .nil))))), [], [], []⟩), (.exit 0, ⟨(anyN 27 .nil), [], [], []⟩)]⟩), ([6], ⟨some ⟨(.cons (.keep .str) (.cons (.keep .str) (anyN 3 (.cons (.ty .str) (.cons (.ty .bool) (anyN 20 .nil)))))), [], [], []⟩, [(.ret, ⟨(anyN 4 (.cons (.ty (.int .i64)) (anyN 22 .nil))), [], [], []⟩), (.exit 0, ⟨(anyN 27 .nil), [], [], []⟩)]⟩)]
@[reducible] def fs_comp_place : List (Nat × SFn) := [(94, .pure [.str, .str] [.bool] (fun x => F_name_Same x.1 x.2)), (84, .pure [.str] [.str, .bool] (fun x => F_name_Up x))]
def cfg_comp_place : SCfg := SCfg.of (fs_comp_place ++ inlL) ann_comp_place keepL
theorem eq_comp_place (x : HL [.str, .str]) : fnK cfg_comp_place Try.prog 100000 85 [.str, .str] [(.int .i64)] x = (fun x => F_comp_place x.1 x.2) x := by kernel_rfl
theorem told_comp_place : Told CC Try.prog 85 [.str, .str] [(.int .i64)] (fun x => F_comp_place x.1 x.2) := told_of (gok (an := ann_comp_place) (fs := fs_comp_place) ⟨told_name_Same, told_name_Up, trivial⟩) rfl rfl eq_comp_place
def F_octet_Take (s_1 : List UInt8) (at_2 : Int) (size_3 : Int) : Option ((List UInt8 × Bool)) :=
  if decide (at_2 < 0) = false then
    if decide (size_3 < 0) = false then
      if decide ((↑s_1.length : Int) < at_2) = false then
        if decide (Go.IntKind.i64.wrap ((↑s_1.length : Int) - at_2) < size_3) = true then
          some (([], false))
        else
          natOf at_2 fun n4 =>
          grd (n4 ≤ s_1.length) <|
          natOf size_3 fun n5 =>
          grd (n5 ≤ (List.drop n4 s_1).length) <|
          some ((List.take n5 (List.drop n4 s_1), true))
      else
        some (([], false))
    else
      some (([], false))
  else
    some (([], false))
def ann_octet_Take : List (List Nat × Ann) := []
def cfg_octet_Take : SCfg := SCfg.of ([] ++ inlL) ann_octet_Take keepL
theorem eq_octet_Take (x : HL [.str, (.int .i64), (.int .i64)]) : fnK cfg_octet_Take Try.prog 100000 98 [.str, (.int .i64), (.int .i64)] [.str, .bool] x = (fun x => F_octet_Take x.1 x.2.1 x.2.2) x := by kernel_rfl
theorem told_octet_Take : Told CC Try.prog 98 [.str, (.int .i64), (.int .i64)] [.str, .bool] (fun x => F_octet_Take x.1 x.2.1 x.2.2) := told_of (gok (an := ann_octet_Take) (fs := []) trivial) rfl rfl eq_octet_Take
def step_data_texts_0 : List UInt8 → Option (List UInt8 ⊕ (Bool ⊕ Unit)) := fun d_2 =>
  if (!d_2 == []) = true then
    bnd (d_2[0]?) fun x3 =>
    if decide ((↑d_2.length : Int) < Go.IntKind.i64.wrap (1 + Go.IntKind.i64.wrap (↑x3.toNat : Int))) = true then
      some (.inr (.inl false))
    else
      natOf (Go.IntKind.i64.wrap (1 + Go.IntKind.i64.wrap (↑x3.toNat : Int))) fun n4 =>
      grd (n4 ≤ d_2.length) <|
      some (.inl (List.drop n4 d_2))
  else
    some (.inr (.inr (())))
def F_data_texts (d_1 : List UInt8) : Option (Bool) :=
  if (d_1 == []) = true then
    some false
  else
    bnd (loopS step_data_texts_0 d_1) fun o5 =>
    match o5 with
    | .inl s2_6 =>
      some s2_6
    | .inr _ =>
      some true
def ann_data_texts : List (List Nat × Ann) := [([12], ⟨some ⟨(.cons (.ty .str) (anyN 18 .nil)), [], [], []⟩, [(.ret, ⟨(anyN 2 (.cons (.ty .bool) (anyN 16 .nil))), [], [], []⟩), (.exit 0, ⟨(anyN 19 .nil), [], [], []⟩)]⟩)]
def cfg_data_texts : SCfg := SCfg.of ([] ++ inlL) ann_data_texts keepL
theorem eq_data_texts (x : HL [.str]) : fnK cfg_data_texts Try.prog 100000 101 [.str] [.bool] x = (fun x => F_data_texts x) x := by kernel_rfl
theorem told_data_texts : Told CC Try.prog 101 [.str] [.bool] (fun x => F_data_texts x) := told_of (gok (an := ann_data_texts) (fs := []) trivial) rfl rfl eq_data_texts
def F_stringslite_HasSuffix (s_1 : List UInt8) (suffix_2 : List UInt8) : Option (Bool) :=
  if decide ((↑suffix_2.length : Int) ≤ (↑s_1.length : Int)) = true then
    natOf (Go.IntKind.i64.wrap ((↑s_1.length : Int) - (↑suffix_2.length : Int))) fun n3 =>
    grd (n3 ≤ s_1.length) <|
    some (List.drop n3 s_1 == suffix_2)
  else
    some false
def ann_stringslite_HasSuffix : List (List Nat × Ann) := []
def cfg_stringslite_HasSuffix : SCfg := SCfg.of ([] ++ inlL) ann_stringslite_HasSuffix keepL
theorem eq_stringslite_HasSuffix (x : HL [.str, .str]) : fnK cfg_stringslite_HasSuffix Try.prog 100000 103 [.str, .str] [.bool] x = (fun x => F_stringslite_HasSuffix x.1 x.2) x := by kernel_rfl
theorem told_stringslite_HasSuffix : Told CC Try.prog 103 [.str, .str] [.bool] (fun x => F_stringslite_HasSuffix x.1 x.2) := told_of (gok (an := ann_stringslite_HasSuffix) (fs := []) trivial) rfl rfl eq_stringslite_HasSuffix
def F_stringslite_TrimSuffix (s_1 : List UInt8) (suffix_2 : List UInt8) : Option (List UInt8) :=
  bnd (F_stringslite_HasSuffix s_1 suffix_2) fun v3 =>
  if v3 = true then
    natOf (Go.IntKind.i64.wrap ((↑s_1.length : Int) - (↑suffix_2.length : Int))) fun n4 =>
    grd (n4 ≤ s_1.length) <|
    some (List.take n4 s_1)
  else
    some s_1
def ann_stringslite_TrimSuffix : List (List Nat × Ann) := []
@[reducible] def fs_stringslite_TrimSuffix : List (Nat × SFn) := [(103, .pure [.str, .str] [.bool] (fun x => F_stringslite_HasSuffix x.1 x.2))]
def cfg_stringslite_TrimSuffix : SCfg := SCfg.of (fs_stringslite_TrimSuffix ++ inlL) ann_stringslite_TrimSuffix keepL
theorem eq_stringslite_TrimSuffix (x : HL [.str, .str]) : fnK cfg_stringslite_TrimSuffix Try.prog 100000 95 [.str, .str] [.str] x = (fun x => F_stringslite_TrimSuffix x.1 x.2) x := by kernel_rfl
theorem told_stringslite_TrimSuffix : Told CC Try.prog 95 [.str, .str] [.str] (fun x => F_stringslite_TrimSuffix x.1 x.2) := told_of (gok (an := ann_stringslite_TrimSuffix) (fs := fs_stringslite_TrimSuffix) ⟨told_stringslite_HasSuffix, trivial⟩) rfl rfl eq_stringslite_TrimSuffix
def F_strings_TrimSuffix (s_1 : List UInt8) (suffix_2 : List UInt8) : Option (List UInt8) :=
  bnd (F_stringslite_TrimSuffix s_1 suffix_2) fun v3 =>
  some v3
def ann_strings_TrimSuffix : List (List Nat × Ann) := []
@[reducible] def fs_strings_TrimSuffix : List (Nat × SFn) := [(95, .pure [.str, .str] [.str] (fun x => F_stringslite_TrimSuffix x.1 x.2))]
def cfg_strings_TrimSuffix : SCfg := SCfg.of (fs_strings_TrimSuffix ++ inlL) ann_strings_TrimSuffix keepL
theorem eq_strings_TrimSuffix (x : HL [.str, .str]) : fnK cfg_strings_TrimSuffix Try.prog 100000 86 [.str, .str] [.str] x = (fun x => F_strings_TrimSuffix x.1 x.2) x := by kernel_rfl
theorem told_strings_TrimSuffix : Told CC Try.prog 86 [.str, .str] [.str] (fun x => F_strings_TrimSuffix x.1 x.2) := told_of (gok (an := ann_strings_TrimSuffix) (fs := fs_strings_TrimSuffix) ⟨told_stringslite_TrimSuffix, trivial⟩) rfl rfl eq_strings_TrimSuffix
def step_comp_Write_0 (base_1 : List UInt8) (at_2 : Int) (n_3 : List UInt8) : (List UInt8 × Bool) → Option ((List UInt8 × Bool) ⊕ (List UInt8 ⊕ Unit)) := fun (rest_8, is_9) =>
  bnd (α := (Unit ⊕ Unit)) (if is_9 = true then
      if decide (1 < (↑rest_8.length : Int)) = true then
        grdEq base_1 base_1 <|
        grdEq at_2 at_2 <|
        grdEq n_3 n_3 <|
        grdEq rest_8 rest_8 <|
        some (.inl (()))
      else
        grdEq n_3 n_3 <|
        some (.inr (()))
    else
      grdEq n_3 n_3 <|
      some (.inr (()))) fun o10 =>
  match o10 with
  | .inl _ =>
    bnd (F_comp_place base_1 rest_8) fun v11 =>
    if decide (0 ≤ v11) = true then
      bnd (F_strings_TrimSuffix n_3 rest_8) fun v12 =>
      bnd (F_octet_Put (Go.IntKind.i64.wrap (Go.IntKind.i64.wrap (49152 + at_2) + v11)) 2) fun v13 =>
      grd (v12.length + v13.length ≤ maxStr) <|
      some (.inr (.inl (v12 ++ v13)))
    else
      bnd (F_name_Up rest_8) fun (v14, v15) =>
      grdEq base_1 base_1 <|
      grdEq at_2 at_2 <|
      grdEq n_3 n_3 <|
      some (.inl ((v14, v15)))
  | .inr _ =>
    grdEq n_3 n_3 <|
    some (.inr (.inr (())))
def F_comp_Write (base_1 : List UInt8) (at_2 : Int) (n_3 : List UInt8) : Option (List UInt8) :=
  bnd (α := (List UInt8 ⊕ Unit)) (bnd (F_name_Check base_1) fun v4 =>
    if (!v4) = false then
      bnd (F_name_Check n_3) fun v5 =>
      if (!v5) = false then
        if decide (at_2 < 0) = false then
          if decide (16000 < at_2) = true then
            some (.inl ([]))
          else
            grdEq base_1 base_1 <|
            grdEq at_2 at_2 <|
            grdEq n_3 n_3 <|
            some (.inr (()))
        else
          some (.inl ([]))
      else
        some (.inl ([]))
    else
      some (.inl ([]))) fun o6 =>
  match o6 with
  | .inl s6_7 =>
    some s6_7
  | .inr _ =>
    bnd (loopS (step_comp_Write_0 base_1 at_2 n_3) ((n_3, true))) fun o16 =>
    match o16 with
    | .inl s6_17 =>
      some s6_17
    | .inr _ =>
      some n_3
def ann_comp_Write : List (List Nat × Ann) := [([2], ⟨none, [(.ret, ⟨(anyN 6 (.cons (.ty .str) (anyN 46 .nil))), [], [], []⟩), (.normal, ⟨(.cons (.keep .str) (.cons (.keep (.int .i64)) (.cons (.keep .str) (anyN 50 .nil)))), [], [], []⟩)]⟩), ([15], ⟨none, [(.normal, ⟨(.cons (.keep .str) (.cons (.keep (.int .i64)) (.cons (.keep .str) (anyN 4 (.cons (.keep .str) (anyN 45 .nil)))))), [], [], []⟩), (.exit 0, ⟨(anyN 2 (.cons (.keep .str) (anyN 50 .nil))), [], [], []⟩)]⟩), ([14], ⟨some ⟨(.cons (.keep .str) (.cons (.keep (.int .i64)) (.cons (.keep .str) (anyN 4 (.cons (.ty .str) (.cons (.ty .bool) (anyN 44 .nil))))))), [], [], []⟩, [(.ret, ⟨(anyN 6 (.cons (.ty .str) (anyN 46 .nil))), [], [], []⟩), (.exit 0, ⟨(anyN 2 (.cons (.keep .str) (anyN 50 .nil))), [], [], []⟩)]⟩)]
@[reducible] def fs_comp_Write : List (Nat × SFn) := [(85, .pure [.str, .str] [(.int .i64)] (fun x => F_comp_place x.1 x.2)), (86, .pure [.str, .str] [.str] (fun x => F_strings_TrimSuffix x.1 x.2)), (35, .pure [(.int .i64), (.int .i64)] [.str] (fun x => F_octet_Put x.1 x.2)), (84, .pure [.str] [.str, .bool] (fun x => F_name_Up x)), (46, .pure [.str] [.bool] (fun x => F_name_Check x))]
def cfg_comp_Write : SCfg := SCfg.of (fs_comp_Write ++ inlL) ann_comp_Write keepL
theorem eq_comp_Write (x : HL [.str, (.int .i64), .str]) : fnK cfg_comp_Write Try.prog 100000 70 [.str, (.int .i64), .str] [.str] x = (fun x => F_comp_Write x.1 x.2.1 x.2.2) x := by kernel_rfl
theorem told_comp_Write : Told CC Try.prog 70 [.str, (.int .i64), .str] [.str] (fun x => F_comp_Write x.1 x.2.1 x.2.2) := told_of (gok (an := ann_comp_Write) (fs := fs_comp_Write) ⟨told_comp_place, told_strings_TrimSuffix, told_octet_Put, told_name_Up, told_name_Check, trivial⟩) rfl rfl eq_comp_Write
def step_octet_Get_0 (size_3 : Int) (v4 : List UInt8) : (Int × Int) → Option ((Int × Int) ⊕ Int) := fun (n_10, s27_11) =>
  if decide (s27_11 < size_3) = true then
    natOf s27_11 fun n12 =>
    bnd (v4[n12]?) fun x13 =>
    grdEq v4 v4 <|
    grdEq size_3 size_3 <|
    some (.inl ((Go.bits Go.BinOp.or Go.IntKind.i64 (Go.IntKind.i64.wrap (n_10 * 256)) (Go.IntKind.i64.wrap (↑x13.toNat : Int)), Go.IntKind.i64.wrap (s27_11 + 1))))
  else
    some (.inr n_10)
def F_octet_Get (s_1 : List UInt8) (at_2 : Int) (size_3 : Int) : Option ((Int × Bool)) :=
  bnd (F_octet_Take s_1 at_2 size_3) fun (v4, v5) =>
  bnd (α := ((Int × Bool) ⊕ Unit)) (if (!v5) = false then
      bnd (F_octet_sized size_3) fun v6 =>
      if (!v6) = true then
        some (.inl ((0, false)))
      else
        grdEq size_3 size_3 <|
        grdEq v4 v4 <|
        some (.inr (()))
    else
      some (.inl ((0, false)))) fun o7 =>
  match o7 with
  | .inl (s6_8, s7_9) =>
    some ((s6_8, s7_9))
  | .inr _ =>
    bnd (loopS (step_octet_Get_0 size_3 v4) ((0, 0))) fun n_14 =>
    some ((n_14, true))
def ann_octet_Get : List (List Nat × Ann) := [([4], ⟨none, [(.ret, ⟨(anyN 6 (.cons (.ty (.int .i64)) (.cons (.ty .bool) (anyN 31 .nil)))), [], [], []⟩), (.normal, ⟨(anyN 2 (.cons (.keep (.int .i64)) (anyN 5 (.cons (.keep .str) (anyN 30 .nil))))), [], [], []⟩)]⟩), ([18], ⟨some ⟨(anyN 8 (.cons (.keep .str) (anyN 1 (.cons (.ty (.int .i64)) (anyN 15 (.cons (.keep (.int .i64)) (.cons (.ty (.int .i64)) (anyN 11 .nil)))))))), [], [], []⟩, [(.exit 0, ⟨(anyN 10 (.cons (.ty (.int .i64)) (anyN 28 .nil))), [], [], []⟩)]⟩)]
@[reducible] def fs_octet_Get : List (Nat × SFn) := [(98, .pure [.str, (.int .i64), (.int .i64)] [.str, .bool] (fun x => F_octet_Take x.1 x.2.1 x.2.2)), (56, .pure [(.int .i64)] [.bool] (fun x => F_octet_sized x))]
def cfg_octet_Get : SCfg := SCfg.of (fs_octet_Get ++ inlL) ann_octet_Get keepL
theorem eq_octet_Get (x : HL [.str, (.int .i64), (.int .i64)]) : fnK cfg_octet_Get Try.prog 100000 106 [.str, (.int .i64), (.int .i64)] [(.int .i64), .bool] x = (fun x => F_octet_Get x.1 x.2.1 x.2.2) x := by kernel_rfl
theorem told_octet_Get : Told CC Try.prog 106 [.str, (.int .i64), (.int .i64)] [(.int .i64), .bool] (fun x => F_octet_Get x.1 x.2.1 x.2.2) := told_of (gok (an := ann_octet_Get) (fs := fs_octet_Get) ⟨told_octet_Take, told_octet_sized, trivial⟩) rfl rfl eq_octet_Get
end
end Go.Abs
