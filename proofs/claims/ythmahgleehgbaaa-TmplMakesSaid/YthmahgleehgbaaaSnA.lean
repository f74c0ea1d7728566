/- Part of a proof. -/
import Derived.Test.YthmahgleehgbaaaSm
set_option linter.unusedSimpArgs false
set_option linter.unusedVariables false
set_option linter.unusedSectionVars false
set_option maxRecDepth 100000
namespace Go.Abs
open Go Go.Proofs
noncomputable section
@[reducible] def gq {α ρ : Type} [DecidableEq α] (x : α) (K : Option ρ) : Option ρ := grdEq x x K
@[reducible] def gz {ρ : Type} (K : Option ρ) : Option ρ := grdEq (α := Int) 0 0 K
@[reducible] def gf {ρ : Type} (K : Option ρ) : Option ρ := grdEq (α := Bool) false false K
@[reducible] def ge {ρ : Type} (K : Option ρ) : Option ρ := grdEq (α := List UInt8) [] [] K
@[reducible] def g3 {A0 A1 A2 ρ : Type} [DecidableEq A0] [DecidableEq A1] [DecidableEq A2] (x : A0 × A1 × A2) (K : Option ρ) : Option ρ := grdEq x.1 x.1 <| grdEq x.2.1 x.2.1 <| grdEq x.2.2 x.2.2 <|  K
@[reducible] def g5 {A0 A1 A2 A3 A4 ρ : Type} [DecidableEq A0] [DecidableEq A1] [DecidableEq A2] [DecidableEq A3] [DecidableEq A4] (x : A0 × A1 × A2 × A3 × A4) (K : Option ρ) : Option ρ := grdEq x.1 x.1 <| grdEq x.2.1 x.2.1 <| grdEq x.2.2.1 x.2.2.1 <| grdEq x.2.2.2.1 x.2.2.2.1 <| grdEq x.2.2.2.2 x.2.2.2.2 <|  K
@[reducible] def g6 {A0 A1 A2 A3 A4 A5 ρ : Type} [DecidableEq A0] [DecidableEq A1] [DecidableEq A2] [DecidableEq A3] [DecidableEq A4] [DecidableEq A5] (x : A0 × A1 × A2 × A3 × A4 × A5) (K : Option ρ) : Option ρ := grdEq x.1 x.1 <| grdEq x.2.1 x.2.1 <| grdEq x.2.2.1 x.2.2.1 <| grdEq x.2.2.2.1 x.2.2.2.1 <| grdEq x.2.2.2.2.1 x.2.2.2.2.1 <| grdEq x.2.2.2.2.2 x.2.2.2.2.2 <|  K
@[reducible] def g9 {A0 A1 A2 A3 A4 A5 A6 A7 A8 ρ : Type} [DecidableEq A0] [DecidableEq A1] [DecidableEq A2] [DecidableEq A3] [DecidableEq A4] [DecidableEq A5] [DecidableEq A6] [DecidableEq A7] [DecidableEq A8] (x : A0 × A1 × A2 × A3 × A4 × A5 × A6 × A7 × A8) (K : Option ρ) : Option ρ := grdEq x.1 x.1 <| grdEq x.2.1 x.2.1 <| grdEq x.2.2.1 x.2.2.1 <| grdEq x.2.2.2.1 x.2.2.2.1 <| grdEq x.2.2.2.2.1 x.2.2.2.2.1 <| grdEq x.2.2.2.2.2.1 x.2.2.2.2.2.1 <| grdEq x.2.2.2.2.2.2.1 x.2.2.2.2.2.2.1 <| grdEq x.2.2.2.2.2.2.2.1 x.2.2.2.2.2.2.2.1 <| grdEq x.2.2.2.2.2.2.2.2 x.2.2.2.2.2.2.2.2 <|  K
@[reducible] def tI : Ty := .int .i64
@[reducible] def kI : SSh := .keep tI
@[reducible] def kS : SSh := .keep .str
@[reducible] def kB : SSh := .keep .bool
@[reducible] def yI : SSh := .ty tI
@[reducible] def tK : Ty := .agg (.cons tI (.cons tI tI))
@[reducible] def tRR : Ty := (.agg (.cons .str (.cons tI (.cons tI (.cons tI .str)))))
@[reducible] def tQ : Ty := (.agg (.cons .str (.cons tI tI)))
instance dec8 {A B C D E F G H : Type} [DecidableEq A] [DecidableEq B] [DecidableEq C] [DecidableEq D] [DecidableEq E] [DecidableEq F] [DecidableEq G] [DecidableEq H] : DecidableEq (A × B × C × D × E × F × G × H) := @instDecidableEqProd _ _ _ (@instDecidableEqProd _ _ _ (@instDecidableEqProd _ _ _ (inferInstanceAs (DecidableEq (D × E × F × G × H)))))
instance decHit : DecidableEq (List UInt8 × Int × Int × List (List UInt8) × Int × Int) := @instDecidableEqProd _ _ _ (@instDecidableEqProd _ _ _ (inferInstanceAs (DecidableEq (Int × List (List UInt8) × Int × Int))))
instance decHits : DecidableEq (List (List UInt8 × Int × Int × List (List UInt8) × Int × Int)) := @instDecidableEqList _ decHit
instance decRR : DecidableEq (List UInt8 × Int × Int × Int × List UInt8) := @instDecidableEqProd _ _ _ (@instDecidableEqProd _ _ _ (inferInstanceAs (DecidableEq (Int × Int × List UInt8))))
instance decRRs : DecidableEq (List (List UInt8 × Int × Int × Int × List UInt8)) := @instDecidableEqList _ decRR
instance decPc : DecidableEq (List (List UInt8 × Int × Int × Int × List UInt8) × Bool) := @instDecidableEqProd _ _ decRRs _
instance decPcs : DecidableEq (List (List (List UInt8 × Int × Int × Int × List UInt8) × Bool)) := @instDecidableEqList _ decPc
@[reducible] def shpF (k : Int) : Option (Int × Int × Int) := (sfind tI (.agg (.cons tI (.cons tI tI))) k (sputM tI (.agg (.cons tI (.cons tI tI))) 33 (6, 1, 0) (sputM tI (.agg (.cons tI (.cons tI tI))) 15 (2, 1, 0) (sputM tI (.agg (.cons tI (.cons tI tI))) 6 (0, 2, 20) (sputM tI (.agg (.cons tI (.cons tI tI))) 12 (0, 1, 0) (sputM tI (.agg (.cons tI (.cons tI tI))) 5 (0, 1, 0) (sputM tI (.agg (.cons tI (.cons tI tI))) 2 (0, 1, 0) (sputM tI (.agg (.cons tI (.cons tI tI))) 28 (16, 0, 0) (sputM tI (.agg (.cons tI (.cons tI tI))) 1 (4, 0, 0) [])))))))))
def step_law17_Chain_0 (k_1 : List (List UInt8 × Int × Int × List (List UInt8) × Int × Int) × Int × List UInt8 × List UInt8 × Int × Int × List (List UInt8) × Int × Int) : (Int × List ((List UInt8 × (Int × (Int × (List (List UInt8) × (Int × Int))))))) → Option ((Int × List ((List UInt8 × (Int × (Int × (List (List UInt8) × (Int × Int))))))) ⊕ List ((List UInt8 × (Int × (Int × (List (List UInt8) × (Int × Int))))))) := fun (i_2, b2a_3) =>
 if decide (i_2 < (↑(List.length k_1.1) : Int)) = true then
  natOf i_2 fun n4 =>
  bnd (k_1.1[n4]?) fun x5 =>
  grd ((b2a_3.length + [(x5.1, x5.2.1, x5.2.2.1, x5.2.2.2.1, x5.2.2.2.2.1, x5.2.2.2.2.2)].length) * 72 ≤ roomLim) <|
  g9 k_1 <| gz <| gq (α := List UInt8) ([]) <| gq (α := List UInt8) ([]) <| gz <| gz <| gz <| gz <| gq k_1.2.1 <| gq k_1.2.2.1 <| gq k_1.2.2.2.1 <| gq k_1.2.2.2.2.1 <| gq k_1.2.2.2.2.2.1 <| gq k_1.2.2.2.2.2.2.1 <| gq k_1.2.2.2.2.2.2.2.1 <| gq k_1.2.2.2.2.2.2.2.2 <|
  some (.inl ((IntKind.i64.wrap (i_2 + 1), b2a_3 ++ [(x5.1, x5.2.1, x5.2.2.1, x5.2.2.2.1, x5.2.2.2.2.1, x5.2.2.2.2.2)])))
 else
  g9 k_1 <| gz <| gq (α := List UInt8) ([]) <| gq (α := List UInt8) ([]) <| gz <| gz <| gz <| gz <| gq k_1.2.1 <| gq k_1.2.2.1 <| gq k_1.2.2.2.1 <| gq k_1.2.2.2.2.1 <| gq k_1.2.2.2.2.2.1 <| gq k_1.2.2.2.2.2.2.1 <| gq k_1.2.2.2.2.2.2.2.1 <| gq k_1.2.2.2.2.2.2.2.2 <|
  some (.inr b2a_3)
def F_law17_Chain (k_1 : (List ((List UInt8 × (Int × (Int × (List (List UInt8) × (Int × Int)))))) × (Int × (List UInt8 × (List UInt8 × (Int × (Int × (List (List UInt8) × (Int × Int))))))))) : Option ((List ((List UInt8 × (Int × (Int × (List (List UInt8) × (Int × Int)))))) × (Int × (List UInt8 × (List UInt8 × (Int × (Int × (List (List UInt8) × (Int × Int))))))))) :=
 bnd (loopS (step_law17_Chain_0 k_1) ((0, []))) fun b2a_6 =>
 some ((b2a_6, (k_1.2.1, (k_1.2.2.1, (k_1.2.2.2.1, (k_1.2.2.2.2.1, (k_1.2.2.2.2.2.1, (k_1.2.2.2.2.2.2.1, (k_1.2.2.2.2.2.2.2.1, k_1.2.2.2.2.2.2.2.2)))))))))
def ann_law17_Chain : List (List Nat × Ann) := [([8], ⟨some ⟨(anyN 1 (.cons (.ptr 0 0) (.cons (.ptr 1 0) (.cons (.ptr 2 0) (.cons yI (anyN 25 .nil)))))), [.cells 31 true (.cons (.keep (.list (.agg (.cons .str (.cons tI (.cons tI (.cons (.list .str) (.cons tI tI)))))))) (.cons kI (.cons kS (.cons kS (.cons kI (.cons kI (.cons (.keep (.list .str)) (.cons kI (.cons kI .nil))))))))), .cells 42 true (.cons .nill (.cons kI (.cons kS (.cons kS (.cons kI (.cons kI (.cons .nill (.cons kI (.cons kI .nil))))))))), .cells 42 true (.cons (.own (.agg (.cons .str (.cons tI (.cons tI (.cons (.list .str) (.cons tI tI)))))) 0 true) (.cons kI (.cons kS (.cons kS (.cons kI (.cons kI (.cons (.keep (.list .str)) (.cons kI (.cons kI .nil)))))))))], [⟨⟨0, (.agg (.cons .str (.cons tI (.cons tI (.cons (.list .str) (.cons tI tI)))))), 40, true, true⟩, true⟩], []⟩, [(.exit 0, ⟨(anyN 2 (.cons (.ptr 1 0) (.cons (.ptr 2 0) (anyN 26 .nil)))), [.cells 31 true (.cons (.keep (.list (.agg (.cons .str (.cons tI (.cons tI (.cons (.list .str) (.cons tI tI)))))))) (.cons kI (.cons kS (.cons kS (.cons kI (.cons kI (.cons (.keep (.list .str)) (.cons kI (.cons kI .nil))))))))), .cells 42 true (.cons .nill (.cons kI (.cons kS (.cons kS (.cons kI (.cons kI (.cons .nill (.cons kI (.cons kI .nil))))))))), .cells 42 true (.cons (.own (.agg (.cons .str (.cons tI (.cons tI (.cons (.list .str) (.cons tI tI)))))) 0 true) (.cons kI (.cons kS (.cons kS (.cons kI (.cons kI (.cons (.keep (.list .str)) (.cons kI (.cons kI .nil)))))))))], [⟨⟨1, (.agg (.cons .str (.cons tI (.cons tI (.cons (.list .str) (.cons tI tI)))))), 40, true, true⟩, true⟩], []⟩)]⟩)]
def cfg_law17_Chain : SCfg := SCfg.of ([] ++ inlL) ann_law17_Chain keepL
theorem eq_law17_Chain (x : HL [(.agg (.cons (.list (.agg (.cons .str (.cons tI (.cons tI (.cons (.list .str) (.cons tI tI))))))) (.cons tI (.cons .str (.cons .str (.cons tI (.cons tI (.cons (.list .str) (.cons tI tI)))))))))]) : fnK cfg_law17_Chain Try.prog 100000 12 [(.agg (.cons (.list (.agg (.cons .str (.cons tI (.cons tI (.cons (.list .str) (.cons tI tI))))))) (.cons tI (.cons .str (.cons .str (.cons tI (.cons tI (.cons (.list .str) (.cons tI tI)))))))))] [(.agg (.cons (.list (.agg (.cons .str (.cons tI (.cons tI (.cons (.list .str) (.cons tI tI))))))) (.cons tI (.cons .str (.cons .str (.cons tI (.cons tI (.cons (.list .str) (.cons tI tI)))))))))] x = (fun x => F_law17_Chain x) x := by kernel_rfl
theorem told_law17_Chain : Told CC Try.prog 12 [(.agg (.cons (.list (.agg (.cons .str (.cons tI (.cons tI (.cons (.list .str) (.cons tI tI))))))) (.cons tI (.cons .str (.cons .str (.cons tI (.cons tI (.cons (.list .str) (.cons tI tI)))))))))] [(.agg (.cons (.list (.agg (.cons .str (.cons tI (.cons tI (.cons (.list .str) (.cons tI tI))))))) (.cons tI (.cons .str (.cons .str (.cons tI (.cons tI (.cons (.list .str) (.cons tI tI)))))))))] (fun x => F_law17_Chain x) := told_of (gok (an := ann_law17_Chain) (fs := []) trivial) rfl rfl eq_law17_Chain
def step_ref18_Same_1 (a_1 : List UInt8 × Int × Int × Int × List UInt8 × List (List (Int × Int × Int) × Int × Bool)) (b_2 : List UInt8 × Int × Int × Int × List UInt8 × List (List (Int × Int × Int) × Int × Bool)) (i_5 : Int) (x7 : ((tI.cons (tI.cons tI)).agg.list.cons (tI.cons Ty.bool)).agg.den) (x9 : ((tI.cons (tI.cons tI)).agg.list.cons (tI.cons Ty.bool)).agg.den) : Int → Option (Int ⊕ (Bool ⊕ Unit)) := fun k_12 =>
 if decide (k_12 < (↑(List.length x7.1) : Int)) = true then
  natOf k_12 fun n13 =>
  bnd (x7.1[n13]?) fun x14 =>
  natOf k_12 fun n15 =>
  bnd (x9.1[n15]?) fun x16 =>
  if (!(x14.1 == x16.1 && (x14.2.1 == x16.2.1 && (x14.2.2 == x16.2.2 && true)))) = true then
   g6 a_1 <| g6 b_2 <| g3 x7 <| g3 x9 <|
   some (.inr (.inl false))
  else
   gq i_5 <| g6 a_1 <| g6 b_2 <| g3 x7 <| g3 x9 <|
   some (.inl (IntKind.i64.wrap (k_12 + 1)))
 else
  gq i_5 <| g6 a_1 <| g6 b_2 <| g3 x7 <| g3 x9 <|
  some (.inr (.inr (())))
def step_ref18_Same_0 (a_1 : List UInt8 × Int × Int × Int × List UInt8 × List (List (Int × Int × Int) × Int × Bool)) (b_2 : List UInt8 × Int × Int × Int × List UInt8 × List (List (Int × Int × Int) × Int × Bool)) : Int → Option (Int ⊕ (Unit ⊕ Bool)) := fun i_5 =>
 if decide (i_5 < (↑(List.length a_1.2.2.2.2.2) : Int)) = true then
  natOf i_5 fun n6 =>
  bnd (a_1.2.2.2.2.2[n6]?) fun x7 =>
  natOf i_5 fun n8 =>
  bnd (b_2.2.2.2.2.2[n8]?) fun x9 =>
  bnd (α := (Bool ⊕ Unit)) (if (x7.2.1 != x9.2.1) = false then
    if (!x7.2.2 == x9.2.2) = false then
     if ((↑(List.length x7.1) : Int) != (↑(List.length x9.1) : Int)) = true then
      g6 a_1 <| g6 b_2 <| g3 x7 <| g3 x9 <|
      some (.inl false)
     else
      gq i_5 <| g6 a_1 <| g6 b_2 <| g3 x7 <| g3 x9 <|
      some (.inr (()))
    else
     g6 a_1 <| g6 b_2 <| g3 x7 <| g3 x9 <|
     some (.inl false)
   else
    g6 a_1 <| g6 b_2 <| g3 x7 <| g3 x9 <|
    some (.inl false)) fun o10 =>
  match o10 with
  | .inl s4_11 =>
   g6 a_1 <| g6 b_2 <|
   some (.inr (.inr s4_11))
  | .inr _ =>
   bnd (loopS (step_ref18_Same_1 a_1 b_2 i_5 x7 x9) 0) fun o17 =>
   match o17 with
   | .inl s4_18 =>
    g6 a_1 <| g6 b_2 <|
    some (.inr (.inr s4_18))
   | .inr _ =>
    g6 a_1 <| g6 b_2 <|
    some (.inl (IntKind.i64.wrap (i_5 + 1)))
 else
  g6 a_1 <| g6 b_2 <|
  some (.inr (.inl (())))
def F_ref18_Same (a_1 : (List UInt8 × (Int × (Int × (Int × (List UInt8 × List ((List ((Int × (Int × Int))) × (Int × Bool))))))))) (b_2 : (List UInt8 × (Int × (Int × (Int × (List UInt8 × List ((List ((Int × (Int × Int))) × (Int × Bool))))))))) : Option (Bool) :=
 bnd (α := (Bool ⊕ Unit)) (if (!(a_1.1 == b_2.1 && (a_1.2.1 == b_2.2.1 && (a_1.2.2.1 == b_2.2.2.1 && true)))) = false then
   if (a_1.2.2.2.1 != b_2.2.2.2.1) = false then
    if (!a_1.2.2.2.2.1 == b_2.2.2.2.2.1) = false then
     if ((↑(List.length a_1.2.2.2.2.2) : Int) != (↑(List.length b_2.2.2.2.2.2) : Int)) = true then
      g6 a_1 <| g6 b_2 <|
      some (.inl false)
     else
      g6 a_1 <| g6 b_2 <|
      some (.inr (()))
    else
     g6 a_1 <| g6 b_2 <|
     some (.inl false)
   else
    g6 a_1 <| g6 b_2 <|
    some (.inl false)
  else
   g6 a_1 <| g6 b_2 <|
   some (.inl false)) fun o3 =>
 match o3 with
 | .inl s4_4 =>
  some s4_4
 | .inr _ =>
  bnd (loopS (step_ref18_Same_0 a_1 b_2) 0) fun o19 =>
  match o19 with
  | .inl _ =>
   some true
  | .inr s4_20 =>
   some s4_20
def ann_ref18_Same : List (List Nat × Ann) := [([2], ⟨none, [(.ret, ⟨(anyN 4 (.cons (.ty .bool) (anyN 88 .nil))), [.cells 46 true (.cons kS (.cons kI (.cons kI (.cons kI (.cons kS (.cons (.keep (.list (.agg (.cons (.list (.agg (.cons tI (.cons tI tI)))) (.cons tI .bool))))) .nil)))))), .cells 46 true (.cons kS (.cons kI (.cons kI (.cons kI (.cons kS (.cons (.keep (.list (.agg (.cons (.list (.agg (.cons tI (.cons tI tI)))) (.cons tI .bool))))) .nil))))))], [], []⟩), (.normal, ⟨(anyN 2 (.cons (.ptr 0 0) (.cons (.ptr 1 0) (anyN 89 .nil)))), [.cells 46 true (.cons kS (.cons kI (.cons kI (.cons kI (.cons kS (.cons (.keep (.list (.agg (.cons (.list (.agg (.cons tI (.cons tI tI)))) (.cons tI .bool))))) .nil)))))), .cells 46 true (.cons kS (.cons kI (.cons kI (.cons kI (.cons kS (.cons (.keep (.list (.agg (.cons (.list (.agg (.cons tI (.cons tI tI)))) (.cons tI .bool))))) .nil))))))], [], []⟩)]⟩), ([27], ⟨none, [(.ret, ⟨(anyN 4 (.cons (.ty .bool) (anyN 88 .nil))), [.cells 46 true (.cons kS (.cons kI (.cons kI (.cons kI (.cons kS (.cons (.keep (.list (.agg (.cons (.list (.agg (.cons tI (.cons tI tI)))) (.cons tI .bool))))) .nil)))))), .cells 46 true (.cons kS (.cons kI (.cons kI (.cons kI (.cons kS (.cons (.keep (.list (.agg (.cons (.list (.agg (.cons tI (.cons tI tI)))) (.cons tI .bool))))) .nil)))))), .cells 74 true (.cons (.keep (.list (.agg (.cons tI (.cons tI tI))))) (.cons kI (.cons kB .nil))), .cells 74 true (.cons (.keep (.list (.agg (.cons tI (.cons tI tI))))) (.cons kI (.cons kB .nil)))], [], []⟩), (.normal, ⟨(anyN 2 (.cons (.ptr 0 0) (.cons (.ptr 1 0) (anyN 1 (.cons kI (.cons (.ptr 2 0) (.cons (.ptr 3 0) (anyN 85 .nil)))))))), [.cells 46 true (.cons kS (.cons kI (.cons kI (.cons kI (.cons kS (.cons (.keep (.list (.agg (.cons (.list (.agg (.cons tI (.cons tI tI)))) (.cons tI .bool))))) .nil)))))), .cells 46 true (.cons kS (.cons kI (.cons kI (.cons kI (.cons kS (.cons (.keep (.list (.agg (.cons (.list (.agg (.cons tI (.cons tI tI)))) (.cons tI .bool))))) .nil)))))), .cells 74 true (.cons (.keep (.list (.agg (.cons tI (.cons tI tI))))) (.cons kI (.cons kB .nil))), .cells 74 true (.cons (.keep (.list (.agg (.cons tI (.cons tI tI))))) (.cons kI (.cons kB .nil)))], [], []⟩)]⟩), ([14], ⟨some ⟨(anyN 2 (.cons (.ptr 0 0) (.cons (.ptr 1 0) (anyN 1 (.cons yI (anyN 87 .nil)))))), [.cells 46 true (.cons kS (.cons kI (.cons kI (.cons kI (.cons kS (.cons (.keep (.list (.agg (.cons (.list (.agg (.cons tI (.cons tI tI)))) (.cons tI .bool))))) .nil)))))), .cells 46 true (.cons kS (.cons kI (.cons kI (.cons kI (.cons kS (.cons (.keep (.list (.agg (.cons (.list (.agg (.cons tI (.cons tI tI)))) (.cons tI .bool))))) .nil))))))], [], []⟩, [(.exit 0, ⟨(anyN 93 .nil), [.cells 46 true (.cons kS (.cons kI (.cons kI (.cons kI (.cons kS (.cons (.keep (.list (.agg (.cons (.list (.agg (.cons tI (.cons tI tI)))) (.cons tI .bool))))) .nil)))))), .cells 46 true (.cons kS (.cons kI (.cons kI (.cons kI (.cons kS (.cons (.keep (.list (.agg (.cons (.list (.agg (.cons tI (.cons tI tI)))) (.cons tI .bool))))) .nil))))))], [], []⟩), (.ret, ⟨(anyN 4 (.cons (.ty .bool) (anyN 88 .nil))), [.cells 46 true (.cons kS (.cons kI (.cons kI (.cons kI (.cons kS (.cons (.keep (.list (.agg (.cons (.list (.agg (.cons tI (.cons tI tI)))) (.cons tI .bool))))) .nil)))))), .cells 46 true (.cons kS (.cons kI (.cons kI (.cons kI (.cons kS (.cons (.keep (.list (.agg (.cons (.list (.agg (.cons tI (.cons tI tI)))) (.cons tI .bool))))) .nil))))))], [], []⟩)]⟩), ([38], ⟨some ⟨(anyN 2 (.cons (.ptr 0 0) (.cons (.ptr 1 0) (anyN 1 (.cons kI (.cons (.ptr 2 0) (.cons (.ptr 3 0) (.cons yI (anyN 84 .nil))))))))), [.cells 46 true (.cons kS (.cons kI (.cons kI (.cons kI (.cons kS (.cons (.keep (.list (.agg (.cons (.list (.agg (.cons tI (.cons tI tI)))) (.cons tI .bool))))) .nil)))))), .cells 46 true (.cons kS (.cons kI (.cons kI (.cons kI (.cons kS (.cons (.keep (.list (.agg (.cons (.list (.agg (.cons tI (.cons tI tI)))) (.cons tI .bool))))) .nil)))))), .cells 74 true (.cons (.keep (.list (.agg (.cons tI (.cons tI tI))))) (.cons kI (.cons kB .nil))), .cells 74 true (.cons (.keep (.list (.agg (.cons tI (.cons tI tI))))) (.cons kI (.cons kB .nil)))], [], []⟩, [(.ret, ⟨(anyN 4 (.cons (.ty .bool) (anyN 88 .nil))), [.cells 46 true (.cons kS (.cons kI (.cons kI (.cons kI (.cons kS (.cons (.keep (.list (.agg (.cons (.list (.agg (.cons tI (.cons tI tI)))) (.cons tI .bool))))) .nil)))))), .cells 46 true (.cons kS (.cons kI (.cons kI (.cons kI (.cons kS (.cons (.keep (.list (.agg (.cons (.list (.agg (.cons tI (.cons tI tI)))) (.cons tI .bool))))) .nil)))))), .cells 74 true (.cons (.keep (.list (.agg (.cons tI (.cons tI tI))))) (.cons kI (.cons kB .nil))), .cells 74 true (.cons (.keep (.list (.agg (.cons tI (.cons tI tI))))) (.cons kI (.cons kB .nil)))], [], []⟩), (.exit 2, ⟨(anyN 2 (.cons (.ptr 0 0) (.cons (.ptr 1 0) (anyN 1 (.cons kI (anyN 87 .nil)))))), [.cells 46 true (.cons kS (.cons kI (.cons kI (.cons kI (.cons kS (.cons (.keep (.list (.agg (.cons (.list (.agg (.cons tI (.cons tI tI)))) (.cons tI .bool))))) .nil)))))), .cells 46 true (.cons kS (.cons kI (.cons kI (.cons kI (.cons kS (.cons (.keep (.list (.agg (.cons (.list (.agg (.cons tI (.cons tI tI)))) (.cons tI .bool))))) .nil)))))), .cells 74 true (.cons (.keep (.list (.agg (.cons tI (.cons tI tI))))) (.cons kI (.cons kB .nil))), .cells 74 true (.cons (.keep (.list (.agg (.cons tI (.cons tI tI))))) (.cons kI (.cons kB .nil)))], [], []⟩)]⟩)]
def cfg_ref18_Same : SCfg := SCfg.of ([] ++ inlL) ann_ref18_Same keepL
theorem eq_ref18_Same (x : HL [(.agg (.cons .str (.cons tI (.cons tI (.cons tI (.cons .str (.list (.agg (.cons (.list (.agg (.cons tI (.cons tI tI)))) (.cons tI .bool)))))))))), (.agg (.cons .str (.cons tI (.cons tI (.cons tI (.cons .str (.list (.agg (.cons (.list (.agg (.cons tI (.cons tI tI)))) (.cons tI .bool))))))))))]) : fnK cfg_ref18_Same Try.prog 100000 14 [(.agg (.cons .str (.cons tI (.cons tI (.cons tI (.cons .str (.list (.agg (.cons (.list (.agg (.cons tI (.cons tI tI)))) (.cons tI .bool)))))))))), (.agg (.cons .str (.cons tI (.cons tI (.cons tI (.cons .str (.list (.agg (.cons (.list (.agg (.cons tI (.cons tI tI)))) (.cons tI .bool))))))))))] [.bool] x = (fun x => F_ref18_Same x.1 x.2) x := by kernel_rfl
theorem told_ref18_Same : Told CC Try.prog 14 [(.agg (.cons .str (.cons tI (.cons tI (.cons tI (.cons .str (.list (.agg (.cons (.list (.agg (.cons tI (.cons tI tI)))) (.cons tI .bool)))))))))), (.agg (.cons .str (.cons tI (.cons tI (.cons tI (.cons .str (.list (.agg (.cons (.list (.agg (.cons tI (.cons tI tI)))) (.cons tI .bool))))))))))] [.bool] (fun x => F_ref18_Same x.1 x.2) := told_of (gok (an := ann_ref18_Same) (fs := []) trivial) rfl rfl eq_ref18_Same
def step_law18_Told_1 (t_1 : List UInt8 × Int × Int × Int × List UInt8 × List (List (Int × Int × Int) × Int × Bool)) (i_2 : Int) (x5 : ((tI.cons (tI.cons tI)).agg.list.cons (tI.cons Ty.bool)).agg.den) (x7 : ((tI.cons (tI.cons tI)).agg.list.cons (tI.cons Ty.bool)).agg.den) : (Int × (List ((List ((Int × (Int × Int))) × (Int × Bool))) × List ((Int × (Int × Int))))) → Option ((Int × (List ((List ((Int × (Int × Int))) × (Int × Bool))) × List ((Int × (Int × Int))))) ⊕ (List ((List ((Int × (Int × Int))) × (Int × Bool))) × List ((Int × (Int × Int))))) := fun (k_8, b2f_9, b3a_10) =>
 natOf i_2 fun n11 =>
 bnd (t_1.2.2.2.2.2[n11]?) fun x12 =>
 if decide (k_8 < (↑(List.length x12.1) : Int)) = true then
  natOf i_2 fun n13 =>
  bnd (t_1.2.2.2.2.2[n13]?) fun x14 =>
  natOf k_8 fun n15 =>
  bnd (x14.1[n15]?) fun x16 =>
  grd ((b3a_10.length + [(x16.1, x16.2.1, x16.2.2)].length) * 24 ≤ roomLim) <|
  gq i_2 <| g6 t_1 <| gq (α := List UInt8) ([]) <| gz <| gz <| gz <| gq (α := List UInt8) ([]) <| gq t_1.1 <| gq t_1.2.1 <| gq t_1.2.2.1 <| gq t_1.2.2.2.1 <| gq t_1.2.2.2.2.1 <| gq x5.2.1 <| gq x7.2.2 <|
  some (.inl ((IntKind.i64.wrap (k_8 + 1), (b2f_9, b3a_10 ++ [(x16.1, x16.2.1, x16.2.2)]))))
 else
  gq i_2 <| g6 t_1 <| gq (α := List UInt8) ([]) <| gz <| gz <| gz <| gq (α := List UInt8) ([]) <| gq t_1.1 <| gq t_1.2.1 <| gq t_1.2.2.1 <| gq t_1.2.2.2.1 <| gq t_1.2.2.2.2.1 <| gq x5.2.1 <| gq x7.2.2 <|
  some (.inr ((b2f_9, b3a_10)))
def step_law18_Told_0 (t_1 : List UInt8 × Int × Int × Int × List UInt8 × List (List (Int × Int × Int) × Int × Bool)) : (Int × List ((List ((Int × (Int × Int))) × (Int × Bool)))) → Option ((Int × List ((List ((Int × (Int × Int))) × (Int × Bool)))) ⊕ List ((List ((Int × (Int × Int))) × (Int × Bool)))) := fun (i_2, b2f_3) =>
 if decide (i_2 < (↑(List.length t_1.2.2.2.2.2) : Int)) = true then
  natOf i_2 fun n4 =>
  bnd (t_1.2.2.2.2.2[n4]?) fun x5 =>
  natOf i_2 fun n6 =>
  bnd (t_1.2.2.2.2.2[n6]?) fun x7 =>
  bnd (loopS (step_law18_Told_1 t_1 i_2 x5 x7) ((0, (b2f_3, [])))) fun (b2f_17, b3a_18) =>
  grd ((b2f_17.length + [(b3a_18, x5.2.1, x7.2.2)].length) * 40 ≤ roomLim) <|
  g6 t_1 <| gq (α := List UInt8) ([]) <| gz <| gz <| gz <| gq (α := List UInt8) ([]) <| gq t_1.1 <| gq t_1.2.1 <| gq t_1.2.2.1 <| gq t_1.2.2.2.1 <| gq t_1.2.2.2.2.1 <|
  some (.inl ((IntKind.i64.wrap (i_2 + 1), b2f_17 ++ [(b3a_18, x5.2.1, x7.2.2)])))
 else
  g6 t_1 <| gq (α := List UInt8) ([]) <| gz <| gz <| gz <| gq (α := List UInt8) ([]) <| gq t_1.1 <| gq t_1.2.1 <| gq t_1.2.2.1 <| gq t_1.2.2.2.1 <| gq t_1.2.2.2.2.1 <|
  some (.inr b2f_3)
def F_law18_Told (t_1 : (List UInt8 × (Int × (Int × (Int × (List UInt8 × List ((List ((Int × (Int × Int))) × (Int × Bool))))))))) : Option ((List UInt8 × (Int × (Int × (Int × (List UInt8 × List ((List ((Int × (Int × Int))) × (Int × Bool))))))))) :=
 bnd (loopS (step_law18_Told_0 t_1) ((0, []))) fun b2f_19 =>
 some ((t_1.1, (t_1.2.1, (t_1.2.2.1, (t_1.2.2.2.1, (t_1.2.2.2.2.1, b2f_19))))))
def ann_law18_Told : List (List Nat × Ann) := [([8], ⟨some ⟨(anyN 1 (.cons (.ptr 0 0) (.cons (.ptr 1 0) (.cons (.ptr 2 0) (.cons yI (anyN 61 .nil)))))), [.cells 36 true (.cons kS (.cons kI (.cons kI (.cons kI (.cons kS (.cons (.keep (.list (.agg (.cons (.list (.agg (.cons tI (.cons tI tI)))) (.cons tI .bool))))) .nil)))))), .cells 46 true (.cons kS (.cons kI (.cons kI (.cons kI (.cons kS (.cons .nill .nil)))))), .cells 46 true (.cons kS (.cons kI (.cons kI (.cons kI (.cons kS (.cons (.own (.agg (.cons (.list (.agg (.cons tI (.cons tI tI)))) (.cons tI .bool))) 0 true) .nil))))))], [⟨⟨0, (.agg (.cons (.list (.agg (.cons tI (.cons tI tI)))) (.cons tI .bool))), 74, true, true⟩, true⟩], []⟩, [(.exit 0, ⟨(anyN 2 (.cons (.ptr 1 0) (.cons (.ptr 2 0) (anyN 62 .nil)))), [.cells 36 true (.cons kS (.cons kI (.cons kI (.cons kI (.cons kS (.cons (.keep (.list (.agg (.cons (.list (.agg (.cons tI (.cons tI tI)))) (.cons tI .bool))))) .nil)))))), .cells 46 true (.cons kS (.cons kI (.cons kI (.cons kI (.cons kS (.cons .nill .nil)))))), .cells 46 true (.cons kS (.cons kI (.cons kI (.cons kI (.cons kS (.cons (.own (.agg (.cons (.list (.agg (.cons tI (.cons tI tI)))) (.cons tI .bool))) 0 true) .nil))))))], [⟨⟨0, (.agg (.cons (.list (.agg (.cons tI (.cons tI tI)))) (.cons tI .bool))), 74, true, true⟩, false⟩], []⟩)]⟩), ([23], ⟨some ⟨(anyN 1 (.cons (.ptr 0 0) (.cons (.ptr 1 0) (.cons (.ptr 2 0) (.cons kI (.cons (.ptr 3 0) (.cons yI (anyN 59 .nil)))))))), [.cells 36 true (.cons kS (.cons kI (.cons kI (.cons kI (.cons kS (.cons (.keep (.list (.agg (.cons (.list (.agg (.cons tI (.cons tI tI)))) (.cons tI .bool))))) .nil)))))), .cells 46 true (.cons kS (.cons kI (.cons kI (.cons kI (.cons kS (.cons .nill .nil)))))), .cells 46 true (.cons kS (.cons kI (.cons kI (.cons kI (.cons kS (.cons (.own (.agg (.cons (.list (.agg (.cons tI (.cons tI tI)))) (.cons tI .bool))) 0 true) .nil)))))), .cells 74 true (.cons (.own (.agg (.cons tI (.cons tI tI))) 1 true) (.cons kI (.cons kB .nil)))], [⟨⟨0, (.agg (.cons (.list (.agg (.cons tI (.cons tI tI)))) (.cons tI .bool))), 74, true, true⟩, false⟩, ⟨⟨0, (.agg (.cons tI (.cons tI tI))), 80, true, true⟩, true⟩], []⟩, [(.exit 2, ⟨(anyN 1 (.cons (.ptr 0 0) (.cons (.ptr 1 0) (.cons (.ptr 2 0) (.cons kI (.cons (.ptr 3 0) (anyN 60 .nil))))))), [.cells 36 true (.cons kS (.cons kI (.cons kI (.cons kI (.cons kS (.cons (.keep (.list (.agg (.cons (.list (.agg (.cons tI (.cons tI tI)))) (.cons tI .bool))))) .nil)))))), .cells 46 true (.cons kS (.cons kI (.cons kI (.cons kI (.cons kS (.cons .nill .nil)))))), .cells 46 true (.cons kS (.cons kI (.cons kI (.cons kI (.cons kS (.cons (.own (.agg (.cons (.list (.agg (.cons tI (.cons tI tI)))) (.cons tI .bool))) 0 true) .nil)))))), .cells 74 true (.cons (.own (.agg (.cons tI (.cons tI tI))) 1 true) (.cons kI (.cons kB .nil)))], [⟨⟨0, (.agg (.cons (.list (.agg (.cons tI (.cons tI tI)))) (.cons tI .bool))), 74, true, true⟩, false⟩, ⟨⟨1, (.agg (.cons tI (.cons tI tI))), 80, true, true⟩, true⟩], []⟩)]⟩)]
def cfg_law18_Told : SCfg := SCfg.of ([] ++ inlL) ann_law18_Told keepL
theorem eq_law18_Told (x : HL [(.agg (.cons .str (.cons tI (.cons tI (.cons tI (.cons .str (.list (.agg (.cons (.list (.agg (.cons tI (.cons tI tI)))) (.cons tI .bool))))))))))]) : fnK cfg_law18_Told Try.prog 100000 15 [(.agg (.cons .str (.cons tI (.cons tI (.cons tI (.cons .str (.list (.agg (.cons (.list (.agg (.cons tI (.cons tI tI)))) (.cons tI .bool))))))))))] [(.agg (.cons .str (.cons tI (.cons tI (.cons tI (.cons .str (.list (.agg (.cons (.list (.agg (.cons tI (.cons tI tI)))) (.cons tI .bool))))))))))] x = (fun x => F_law18_Told x) x := by kernel_rfl
theorem told_law18_Told : Told CC Try.prog 15 [(.agg (.cons .str (.cons tI (.cons tI (.cons tI (.cons .str (.list (.agg (.cons (.list (.agg (.cons tI (.cons tI tI)))) (.cons tI .bool))))))))))] [(.agg (.cons .str (.cons tI (.cons tI (.cons tI (.cons .str (.list (.agg (.cons (.list (.agg (.cons tI (.cons tI tI)))) (.cons tI .bool))))))))))] (fun x => F_law18_Told x) := told_of (gok (an := ann_law18_Told) (fs := []) trivial) rfl rfl eq_law18_Told
end
end Go.Abs

set_option maxRecDepth 100000
namespace Go.Abs
open Go Go.Proofs
noncomputable section
def step_tmpl_Template_Check_1 (t_1 : List UInt8 × Int × Int × Int × List UInt8 × List (List (Int × Int × Int) × Int × Bool)) (s10_2 : Int) (x4 : ((tI.cons (tI.cons tI)).agg.list.cons (tI.cons Ty.bool)).agg.den) : Int → Option (Int ⊕ (Bool ⊕ Unit)) := fun s21_5 =>
 if decide (s21_5 < (↑(List.length x4.1) : Int)) = true then
  natOf s21_5 fun n6 =>
  bnd (x4.1[n6]?) fun x7 =>
  if decide (x7.1 < 0) = false then
   if decide (x7.2.2 < x7.1) = false then
    if decide ((↑(List.length t_1.2.2.2.2.1) : Int) < x7.2.1) = false then
     if decide (x7.2.1 < x7.2.2) = false then
      if decide (IntKind.i64.wrap (x7.2.1 - x7.2.2) < 4) = true then
       g6 t_1 <| g3 x4 <|
       some (.inr (.inl false))
      else
       gq t_1.2.2.2.2.2 <|
       grdEq ((↑(List.length t_1.2.2.2.2.2) : Int)) ((↑(List.length t_1.2.2.2.2.2) : Int)) <|
       gq s10_2 <| gq x4.1 <|
       grdEq ((↑(List.length x4.1) : Int)) ((↑(List.length x4.1) : Int)) <|
       g6 t_1 <| g3 x4 <|
       some (.inl (IntKind.i64.wrap (s21_5 + 1)))
     else
      g6 t_1 <| g3 x4 <|
      some (.inr (.inl false))
    else
     g6 t_1 <| g3 x4 <|
     some (.inr (.inl false))
   else
    g6 t_1 <| g3 x4 <|
    some (.inr (.inl false))
  else
   g6 t_1 <| g3 x4 <|
   some (.inr (.inl false))
 else
  gq t_1.2.2.2.2.2 <|
  grdEq ((↑(List.length t_1.2.2.2.2.2) : Int)) ((↑(List.length t_1.2.2.2.2.2) : Int)) <|
  gq s10_2 <| g6 t_1 <| g3 x4 <|
  some (.inr (.inr (())))
def step_tmpl_Template_Check_0 (t_1 : List UInt8 × Int × Int × Int × List UInt8 × List (List (Int × Int × Int) × Int × Bool)) : Int → Option (Int ⊕ (Bool ⊕ Unit)) := fun s10_2 =>
 if decide (s10_2 < (↑(List.length t_1.2.2.2.2.2) : Int)) = true then
  natOf s10_2 fun n3 =>
  bnd (t_1.2.2.2.2.2[n3]?) fun x4 =>
  if ((↑(List.length x4.1) : Int) == 0) = true then
   g6 t_1 <|
   some (.inr (.inl false))
  else
   bnd (loopS (step_tmpl_Template_Check_1 t_1 s10_2 x4) 0) fun o8 =>
   match o8 with
   | .inl s2_9 =>
    g6 t_1 <|
    some (.inr (.inl s2_9))
   | .inr _ =>
    gq t_1.2.2.2.2.2 <|
    grdEq ((↑(List.length t_1.2.2.2.2.2) : Int)) ((↑(List.length t_1.2.2.2.2.2) : Int)) <|
    g6 t_1 <|
    some (.inl (IntKind.i64.wrap (s10_2 + 1)))
 else
  g6 t_1 <|
  some (.inr (.inr (())))
def F_tmpl_Template_Check (t_1 : (List UInt8 × (Int × (Int × (Int × (List UInt8 × List ((List ((Int × (Int × Int))) × (Int × Bool))))))))) : Option (Bool) :=
 bnd (loopS (step_tmpl_Template_Check_0 t_1) 0) fun o10 =>
 match o10 with
 | .inl s2_11 =>
  some s2_11
 | .inr _ =>
  some true
def ann_tmpl_Template_Check : List (List Nat × Ann) := [([6], ⟨some ⟨(anyN 1 (.cons (.ptr 0 0) (anyN 6 (.cons (.keep (.list (.agg (.cons (.list (.agg (.cons tI (.cons tI tI)))) (.cons tI .bool))))) (.cons kI (.cons yI (anyN 49 .nil))))))), [.cells 36 true (.cons kS (.cons kI (.cons kI (.cons kI (.cons kS (.cons (.keep (.list (.agg (.cons (.list (.agg (.cons tI (.cons tI tI)))) (.cons tI .bool))))) .nil))))))], [], []⟩, [(.ret, ⟨(anyN 2 (.cons (.ty .bool) (anyN 57 .nil))), [.cells 36 true (.cons kS (.cons kI (.cons kI (.cons kI (.cons kS (.cons (.keep (.list (.agg (.cons (.list (.agg (.cons tI (.cons tI tI)))) (.cons tI .bool))))) .nil))))))], [], []⟩), (.exit 0, ⟨(anyN 60 .nil), [.cells 36 true (.cons kS (.cons kI (.cons kI (.cons kI (.cons kS (.cons (.keep (.list (.agg (.cons (.list (.agg (.cons tI (.cons tI tI)))) (.cons tI .bool))))) .nil))))))], [], []⟩)]⟩), ([28], ⟨some ⟨(anyN 1 (.cons (.ptr 0 0) (anyN 6 (.cons (.keep (.list (.agg (.cons (.list (.agg (.cons tI (.cons tI tI)))) (.cons tI .bool))))) (.cons kI (.cons kI (anyN 8 (.cons (.keep (.list (.agg (.cons tI (.cons tI tI))))) (.cons kI (.cons yI (anyN 38 .nil))))))))))), [.cells 36 true (.cons kS (.cons kI (.cons kI (.cons kI (.cons kS (.cons (.keep (.list (.agg (.cons (.list (.agg (.cons tI (.cons tI tI)))) (.cons tI .bool))))) .nil)))))), .cells 69 true (.cons (.keep (.list (.agg (.cons tI (.cons tI tI))))) (.cons kI (.cons kB .nil)))], [], []⟩, [(.ret, ⟨(anyN 2 (.cons (.ty .bool) (anyN 57 .nil))), [.cells 36 true (.cons kS (.cons kI (.cons kI (.cons kI (.cons kS (.cons (.keep (.list (.agg (.cons (.list (.agg (.cons tI (.cons tI tI)))) (.cons tI .bool))))) .nil)))))), .cells 69 true (.cons (.keep (.list (.agg (.cons tI (.cons tI tI))))) (.cons kI (.cons kB .nil)))], [], []⟩), (.exit 2, ⟨(anyN 1 (.cons (.ptr 0 0) (anyN 6 (.cons (.keep (.list (.agg (.cons (.list (.agg (.cons tI (.cons tI tI)))) (.cons tI .bool))))) (.cons kI (.cons kI (anyN 49 .nil))))))), [.cells 36 true (.cons kS (.cons kI (.cons kI (.cons kI (.cons kS (.cons (.keep (.list (.agg (.cons (.list (.agg (.cons tI (.cons tI tI)))) (.cons tI .bool))))) .nil)))))), .cells 69 true (.cons (.keep (.list (.agg (.cons tI (.cons tI tI))))) (.cons kI (.cons kB .nil)))], [], []⟩)]⟩)]
def cfg_tmpl_Template_Check : SCfg := SCfg.of ([] ++ inlL) ann_tmpl_Template_Check keepL
theorem eq_tmpl_Template_Check (x : HL [(.agg (.cons .str (.cons tI (.cons tI (.cons tI (.cons .str (.list (.agg (.cons (.list (.agg (.cons tI (.cons tI tI)))) (.cons tI .bool))))))))))]) : fnK cfg_tmpl_Template_Check Try.prog 100000 18 [(.agg (.cons .str (.cons tI (.cons tI (.cons tI (.cons .str (.list (.agg (.cons (.list (.agg (.cons tI (.cons tI tI)))) (.cons tI .bool))))))))))] [.bool] x = (fun x => F_tmpl_Template_Check x) x := by kernel_rfl
theorem told_tmpl_Template_Check : Told CC Try.prog 18 [(.agg (.cons .str (.cons tI (.cons tI (.cons tI (.cons .str (.list (.agg (.cons (.list (.agg (.cons tI (.cons tI tI)))) (.cons tI .bool))))))))))] [.bool] (fun x => F_tmpl_Template_Check x) := told_of (gok (an := ann_tmpl_Template_Check) (fs := []) trivial) rfl rfl eq_tmpl_Template_Check
def step_ref10_Small_0 (s_1 : List UInt8 × Int × Int × List (List UInt8) × Int) : Int → Option (Int ⊕ (Bool ⊕ Unit)) := fun i_2 =>
 if decide (i_2 < (↑(List.length s_1.2.2.2.1) : Int)) = true then
  natOf i_2 fun n3 =>
  bnd (s_1.2.2.2.1[n3]?) fun x4 =>
  if decide (2000 < (↑(List.length x4) : Int)) = false then
   if decide (60 < (↑(List.length s_1.2.2.2.1) : Int)) = true then
    g5 s_1 <|
    some (.inr (.inl false))
   else
    g5 s_1 <|
    some (.inl (IntKind.i64.wrap (i_2 + 1)))
  else
   g5 s_1 <|
   some (.inr (.inl false))
 else
  g5 s_1 <|
  some (.inr (.inr (())))
def F_ref10_Small (s_1 : (List UInt8 × (Int × (Int × (List (List UInt8) × Int))))) : Option (Bool) :=
 bnd (loopS (step_ref10_Small_0 s_1) 0) fun o5 =>
 match o5 with
 | .inl s2_6 =>
  some s2_6
 | .inr _ =>
  some (decide ((↑(List.length s_1.1) : Int) ≤ 300))
def ann_ref10_Small : List (List Nat × Ann) := [([6], ⟨some ⟨(anyN 1 (.cons (.ptr 0 0) (anyN 1 (.cons yI (anyN 25 .nil))))), [.cells 27 true (.cons kS (.cons kI (.cons kI (.cons (.keep (.list .str)) (.cons kI .nil)))))], [], []⟩, [(.ret, ⟨(anyN 2 (.cons (.ty .bool) (anyN 26 .nil))), [.cells 27 true (.cons kS (.cons kI (.cons kI (.cons (.keep (.list .str)) (.cons kI .nil)))))], [], []⟩), (.exit 0, ⟨(anyN 1 (.cons (.ptr 0 0) (anyN 27 .nil))), [.cells 27 true (.cons kS (.cons kI (.cons kI (.cons (.keep (.list .str)) (.cons kI .nil)))))], [], []⟩)]⟩)]
def cfg_ref10_Small : SCfg := SCfg.of ([] ++ inlL) ann_ref10_Small keepL
theorem eq_ref10_Small (x : HL [(.agg (.cons .str (.cons tI (.cons tI (.cons (.list .str) tI)))))]) : fnK cfg_ref10_Small Try.prog 100000 26 [(.agg (.cons .str (.cons tI (.cons tI (.cons (.list .str) tI)))))] [.bool] x = (fun x => F_ref10_Small x) x := by kernel_rfl
theorem told_ref10_Small : Told CC Try.prog 26 [(.agg (.cons .str (.cons tI (.cons tI (.cons (.list .str) tI)))))] [.bool] (fun x => F_ref10_Small x) := told_of (gok (an := ann_ref10_Small) (fs := []) trivial) rfl rfl eq_ref10_Small
def step_ref17_Small_0 (c_1 : List (List UInt8 × Int × Int × List (List UInt8) × Int × Int) × Int × List UInt8 × List UInt8 × Int × Int × List (List UInt8) × Int × Int) : Int → Option (Int ⊕ (Bool ⊕ Unit)) := fun i_2 =>
 if decide (i_2 < (↑(List.length c_1.1) : Int)) = true then
  natOf i_2 fun n3 =>
  bnd (c_1.1[n3]?) fun x4 =>
  bnd (F_ref10_Small (x4.1, x4.2.1, x4.2.2.1, x4.2.2.2.1, x4.2.2.2.2.1)) fun v5 =>
  if (!v5) = true then
   g9 c_1 <|
   some (.inr (.inl false))
  else
   g9 c_1 <|
   some (.inl (IntKind.i64.wrap (i_2 + 1)))
 else
  g9 c_1 <|
  some (.inr (.inr (())))
def F_ref17_Small (c_1 : (List ((List UInt8 × (Int × (Int × (List (List UInt8) × (Int × Int)))))) × (Int × (List UInt8 × (List UInt8 × (Int × (Int × (List (List UInt8) × (Int × Int))))))))) : Option (Bool) :=
 bnd (loopS (step_ref17_Small_0 c_1) 0) fun o6 =>
 match o6 with
 | .inl s2_7 =>
  some s2_7
 | .inr _ =>
  if decide ((↑(List.length c_1.1) : Int) ≤ 12) = true then
   bnd (F_ref10_Small (c_1.2.2.2.1, c_1.2.2.2.2.1, c_1.2.2.2.2.2.1, c_1.2.2.2.2.2.2.1, c_1.2.2.2.2.2.2.2.1)) fun v8 =>
   some v8
  else
   some false
def ann_ref17_Small : List (List Nat × Ann) := [([6], ⟨some ⟨(anyN 1 (.cons (.ptr 0 0) (anyN 1 (.cons yI (anyN 25 .nil))))), [.cells 31 true (.cons (.keep (.list (.agg (.cons .str (.cons tI (.cons tI (.cons (.list .str) (.cons tI tI)))))))) (.cons kI (.cons kS (.cons kS (.cons kI (.cons kI (.cons (.keep (.list .str)) (.cons kI (.cons kI .nil)))))))))], [], []⟩, [(.ret, ⟨(anyN 2 (.cons (.ty .bool) (anyN 26 .nil))), [.cells 31 true (.cons (.keep (.list (.agg (.cons .str (.cons tI (.cons tI (.cons (.list .str) (.cons tI tI)))))))) (.cons kI (.cons kS (.cons kS (.cons kI (.cons kI (.cons (.keep (.list .str)) (.cons kI (.cons kI .nil)))))))))], [], []⟩), (.exit 0, ⟨(anyN 1 (.cons (.ptr 0 0) (anyN 27 .nil))), [.cells 31 true (.cons (.keep (.list (.agg (.cons .str (.cons tI (.cons tI (.cons (.list .str) (.cons tI tI)))))))) (.cons kI (.cons kS (.cons kS (.cons kI (.cons kI (.cons (.keep (.list .str)) (.cons kI (.cons kI .nil)))))))))], [], []⟩)]⟩)]
@[reducible] def fs_ref17_Small : List (Nat × SFn) := [(26, .pure [(.agg (.cons .str (.cons tI (.cons tI (.cons (.list .str) tI)))))] [.bool] (fun x => F_ref10_Small x))]
def cfg_ref17_Small : SCfg := SCfg.of (fs_ref17_Small ++ inlL) ann_ref17_Small keepL
theorem eq_ref17_Small (x : HL [(.agg (.cons (.list (.agg (.cons .str (.cons tI (.cons tI (.cons (.list .str) (.cons tI tI))))))) (.cons tI (.cons .str (.cons .str (.cons tI (.cons tI (.cons (.list .str) (.cons tI tI)))))))))]) : fnK cfg_ref17_Small Try.prog 100000 9 [(.agg (.cons (.list (.agg (.cons .str (.cons tI (.cons tI (.cons (.list .str) (.cons tI tI))))))) (.cons tI (.cons .str (.cons .str (.cons tI (.cons tI (.cons (.list .str) (.cons tI tI)))))))))] [.bool] x = (fun x => F_ref17_Small x) x := by kernel_rfl
theorem told_ref17_Small : Told CC Try.prog 9 [(.agg (.cons (.list (.agg (.cons .str (.cons tI (.cons tI (.cons (.list .str) (.cons tI tI))))))) (.cons tI (.cons .str (.cons .str (.cons tI (.cons tI (.cons (.list .str) (.cons tI tI)))))))))] [.bool] (fun x => F_ref17_Small x) := told_of (gok (an := ann_ref17_Small) (fs := fs_ref17_Small) ⟨told_ref10_Small, trivial⟩) rfl rfl eq_ref17_Small
def F_tmpl_in (n_1 : Int) (most_2 : Int) : Option (Bool) :=
 if decide (0 ≤ n_1) = true then
  some (decide (n_1 ≤ most_2))
 else
  some false
def ann_tmpl_in : List (List Nat × Ann) := []
def cfg_tmpl_in : SCfg := SCfg.of ([] ++ inlL) ann_tmpl_in keepL
theorem eq_tmpl_in (x : HL [tI, tI]) : fnK cfg_tmpl_in Try.prog 100000 27 [tI, tI] [.bool] x = (fun x => F_tmpl_in x.1 x.2) x := by kernel_rfl
theorem told_tmpl_in : Told CC Try.prog 27 [tI, tI] [.bool] (fun x => F_tmpl_in x.1 x.2) := told_of (gok (an := ann_tmpl_in) (fs := []) trivial) rfl rfl eq_tmpl_in
def F_ref12_Time (n_1 : Int) : Option (Bool) :=
 if decide (0 ≤ n_1) = true then
  some (decide (n_1 ≤ 1099511627776))
 else
  some false
def ann_ref12_Time : List (List Nat × Ann) := []
def cfg_ref12_Time : SCfg := SCfg.of ([] ++ inlL) ann_ref12_Time keepL
theorem eq_ref12_Time (x : HL [tI]) : fnK cfg_ref12_Time Try.prog 100000 30 [tI] [.bool] x = (fun x => F_ref12_Time x) x := by kernel_rfl
theorem told_ref12_Time : Told CC Try.prog 30 [tI] [.bool] (fun x => F_ref12_Time x) := told_of (gok (an := ann_ref12_Time) (fs := []) trivial) rfl rfl eq_ref12_Time
def step_ref01_Put_0 (n_1 : Int) (size_2 : Int) : (List (Int) × Int) → Option ((List (Int) × Int) ⊕ List (Int)) := fun (b_5, i_6) =>
 if decide (0 ≤ i_6) = true then
  natOf (IntKind.i64.wrap (8 * i_6)) fun n7 =>
  grd ((b_5.length + [IntKind.u8.wrap (bits BinOp.and IntKind.i64 (n_1.fdiv (2 ^ min n7 64)) 255)].length) * 1 ≤ roomLim) <|
  gq n_1 <| gq size_2 <|
  some (.inl ((b_5 ++ [IntKind.u8.wrap (bits BinOp.and IntKind.i64 (n_1.fdiv (2 ^ min n7 64)) 255)], IntKind.i64.wrap (i_6 - 1))))
 else
  gq n_1 <| gq size_2 <|
  some (.inr b_5)
def F_ref01_Put (n_1 : Int) (size_2 : Int) : Option (List UInt8) :=
 bnd (α := (List UInt8 ⊕ Unit)) (if decide (size_2 < 1) = false then
   if decide (4 < size_2) = false then
    if decide (n_1 < 0) = true then
     some (.inl ([]))
    else
     gq n_1 <| gq size_2 <|
     some (.inr (()))
   else
    some (.inl ([]))
  else
   some (.inl ([]))) fun o3 =>
 match o3 with
 | .inl s4_4 =>
  some s4_4
 | .inr _ =>
  bnd (loopS (step_ref01_Put_0 n_1 size_2) (([], IntKind.i64.wrap (size_2 - 1)))) fun b_8 =>
  natOf (IntKind.i64.wrap (8 * size_2)) fun n9 =>
  if decide (0 < n_1.fdiv (2 ^ min n9 64)) = true then
   some ([])
  else
   some (List.map (fun n => UInt8.ofNat (Int.toNat n)) b_8)
def ann_ref01_Put : List (List Nat × Ann) := [([2], ⟨none, [(.ret, ⟨(anyN 4 (.cons (.ty .str) (anyN 34 .nil))), [], [], []⟩), (.normal, ⟨(.cons kI (.cons kI (anyN 37 .nil))), [], [], []⟩)]⟩), ([16], ⟨some ⟨(.cons kI (.cons kI (anyN 3 (.cons (.own (.int .u8) 0 true) (.cons yI (anyN 32 .nil)))))), [], [⟨⟨0, (.int .u8), 5, false, false⟩, true⟩], []⟩, [(.exit 0, ⟨(.cons kI (.cons kI (anyN 3 (.cons (.own (.int .u8) 0 true) (anyN 33 .nil))))), [], [⟨⟨1, (.int .u8), 5, false, false⟩, true⟩], []⟩)]⟩)]
def cfg_ref01_Put : SCfg := SCfg.of ([] ++ inlL) ann_ref01_Put keepL
theorem eq_ref01_Put (x : HL [tI, tI]) : fnK cfg_ref01_Put Try.prog 100000 41 [tI, tI] [.str] x = (fun x => F_ref01_Put x.1 x.2) x := by kernel_rfl
theorem told_ref01_Put : Told CC Try.prog 41 [tI, tI] [.str] (fun x => F_ref01_Put x.1 x.2) := told_of (gok (an := ann_ref01_Put) (fs := []) trivial) rfl rfl eq_ref01_Put
def F_ref10_small (n_1 : Int) : Option (Bool) :=
 if decide (0 ≤ n_1) = true then
  some (decide (n_1 ≤ 65535))
 else
  some false
def ann_ref10_small : List (List Nat × Ann) := []
def cfg_ref10_small : SCfg := SCfg.of ([] ++ inlL) ann_ref10_small keepL
theorem eq_ref10_small (x : HL [tI]) : fnK cfg_ref10_small Try.prog 100000 53 [tI] [.bool] x = (fun x => F_ref10_small x) x := by kernel_rfl
theorem told_ref10_small : Told CC Try.prog 53 [tI] [.bool] (fun x => F_ref10_small x) := told_of (gok (an := ann_ref10_small) (fs := []) trivial) rfl rfl eq_ref10_small
def F_age_within_int (n_1 : Int) (most_2 : Int) : Option (Bool) :=
 if decide (0 ≤ n_1) = true then
  some (decide (n_1 ≤ most_2))
 else
  some false
def ann_age_within_int : List (List Nat × Ann) := []
def cfg_age_within_int : SCfg := SCfg.of ([] ++ inlL) ann_age_within_int keepL
theorem eq_age_within_int (x : HL [tI, tI]) : fnK cfg_age_within_int Try.prog 100000 55 [tI, tI] [.bool] x = (fun x => F_age_within_int x.1 x.2) x := by kernel_rfl
theorem told_age_within_int : Told CC Try.prog 55 [tI, tI] [.bool] (fun x => F_age_within_int x.1 x.2) := told_of (gok (an := ann_age_within_int) (fs := []) trivial) rfl rfl eq_age_within_int
def F_age_Live (now_1 : Int) (until_2 : Int) : Option (Bool) :=
 bnd (F_age_within_int now_1 1099511627776) fun v3 =>
 if v3 = true then
  some (decide (now_1 < until_2))
 else
  some false
def ann_age_Live : List (List Nat × Ann) := []
@[reducible] def fs_age_Live : List (Nat × SFn) := [(55, .pure [tI, tI] [.bool] (fun x => F_age_within_int x.1 x.2))]
def cfg_age_Live : SCfg := SCfg.of (fs_age_Live ++ inlL) ann_age_Live keepL
theorem eq_age_Live (x : HL [tI, tI]) : fnK cfg_age_Live Try.prog 100000 33 [tI, tI] [.bool] x = (fun x => F_age_Live x.1 x.2) x := by kernel_rfl
theorem told_age_Live : Told CC Try.prog 33 [tI, tI] [.bool] (fun x => F_age_Live x.1 x.2) := told_of (gok (an := ann_age_Live) (fs := fs_age_Live) ⟨told_age_within_int, trivial⟩) rfl rfl eq_age_Live
def step_tmpl_Template_Live_0 (t_1 : List UInt8 × Int × Int × Int × List UInt8 × List (List (Int × Int × Int) × Int × Bool)) (now_2 : Int) : Int → Option (Int ⊕ (Bool ⊕ Unit)) := fun s10_3 =>
 if decide (s10_3 < (↑(List.length t_1.2.2.2.2.2) : Int)) = true then
  natOf s10_3 fun n4 =>
  bnd (t_1.2.2.2.2.2[n4]?) fun x5 =>
  bnd (F_age_Live now_2 x5.2.1) fun v6 =>
  if (!v6) = true then
   g6 t_1 <|
   some (.inr (.inl false))
  else
   gq now_2 <| gq t_1.2.2.2.2.2 <|
   grdEq ((↑(List.length t_1.2.2.2.2.2) : Int)) ((↑(List.length t_1.2.2.2.2.2) : Int)) <|
   g6 t_1 <|
   some (.inl (IntKind.i64.wrap (s10_3 + 1)))
 else
  gq now_2 <| g6 t_1 <|
  some (.inr (.inr (())))
def F_tmpl_Template_Live (t_1 : (List UInt8 × (Int × (Int × (Int × (List UInt8 × List ((List ((Int × (Int × Int))) × (Int × Bool))))))))) (now_2 : Int) : Option (Bool) :=
 bnd (loopS (step_tmpl_Template_Live_0 t_1 now_2) 0) fun o7 =>
 match o7 with
 | .inl s4_8 =>
  some s4_8
 | .inr _ =>
  bnd (F_tmpl_in now_2 1099511627776) fun v9 =>
  some v9
def ann_tmpl_Template_Live : List (List Nat × Ann) := [([6], ⟨some ⟨(anyN 1 (.cons kI (anyN 6 (.cons (.keep (.list (.agg (.cons (.list (.agg (.cons tI (.cons tI tI)))) (.cons tI .bool))))) (.cons kI (.cons yI (anyN 11 .nil))))))), [.cells 36 true (.cons kS (.cons kI (.cons kI (.cons kI (.cons kS (.cons (.keep (.list (.agg (.cons (.list (.agg (.cons tI (.cons tI tI)))) (.cons tI .bool))))) .nil))))))], [], []⟩, [(.ret, ⟨(anyN 4 (.cons (.ty .bool) (anyN 17 .nil))), [.cells 36 true (.cons kS (.cons kI (.cons kI (.cons kI (.cons kS (.cons (.keep (.list (.agg (.cons (.list (.agg (.cons tI (.cons tI tI)))) (.cons tI .bool))))) .nil))))))], [], []⟩), (.exit 0, ⟨(anyN 1 (.cons kI (anyN 20 .nil))), [.cells 36 true (.cons kS (.cons kI (.cons kI (.cons kI (.cons kS (.cons (.keep (.list (.agg (.cons (.list (.agg (.cons tI (.cons tI tI)))) (.cons tI .bool))))) .nil))))))], [], []⟩)]⟩)]
@[reducible] def fs_tmpl_Template_Live : List (Nat × SFn) := [(33, .pure [tI, tI] [.bool] (fun x => F_age_Live x.1 x.2)), (27, .pure [tI, tI] [.bool] (fun x => F_tmpl_in x.1 x.2))]
def cfg_tmpl_Template_Live : SCfg := SCfg.of (fs_tmpl_Template_Live ++ inlL) ann_tmpl_Template_Live keepL
theorem eq_tmpl_Template_Live (x : HL [(.agg (.cons .str (.cons tI (.cons tI (.cons tI (.cons .str (.list (.agg (.cons (.list (.agg (.cons tI (.cons tI tI)))) (.cons tI .bool)))))))))), tI]) : fnK cfg_tmpl_Template_Live Try.prog 100000 20 [(.agg (.cons .str (.cons tI (.cons tI (.cons tI (.cons .str (.list (.agg (.cons (.list (.agg (.cons tI (.cons tI tI)))) (.cons tI .bool)))))))))), tI] [.bool] x = (fun x => F_tmpl_Template_Live x.1 x.2) x := by kernel_rfl
theorem told_tmpl_Template_Live : Told CC Try.prog 20 [(.agg (.cons .str (.cons tI (.cons tI (.cons tI (.cons .str (.list (.agg (.cons (.list (.agg (.cons tI (.cons tI tI)))) (.cons tI .bool)))))))))), tI] [.bool] (fun x => F_tmpl_Template_Live x.1 x.2) := told_of (gok (an := ann_tmpl_Template_Live) (fs := fs_tmpl_Template_Live) ⟨told_age_Live, told_tmpl_in, trivial⟩) rfl rfl eq_tmpl_Template_Live
def F_age_Left (now_1 : Int) (until_2 : Int) : Option (Int) :=
 bnd (F_age_Live now_1 until_2) fun v3 =>
 if (!v3) = true then
  some 0
 else
  some (if 604800 < IntKind.i64.wrap (until_2 - now_1) then 604800 else IntKind.i64.wrap (until_2 - now_1))
def ann_age_Left : List (List Nat × Ann) := []
@[reducible] def fs_age_Left : List (Nat × SFn) := [(33, .pure [tI, tI] [.bool] (fun x => F_age_Live x.1 x.2))]
def cfg_age_Left : SCfg := SCfg.of (fs_age_Left ++ inlL) ann_age_Left keepL
theorem eq_age_Left (x : HL [tI, tI]) : fnK cfg_age_Left Try.prog 100000 36 [tI, tI] [tI] x = (fun x => F_age_Left x.1 x.2) x := by kernel_rfl
theorem told_age_Left : Told CC Try.prog 36 [tI, tI] [tI] (fun x => F_age_Left x.1 x.2) := told_of (gok (an := ann_age_Left) (fs := fs_age_Left) ⟨told_age_Live, trivial⟩) rfl rfl eq_age_Left
def F_octet_sized (size_1 : Int) : Option (Bool) :=
 if decide (1 ≤ size_1) = true then
  some (decide (size_1 ≤ 4))
 else
  some false
def ann_octet_sized : List (List Nat × Ann) := []
def cfg_octet_sized : SCfg := SCfg.of ([] ++ inlL) ann_octet_sized keepL
theorem eq_octet_sized (x : HL [tI]) : fnK cfg_octet_sized Try.prog 100000 56 [tI] [.bool] x = (fun x => F_octet_sized x) x := by kernel_rfl
theorem told_octet_sized : Told CC Try.prog 56 [tI] [.bool] (fun x => F_octet_sized x) := told_of (gok (an := ann_octet_sized) (fs := []) trivial) rfl rfl eq_octet_sized
end
end Go.Abs

set_option maxRecDepth 100000
namespace Go.Abs
open Go Go.Proofs
noncomputable section
def step_octet_Put_0 (n_1 : Int) (size_2 : Int) : (List (Int) × Int) → Option ((List (Int) × Int) ⊕ List (Int)) := fun (b_7, s24_8) =>
 if decide (s24_8 < size_2) = true then
  natOf (IntKind.i64.wrap (8 * s24_8)) fun n9 =>
  natOf (IntKind.i64.wrap (IntKind.i64.wrap (size_2 - 1) - s24_8)) fun n10 =>
  bnd (b_7[n10]?) fun x11 =>
  gq n_1 <| gq size_2 <| gq size_2 <|
  some (.inl ((b_7.set n10 (IntKind.u8.wrap (n_1.fdiv (2 ^ min n9 64))), IntKind.i64.wrap (s24_8 + 1))))
 else
  some (.inr b_7)
def F_octet_Put (n_1 : Int) (size_2 : Int) : Option (List UInt8) :=
 bnd (α := (List UInt8 ⊕ Unit)) (bnd (F_octet_sized size_2) fun v3 =>
  if (!v3) = false then
   if decide (n_1 < 0) = false then
    natOf (IntKind.i64.wrap (8 * size_2)) fun n4 =>
    if (n_1.fdiv (2 ^ min n4 64) != 0) = true then
     some (.inl ([]))
    else
     gq n_1 <| gq size_2 <|
     some (.inr (()))
   else
    some (.inl ([]))
  else
   some (.inl ([]))) fun o5 =>
 match o5 with
 | .inl s4_6 =>
  some s4_6
 | .inr _ =>
  grd (0 ≤ size_2 ∧ size_2 ≤ size_2 ∧ size_2 ≤ 9223372036854775807 ∧ 1 * size_2 ≤ 281474976710656) <|
  bnd (loopS (step_octet_Put_0 n_1 size_2) ((List.replicate size_2.toNat 0, 0))) fun b_12 =>
  some (List.map (fun n => UInt8.ofNat (Int.toNat n)) b_12)
def ann_octet_Put : List (List Nat × Ann) := [([2], ⟨none, [(.ret, ⟨(anyN 4 (.cons (.ty .str) (anyN 36 .nil))), [], [], []⟩), (.normal, ⟨(.cons kI (.cons kI (anyN 39 .nil))), [], [], []⟩)]⟩), ([16], ⟨some ⟨(.cons kI (.cons kI (anyN 3 (.cons (.own (.int .u8) 0 true) (anyN 17 (.cons kI (.cons yI (anyN 16 .nil)))))))), [], [⟨⟨0, (.int .u8), 5, true, true⟩, false⟩], [0]⟩, [(.exit 0, ⟨(anyN 5 (.cons (.own (.int .u8) 0 true) (anyN 35 .nil))), [], [⟨⟨0, (.int .u8), 5, true, true⟩, false⟩], [0]⟩)]⟩)]
@[reducible] def fs_octet_Put : List (Nat × SFn) := [(56, .pure [tI] [.bool] (fun x => F_octet_sized x))]
def cfg_octet_Put : SCfg := SCfg.of (fs_octet_Put ++ inlL) ann_octet_Put keepL
theorem eq_octet_Put (x : HL [tI, tI]) : fnK cfg_octet_Put Try.prog 100000 35 [tI, tI] [.str] x = (fun x => F_octet_Put x.1 x.2) x := by kernel_rfl
theorem told_octet_Put : Told CC Try.prog 35 [tI, tI] [.str] (fun x => F_octet_Put x.1 x.2) := told_of (gok (an := ann_octet_Put) (fs := fs_octet_Put) ⟨told_octet_sized, trivial⟩) rfl rfl eq_octet_Put
def step_tmpl_Template_Part_0 (t_1 : List UInt8 × Int × Int × Int × List UInt8 × List (List (Int × Int × Int) × Int × Bool)) (x9 : ((tI.cons (tI.cons tI)).agg.list.cons (tI.cons Ty.bool)).agg.den) (at_11 : Int) (v13 : List UInt8) : (Int × List (Int)) → Option ((Int × List (Int)) ⊕ List (Int)) := fun (s8_14, b3b_15) =>
 if decide (s8_14 < (↑(List.length x9.1) : Int)) = true then
  if (↑(List.length x9.1) : Int) = 0 then
   none
  else
   natOf ((IntKind.i64.wrap (at_11 + s8_14)).tmod (↑(List.length x9.1) : Int)) fun n16 =>
   bnd (x9.1[n16]?) fun x17 =>
   natOf x17.2.2 fun n18 =>
   grd (n18 ≤ List.length t_1.2.2.2.2.1) <|
   natOf x17.1 fun n19 =>
   grd (n19 ≤ n18) <|
   grd ((b3b_15.length + (List.map (fun b => (↑b.toNat : Int)) (List.drop n19 (List.take n18 t_1.2.2.2.2.1))).length) * 1 ≤ roomLim) <|
   grd (((b3b_15 ++ List.map (fun b => (↑b.toNat : Int)) (List.drop n19 (List.take n18 t_1.2.2.2.2.1))).length + (List.map (fun b => (↑b.toNat : Int)) v13).length) * 1 ≤ roomLim) <|
   natOf x17.2.1 fun n20 =>
   grd (n20 ≤ List.length t_1.2.2.2.2.1) <|
   natOf (IntKind.i64.wrap (x17.2.2 + 4)) fun n21 =>
   grd (n21 ≤ n20) <|
   grd (((b3b_15 ++ List.map (fun b => (↑b.toNat : Int)) (List.drop n19 (List.take n18 t_1.2.2.2.2.1)) ++ List.map (fun b => (↑b.toNat : Int)) v13).length + (List.map (fun b => (↑b.toNat : Int)) (List.drop n21 (List.take n20 t_1.2.2.2.2.1))).length) * 1 ≤ roomLim) <|
   grdEq ((↑(List.length x9.1) : Int)) ((↑(List.length x9.1) : Int)) <|
   g6 t_1 <| g3 x9 <| gq v13 <| g3 x9 <| gq at_11 <|
   some (.inl ((IntKind.i64.wrap (s8_14 + 1), b3b_15 ++ List.map (fun b => (↑b.toNat : Int)) (List.drop n19 (List.take n18 t_1.2.2.2.2.1)) ++ List.map (fun b => (↑b.toNat : Int)) v13 ++ List.map (fun b => (↑b.toNat : Int)) (List.drop n21 (List.take n20 t_1.2.2.2.2.1)))))
 else
  g6 t_1 <| g3 x9 <| gq v13 <| g3 x9 <| gq at_11 <|
  some (.inr b3b_15)
def F_tmpl_Template_Part (t_1 : (List UInt8 × (Int × (Int × (Int × (List UInt8 × List ((List ((Int × (Int × Int))) × (Int × Bool))))))))) (i_2 : Int) (now_3 : Int) (turn_4 : Int) : Option (List UInt8) :=
 bnd (α := (List UInt8 ⊕ Unit)) (if decide (i_2 < 0) = false then
   if decide ((↑(List.length t_1.2.2.2.2.2) : Int) ≤ i_2) = false then
    if decide (turn_4 < 0) = false then
     bnd (F_tmpl_Template_Check (t_1.1, t_1.2.1, t_1.2.2.1, t_1.2.2.2.1, t_1.2.2.2.2.1, t_1.2.2.2.2.2)) fun v5 =>
     if (!v5) = true then
      g6 t_1 <|
      some (.inl ([]))
     else
      gq i_2 <| gq now_3 <| gq turn_4 <| g6 t_1 <|
      some (.inr (()))
    else
     g6 t_1 <|
     some (.inl ([]))
   else
    g6 t_1 <|
    some (.inl ([]))
  else
   g6 t_1 <|
   some (.inl ([]))) fun o6 =>
 match o6 with
 | .inl s8_7 =>
  some s8_7
 | .inr _ =>
  natOf i_2 fun n8 =>
  bnd (t_1.2.2.2.2.2[n8]?) fun x9 =>
  bnd (F_age_Live now_3 x9.2.1) fun v10 =>
  if (!v10) = true then
   some ([])
  else
   if (↑(List.length x9.1) : Int) = 0 then
    none
   else
    bnd (α := Int) (if x9.2.2 = true then
      gq now_3 <| g6 t_1 <| g3 x9 <|
      some 0
     else
      gq now_3 <| g6 t_1 <| g3 x9 <|
      some (turn_4.tmod (↑(List.length x9.1) : Int))) fun at_11 =>
    bnd (F_age_Left now_3 x9.2.1) fun v12 =>
    bnd (F_octet_Put v12 4) fun v13 =>
    bnd (loopS (step_tmpl_Template_Part_0 t_1 x9 at_11 v13) ((0, []))) fun b3b_22 =>
    grd (b3b_22.length ≤ 9223372036854775807) <|
    grd (∀ (n : (Ty.int IntKind.u8).den), n ∈ b3b_22 → 0 ≤ n ∧ n < 256) <|
    some (List.map (fun n => UInt8.ofNat (Int.toNat n)) b3b_22)
def ann_tmpl_Template_Part : List (List Nat × Ann) := [([2], ⟨none, [(.ret, ⟨(anyN 8 (.cons (.ty .str) (anyN 69 .nil))), [.cells 36 true (.cons kS (.cons kI (.cons kI (.cons kI (.cons kS (.cons (.keep (.list (.agg (.cons (.list (.agg (.cons tI (.cons tI tI)))) (.cons tI .bool))))) .nil))))))], [], []⟩), (.normal, ⟨(anyN 1 (.cons kI (.cons kI (.cons kI (.cons (.ptr 0 0) (anyN 73 .nil)))))), [.cells 36 true (.cons kS (.cons kI (.cons kI (.cons kI (.cons kS (.cons (.keep (.list (.agg (.cons (.list (.agg (.cons tI (.cons tI tI)))) (.cons tI .bool))))) .nil))))))], [], []⟩)]⟩), ([22], ⟨none, [(.normal, ⟨(anyN 2 (.cons kI (anyN 1 (.cons (.ptr 0 0) (anyN 4 (.cons (.ptr 1 0) (.cons yI (anyN 67 .nil)))))))), [.cells 36 true (.cons kS (.cons kI (.cons kI (.cons kI (.cons kS (.cons (.keep (.list (.agg (.cons (.list (.agg (.cons tI (.cons tI tI)))) (.cons tI .bool))))) .nil)))))), .cells 69 true (.cons (.keep (.list (.agg (.cons tI (.cons tI tI))))) (.cons kI (.cons kB .nil)))], [], []⟩)]⟩), ([3, 57, 0, 36], ⟨some ⟨(.cons .yld (.cons (.ptr 4 0) (.cons (.ptr 5 0) (anyN 4 (.cons kI (.cons yI (anyN 17 .nil))))))), [.cells 36 true (.cons kS (.cons kI (.cons kI (.cons kI (.cons kS (.cons (.keep (.list (.agg (.cons (.list (.agg (.cons tI (.cons tI tI)))) (.cons tI .bool))))) .nil)))))), .cells 69 true (.cons (.keep (.list (.agg (.cons tI (.cons tI tI))))) (.cons kI (.cons kB .nil))), .cells 9 true (.cons kS .nil), .cells 86 true (.cons (.adr 3 0) (.cons (.own (.int .u8) 0 true) .nil)), .cells 69 true (.cons (.keep (.list (.agg (.cons tI (.cons tI tI))))) (.cons kI (.cons kB .nil))), .cells 3 true (.cons kI .nil)], [⟨⟨0, (.int .u8), 5, false, false⟩, true⟩], []⟩, [(.exit 0, ⟨(anyN 26 .nil), [.cells 36 true (.cons kS (.cons kI (.cons kI (.cons kI (.cons kS (.cons (.keep (.list (.agg (.cons (.list (.agg (.cons tI (.cons tI tI)))) (.cons tI .bool))))) .nil)))))), .cells 69 true (.cons (.keep (.list (.agg (.cons tI (.cons tI tI))))) (.cons kI (.cons kB .nil))), .cells 9 true (.cons kS .nil), .cells 86 true (.cons (.adr 3 0) (.cons (.own (.int .u8) 0 true) .nil)), .cells 69 true (.cons (.keep (.list (.agg (.cons tI (.cons tI tI))))) (.cons kI (.cons kB .nil))), .cells 3 true (.cons kI .nil)], [⟨⟨1, (.int .u8), 5, false, false⟩, true⟩], []⟩)]⟩)]
@[reducible] def fs_tmpl_Template_Part : List (Nat × SFn) := [(18, .pure [(.agg (.cons .str (.cons tI (.cons tI (.cons tI (.cons .str (.list (.agg (.cons (.list (.agg (.cons tI (.cons tI tI)))) (.cons tI .bool))))))))))] [.bool] (fun x => F_tmpl_Template_Check x)), (33, .pure [tI, tI] [.bool] (fun x => F_age_Live x.1 x.2)), (36, .pure [tI, tI] [tI] (fun x => F_age_Left x.1 x.2)), (35, .pure [tI, tI] [.str] (fun x => F_octet_Put x.1 x.2))]
def cfg_tmpl_Template_Part : SCfg := SCfg.of (fs_tmpl_Template_Part ++ inlL) ann_tmpl_Template_Part keepL
theorem eq_tmpl_Template_Part (x : HL [(.agg (.cons .str (.cons tI (.cons tI (.cons tI (.cons .str (.list (.agg (.cons (.list (.agg (.cons tI (.cons tI tI)))) (.cons tI .bool)))))))))), tI, tI, tI]) : fnK cfg_tmpl_Template_Part Try.prog 100000 22 [(.agg (.cons .str (.cons tI (.cons tI (.cons tI (.cons .str (.list (.agg (.cons (.list (.agg (.cons tI (.cons tI tI)))) (.cons tI .bool)))))))))), tI, tI, tI] [.str] x = (fun x => F_tmpl_Template_Part x.1 x.2.1 x.2.2.1 x.2.2.2) x := by kernel_rfl
theorem told_tmpl_Template_Part : Told CC Try.prog 22 [(.agg (.cons .str (.cons tI (.cons tI (.cons tI (.cons .str (.list (.agg (.cons (.list (.agg (.cons tI (.cons tI tI)))) (.cons tI .bool)))))))))), tI, tI, tI] [.str] (fun x => F_tmpl_Template_Part x.1 x.2.1 x.2.2.1 x.2.2.2) := told_of (gok (an := ann_tmpl_Template_Part) (fs := fs_tmpl_Template_Part) ⟨told_tmpl_Template_Check, told_age_Live, told_age_Left, told_octet_Put, trivial⟩) rfl rfl eq_tmpl_Template_Part
def F_ref01_Take (s_1 : List UInt8) (at_2 : Int) (size_3 : Int) : Option ((List UInt8 × Bool)) :=
 if decide (at_2 < 0) = false then
  if decide (size_3 < 0) = false then
   if decide ((↑s_1.length : Int) < at_2) = false then
    if decide (IntKind.i64.wrap ((↑s_1.length : Int) - at_2) < size_3) = true then
     some (([], false))
    else
     natOf (IntKind.i64.wrap (at_2 + size_3)) fun n4 =>
     grd (n4 ≤ s_1.length) <|
     natOf at_2 fun n5 =>
     grd (n5 ≤ n4) <|
     some ((List.drop n5 (List.take n4 s_1), true))
   else
    some (([], false))
  else
   some (([], false))
 else
  some (([], false))
def ann_ref01_Take : List (List Nat × Ann) := []
def cfg_ref01_Take : SCfg := SCfg.of ([] ++ inlL) ann_ref01_Take keepL
theorem eq_ref01_Take (x : HL [.str, tI, tI]) : fnK cfg_ref01_Take Try.prog 100000 59 [.str, tI, tI] [.str, .bool] x = (fun x => F_ref01_Take x.1 x.2.1 x.2.2) x := by kernel_rfl
theorem told_ref01_Take : Told CC Try.prog 59 [.str, tI, tI] [.str, .bool] (fun x => F_ref01_Take x.1 x.2.1 x.2.2) := told_of (gok (an := ann_ref01_Take) (fs := []) trivial) rfl rfl eq_ref01_Take
def step_ref10_In_0 (l_1 : List (List UInt8)) (s_2 : List UInt8) : Int → Option (Int ⊕ (Bool ⊕ Unit)) := fun i_3 =>
 if decide (i_3 < (↑l_1.length : Int)) = true then
  natOf i_3 fun n4 =>
  bnd (l_1[n4]?) fun x5 =>
  if (x5 == s_2) = true then
   some (.inr (.inl true))
  else
   gq l_1 <| gq s_2 <|
   some (.inl (IntKind.i64.wrap (i_3 + 1)))
 else
  some (.inr (.inr (())))
def F_ref10_In (l_1 : List (List UInt8)) (s_2 : List UInt8) : Option (Bool) :=
 bnd (loopS (step_ref10_In_0 l_1 s_2) 0) fun o6 =>
 match o6 with
 | .inl s4_7 =>
  some s4_7
 | .inr _ =>
  some false
def ann_ref10_In : List (List Nat × Ann) := [([6], ⟨some ⟨(.cons (.keep (.list .str)) (.cons kS (anyN 3 (.cons yI (anyN 12 .nil))))), [], [], []⟩, [(.ret, ⟨(anyN 4 (.cons (.ty .bool) (anyN 13 .nil))), [], [], []⟩), (.exit 0, ⟨(anyN 18 .nil), [], [], []⟩)]⟩)]
def cfg_ref10_In : SCfg := SCfg.of ([] ++ inlL) ann_ref10_In keepL
theorem eq_ref10_In (x : HL [(.list .str), .str]) : fnK cfg_ref10_In Try.prog 100000 62 [(.list .str), .str] [.bool] x = (fun x => F_ref10_In x.1 x.2) x := by kernel_rfl
theorem told_ref10_In : Told CC Try.prog 62 [(.list .str), .str] [.bool] (fun x => F_ref10_In x.1 x.2) := told_of (gok (an := ann_ref10_In) (fs := []) trivial) rfl rfl eq_ref10_In
def step_name_split_0 : (List UInt8 × List (List UInt8)) → Option ((List UInt8 × List (List UInt8)) ⊕ (Bool ⊕ (List UInt8 × List (List UInt8)))) := fun (n_2, l_3) =>
 bnd (α := (List (List UInt8) ⊕ List (List UInt8))) (if decide (0 < (↑n_2.length : Int)) = true then
   if (!n_2 == [0]) = true then
    gq n_2 <|
    some (.inl l_3)
   else
    gq n_2 <|
    some (.inr l_3)
  else
   gq n_2 <|
   some (.inr l_3)) fun o4 =>
 match o4 with
 | .inl l_5 =>
  bnd (n_2[0]?) fun x6 =>
  bnd (α := (Bool ⊕ List (List UInt8))) (if decide (IntKind.i64.wrap (↑x6.toNat : Int) < 1) = false then
    if decide (63 < IntKind.i64.wrap (↑x6.toNat : Int)) = false then
     if decide ((↑n_2.length : Int) ≤ IntKind.i64.wrap (IntKind.i64.wrap (↑x6.toNat : Int) + 1)) = true then
      some (.inl false)
     else
      gq n_2 <|
      grdEq (IntKind.i64.wrap (↑x6.toNat : Int)) (IntKind.i64.wrap (↑x6.toNat : Int)) <|
      some (.inr l_5)
    else
     some (.inl false)
   else
    some (.inl false)) fun o7 =>
  match o7 with
  | .inl s3_8 =>
   some (.inr (.inl s3_8))
  | .inr l_9 =>
   natOf (IntKind.i64.wrap (1 + IntKind.i64.wrap (↑x6.toNat : Int))) fun n10 =>
   grd (n10 ≤ n_2.length) <|
   grd (1 ≤ n10) <|
   grd ((l_9.length + [List.drop 1 (List.take n10 n_2)].length) * 16 ≤ roomLim) <|
   natOf (IntKind.i64.wrap (1 + IntKind.i64.wrap (↑x6.toNat : Int))) fun n11 =>
   grd (n11 ≤ n_2.length) <|
   some (.inl ((List.drop n11 n_2, l_9 ++ [List.drop 1 (List.take n10 n_2)])))
 | .inr l_12 =>
  some (.inr (.inr ((n_2, l_12))))
def F_name_split (n_1 : List UInt8) : Option ((List (List UInt8) × Bool)) :=
 if decide (255 < (↑n_1.length : Int)) = true then
  some (([], false))
 else
  bnd (loopS step_name_split_0 ((n_1, []))) fun o13 =>
  match o13 with
  | .inl s3_14 =>
   some (([], s3_14))
  | .inr (n_15, l_16) =>
   some ((l_16, n_15 == [0]))
def ann_name_split : List (List Nat × Ann) := [([15], ⟨none, [(.normal, ⟨(.cons kS (anyN 3 (.cons (.own .str 0 true) (anyN 41 .nil)))), [], [⟨⟨0, .str, 9, true, true⟩, false⟩], []⟩), (.exit 0, ⟨(.cons kS (anyN 3 (.cons (.own .str 0 true) (anyN 41 .nil)))), [], [⟨⟨0, .str, 9, true, true⟩, false⟩], []⟩)]⟩), ([24], ⟨none, [(.ret, ⟨(anyN 2 (.cons .nill (.cons (.ty .bool) (anyN 42 .nil)))), [], [⟨⟨0, .str, 9, true, true⟩, false⟩], []⟩), (.normal, ⟨(.cons kS (anyN 3 (.cons (.own .str 0 true) (.cons kI (anyN 40 .nil))))), [], [⟨⟨0, .str, 9, true, true⟩, false⟩], []⟩)]⟩), ([14], ⟨some ⟨(.cons (.ty .str) (anyN 3 (.cons (.own .str 0 true) (anyN 41 .nil)))), [], [⟨⟨0, .str, 9, true, true⟩, true⟩], []⟩, [(.ret, ⟨(anyN 2 (.cons .nill (.cons (.ty .bool) (anyN 42 .nil)))), [], [⟨⟨0, .str, 9, true, true⟩, false⟩], []⟩), (.exit 0, ⟨(.cons (.ty .str) (anyN 3 (.cons (.own .str 0 true) (anyN 41 .nil)))), [], [⟨⟨0, .str, 9, true, true⟩, false⟩], []⟩)]⟩)]
def cfg_name_split : SCfg := SCfg.of ([] ++ inlL) ann_name_split keepL
theorem eq_name_split (x : HL [.str]) : fnK cfg_name_split Try.prog 100000 65 [.str] [(.list .str), .bool] x = (fun x => F_name_split x) x := by kernel_rfl
theorem told_name_split : Told CC Try.prog 65 [.str] [(.list .str), .bool] (fun x => F_name_split x) := told_of (gok (an := ann_name_split) (fs := []) trivial) rfl rfl eq_name_split
def F_name_Check (n_1 : List UInt8) : Option (Bool) :=
 bnd (F_name_split n_1) fun (v2, v3) =>
 some v3
def ann_name_Check : List (List Nat × Ann) := []
@[reducible] def fs_name_Check : List (Nat × SFn) := [(65, .pure [.str] [(.list .str), .bool] (fun x => F_name_split x))]
def cfg_name_Check : SCfg := SCfg.of (fs_name_Check ++ inlL) ann_name_Check keepL
theorem eq_name_Check (x : HL [.str]) : fnK cfg_name_Check Try.prog 100000 46 [.str] [.bool] x = (fun x => F_name_Check x) x := by kernel_rfl
theorem told_name_Check : Told CC Try.prog 46 [.str] [.bool] (fun x => F_name_Check x) := told_of (gok (an := ann_name_Check) (fs := fs_name_Check) ⟨told_name_split, trivial⟩) rfl rfl eq_name_Check
def F_group_in (n_1 : Int) (most_2 : Int) : Option (Bool) :=
 if decide (0 ≤ n_1) = true then
  some (decide (n_1 ≤ most_2))
 else
  some false
def ann_group_in : List (List Nat × Ann) := []
def cfg_group_in : SCfg := SCfg.of ([] ++ inlL) ann_group_in keepL
theorem eq_group_in (x : HL [tI, tI]) : fnK cfg_group_in Try.prog 100000 68 [tI, tI] [.bool] x = (fun x => F_group_in x.1 x.2) x := by kernel_rfl
theorem told_group_in : Told CC Try.prog 68 [tI, tI] [.bool] (fun x => F_group_in x.1 x.2) := told_of (gok (an := ann_group_in) (fs := []) trivial) rfl rfl eq_group_in
def step_ref02_Labels_0 (n_1 : List UInt8) : (List (List UInt8) × Int) → Option ((List (List UInt8) × Int) ⊕ ((List (List UInt8) × Bool) ⊕ Unit)) := fun (out_4, i_5) =>
 if decide (i_5 < (↑n_1.length : Int)) = true then
  natOf i_5 fun n6 =>
  bnd (n_1[n6]?) fun x7 =>
  if (IntKind.i64.wrap (↑x7.toNat : Int) == 0) = true then
   some (.inr (.inl ((out_4, i_5 == IntKind.i64.wrap ((↑n_1.length : Int) - 1)))))
  else
   bnd (α := (Bool ⊕ List (List UInt8))) (if decide (63 < IntKind.i64.wrap (↑x7.toNat : Int)) = false then
     if decide (IntKind.i64.wrap ((↑n_1.length : Int) - i_5) ≤ IntKind.i64.wrap (↑x7.toNat : Int)) = true then
      some (.inl false)
     else
      grdEq n_1 n_1 <|
      grdEq i_5 i_5 <|
      grdEq (IntKind.i64.wrap (↑x7.toNat : Int)) (IntKind.i64.wrap (↑x7.toNat : Int)) <|
      some (.inr out_4)
    else
     some (.inl false)) fun o8 =>
   match o8 with
   | .inl s3_9 =>
    some (.inr (.inl (([], s3_9))))
   | .inr out_10 =>
    natOf (IntKind.i64.wrap (IntKind.i64.wrap (i_5 + 1) + IntKind.i64.wrap (↑x7.toNat : Int))) fun n11 =>
    grd (n11 ≤ n_1.length) <|
    natOf (IntKind.i64.wrap (i_5 + 1)) fun n12 =>
    grd (n12 ≤ n11) <|
    grd ((out_10.length + [List.drop n12 (List.take n11 n_1)].length) * 16 ≤ roomLim) <|
    grdEq n_1 n_1 <|
    some (.inl ((out_10 ++ [List.drop n12 (List.take n11 n_1)], IntKind.i64.wrap (IntKind.i64.wrap (i_5 + 1) + IntKind.i64.wrap (↑x7.toNat : Int)))))
 else
  some (.inr (.inr (())))
def F_ref02_Labels (n_1 : List UInt8) : Option ((List (List UInt8) × Bool)) :=
 bnd (α := (Bool ⊕ Unit)) (if decide ((↑n_1.length : Int) < 1) = false then
   if decide (255 < (↑n_1.length : Int)) = true then
    some (.inl false)
   else
    grdEq n_1 n_1 <|
    some (.inr (()))
  else
   some (.inl false)) fun o2 =>
 match o2 with
 | .inl s3_3 =>
  some (([], s3_3))
 | .inr _ =>
  bnd (loopS (step_ref02_Labels_0 n_1) (([], 0))) fun o13 =>
  match o13 with
  | .inl (s2_14, s3_15) =>
   some ((s2_14, s3_15))
  | .inr _ =>
   some (([], false))
def ann_ref02_Labels : List (List Nat × Ann) := [([4], ⟨none, [(.ret, ⟨(anyN 2 (.cons .nill (.cons (.ty .bool) (anyN 52 .nil)))), [], [], []⟩), (.normal, ⟨(.cons kS (anyN 3 (.cons .nill (anyN 51 .nil)))), [], [], []⟩)]⟩), ([34], ⟨none, [(.ret, ⟨(anyN 2 (.cons .nill (.cons (.ty .bool) (anyN 52 .nil)))), [], [⟨⟨0, .str, 9, true, true⟩, false⟩], []⟩), (.normal, ⟨(.cons kS (anyN 3 (.cons (.own .str 0 true) (.cons kI (.cons kI (anyN 49 .nil)))))), [], [⟨⟨0, .str, 9, true, true⟩, false⟩], []⟩)]⟩), ([16], ⟨some ⟨(.cons kS (anyN 3 (.cons (.own .str 0 true) (.cons yI (anyN 50 .nil))))), [], [⟨⟨0, .str, 9, true, true⟩, true⟩], []⟩, [(.ret, ⟨(anyN 2 (.cons (.own .str 0 true) (.cons (.ty .bool) (anyN 52 .nil)))), [], [⟨⟨0, .str, 9, true, true⟩, false⟩], []⟩), (.exit 0, ⟨(anyN 56 .nil), [], [⟨⟨0, .str, 9, true, true⟩, false⟩], []⟩)]⟩)]
def cfg_ref02_Labels : SCfg := SCfg.of ([] ++ inlL) ann_ref02_Labels keepL
theorem eq_ref02_Labels (x : HL [.str]) : fnK cfg_ref02_Labels Try.prog 100000 72 [.str] [(.list .str), .bool] x = (fun x => F_ref02_Labels x) x := by kernel_rfl
theorem told_ref02_Labels : Told CC Try.prog 72 [.str] [(.list .str), .bool] (fun x => F_ref02_Labels x) := told_of (gok (an := ann_ref02_Labels) (fs := []) trivial) rfl rfl eq_ref02_Labels
def F_ref02_Check (n_1 : List UInt8) : Option (Bool) :=
 bnd (F_ref02_Labels n_1) fun (v2, v3) =>
 some v3
def ann_ref02_Check : List (List Nat × Ann) := []
@[reducible] def fs_ref02_Check : List (Nat × SFn) := [(72, .pure [.str] [(.list .str), .bool] (fun x => F_ref02_Labels x))]
def cfg_ref02_Check : SCfg := SCfg.of (fs_ref02_Check ++ inlL) ann_ref02_Check keepL
theorem eq_ref02_Check (x : HL [.str]) : fnK cfg_ref02_Check Try.prog 100000 51 [.str] [.bool] x = (fun x => F_ref02_Check x) x := by kernel_rfl
theorem told_ref02_Check : Told CC Try.prog 51 [.str] [.bool] (fun x => F_ref02_Check x) := told_of (gok (an := ann_ref02_Check) (fs := fs_ref02_Check) ⟨told_ref02_Labels, trivial⟩) rfl rfl eq_ref02_Check
def step_ref02_Small_0 : (List (Int) × Int) → Option ((List (Int) × Int) ⊕ List (Int)) := fun (b_2, i_3) =>
 if decide (i_3 < (↑b_2.length : Int)) = true then
  bnd (α := (List (Int) × Bool)) (natOf i_3 fun n4 =>
   bnd (b_2[n4]?) fun x5 =>
   if decide (65 ≤ x5) = true then
    natOf i_3 fun n6 =>
    bnd (b_2[n6]?) fun x7 =>
    gq i_3 <|
    some ((b_2, decide (x7 ≤ 90)))
   else
    gq i_3 <|
    some ((b_2, false))) fun (b_8, s24_9) =>
  if s24_9 = true then
   natOf i_3 fun n10 =>
   bnd (b_8[n10]?) fun x11 =>
   natOf i_3 fun n12 =>
   bnd (b_8[n12]?) fun x13 =>
   some (.inl ((b_8.set n12 (IntKind.u8.wrap (x11 + 32)), IntKind.i64.wrap (i_3 + 1))))
  else
   some (.inl ((b_8, IntKind.i64.wrap (i_3 + 1))))
 else
  some (.inr b_2)
def F_ref02_Small (s_1 : List UInt8) : Option (List UInt8) :=
 bnd (loopS step_ref02_Small_0 ((List.map (fun b => (↑b.toNat : Int)) s_1, 0))) fun b_14 =>
 some (List.map (fun n => UInt8.ofNat (Int.toNat n)) b_14)
def ann_ref02_Small : List (List Nat × Ann) := [([17], ⟨none, [(.normal, ⟨(anyN 3 (.cons (.own (.int .u8) 0 true) (.cons kI (anyN 19 (.cons (.ty .bool) (anyN 10 .nil)))))), [], [⟨⟨0, (.int .u8), 5, true, true⟩, false⟩], [0]⟩)]⟩), ([8], ⟨some ⟨(anyN 3 (.cons (.own (.int .u8) 0 true) (.cons yI (anyN 30 .nil)))), [], [⟨⟨0, (.int .u8), 5, true, true⟩, false⟩], [0]⟩, [(.exit 0, ⟨(anyN 3 (.cons (.own (.int .u8) 0 true) (anyN 31 .nil))), [], [⟨⟨0, (.int .u8), 5, true, true⟩, false⟩], [0]⟩)]⟩)]
def cfg_ref02_Small : SCfg := SCfg.of ([] ++ inlL) ann_ref02_Small keepL
theorem eq_ref02_Small (x : HL [.str]) : fnK cfg_ref02_Small Try.prog 100000 73 [.str] [.str] x = (fun x => F_ref02_Small x) x := by kernel_rfl
theorem told_ref02_Small : Told CC Try.prog 73 [.str] [.str] (fun x => F_ref02_Small x) := told_of (gok (an := ann_ref02_Small) (fs := []) trivial) rfl rfl eq_ref02_Small
def F_ref02_Low (n_1 : List UInt8) : Option (List UInt8) :=
 bnd (F_ref02_Check n_1) fun v2 =>
 if (!v2) = true then
  some ([])
 else
  bnd (F_ref02_Small n_1) fun v3 =>
  some v3
def ann_ref02_Low : List (List Nat × Ann) := []
@[reducible] def fs_ref02_Low : List (Nat × SFn) := [(51, .pure [.str] [.bool] (fun x => F_ref02_Check x)), (73, .pure [.str] [.str] (fun x => F_ref02_Small x))]
def cfg_ref02_Low : SCfg := SCfg.of (fs_ref02_Low ++ inlL) ann_ref02_Low keepL
theorem eq_ref02_Low (x : HL [.str]) : fnK cfg_ref02_Low Try.prog 100000 52 [.str] [.str] x = (fun x => F_ref02_Low x) x := by kernel_rfl
theorem told_ref02_Low : Told CC Try.prog 52 [.str] [.str] (fun x => F_ref02_Low x) := told_of (gok (an := ann_ref02_Low) (fs := fs_ref02_Low) ⟨told_ref02_Check, told_ref02_Small, trivial⟩) rfl rfl eq_ref02_Low
def F_ref10_Asked (q_1 : (List UInt8 × (Int × Int))) : Option (Bool) :=
 bnd (F_ref02_Check q_1.1) fun v2 =>
 if v2 = true then
  bnd (F_ref02_Low q_1.1) fun v3 =>
  if (v3 == q_1.1) = true then
   bnd (F_ref10_small q_1.2.1) fun v4 =>
   if v4 = true then
    bnd (F_ref10_small q_1.2.2) fun v5 =>
    some v5
   else
    some false
  else
   some false
 else
  some false
def ann_ref10_Asked : List (List Nat × Ann) := []
@[reducible] def fs_ref10_Asked : List (Nat × SFn) := [(51, .pure [.str] [.bool] (fun x => F_ref02_Check x)), (52, .pure [.str] [.str] (fun x => F_ref02_Low x)), (53, .pure [tI] [.bool] (fun x => F_ref10_small x))]
def cfg_ref10_Asked : SCfg := SCfg.of (fs_ref10_Asked ++ inlL) ann_ref10_Asked keepL
theorem eq_ref10_Asked (x : HL [tQ]) : fnK cfg_ref10_Asked Try.prog 100000 31 [tQ] [.bool] x = (fun x => F_ref10_Asked x) x := by kernel_rfl
theorem told_ref10_Asked : Told CC Try.prog 31 [tQ] [.bool] (fun x => F_ref10_Asked x) := told_of (gok (an := ann_ref10_Asked) (fs := fs_ref10_Asked) ⟨told_ref02_Check, told_ref02_Low, told_ref10_small, trivial⟩) rfl rfl eq_ref10_Asked
def F_ref02_Same (a_1 : List UInt8) (b_2 : List UInt8) : Option (Bool) :=
 bnd (F_ref02_Check a_1) fun v3 =>
 if v3 = true then
  bnd (F_ref02_Check b_2) fun v4 =>
  if v4 = true then
   bnd (F_ref02_Small a_1) fun v5 =>
   bnd (F_ref02_Small b_2) fun v6 =>
   some (v5 == v6)
  else
   some false
 else
  some false
def ann_ref02_Same : List (List Nat × Ann) := []
@[reducible] def fs_ref02_Same : List (Nat × SFn) := [(51, .pure [.str] [.bool] (fun x => F_ref02_Check x)), (73, .pure [.str] [.str] (fun x => F_ref02_Small x))]
def cfg_ref02_Same : SCfg := SCfg.of (fs_ref02_Same ++ inlL) ann_ref02_Same keepL
theorem eq_ref02_Same (x : HL [.str, .str]) : fnK cfg_ref02_Same Try.prog 100000 63 [.str, .str] [.bool] x = (fun x => F_ref02_Same x.1 x.2) x := by kernel_rfl
theorem told_ref02_Same : Told CC Try.prog 63 [.str, .str] [.bool] (fun x => F_ref02_Same x.1 x.2) := told_of (gok (an := ann_ref02_Same) (fs := fs_ref02_Same) ⟨told_ref02_Check, told_ref02_Small, trivial⟩) rfl rfl eq_ref02_Same
def F_ref05_shape (kind_1 : Int) : Option ((Int × (Int × Int))) :=
 bnd (α := Bool) (if (kind_1 == 2) = true then
   gq kind_1 <| gz <| gz <| gz <|
   some (kind_1 == 2)
  else
   if (kind_1 == 5) = true then
    gq kind_1 <| gz <| gz <| gz <|
    some (kind_1 == 5)
   else
    gq kind_1 <| gz <| gz <| gz <|
    some (kind_1 == 12)) fun s4_2 =>
 if s4_2 = true then
  some ((0, (1, 0)))
 else
  if (kind_1 == 6) = true then
   some ((0, (2, 20)))
  else
   if (kind_1 == 15) = true then
    some ((2, (1, 0)))
   else
    if (kind_1 == 33) = true then
     some ((6, (1, 0)))
    else
     if (kind_1 == 1) = true then
      some ((4, (0, 0)))
     else
      if (kind_1 == 28) = true then
       some ((16, (0, 0)))
      else
       some ((0, (0, 0)))
def ann_ref05_shape : List (List Nat × Ann) := [([6], ⟨none, [(.normal, ⟨(anyN 2 (.cons (.ptr 0 0) (.cons kI (.cons (.ty .bool) (anyN 20 .nil))))), [.cells 60 true (.cons kI (.cons kI (.cons kI .nil)))], [], []⟩)]⟩)]
def cfg_ref05_shape : SCfg := SCfg.of ([] ++ inlL) ann_ref05_shape keepL
theorem eq_ref05_shape (x : HL [tI]) : fnK cfg_ref05_shape Try.prog 100000 77 [tI] [(.agg (.cons tI (.cons tI tI)))] x = (fun x => F_ref05_shape x) x := by kernel_rfl
theorem told_ref05_shape : Told CC Try.prog 77 [tI] [(.agg (.cons tI (.cons tI tI)))] (fun x => F_ref05_shape x) := told_of (gok (an := ann_ref05_shape) (fs := []) trivial) rfl rfl eq_ref05_shape
def step_ref02_Join_0 (l_1 : List (List UInt8)) : (List UInt8 × Int) → Option ((List UInt8 × Int) ⊕ (List UInt8 ⊕ (List UInt8 × Bool))) := fun (s_2, i_3) =>
 if decide (i_3 < (↑l_1.length : Int)) = true then
  bnd (α := ((List UInt8 × Bool) ⊕ Unit)) (natOf i_3 fun n4 =>
   bnd (l_1[n4]?) fun x5 =>
   if decide ((↑(List.length x5) : Int) < 1) = false then
    natOf i_3 fun n6 =>
    bnd (l_1[n6]?) fun x7 =>
    if decide (63 < (↑(List.length x7) : Int)) = false then
     if decide (255 < (↑s_2.length : Int)) = true then
      some (.inl (([], false)))
     else
      grdEq l_1 l_1 <|
      grdEq s_2 s_2 <|
      grdEq i_3 i_3 <|
      some (.inr (()))
    else
     some (.inl (([], false)))
   else
    some (.inl (([], false)))) fun o8 =>
  match o8 with
  | .inl (s2_9, s3_10) =>
   some (.inr (.inr ((s2_9, s3_10))))
  | .inr _ =>
   natOf i_3 fun n11 =>
   bnd (l_1[n11]?) fun x12 =>
   grd (s_2.length + (List.map (fun n => UInt8.ofNat (Int.toNat n)) [IntKind.u8.wrap (↑(List.length x12) : Int)]).length ≤ maxStr) <|
   natOf i_3 fun n13 =>
   bnd (l_1[n13]?) fun x14 =>
   grd ((s_2 ++ List.map (fun n => UInt8.ofNat (Int.toNat n)) [IntKind.u8.wrap (↑(List.length x12) : Int)]).length + List.length x14 ≤ maxStr) <|
   grdEq l_1 l_1 <|
   some (.inl ((s_2 ++ List.map (fun n => UInt8.ofNat (Int.toNat n)) [IntKind.u8.wrap (↑(List.length x12) : Int)] ++ x14, IntKind.i64.wrap (i_3 + 1))))
 else
  some (.inr (.inl s_2))
def F_ref02_Join (l_1 : List (List UInt8)) : Option ((List UInt8 × Bool)) :=
 bnd (loopS (step_ref02_Join_0 l_1) (([], 0))) fun o15 =>
 match o15 with
 | .inl s_16 =>
  grd (s_16.length + 1 ≤ maxStr) <|
  if decide (255 < (↑(s_16 ++ [0]).length : Int)) = true then
   some (([], false))
  else
   some ((s_16 ++ [0], true))
 | .inr (s2_17, s3_18) =>
  some ((s2_17, s3_18))
def ann_ref02_Join : List (List Nat × Ann) := [([17], ⟨none, [(.ret, ⟨(anyN 2 (.cons (.ty .str) (.cons (.ty .bool) (anyN 48 .nil)))), [], [], []⟩), (.normal, ⟨(.cons (.keep (.list .str)) (anyN 3 (.cons kS (.cons kI (anyN 46 .nil))))), [], [], []⟩)]⟩), ([8], ⟨some ⟨(.cons (.keep (.list .str)) (anyN 3 (.cons (.ty .str) (.cons yI (anyN 46 .nil))))), [], [], []⟩, [(.exit 0, ⟨(anyN 4 (.cons (.ty .str) (anyN 47 .nil))), [], [], []⟩), (.ret, ⟨(anyN 2 (.cons (.ty .str) (.cons (.ty .bool) (anyN 48 .nil)))), [], [], []⟩)]⟩)]
def cfg_ref02_Join : SCfg := SCfg.of ([] ++ inlL) ann_ref02_Join keepL
theorem eq_ref02_Join (x : HL [(.list .str)]) : fnK cfg_ref02_Join Try.prog 100000 78 [(.list .str)] [.str, .bool] x = (fun x => F_ref02_Join x) x := by kernel_rfl
theorem told_ref02_Join : Told CC Try.prog 78 [(.list .str)] [.str, .bool] (fun x => F_ref02_Join x) := told_of (gok (an := ann_ref02_Join) (fs := []) trivial) rfl rfl eq_ref02_Join
def F_ref02_Up (n_1 : List UInt8) : Option ((List UInt8 × Bool)) :=
 bnd (F_ref02_Labels n_1) fun (v2, v3) =>
 bnd (α := ((List UInt8 × Bool) ⊕ Unit)) (if (!v3) = false then
   if ((↑v2.length : Int) == 0) = true then
    some (.inl (([], false)))
   else
    gq v2 <|
    some (.inr (()))
  else
   some (.inl (([], false)))) fun o4 =>
 match o4 with
 | .inl (s2_5, s3_6) =>
  some ((s2_5, s3_6))
 | .inr _ =>
  grd (1 ≤ v2.length) <|
  bnd (F_ref02_Join (List.drop 1 v2)) fun (v7, v8) =>
  some ((v7, v8))
def ann_ref02_Up : List (List Nat × Ann) := [([4], ⟨none, [(.ret, ⟨(anyN 2 (.cons (.ty .str) (.cons (.ty .bool) (anyN 19 .nil)))), [], [], []⟩), (.normal, ⟨(anyN 4 (.cons (.keep (.list .str)) (anyN 18 .nil))), [], [], []⟩)]⟩)]
@[reducible] def fs_ref02_Up : List (Nat × SFn) := [(72, .pure [.str] [(.list .str), .bool] (fun x => F_ref02_Labels x)), (78, .pure [(.list .str)] [.str, .bool] (fun x => F_ref02_Join x))]
def cfg_ref02_Up : SCfg := SCfg.of (fs_ref02_Up ++ inlL) ann_ref02_Up keepL
theorem eq_ref02_Up (x : HL [.str]) : fnK cfg_ref02_Up Try.prog 100000 64 [.str] [.str, .bool] x = (fun x => F_ref02_Up x) x := by kernel_rfl
theorem told_ref02_Up : Told CC Try.prog 64 [.str] [.str, .bool] (fun x => F_ref02_Up x) := told_of (gok (an := ann_ref02_Up) (fs := fs_ref02_Up) ⟨told_ref02_Labels, told_ref02_Join, trivial⟩) rfl rfl eq_ref02_Up
def step_ref04_Write_1 (base_1 : List UInt8) (at_2 : Int) (n_3 : List UInt8) (rest_8 : List UInt8) : List UInt8 → Option (List UInt8 ⊕ (List UInt8 ⊕ Unit)) := fun end_9 =>
 if decide (1 < (↑end_9.length : Int)) = true then
  bnd (F_ref02_Same end_9 rest_8) fun v10 =>
  if v10 = true then
   natOf (IntKind.i64.wrap ((↑n_3.length : Int) - (↑rest_8.length : Int))) fun n11 =>
   grd (n11 ≤ n_3.length) <|
   bnd (F_ref01_Put (IntKind.i64.wrap (IntKind.i64.wrap (IntKind.i64.wrap (49152 + at_2) + (↑base_1.length : Int)) - (↑end_9.length : Int))) 2) fun v12 =>
   grd ((List.take n11 n_3).length + v12.length ≤ maxStr) <|
   some (.inr (.inl (List.take n11 n_3 ++ v12)))
  else
   bnd (F_ref02_Up end_9) fun (v13, v14) =>
   gq base_1 <| gq at_2 <| gq n_3 <| gq rest_8 <|
   some (.inl v13)
 else
  gq base_1 <| gq at_2 <| gq n_3 <| gq rest_8 <|
  some (.inr (.inr (())))
def step_ref04_Write_0 (base_1 : List UInt8) (at_2 : Int) (n_3 : List UInt8) : List UInt8 → Option (List UInt8 ⊕ (Unit ⊕ List UInt8)) := fun rest_8 =>
 if decide (1 < (↑rest_8.length : Int)) = true then
  bnd (loopS (step_ref04_Write_1 base_1 at_2 n_3 rest_8) base_1) fun o15 =>
  match o15 with
  | .inl s6_16 =>
   some (.inr (.inr s6_16))
  | .inr _ =>
   bnd (F_ref02_Up rest_8) fun (v17, v18) =>
   gq base_1 <| gq at_2 <| gq n_3 <|
   some (.inl v17)
 else
  gq n_3 <|
  some (.inr (.inl (())))
def F_ref04_Write (base_1 : List UInt8) (at_2 : Int) (n_3 : List UInt8) : Option (List UInt8) :=
 bnd (α := (List UInt8 ⊕ Unit)) (bnd (F_ref02_Check base_1) fun v4 =>
  if (!v4) = false then
   bnd (F_ref02_Check n_3) fun v5 =>
   if (!v5) = false then
    if decide (at_2 < 0) = false then
     if decide (16000 < at_2) = true then
      some (.inl ([]))
     else
      gq base_1 <| gq at_2 <| gq n_3 <|
      some (.inr (()))
    else
     some (.inl ([]))
   else
    some (.inl ([]))
  else
   some (.inl ([]))) fun o6 =>
 match o6 with
 | .inl s6_7 =>
  some s6_7
 | .inr _ =>
  bnd (loopS (step_ref04_Write_0 base_1 at_2 n_3) n_3) fun o19 =>
  match o19 with
  | .inl _ =>
   some n_3
  | .inr s6_20 =>
   some s6_20
def ann_ref04_Write : List (List Nat × Ann) := [([2], ⟨none, [(.ret, ⟨(anyN 6 (.cons (.ty .str) (anyN 65 .nil))), [], [], []⟩), (.normal, ⟨(.cons kS (.cons kI (.cons kS (anyN 69 .nil)))), [], [], []⟩)]⟩), ([14], ⟨some ⟨(.cons kS (.cons kI (.cons kS (anyN 4 (.cons (.ty .str) (anyN 64 .nil)))))), [], [], []⟩, [(.exit 0, ⟨(anyN 2 (.cons kS (anyN 69 .nil))), [], [], []⟩), (.ret, ⟨(anyN 6 (.cons (.ty .str) (anyN 65 .nil))), [], [], []⟩)]⟩), ([26], ⟨some ⟨(.cons kS (.cons kI (.cons kS (anyN 4 (.cons kS (.cons (.ty .str) (anyN 63 .nil))))))), [], [], []⟩, [(.ret, ⟨(anyN 6 (.cons (.ty .str) (anyN 65 .nil))), [], [], []⟩), (.exit 2, ⟨(.cons kS (.cons kI (.cons kS (anyN 4 (.cons kS (anyN 64 .nil)))))), [], [], []⟩)]⟩)]
@[reducible] def fs_ref04_Write : List (Nat × SFn) := [(63, .pure [.str, .str] [.bool] (fun x => F_ref02_Same x.1 x.2)), (41, .pure [tI, tI] [.str] (fun x => F_ref01_Put x.1 x.2)), (64, .pure [.str] [.str, .bool] (fun x => F_ref02_Up x)), (51, .pure [.str] [.bool] (fun x => F_ref02_Check x))]
def cfg_ref04_Write : SCfg := SCfg.of (fs_ref04_Write ++ inlL) ann_ref04_Write keepL
theorem eq_ref04_Write (x : HL [.str, tI, .str]) : fnK cfg_ref04_Write Try.prog 100000 44 [.str, tI, .str] [.str] x = (fun x => F_ref04_Write x.1 x.2.1 x.2.2) x := by kernel_rfl
theorem told_ref04_Write : Told CC Try.prog 44 [.str, tI, .str] [.str] (fun x => F_ref04_Write x.1 x.2.1 x.2.2) := told_of (gok (an := ann_ref04_Write) (fs := fs_ref04_Write) ⟨told_ref02_Same, told_ref01_Put, told_ref02_Up, told_ref02_Check, trivial⟩) rfl rfl eq_ref04_Write
def F_name_small (c_1 : Int) : Option (Int) :=
 if decide (65 ≤ c_1) = true then
  if decide (c_1 ≤ 90) = true then
   some (IntKind.u8.wrap (c_1 + 32))
  else
   some c_1
 else
  some c_1
def ann_name_small : List (List Nat × Ann) := []
def cfg_name_small : SCfg := SCfg.of ([] ++ inlL) ann_name_small keepL
theorem eq_name_small (x : HL [(.int .u8)]) : fnK cfg_name_small Try.prog 100000 79 [(.int .u8)] [(.int .u8)] x = (fun x => F_name_small x) x := by kernel_rfl
theorem told_name_small : Told CC Try.prog 79 [(.int .u8)] [(.int .u8)] (fun x => F_name_small x) := told_of (gok (an := ann_name_small) (fs := []) trivial) rfl rfl eq_name_small
def step_name_low_0 (s_1 : List UInt8) : (List (Int) × (List (Int) × Int)) → Option ((List (Int) × (List (Int) × Int)) ⊕ List (Int)) := fun (b_2, s8_3, s10_4) =>
 if decide (s10_4 < (↑(List.map (fun b => (↑b.toNat : Int)) s_1).length : Int)) = true then
  natOf s10_4 fun n5 =>
  bnd (s8_3[n5]?) fun x6 =>
  bnd (F_name_small x6) fun v7 =>
  natOf s10_4 fun n8 =>
  bnd (b_2[n8]?) fun x9 =>
  grdEq ((↑(List.map (fun b => (↑b.toNat : Int)) s_1).length : Int)) ((↑(List.map (fun b => (↑b.toNat : Int)) s_1).length : Int)) <|
  some (.inl ((b_2.set n8 v7, (s8_3.set n8 v7, IntKind.i64.wrap (s10_4 + 1)))))
 else
  some (.inr b_2)
def F_name_low (s_1 : List UInt8) : Option (List UInt8) :=
 bnd (loopS (step_name_low_0 s_1) ((List.map (fun b => (↑b.toNat : Int)) s_1, (List.map (fun b => (↑b.toNat : Int)) s_1, 0)))) fun b_10 =>
 some (List.map (fun n => UInt8.ofNat (Int.toNat n)) b_10)
def ann_name_low : List (List Nat × Ann) := [([8], ⟨some ⟨(anyN 3 (.cons (.own (.int .u8) 0 true) (anyN 4 (.cons (.own (.int .u8) 0 true) (.cons kI (.cons yI (anyN 12 .nil))))))), [], [⟨⟨0, (.int .u8), 5, true, true⟩, false⟩], [0]⟩, [(.exit 0, ⟨(anyN 3 (.cons (.own (.int .u8) 0 true) (anyN 19 .nil))), [], [⟨⟨0, (.int .u8), 5, true, true⟩, false⟩], [0]⟩)]⟩)]
@[reducible] def fs_name_low : List (Nat × SFn) := [(79, .pure [(.int .u8)] [(.int .u8)] (fun x => F_name_small x))]
def cfg_name_low : SCfg := SCfg.of (fs_name_low ++ inlL) ann_name_low keepL
theorem eq_name_low (x : HL [.str]) : fnK cfg_name_low Try.prog 100000 66 [.str] [.str] x = (fun x => F_name_low x) x := by kernel_rfl
theorem told_name_low : Told CC Try.prog 66 [.str] [.str] (fun x => F_name_low x) := told_of (gok (an := ann_name_low) (fs := fs_name_low) ⟨told_name_small, trivial⟩) rfl rfl eq_name_low
def F_name_Low (n_1 : List UInt8) : Option (List UInt8) :=
 bnd (F_name_Check n_1) fun v2 =>
 if (!v2) = true then
  some ([])
 else
  bnd (F_name_low n_1) fun v3 =>
  some v3
def ann_name_Low : List (List Nat × Ann) := []
@[reducible] def fs_name_Low : List (Nat × SFn) := [(46, .pure [.str] [.bool] (fun x => F_name_Check x)), (66, .pure [.str] [.str] (fun x => F_name_low x))]
def cfg_name_Low : SCfg := SCfg.of (fs_name_Low ++ inlL) ann_name_Low keepL
theorem eq_name_Low (x : HL [.str]) : fnK cfg_name_Low Try.prog 100000 47 [.str] [.str] x = (fun x => F_name_Low x) x := by kernel_rfl
theorem told_name_Low : Told CC Try.prog 47 [.str] [.str] (fun x => F_name_Low x) := told_of (gok (an := ann_name_Low) (fs := fs_name_Low) ⟨told_name_Check, told_name_low, trivial⟩) rfl rfl eq_name_Low
def F_tmpl_asked (q_1 : (List UInt8 × (Int × Int))) : Option (Bool) :=
 bnd (F_name_Check q_1.1) fun v2 =>
 if v2 = true then
  bnd (F_name_Low q_1.1) fun v3 =>
  if (v3 == q_1.1) = true then
   bnd (F_tmpl_in q_1.2.1 65535) fun v4 =>
   if v4 = true then
    bnd (F_tmpl_in q_1.2.2 65535) fun v5 =>
    some v5
   else
    some false
  else
   some false
 else
  some false
def ann_tmpl_asked : List (List Nat × Ann) := []
@[reducible] def fs_tmpl_asked : List (Nat × SFn) := [(46, .pure [.str] [.bool] (fun x => F_name_Check x)), (47, .pure [.str] [.str] (fun x => F_name_Low x)), (27, .pure [tI, tI] [.bool] (fun x => F_tmpl_in x.1 x.2))]
def cfg_tmpl_asked : SCfg := SCfg.of (fs_tmpl_asked ++ inlL) ann_tmpl_asked keepL
theorem eq_tmpl_asked (x : HL [tQ]) : fnK cfg_tmpl_asked Try.prog 100000 28 [tQ] [.bool] x = (fun x => F_tmpl_asked x) x := by kernel_rfl
theorem told_tmpl_asked : Told CC Try.prog 28 [tQ] [.bool] (fun x => F_tmpl_asked x) := told_of (gok (an := ann_tmpl_asked) (fs := fs_tmpl_asked) ⟨told_name_Check, told_name_Low, told_tmpl_in, trivial⟩) rfl rfl eq_tmpl_asked
end
end Go.Abs

set_option maxRecDepth 100000
namespace Go.Abs
open Go Go.Proofs
noncomputable section
def F_name_Up (n_1 : List UInt8) : Option ((List UInt8 × Bool)) :=
 bnd (F_name_Check n_1) fun v2 =>
 if (!v2) = false then
  if (n_1 == [0]) = true then
   some (([], false))
  else
   bnd (n_1[0]?) fun x3 =>
   natOf (IntKind.i64.wrap (1 + IntKind.i64.wrap (↑x3.toNat : Int))) fun n4 =>
   grd (n4 ≤ n_1.length) <|
   some ((List.drop n4 n_1, true))
 else
  some (([], false))
def ann_name_Up : List (List Nat × Ann) := []
@[reducible] def fs_name_Up : List (Nat × SFn) := [(46, .pure [.str] [.bool] (fun x => F_name_Check x))]
def cfg_name_Up : SCfg := SCfg.of (fs_name_Up ++ inlL) ann_name_Up keepL
theorem eq_name_Up (x : HL [.str]) : fnK cfg_name_Up Try.prog 100000 84 [.str] [.str, .bool] x = (fun x => F_name_Up x) x := by kernel_rfl
theorem told_name_Up : Told CC Try.prog 84 [.str] [.str, .bool] (fun x => F_name_Up x) := told_of (gok (an := ann_name_Up) (fs := fs_name_Up) ⟨told_name_Check, trivial⟩) rfl rfl eq_name_Up
def F_record_in (n_1 : Int) (most_2 : Int) : Option (Bool) :=
 if decide (0 ≤ n_1) = true then
  some (decide (n_1 ≤ most_2))
 else
  some false
def ann_record_in : List (List Nat × Ann) := []
def cfg_record_in : SCfg := SCfg.of ([] ++ inlL) ann_record_in keepL
theorem eq_record_in (x : HL [tI, tI]) : fnK cfg_record_in Try.prog 100000 87 [tI, tI] [.bool] x = (fun x => F_record_in x.1 x.2) x := by kernel_rfl
theorem told_record_in : Told CC Try.prog 87 [tI, tI] [.bool] (fun x => F_record_in x.1 x.2) := told_of (gok (an := ann_record_in) (fs := []) trivial) rfl rfl eq_record_in
def step_ref05_texts_0 (d_1 : List UInt8) : Int → Option (Int ⊕ Int) := fun i_2 =>
 if decide (i_2 < (↑d_1.length : Int)) = true then
  natOf i_2 fun n3 =>
  bnd (d_1[n3]?) fun x4 =>
  grdEq d_1 d_1 <|
  some (.inl (IntKind.i64.wrap (IntKind.i64.wrap (i_2 + 1) + IntKind.i64.wrap (↑x4.toNat : Int))))
 else
  grdEq d_1 d_1 <|
  some (.inr i_2)
def F_ref05_texts (d_1 : List UInt8) : Option (Bool) :=
 bnd (loopS (step_ref05_texts_0 d_1) 0) fun i_5 =>
 if (i_5 == (↑d_1.length : Int)) = true then
  some (decide (0 < i_5))
 else
  some false
def ann_ref05_texts : List (List Nat × Ann) := [([6], ⟨some ⟨(.cons kS (anyN 2 (.cons yI (anyN 19 .nil)))), [], [], []⟩, [(.exit 0, ⟨(.cons kS (anyN 2 (.cons yI (anyN 19 .nil)))), [], [], []⟩)]⟩)]
def cfg_ref05_texts : SCfg := SCfg.of ([] ++ inlL) ann_ref05_texts keepL
theorem eq_ref05_texts (x : HL [.str]) : fnK cfg_ref05_texts Try.prog 100000 88 [.str] [.bool] x = (fun x => F_ref05_texts x) x := by kernel_rfl
theorem told_ref05_texts : Told CC Try.prog 88 [.str] [.bool] (fun x => F_ref05_texts x) := told_of (gok (an := ann_ref05_texts) (fs := []) trivial) rfl rfl eq_ref05_texts
def F_data_parts_whole (p_1 : (List UInt8 × (List UInt8 × List (List UInt8)))) : Option (List UInt8) :=
 bnd (F_strings_Join p_1.2.2 []) fun v2 =>
 grd (List.length p_1.1 + v2.length ≤ maxStr) <|
 grd ((p_1.1 ++ v2).length + List.length p_1.2.1 ≤ maxStr) <|
 some (p_1.1 ++ v2 ++ p_1.2.1)
def ann_data_parts_whole : List (List Nat × Ann) := []
@[reducible] def fs_data_parts_whole : List (Nat × SFn) := [(102, .pure [.list .str, .str] [.str] (fun x => F_strings_Join x.1 x.2))]
def cfg_data_parts_whole : SCfg := SCfg.of (fs_data_parts_whole ++ inlL) ann_data_parts_whole keepL
theorem eq_data_parts_whole (x : HL [(.agg (.cons .str (.cons .str (.list .str))))]) : fnK cfg_data_parts_whole Try.prog 100000 92 [(.agg (.cons .str (.cons .str (.list .str))))] [.str] x = (fun x => F_data_parts_whole x) x := by kernel_rfl
theorem told_data_parts_whole : Told CC Try.prog 92 [(.agg (.cons .str (.cons .str (.list .str))))] [.str] (fun x => F_data_parts_whole x) := told_of (gok (an := ann_data_parts_whole) (fs := fs_data_parts_whole) ⟨told_strings_Join, trivial⟩) rfl rfl eq_data_parts_whole
def step_slices_Index_string_0 (s_1 : List (List UInt8)) (v_2 : List UInt8) : Int → Option (Int ⊕ (Int ⊕ Unit)) := fun s8_3 =>
 if decide (s8_3 < (↑s_1.length : Int)) = true then
  natOf s8_3 fun n4 =>
  bnd (s_1[n4]?) fun x5 =>
  if (v_2 == x5) = true then
   some (.inr (.inl s8_3))
  else
   gq s_1 <| gq v_2 <|
   grdEq ((↑s_1.length : Int)) ((↑s_1.length : Int)) <|
   some (.inl (IntKind.i64.wrap (s8_3 + 1)))
 else
  some (.inr (.inr (())))
def F_slices_Index_string (s_1 : List (List UInt8)) (v_2 : List UInt8) : Option (Int) :=
 bnd (loopS (step_slices_Index_string_0 s_1 v_2) 0) fun o6 =>
 match o6 with
 | .inl s4_7 =>
  some s4_7
 | .inr _ =>
  some (-1)
def ann_slices_Index_string : List (List Nat × Ann) := [([6], ⟨some ⟨(.cons (.keep (.list .str)) (.cons kS (anyN 5 (.cons kI (.cons yI (anyN 10 .nil)))))), [], [], []⟩, [(.ret, ⟨(anyN 4 (.cons yI (anyN 14 .nil))), [], [], []⟩), (.exit 0, ⟨(anyN 19 .nil), [], [], []⟩)]⟩)]
def cfg_slices_Index_string : SCfg := SCfg.of ([] ++ inlL) ann_slices_Index_string keepL
theorem eq_slices_Index_string (x : HL [(.list .str), .str]) : fnK cfg_slices_Index_string Try.prog 100000 93 [(.list .str), .str] [tI] x = (fun x => F_slices_Index_string x.1 x.2) x := by kernel_rfl
theorem told_slices_Index_string : Told CC Try.prog 93 [(.list .str), .str] [tI] (fun x => F_slices_Index_string x.1 x.2) := told_of (gok (an := ann_slices_Index_string) (fs := []) trivial) rfl rfl eq_slices_Index_string
def F_slices_Contains_string (s_1 : List (List UInt8)) (v_2 : List UInt8) : Option (Bool) :=
 bnd (F_slices_Index_string s_1 v_2) fun v3 =>
 some (decide (0 ≤ v3))
def ann_slices_Contains_string : List (List Nat × Ann) := []
@[reducible] def fs_slices_Contains_string : List (Nat × SFn) := [(93, .pure [(.list .str), .str] [tI] (fun x => F_slices_Index_string x.1 x.2))]
def cfg_slices_Contains_string : SCfg := SCfg.of (fs_slices_Contains_string ++ inlL) ann_slices_Contains_string keepL
theorem eq_slices_Contains_string (x : HL [(.list .str), .str]) : fnK cfg_slices_Contains_string Try.prog 100000 82 [(.list .str), .str] [.bool] x = (fun x => F_slices_Contains_string x.1 x.2) x := by kernel_rfl
theorem told_slices_Contains_string : Told CC Try.prog 82 [(.list .str), .str] [.bool] (fun x => F_slices_Contains_string x.1 x.2) := told_of (gok (an := ann_slices_Contains_string) (fs := fs_slices_Contains_string) ⟨told_slices_Index_string, trivial⟩) rfl rfl eq_slices_Contains_string
def F_name_Same (a_1 : List UInt8) (b_2 : List UInt8) : Option (Bool) :=
 bnd (F_name_Check a_1) fun v3 =>
 if v3 = true then
  bnd (F_name_Check b_2) fun v4 =>
  if v4 = true then
   bnd (F_name_low a_1) fun v5 =>
   bnd (F_name_low b_2) fun v6 =>
   some (v5 == v6)
  else
   some false
 else
  some false
def ann_name_Same : List (List Nat × Ann) := []
@[reducible] def fs_name_Same : List (Nat × SFn) := [(46, .pure [.str] [.bool] (fun x => F_name_Check x)), (66, .pure [.str] [.str] (fun x => F_name_low x))]
def cfg_name_Same : SCfg := SCfg.of (fs_name_Same ++ inlL) ann_name_Same keepL
theorem eq_name_Same (x : HL [.str, .str]) : fnK cfg_name_Same Try.prog 100000 94 [.str, .str] [.bool] x = (fun x => F_name_Same x.1 x.2) x := by kernel_rfl
theorem told_name_Same : Told CC Try.prog 94 [.str, .str] [.bool] (fun x => F_name_Same x.1 x.2) := told_of (gok (an := ann_name_Same) (fs := fs_name_Same) ⟨told_name_Check, told_name_low, trivial⟩) rfl rfl eq_name_Same
def step_comp_place_0 (base_1 : List UInt8) (n_2 : List UInt8) : (List UInt8 × Bool) → Option ((List UInt8 × Bool) ⊕ (Int ⊕ Unit)) := fun (end_3, is_4) =>
 bnd (α := (Unit ⊕ Unit)) (if is_4 = true then
   if decide (1 < (↑end_3.length : Int)) = true then
    gq base_1 <| gq n_2 <| gq end_3 <|
    some (.inl (()))
   else
    some (.inr (()))
  else
   some (.inr (()))) fun o5 =>
 match o5 with
 | .inl _ =>
  bnd (F_name_Same end_3 n_2) fun v6 =>
  if v6 = true then
   some (.inr (.inl (IntKind.i64.wrap ((↑base_1.length : Int) - (↑end_3.length : Int)))))
  else
   bnd (F_name_Up end_3) fun (v7, v8) =>
   gq base_1 <| gq n_2 <|
   some (.inl ((v7, v8)))
 | .inr _ =>
  some (.inr (.inr (())))
def F_comp_place (base_1 : List UInt8) (n_2 : List UInt8) : Option (Int) :=
 bnd (loopS (step_comp_place_0 base_1 n_2) ((base_1, true))) fun o9 =>
 match o9 with
 | .inl s4_10 =>
  some s4_10
 | .inr _ =>
  some (-1)
def ann_comp_place : List (List Nat × Ann) := [([7], ⟨none, [(.normal, ⟨(.cons kS (.cons kS (anyN 3 (.cons kS (anyN 21 .nil))))), [], [], []⟩), (.exit 0, ⟨(anyN 27 .nil), [], [], []⟩)]⟩), ([6], ⟨some ⟨(.cons kS (.cons kS (anyN 3 (.cons (.ty .str) (.cons (.ty .bool) (anyN 20 .nil)))))), [], [], []⟩, [(.ret, ⟨(anyN 4 (.cons yI (anyN 22 .nil))), [], [], []⟩), (.exit 0, ⟨(anyN 27 .nil), [], [], []⟩)]⟩)]
@[reducible] def fs_comp_place : List (Nat × SFn) := [(94, .pure [.str, .str] [.bool] (fun x => F_name_Same x.1 x.2)), (84, .pure [.str] [.str, .bool] (fun x => F_name_Up x))]
def cfg_comp_place : SCfg := SCfg.of (fs_comp_place ++ inlL) ann_comp_place keepL
theorem eq_comp_place (x : HL [.str, .str]) : fnK cfg_comp_place Try.prog 100000 85 [.str, .str] [tI] x = (fun x => F_comp_place x.1 x.2) x := by kernel_rfl
theorem told_comp_place : Told CC Try.prog 85 [.str, .str] [tI] (fun x => F_comp_place x.1 x.2) := told_of (gok (an := ann_comp_place) (fs := fs_comp_place) ⟨told_name_Same, told_name_Up, trivial⟩) rfl rfl eq_comp_place
def step_ref01_Get_0 (size_3 : Int) (v4 : List UInt8) : (Int × Int) → Option ((Int × Int) ⊕ Int) := fun (n_9, i_10) =>
 if decide (i_10 < size_3) = true then
  natOf i_10 fun n11 =>
  bnd (v4[n11]?) fun x12 =>
  grdEq size_3 size_3 <|
  grdEq v4 v4 <|
  some (.inl ((IntKind.i64.wrap (IntKind.i64.wrap (256 * n_9) + IntKind.i64.wrap (↑x12.toNat : Int)), IntKind.i64.wrap (i_10 + 1))))
 else
  some (.inr n_9)
def F_ref01_Get (s_1 : List UInt8) (at_2 : Int) (size_3 : Int) : Option ((Int × Bool)) :=
 bnd (F_ref01_Take s_1 at_2 size_3) fun (v4, v5) =>
 bnd (α := ((Int × Bool) ⊕ Unit)) (if (!v5) = false then
   if decide (size_3 < 1) = false then
    if decide (4 < size_3) = true then
     some (.inl ((0, false)))
    else
     grdEq size_3 size_3 <|
     grdEq v4 v4 <|
     some (.inr (()))
   else
    some (.inl ((0, false)))
  else
   some (.inl ((0, false)))) fun o6 =>
 match o6 with
 | .inl (s6_7, s7_8) =>
  some ((s6_7, s7_8))
 | .inr _ =>
  bnd (loopS (step_ref01_Get_0 size_3 v4) ((0, 0))) fun n_13 =>
  some ((n_13, true))
def ann_ref01_Get : List (List Nat × Ann) := [([4], ⟨none, [(.ret, ⟨(anyN 6 (.cons yI (.cons (.ty .bool) (anyN 34 .nil)))), [], [], []⟩), (.normal, ⟨(anyN 2 (.cons kI (anyN 5 (.cons kS (anyN 33 .nil))))), [], [], []⟩)]⟩), ([18], ⟨some ⟨(anyN 2 (.cons kI (anyN 5 (.cons kS (anyN 1 (.cons yI (.cons yI (anyN 30 .nil)))))))), [], [], []⟩, [(.exit 0, ⟨(anyN 10 (.cons yI (anyN 31 .nil))), [], [], []⟩)]⟩)]
@[reducible] def fs_ref01_Get : List (Nat × SFn) := [(59, .pure [.str, tI, tI] [.str, .bool] (fun x => F_ref01_Take x.1 x.2.1 x.2.2))]
def cfg_ref01_Get : SCfg := SCfg.of (fs_ref01_Get ++ inlL) ann_ref01_Get keepL
theorem eq_ref01_Get (x : HL [.str, tI, tI]) : fnK cfg_ref01_Get Try.prog 100000 96 [.str, tI, tI] [tI, .bool] x = (fun x => F_ref01_Get x.1 x.2.1 x.2.2) x := by kernel_rfl
theorem told_ref01_Get : Told CC Try.prog 96 [.str, tI, tI] [tI, .bool] (fun x => F_ref01_Get x.1 x.2.1 x.2.2) := told_of (gok (an := ann_ref01_Get) (fs := fs_ref01_Get) ⟨told_ref01_Take, trivial⟩) rfl rfl eq_ref01_Get
def F_ref04_bad (e_1 : Int) : Option ((List UInt8 × (Int × Int))) :=
 some (([], (0, e_1)))
def ann_ref04_bad : List (List Nat × Ann) := []
def cfg_ref04_bad : SCfg := SCfg.of ([] ++ inlL) ann_ref04_bad keepL
theorem eq_ref04_bad (x : HL [tI]) : fnK cfg_ref04_bad Try.prog 100000 97 [tI] [.str, tI, tI] x = (fun x => F_ref04_bad x) x := by kernel_rfl
theorem told_ref04_bad : Told CC Try.prog 97 [tI] [.str, tI, tI] (fun x => F_ref04_bad x) := told_of (gok (an := ann_ref04_bad) (fs := []) trivial) rfl rfl eq_ref04_bad
def step_ref04_Read_0 (msg_1 : List UInt8) : (Int × (List UInt8 × (Int × Int))) → Option ((Int × (List UInt8 × (Int × Int))) ⊕ (List UInt8 × (Int × Int))) := fun (at_3, out_4, next_5, least_6) =>
 bnd (F_ref01_Get msg_1 at_3 1) fun (v7, v8) =>
 if (!v8) = true then
  bnd (F_ref04_bad 2) fun (v9, v10, v11) =>
  some (.inr ((v9, (v10, v11))))
 else
  if (v7 == 0) = true then
   if decide (next_5 < 0) = true then
    grd (out_4.length + 1 ≤ maxStr) <|
    some (.inr ((out_4 ++ [0], (IntKind.i64.wrap (at_3 + 1), 0))))
   else
    grd (out_4.length + 1 ≤ maxStr) <|
    some (.inr ((out_4 ++ [0], (next_5, 0))))
  else
   if decide (192 ≤ v7) = true then
    bnd (F_ref01_Get msg_1 at_3 2) fun (v12, v13) =>
    if (!v13) = true then
     bnd (F_ref04_bad 2) fun (v14, v15, v16) =>
     some (.inr ((v14, (v15, v16))))
    else
     if decide (least_6 ≤ IntKind.i64.wrap (v12 - 49152)) = true then
      bnd (F_ref04_bad 3) fun (v17, v18, v19) =>
      some (.inr ((v17, (v18, v19))))
     else
      if decide (next_5 < 0) = true then
       gq msg_1 <|
       some (.inl ((IntKind.i64.wrap (v12 - 49152), (out_4, (IntKind.i64.wrap (at_3 + 2), IntKind.i64.wrap (v12 - 49152))))))
      else
       gq msg_1 <|
       some (.inl ((IntKind.i64.wrap (v12 - 49152), (out_4, (next_5, IntKind.i64.wrap (v12 - 49152))))))
   else
    if decide (63 < v7) = true then
     bnd (F_ref04_bad 3) fun (v20, v21, v22) =>
     some (.inr ((v20, (v21, v22))))
    else
     bnd (F_ref01_Take msg_1 at_3 (IntKind.i64.wrap (v7 + 1))) fun (v23, v24) =>
     if (!v24) = true then
      bnd (F_ref04_bad 2) fun (v25, v26, v27) =>
      some (.inr ((v25, (v26, v27))))
     else
      grd (out_4.length + v23.length ≤ maxStr) <|
      if decide (255 < IntKind.i64.wrap ((↑(out_4 ++ v23).length : Int) + 1)) = true then
       bnd (F_ref04_bad 3) fun (v28, v29, v30) =>
       some (.inr ((v28, (v29, v30))))
      else
       gq msg_1 <|
       some (.inl ((IntKind.i64.wrap (IntKind.i64.wrap (at_3 + v7) + 1), (out_4 ++ v23, (next_5, least_6)))))
def F_ref04_Read (msg_1 : List UInt8) (at_2 : Int) : Option ((List UInt8 × (Int × Int))) :=
 bnd (loopS (step_ref04_Read_0 msg_1) ((at_2, ([], (-1, at_2))))) fun (s4_31, s5_32, s6_33) =>
 some ((s4_31, (s5_32, s6_33)))
def ann_ref04_Read : List (List Nat × Ann) := [([9], ⟨some ⟨(.cons kS (.cons yI (anyN 5 (.cons (.ty .str) (.cons yI (.cons yI (anyN 92 .nil))))))), [], [], []⟩, [(.ret, ⟨(anyN 4 (.cons (.ty .str) (.cons yI (.cons yI (anyN 95 .nil))))), [], [], []⟩)]⟩)]
@[reducible] def fs_ref04_Read : List (Nat × SFn) := [(96, .pure [.str, tI, tI] [tI, .bool] (fun x => F_ref01_Get x.1 x.2.1 x.2.2)), (97, .pure [tI] [.str, tI, tI] (fun x => F_ref04_bad x)), (59, .pure [.str, tI, tI] [.str, .bool] (fun x => F_ref01_Take x.1 x.2.1 x.2.2))]
def cfg_ref04_Read : SCfg := SCfg.of (fs_ref04_Read ++ inlL) ann_ref04_Read keepL
theorem eq_ref04_Read (x : HL [.str, tI]) : fnK cfg_ref04_Read Try.prog 100000 89 [.str, tI] [.str, tI, tI] x = (fun x => F_ref04_Read x.1 x.2) x := by kernel_rfl
theorem told_ref04_Read : Told CC Try.prog 89 [.str, tI] [.str, tI, tI] (fun x => F_ref04_Read x.1 x.2) := told_of (gok (an := ann_ref04_Read) (fs := fs_ref04_Read) ⟨told_ref01_Get, told_ref04_bad, told_ref01_Take, trivial⟩) rfl rfl eq_ref04_Read
def step_ref05_Expand_0 (msg_1 : List UInt8) (at_2 : Int) (size_3 : Int) (v7 : Int × Int × Int) : (List UInt8 × (Int × Int)) → Option ((List UInt8 × (Int × Int)) ⊕ ((List UInt8 × Int) ⊕ (List UInt8 × Int))) := fun (out_10, i_11, k_12) =>
 if decide (k_12 < v7.2.1) = true then
  bnd (F_ref04_Read msg_1 i_11) fun (v13, v14, v15) =>
  if (v15 != 0) = true then
   g3 v7 <|
   some (.inr (.inl (([], 4))))
  else
   grd (out_10.length + v13.length ≤ maxStr) <|
   gq msg_1 <| gq at_2 <| gq size_3 <| g3 v7 <|
   some (.inl ((out_10 ++ v13, (v14, IntKind.i64.wrap (k_12 + 1)))))
 else
  gq msg_1 <| gq at_2 <| gq size_3 <| g3 v7 <|
  some (.inr (.inr ((out_10, i_11))))
def F_ref05_Expand (msg_1 : List UInt8) (at_2 : Int) (size_3 : Int) (kind_4 : Int) : Option ((List UInt8 × Int)) :=
 bnd (F_ref01_Take msg_1 at_2 size_3) fun (v5, v6) =>
 if (!v6) = true then
  some (([], 2))
 else
  bnd (F_ref05_shape kind_4) fun v7 =>
  if (v7.1 == 0 && (v7.2.1 == 0 && (v7.2.2 == 0 && true))) = true then
   if (kind_4 == 16) = true then
    bnd (F_ref05_texts v5) fun v8 =>
    if (!v8) = false then
     if decide (65535 < (↑v5.length : Int)) = true then
      some (([], 4))
     else
      some ((v5, 0))
    else
     some (([], 4))
   else
    if decide (65535 < (↑v5.length : Int)) = true then
     some (([], 4))
    else
     some ((v5, 0))
  else
   if decide (size_3 < v7.1) = true then
    some (([], 4))
   else
    natOf v7.1 fun n9 =>
    grd (n9 ≤ v5.length) <|
    bnd (loopS (step_ref05_Expand_0 msg_1 at_2 size_3 v7) ((List.take n9 v5, (IntKind.i64.wrap (at_2 + v7.1), 0)))) fun o16 =>
    match o16 with
    | .inl (s8_17, s9_18) =>
     some ((s8_17, s9_18))
    | .inr (out_19, i_20) =>
     if (IntKind.i64.wrap (i_20 + v7.2.2) != IntKind.i64.wrap (at_2 + size_3)) = true then
      some (([], 4))
     else
      natOf (IntKind.i64.wrap (at_2 + size_3)) fun n21 =>
      grd (n21 ≤ msg_1.length) <|
      natOf i_20 fun n22 =>
      grd (n22 ≤ n21) <|
      grd (out_19.length + (List.drop n22 (List.take n21 msg_1)).length ≤ maxStr) <|
      if decide (65535 < (↑(out_19 ++ List.drop n22 (List.take n21 msg_1)).length : Int)) = true then
       some (([], 4))
      else
       some ((out_19 ++ List.drop n22 (List.take n21 msg_1), 0))
def ann_ref05_Expand : List (List Nat × Ann) := [([46], ⟨some ⟨(.cons kS (.cons kI (.cons kI (anyN 9 (.cons (.ptr 0 0) (.cons (.ty .str) (.cons yI (.cons yI (anyN 81 .nil))))))))), [.cells 60 true (.cons kI (.cons kI (.cons kI .nil)))], [], []⟩, [(.ret, ⟨(anyN 8 (.cons (.ty .str) (.cons yI (anyN 87 .nil)))), [.cells 60 true (.cons kI (.cons kI (.cons kI .nil)))], [], []⟩), (.exit 0, ⟨(.cons kS (.cons kI (.cons kI (anyN 9 (.cons (.ptr 0 0) (.cons (.ty .str) (.cons yI (anyN 82 .nil)))))))), [.cells 60 true (.cons kI (.cons kI (.cons kI .nil)))], [], []⟩)]⟩)]
@[reducible] def fs_ref05_Expand : List (Nat × SFn) := [(89, .pure [.str, tI] [.str, tI, tI] (fun x => F_ref04_Read x.1 x.2)), (59, .pure [.str, tI, tI] [.str, .bool] (fun x => F_ref01_Take x.1 x.2.1 x.2.2)), (77, .pure [tI] [(.agg (.cons tI (.cons tI tI)))] (fun x => F_ref05_shape x)), (88, .pure [.str] [.bool] (fun x => F_ref05_texts x))]
def cfg_ref05_Expand : SCfg := SCfg.of (fs_ref05_Expand ++ inlL) ann_ref05_Expand keepL
theorem eq_ref05_Expand (x : HL [.str, tI, tI, tI]) : fnK cfg_ref05_Expand Try.prog 100000 75 [.str, tI, tI, tI] [.str, tI] x = (fun x => F_ref05_Expand x.1 x.2.1 x.2.2.1 x.2.2.2) x := by kernel_rfl
theorem told_ref05_Expand : Told CC Try.prog 75 [.str, tI, tI, tI] [.str, tI] (fun x => F_ref05_Expand x.1 x.2.1 x.2.2.1 x.2.2.2) := told_of (gok (an := ann_ref05_Expand) (fs := fs_ref05_Expand) ⟨told_ref04_Read, told_ref01_Take, told_ref05_shape, told_ref05_texts, trivial⟩) rfl rfl eq_ref05_Expand
def F_ref05_Check (kind_1 : Int) (d_2 : List UInt8) : Option (Bool) :=
 if decide (65535 < (↑d_2.length : Int)) = true then
  some false
 else
  bnd (F_ref05_Expand d_2 0 (↑d_2.length : Int) kind_1) fun (v3, v4) =>
  if (v4 == 0) = true then
   some (v3 == d_2)
  else
   some false
def ann_ref05_Check : List (List Nat × Ann) := []
@[reducible] def fs_ref05_Check : List (Nat × SFn) := [(75, .pure [.str, tI, tI, tI] [.str, tI] (fun x => F_ref05_Expand x.1 x.2.1 x.2.2.1 x.2.2.2))]
def cfg_ref05_Check : SCfg := SCfg.of (fs_ref05_Check ++ inlL) ann_ref05_Check keepL
theorem eq_ref05_Check (x : HL [tI, .str]) : fnK cfg_ref05_Check Try.prog 100000 60 [tI, .str] [.bool] x = (fun x => F_ref05_Check x.1 x.2) x := by kernel_rfl
theorem told_ref05_Check : Told CC Try.prog 60 [tI, .str] [.bool] (fun x => F_ref05_Check x.1 x.2) := told_of (gok (an := ann_ref05_Check) (fs := fs_ref05_Check) ⟨told_ref05_Expand, trivial⟩) rfl rfl eq_ref05_Check
def F_ref06_Check (r_1 : (List UInt8 × (Int × (Int × (Int × List UInt8))))) : Option (Bool) :=
 bnd (F_ref02_Check r_1.1) fun v2 =>
 if v2 = true then
  if decide (0 ≤ r_1.2.1) = true then
   if decide (r_1.2.1 ≤ 65535) = true then
    if decide (0 ≤ r_1.2.2.1) = true then
     if decide (r_1.2.2.1 ≤ 65535) = true then
      if decide (0 ≤ r_1.2.2.2.1) = true then
       if decide (r_1.2.2.2.1 < 2147483648) = true then
        bnd (F_ref05_Check r_1.2.1 r_1.2.2.2.2) fun v3 =>
        some v3
       else
        some false
      else
       some false
     else
      some false
    else
     some false
   else
    some false
  else
   some false
 else
  some false
def ann_ref06_Check : List (List Nat × Ann) := []
@[reducible] def fs_ref06_Check : List (Nat × SFn) := [(51, .pure [.str] [.bool] (fun x => F_ref02_Check x)), (60, .pure [tI, .str] [.bool] (fun x => F_ref05_Check x.1 x.2))]
def cfg_ref06_Check : SCfg := SCfg.of (fs_ref06_Check ++ inlL) ann_ref06_Check keepL
theorem eq_ref06_Check (x : HL [tRR]) : fnK cfg_ref06_Check Try.prog 100000 45 [tRR] [.bool] x = (fun x => F_ref06_Check x) x := by kernel_rfl
theorem told_ref06_Check : Told CC Try.prog 45 [tRR] [.bool] (fun x => F_ref06_Check x) := told_of (gok (an := ann_ref06_Check) (fs := fs_ref06_Check) ⟨told_ref02_Check, told_ref05_Check, trivial⟩) rfl rfl eq_ref06_Check
def F_ref06_Encode (base_1 : List UInt8) (at_2 : Int) (r_3 : (List UInt8 × (Int × (Int × (Int × List UInt8))))) : Option (List UInt8) :=
 bnd (F_ref04_Write base_1 at_2 r_3.1) fun v4 =>
 bnd (α := (List UInt8 ⊕ Unit)) (bnd (F_ref06_Check (r_3.1, r_3.2.1, r_3.2.2.1, r_3.2.2.2.1, r_3.2.2.2.2)) fun v5 =>
  if (!v5) = false then
   if (v4 == []) = true then
    g5 r_3 <|
    some (.inl ([]))
   else
    gq v4 <| g5 r_3 <|
    some (.inr (()))
  else
   g5 r_3 <|
   some (.inl ([]))) fun o6 =>
 match o6 with
 | .inl s6_7 =>
  some s6_7
 | .inr _ =>
  bnd (F_ref01_Put r_3.2.1 2) fun v8 =>
  grd (v4.length + v8.length ≤ maxStr) <|
  bnd (F_ref01_Put r_3.2.2.1 2) fun v9 =>
  grd ((v4 ++ v8).length + v9.length ≤ maxStr) <|
  bnd (F_ref01_Put r_3.2.2.2.1 4) fun v10 =>
  grd ((v4 ++ v8 ++ v9).length + v10.length ≤ maxStr) <|
  bnd (F_ref01_Put (↑(List.length r_3.2.2.2.2) : Int) 2) fun v11 =>
  grd ((v4 ++ v8 ++ v9 ++ v10).length + v11.length ≤ maxStr) <|
  grd ((v4 ++ v8 ++ v9 ++ v10 ++ v11).length + List.length r_3.2.2.2.2 ≤ maxStr) <|
  some (v4 ++ v8 ++ v9 ++ v10 ++ v11 ++ r_3.2.2.2.2)
def ann_ref06_Encode : List (List Nat × Ann) := [([4], ⟨none, [(.ret, ⟨(anyN 6 (.cons (.ty .str) (anyN 34 .nil))), [.cells 65 true (.cons kS (.cons kI (.cons kI (.cons kI (.cons kS .nil)))))], [], []⟩), (.normal, ⟨(anyN 5 (.cons (.ptr 0 0) (anyN 1 (.cons kS (anyN 33 .nil))))), [.cells 65 true (.cons kS (.cons kI (.cons kI (.cons kI (.cons kS .nil)))))], [], []⟩)]⟩)]
@[reducible] def fs_ref06_Encode : List (Nat × SFn) := [(44, .pure [.str, tI, .str] [.str] (fun x => F_ref04_Write x.1 x.2.1 x.2.2)), (45, .pure [tRR] [.bool] (fun x => F_ref06_Check x)), (41, .pure [tI, tI] [.str] (fun x => F_ref01_Put x.1 x.2))]
def cfg_ref06_Encode : SCfg := SCfg.of (fs_ref06_Encode ++ inlL) ann_ref06_Encode keepL
theorem eq_ref06_Encode (x : HL [.str, tI, tRR]) : fnK cfg_ref06_Encode Try.prog 100000 25 [.str, tI, tRR] [.str] x = (fun x => F_ref06_Encode x.1 x.2.1 x.2.2) x := by kernel_rfl
theorem told_ref06_Encode : Told CC Try.prog 25 [.str, tI, tRR] [.str] (fun x => F_ref06_Encode x.1 x.2.1 x.2.2) := told_of (gok (an := ann_ref06_Encode) (fs := fs_ref06_Encode) ⟨told_ref04_Write, told_ref06_Check, told_ref01_Put, trivial⟩) rfl rfl eq_ref06_Encode
def F_ref06_TTL (base_1 : List UInt8) (at_2 : Int) (r_3 : (List UInt8 × (Int × (Int × (Int × List UInt8))))) : Option (Int) :=
 bnd (F_ref06_Encode base_1 at_2 (r_3.1, r_3.2.1, r_3.2.2.1, r_3.2.2.2.1, r_3.2.2.2.2)) fun v4 =>
 if (v4 == []) = true then
  some (-1)
 else
  bnd (F_ref04_Write base_1 at_2 r_3.1) fun v5 =>
  some (IntKind.i64.wrap ((↑v5.length : Int) + 4))
def ann_ref06_TTL : List (List Nat × Ann) := []
@[reducible] def fs_ref06_TTL : List (Nat × SFn) := [(25, .pure [.str, tI, tRR] [.str] (fun x => F_ref06_Encode x.1 x.2.1 x.2.2)), (44, .pure [.str, tI, .str] [.str] (fun x => F_ref04_Write x.1 x.2.1 x.2.2))]
def cfg_ref06_TTL : SCfg := SCfg.of (fs_ref06_TTL ++ inlL) ann_ref06_TTL keepL
theorem eq_ref06_TTL (x : HL [.str, tI, tRR]) : fnK cfg_ref06_TTL Try.prog 100000 54 [.str, tI, tRR] [tI] x = (fun x => F_ref06_TTL x.1 x.2.1 x.2.2) x := by kernel_rfl
theorem told_ref06_TTL : Told CC Try.prog 54 [.str, tI, tRR] [tI] (fun x => F_ref06_TTL x.1 x.2.1 x.2.2) := told_of (gok (an := ann_ref06_TTL) (fs := fs_ref06_TTL) ⟨told_ref06_Encode, told_ref04_Write, trivial⟩) rfl rfl eq_ref06_TTL
def step_ref05_Names_0 (d_2 : List UInt8) (v4 : Int × Int × Int) : (List (List UInt8) × (Int × Int)) → Option ((List (List UInt8) × (Int × Int)) ⊕ List (List UInt8)) := fun (out_5, i_6, k_7) =>
 if decide (k_7 < v4.2.1) = true then
  bnd (F_ref04_Read d_2 i_6) fun (v8, v9, v10) =>
  grd ((out_5.length + [v8].length) * 16 ≤ roomLim) <|
  gq d_2 <| g3 v4 <|
  some (.inl ((out_5 ++ [v8], (v9, IntKind.i64.wrap (k_7 + 1)))))
 else
  g3 v4 <|
  some (.inr out_5)
def F_ref05_Names (kind_1 : Int) (d_2 : List UInt8) : Option (List (List UInt8)) :=
 bnd (F_ref05_Check kind_1 d_2) fun v3 =>
 if (!v3) = true then
  some ([])
 else
  bnd (F_ref05_shape kind_1) fun v4 =>
  bnd (loopS (step_ref05_Names_0 d_2 v4) (([], (v4.1, 0)))) fun out_11 =>
  some out_11
def ann_ref05_Names : List (List Nat × Ann) := [([20], ⟨some ⟨(anyN 1 (.cons kS (anyN 3 (.cons (.own .str 0 true) (.cons (.ptr 0 0) (.cons yI (.cons yI (anyN 30 .nil)))))))), [.cells 60 true (.cons kI (.cons kI (.cons kI .nil)))], [⟨⟨0, .str, 9, true, true⟩, true⟩], []⟩, [(.exit 0, ⟨(anyN 5 (.cons (.own .str 0 true) (anyN 33 .nil))), [.cells 60 true (.cons kI (.cons kI (.cons kI .nil)))], [⟨⟨1, .str, 9, true, true⟩, true⟩], []⟩)]⟩)]
@[reducible] def fs_ref05_Names : List (Nat × SFn) := [(89, .pure [.str, tI] [.str, tI, tI] (fun x => F_ref04_Read x.1 x.2)), (60, .pure [tI, .str] [.bool] (fun x => F_ref05_Check x.1 x.2)), (77, .pure [tI] [(.agg (.cons tI (.cons tI tI)))] (fun x => F_ref05_shape x))]
def cfg_ref05_Names : SCfg := SCfg.of (fs_ref05_Names ++ inlL) ann_ref05_Names keepL
theorem eq_ref05_Names (x : HL [tI, .str]) : fnK cfg_ref05_Names Try.prog 100000 76 [tI, .str] [(.list .str)] x = (fun x => F_ref05_Names x.1 x.2) x := by kernel_rfl
theorem told_ref05_Names : Told CC Try.prog 76 [tI, .str] [(.list .str)] (fun x => F_ref05_Names x.1 x.2) := told_of (gok (an := ann_ref05_Names) (fs := fs_ref05_Names) ⟨told_ref04_Read, told_ref05_Check, told_ref05_shape, trivial⟩) rfl rfl eq_ref05_Names
def step_ref05_Low_0 (d_2 : List UInt8) (v4 : List (List UInt8)) (v5 : Int × Int × Int) : (List UInt8 × (Int × Int)) → Option ((List UInt8 × (Int × Int)) ⊕ (List UInt8 × Int)) := fun (out_7, i_8, k_9) =>
 if decide (k_9 < (↑v4.length : Int)) = true then
  natOf k_9 fun n10 =>
  bnd (v4[n10]?) fun x11 =>
  bnd (F_ref02_Low x11) fun v12 =>
  grd (out_7.length + v12.length ≤ maxStr) <|
  natOf k_9 fun n13 =>
  bnd (v4[n13]?) fun x14 =>
  gq d_2 <| gq v4 <| g3 v5 <|
  some (.inl ((out_7 ++ v12, (IntKind.i64.wrap (i_8 + (↑(List.length x14) : Int)), IntKind.i64.wrap (k_9 + 1)))))
 else
  gq d_2 <| g3 v5 <|
  some (.inr ((out_7, i_8)))
def F_ref05_Low (kind_1 : Int) (d_2 : List UInt8) : Option (List UInt8) :=
 bnd (F_ref05_Check kind_1 d_2) fun v3 =>
 if (!v3) = true then
  some ([])
 else
  bnd (F_ref05_Names kind_1 d_2) fun v4 =>
  bnd (F_ref05_shape kind_1) fun v5 =>
  natOf v5.1 fun n6 =>
  grd (n6 ≤ d_2.length) <|
  bnd (loopS (step_ref05_Low_0 d_2 v4 v5) ((List.take n6 d_2, (v5.1, 0)))) fun (out_15, i_16) =>
  natOf i_16 fun n17 =>
  grd (n17 ≤ d_2.length) <|
  grd (out_15.length + (List.drop n17 d_2).length ≤ maxStr) <|
  some (out_15 ++ List.drop n17 d_2)
def ann_ref05_Low : List (List Nat × Ann) := [([22], ⟨some ⟨(anyN 1 (.cons kS (anyN 3 (.cons (.keep (.list .str)) (anyN 1 (.cons (.ty .str) (.cons yI (.cons yI (anyN 40 .nil))))))))), [.cells 60 true (.cons kI (.cons kI (.cons kI .nil)))], [], []⟩, [(.exit 0, ⟨(anyN 1 (.cons kS (anyN 5 (.cons (.ty .str) (.cons yI (anyN 41 .nil)))))), [.cells 60 true (.cons kI (.cons kI (.cons kI .nil)))], [], []⟩)]⟩)]
@[reducible] def fs_ref05_Low : List (Nat × SFn) := [(52, .pure [.str] [.str] (fun x => F_ref02_Low x)), (60, .pure [tI, .str] [.bool] (fun x => F_ref05_Check x.1 x.2)), (76, .pure [tI, .str] [(.list .str)] (fun x => F_ref05_Names x.1 x.2)), (77, .pure [tI] [(.agg (.cons tI (.cons tI tI)))] (fun x => F_ref05_shape x))]
def cfg_ref05_Low : SCfg := SCfg.of (fs_ref05_Low ++ inlL) ann_ref05_Low keepL
theorem eq_ref05_Low (x : HL [tI, .str]) : fnK cfg_ref05_Low Try.prog 100000 61 [tI, .str] [.str] x = (fun x => F_ref05_Low x.1 x.2) x := by kernel_rfl
theorem told_ref05_Low : Told CC Try.prog 61 [tI, .str] [.str] (fun x => F_ref05_Low x.1 x.2) := told_of (gok (an := ann_ref05_Low) (fs := fs_ref05_Low) ⟨told_ref02_Low, told_ref05_Check, told_ref05_Names, told_ref05_shape, trivial⟩) rfl rfl eq_ref05_Low
def step_ref10_Check_0 (s_1 : List UInt8 × Int × Int × List (List UInt8) × Int) : Int → Option (Int ⊕ (Bool ⊕ Unit)) := fun i_2 =>
 if decide (i_2 < (↑(List.length s_1.2.2.2.1) : Int)) = true then
  natOf i_2 fun n3 =>
  bnd (s_1.2.2.2.1[n3]?) fun x4 =>
  bnd (F_ref05_Check s_1.2.1 x4) fun v5 =>
  if (!v5) = false then
   bnd (F_ref05_Low s_1.2.1 x4) fun v6 =>
   if (!v6 == x4) = false then
    natOf i_2 fun n7 =>
    grd (n7 ≤ List.length s_1.2.2.2.1) <|
    bnd (F_ref10_In (List.take n7 s_1.2.2.2.1) x4) fun v8 =>
    if v8 = true then
     g5 s_1 <|
     some (.inr (.inl false))
    else
     g5 s_1 <|
     some (.inl (IntKind.i64.wrap (i_2 + 1)))
   else
    g5 s_1 <|
    some (.inr (.inl false))
  else
   g5 s_1 <|
   some (.inr (.inl false))
 else
  g5 s_1 <|
  some (.inr (.inr (())))
def F_ref10_Check (s_1 : (List UInt8 × (Int × (Int × (List (List UInt8) × Int))))) : Option (Bool) :=
 bnd (loopS (step_ref10_Check_0 s_1) 0) fun o9 =>
 match o9 with
 | .inl s2_10 =>
  some s2_10
 | .inr _ =>
  bnd (F_ref10_Asked (s_1.1, s_1.2.1, s_1.2.2.1)) fun v11 =>
  if v11 = true then
   if decide (0 ≤ s_1.2.2.2.2) = true then
    if decide (s_1.2.2.2.2 < 2147483648) = true then
     some (decide (0 < (↑(List.length s_1.2.2.2.1) : Int)))
    else
     some false
   else
    some false
  else
   some false
def ann_ref10_Check : List (List Nat × Ann) := [([6], ⟨some ⟨(anyN 1 (.cons (.ptr 0 0) (anyN 1 (.cons yI (anyN 55 .nil))))), [.cells 27 true (.cons kS (.cons kI (.cons kI (.cons (.keep (.list .str)) (.cons kI .nil)))))], [], []⟩, [(.ret, ⟨(anyN 2 (.cons (.ty .bool) (anyN 56 .nil))), [.cells 27 true (.cons kS (.cons kI (.cons kI (.cons (.keep (.list .str)) (.cons kI .nil)))))], [], []⟩), (.exit 0, ⟨(anyN 1 (.cons (.ptr 0 0) (anyN 57 .nil))), [.cells 27 true (.cons kS (.cons kI (.cons kI (.cons (.keep (.list .str)) (.cons kI .nil)))))], [], []⟩)]⟩)]
@[reducible] def fs_ref10_Check : List (Nat × SFn) := [(60, .pure [tI, .str] [.bool] (fun x => F_ref05_Check x.1 x.2)), (61, .pure [tI, .str] [.str] (fun x => F_ref05_Low x.1 x.2)), (62, .pure [(.list .str), .str] [.bool] (fun x => F_ref10_In x.1 x.2)), (31, .pure [tQ] [.bool] (fun x => F_ref10_Asked x))]
def cfg_ref10_Check : SCfg := SCfg.of (fs_ref10_Check ++ inlL) ann_ref10_Check keepL
theorem eq_ref10_Check (x : HL [(.agg (.cons .str (.cons tI (.cons tI (.cons (.list .str) tI)))))]) : fnK cfg_ref10_Check Try.prog 100000 43 [(.agg (.cons .str (.cons tI (.cons tI (.cons (.list .str) tI)))))] [.bool] x = (fun x => F_ref10_Check x) x := by kernel_rfl
theorem told_ref10_Check : Told CC Try.prog 43 [(.agg (.cons .str (.cons tI (.cons tI (.cons (.list .str) tI)))))] [.bool] (fun x => F_ref10_Check x) := told_of (gok (an := ann_ref10_Check) (fs := fs_ref10_Check) ⟨told_ref05_Check, told_ref05_Low, told_ref10_In, told_ref10_Asked, trivial⟩) rfl rfl eq_ref10_Check
def step_ref10_Flat_0 (s_1 : List UInt8 × Int × Int × List (List UInt8) × Int) (ttl_2 : Int) (turn_3 : Int) : (List ((List UInt8 × (Int × (Int × (Int × List UInt8))))) × Int) → Option ((List ((List UInt8 × (Int × (Int × (Int × List UInt8))))) × Int) ⊕ List ((List UInt8 × (Int × (Int × (Int × List UInt8)))))) := fun (out_6, i_7) =>
 if decide (i_7 < (↑(List.length s_1.2.2.2.1) : Int)) = true then
  if (↑(List.length s_1.2.2.2.1) : Int) = 0 then
   none
  else
   if (↑(List.length s_1.2.2.2.1) : Int) = 0 then
    none
   else
    natOf ((IntKind.i64.wrap (turn_3.tmod (↑(List.length s_1.2.2.2.1) : Int) + i_7)).tmod (↑(List.length s_1.2.2.2.1) : Int)) fun n8 =>
    bnd (s_1.2.2.2.1[n8]?) fun x9 =>
    grd ((out_6.length + [(s_1.1, s_1.2.1, s_1.2.2.1, ttl_2, x9)].length) * 56 ≤ roomLim) <|
    gq ttl_2 <| gq turn_3 <| g5 s_1 <|
    some (.inl ((out_6 ++ [(s_1.1, s_1.2.1, s_1.2.2.1, ttl_2, x9)], IntKind.i64.wrap (i_7 + 1))))
 else
  g5 s_1 <|
  some (.inr out_6)
def F_ref10_Flat (s_1 : (List UInt8 × (Int × (Int × (List (List UInt8) × Int))))) (ttl_2 : Int) (turn_3 : Int) : Option (List ((List UInt8 × (Int × (Int × (Int × List UInt8)))))) :=
 bnd (α := (Unit ⊕ Unit)) (bnd (F_ref10_Check (s_1.1, s_1.2.1, s_1.2.2.1, s_1.2.2.2.1, s_1.2.2.2.2)) fun v4 =>
  if (!v4) = false then
   if decide (ttl_2 < 0) = false then
    if decide (2147483648 ≤ ttl_2) = false then
     if decide (turn_3 < 0) = true then
      g5 s_1 <|
      some (.inl (()))
     else
      gq ttl_2 <| gq turn_3 <| g5 s_1 <|
      some (.inr (()))
    else
     g5 s_1 <|
     some (.inl (()))
   else
    g5 s_1 <|
    some (.inl (()))
  else
   g5 s_1 <|
   some (.inl (()))) fun o5 =>
 match o5 with
 | .inl _ =>
  some ([])
 | .inr _ =>
  bnd (loopS (step_ref10_Flat_0 s_1 ttl_2 turn_3) (([], 0))) fun out_10 =>
  some out_10
def ann_ref10_Flat : List (List Nat × Ann) := [([4], ⟨none, [(.ret, ⟨(anyN 6 (.cons .nill (anyN 57 .nil))), [.cells 27 true (.cons kS (.cons kI (.cons kI (.cons (.keep (.list .str)) (.cons kI .nil)))))], [], []⟩), (.normal, ⟨(anyN 1 (.cons kI (.cons kI (.cons (.ptr 0 0) (anyN 3 (.cons .nill (anyN 56 .nil))))))), [.cells 27 true (.cons kS (.cons kI (.cons kI (.cons (.keep (.list .str)) (.cons kI .nil)))))], [], []⟩)]⟩), ([16], ⟨some ⟨(anyN 1 (.cons kI (.cons kI (.cons (.ptr 0 0) (anyN 3 (.cons (.own tRR 0 true) (.cons yI (anyN 55 .nil)))))))), [.cells 27 true (.cons kS (.cons kI (.cons kI (.cons (.keep (.list .str)) (.cons kI .nil)))))], [⟨⟨0, tRR, 65, true, true⟩, true⟩], []⟩, [(.exit 0, ⟨(anyN 7 (.cons (.own tRR 0 true) (anyN 56 .nil))), [.cells 27 true (.cons kS (.cons kI (.cons kI (.cons (.keep (.list .str)) (.cons kI .nil)))))], [⟨⟨1, tRR, 65, true, true⟩, true⟩], []⟩)]⟩)]
@[reducible] def fs_ref10_Flat : List (Nat × SFn) := [(43, .pure [(.agg (.cons .str (.cons tI (.cons tI (.cons (.list .str) tI)))))] [.bool] (fun x => F_ref10_Check x))]
def cfg_ref10_Flat : SCfg := SCfg.of (fs_ref10_Flat ++ inlL) ann_ref10_Flat keepL
theorem eq_ref10_Flat (x : HL [(.agg (.cons .str (.cons tI (.cons tI (.cons (.list .str) tI))))), tI, tI]) : fnK cfg_ref10_Flat Try.prog 100000 24 [(.agg (.cons .str (.cons tI (.cons tI (.cons (.list .str) tI))))), tI, tI] [(.list tRR)] x = (fun x => F_ref10_Flat x.1 x.2.1 x.2.2) x := by kernel_rfl
theorem told_ref10_Flat : Told CC Try.prog 24 [(.agg (.cons .str (.cons tI (.cons tI (.cons (.list .str) tI))))), tI, tI] [(.list tRR)] (fun x => F_ref10_Flat x.1 x.2.1 x.2.2) := told_of (gok (an := ann_ref10_Flat) (fs := fs_ref10_Flat) ⟨told_ref10_Check, trivial⟩) rfl rfl eq_ref10_Flat
def F_octet_Take (s_1 : List UInt8) (at_2 : Int) (size_3 : Int) : Option ((List UInt8 × Bool)) :=
 if decide (at_2 < 0) = false then
  if decide (size_3 < 0) = false then
   if decide ((↑s_1.length : Int) < at_2) = false then
    if decide (IntKind.i64.wrap ((↑s_1.length : Int) - at_2) < size_3) = true then
     some (([], false))
    else
     natOf at_2 fun n4 =>
     grd (n4 ≤ s_1.length) <|
     natOf size_3 fun n5 =>
     grd (n5 ≤ (List.drop n4 s_1).length) <|
     some ((List.take n5 (List.drop n4 s_1), true))
   else
    some (([], false))
  else
   some (([], false))
 else
  some (([], false))
def ann_octet_Take : List (List Nat × Ann) := []
def cfg_octet_Take : SCfg := SCfg.of ([] ++ inlL) ann_octet_Take keepL
theorem eq_octet_Take (x : HL [.str, tI, tI]) : fnK cfg_octet_Take Try.prog 100000 98 [.str, tI, tI] [.str, .bool] x = (fun x => F_octet_Take x.1 x.2.1 x.2.2) x := by kernel_rfl
theorem told_octet_Take : Told CC Try.prog 98 [.str, tI, tI] [.str, .bool] (fun x => F_octet_Take x.1 x.2.1 x.2.2) := told_of (gok (an := ann_octet_Take) (fs := []) trivial) rfl rfl eq_octet_Take
def step_data_texts_0 : List UInt8 → Option (List UInt8 ⊕ (Bool ⊕ Unit)) := fun d_2 =>
 if (!d_2 == []) = true then
  bnd (d_2[0]?) fun x3 =>
  if decide ((↑d_2.length : Int) < IntKind.i64.wrap (1 + IntKind.i64.wrap (↑x3.toNat : Int))) = true then
   some (.inr (.inl false))
  else
   natOf (IntKind.i64.wrap (1 + IntKind.i64.wrap (↑x3.toNat : Int))) fun n4 =>
   grd (n4 ≤ d_2.length) <|
   some (.inl (List.drop n4 d_2))
 else
  some (.inr (.inr (())))
def F_data_texts (d_1 : List UInt8) : Option (Bool) :=
 if (d_1 == []) = true then
  some false
 else
  bnd (loopS step_data_texts_0 d_1) fun o5 =>
  match o5 with
  | .inl s2_6 =>
   some s2_6
  | .inr _ =>
   some true
def ann_data_texts : List (List Nat × Ann) := [([12], ⟨some ⟨(.cons (.ty .str) (anyN 18 .nil)), [], [], []⟩, [(.ret, ⟨(anyN 2 (.cons (.ty .bool) (anyN 16 .nil))), [], [], []⟩), (.exit 0, ⟨(anyN 19 .nil), [], [], []⟩)]⟩)]
def cfg_data_texts : SCfg := SCfg.of ([] ++ inlL) ann_data_texts keepL
theorem eq_data_texts (x : HL [.str]) : fnK cfg_data_texts Try.prog 100000 101 [.str] [.bool] x = (fun x => F_data_texts x) x := by kernel_rfl
theorem told_data_texts : Told CC Try.prog 101 [.str] [.bool] (fun x => F_data_texts x) := told_of (gok (an := ann_data_texts) (fs := []) trivial) rfl rfl eq_data_texts
def F_stringslite_HasSuffix (s_1 : List UInt8) (suffix_2 : List UInt8) : Option (Bool) :=
 if decide ((↑suffix_2.length : Int) ≤ (↑s_1.length : Int)) = true then
  natOf (IntKind.i64.wrap ((↑s_1.length : Int) - (↑suffix_2.length : Int))) fun n3 =>
  grd (n3 ≤ s_1.length) <|
  some (List.drop n3 s_1 == suffix_2)
 else
  some false
def ann_stringslite_HasSuffix : List (List Nat × Ann) := []
def cfg_stringslite_HasSuffix : SCfg := SCfg.of ([] ++ inlL) ann_stringslite_HasSuffix keepL
theorem eq_stringslite_HasSuffix (x : HL [.str, .str]) : fnK cfg_stringslite_HasSuffix Try.prog 100000 103 [.str, .str] [.bool] x = (fun x => F_stringslite_HasSuffix x.1 x.2) x := by kernel_rfl
theorem told_stringslite_HasSuffix : Told CC Try.prog 103 [.str, .str] [.bool] (fun x => F_stringslite_HasSuffix x.1 x.2) := told_of (gok (an := ann_stringslite_HasSuffix) (fs := []) trivial) rfl rfl eq_stringslite_HasSuffix
def F_stringslite_TrimSuffix (s_1 : List UInt8) (suffix_2 : List UInt8) : Option (List UInt8) :=
 bnd (F_stringslite_HasSuffix s_1 suffix_2) fun v3 =>
 if v3 = true then
  natOf (IntKind.i64.wrap ((↑s_1.length : Int) - (↑suffix_2.length : Int))) fun n4 =>
  grd (n4 ≤ s_1.length) <|
  some (List.take n4 s_1)
 else
  some s_1
def ann_stringslite_TrimSuffix : List (List Nat × Ann) := []
@[reducible] def fs_stringslite_TrimSuffix : List (Nat × SFn) := [(103, .pure [.str, .str] [.bool] (fun x => F_stringslite_HasSuffix x.1 x.2))]
def cfg_stringslite_TrimSuffix : SCfg := SCfg.of (fs_stringslite_TrimSuffix ++ inlL) ann_stringslite_TrimSuffix keepL
theorem eq_stringslite_TrimSuffix (x : HL [.str, .str]) : fnK cfg_stringslite_TrimSuffix Try.prog 100000 95 [.str, .str] [.str] x = (fun x => F_stringslite_TrimSuffix x.1 x.2) x := by kernel_rfl
theorem told_stringslite_TrimSuffix : Told CC Try.prog 95 [.str, .str] [.str] (fun x => F_stringslite_TrimSuffix x.1 x.2) := told_of (gok (an := ann_stringslite_TrimSuffix) (fs := fs_stringslite_TrimSuffix) ⟨told_stringslite_HasSuffix, trivial⟩) rfl rfl eq_stringslite_TrimSuffix
def F_strings_TrimSuffix (s_1 : List UInt8) (suffix_2 : List UInt8) : Option (List UInt8) :=
 bnd (F_stringslite_TrimSuffix s_1 suffix_2) fun v3 =>
 some v3
def ann_strings_TrimSuffix : List (List Nat × Ann) := []
@[reducible] def fs_strings_TrimSuffix : List (Nat × SFn) := [(95, .pure [.str, .str] [.str] (fun x => F_stringslite_TrimSuffix x.1 x.2))]
def cfg_strings_TrimSuffix : SCfg := SCfg.of (fs_strings_TrimSuffix ++ inlL) ann_strings_TrimSuffix keepL
theorem eq_strings_TrimSuffix (x : HL [.str, .str]) : fnK cfg_strings_TrimSuffix Try.prog 100000 86 [.str, .str] [.str] x = (fun x => F_strings_TrimSuffix x.1 x.2) x := by kernel_rfl
theorem told_strings_TrimSuffix : Told CC Try.prog 86 [.str, .str] [.str] (fun x => F_strings_TrimSuffix x.1 x.2) := told_of (gok (an := ann_strings_TrimSuffix) (fs := fs_strings_TrimSuffix) ⟨told_stringslite_TrimSuffix, trivial⟩) rfl rfl eq_strings_TrimSuffix
def step_comp_Write_0 (base_1 : List UInt8) (at_2 : Int) (n_3 : List UInt8) : (List UInt8 × Bool) → Option ((List UInt8 × Bool) ⊕ (List UInt8 ⊕ Unit)) := fun (rest_8, is_9) =>
 bnd (α := (Unit ⊕ Unit)) (if is_9 = true then
   if decide (1 < (↑rest_8.length : Int)) = true then
    gq base_1 <| gq at_2 <| gq n_3 <| gq rest_8 <|
    some (.inl (()))
   else
    gq n_3 <|
    some (.inr (()))
  else
   gq n_3 <|
   some (.inr (()))) fun o10 =>
 match o10 with
 | .inl _ =>
  bnd (F_comp_place base_1 rest_8) fun v11 =>
  if decide (0 ≤ v11) = true then
   bnd (F_strings_TrimSuffix n_3 rest_8) fun v12 =>
   bnd (F_octet_Put (IntKind.i64.wrap (IntKind.i64.wrap (49152 + at_2) + v11)) 2) fun v13 =>
   grd (v12.length + v13.length ≤ maxStr) <|
   some (.inr (.inl (v12 ++ v13)))
  else
   bnd (F_name_Up rest_8) fun (v14, v15) =>
   gq base_1 <| gq at_2 <| gq n_3 <|
   some (.inl ((v14, v15)))
 | .inr _ =>
  gq n_3 <|
  some (.inr (.inr (())))
def F_comp_Write (base_1 : List UInt8) (at_2 : Int) (n_3 : List UInt8) : Option (List UInt8) :=
 bnd (α := (List UInt8 ⊕ Unit)) (bnd (F_name_Check base_1) fun v4 =>
  if (!v4) = false then
   bnd (F_name_Check n_3) fun v5 =>
   if (!v5) = false then
    if decide (at_2 < 0) = false then
     if decide (16000 < at_2) = true then
      some (.inl ([]))
     else
      gq base_1 <| gq at_2 <| gq n_3 <|
      some (.inr (()))
    else
     some (.inl ([]))
   else
    some (.inl ([]))
  else
   some (.inl ([]))) fun o6 =>
 match o6 with
 | .inl s6_7 =>
  some s6_7
 | .inr _ =>
  bnd (loopS (step_comp_Write_0 base_1 at_2 n_3) ((n_3, true))) fun o16 =>
  match o16 with
  | .inl s6_17 =>
   some s6_17
  | .inr _ =>
   some n_3
def ann_comp_Write : List (List Nat × Ann) := [([2], ⟨none, [(.ret, ⟨(anyN 6 (.cons (.ty .str) (anyN 46 .nil))), [], [], []⟩), (.normal, ⟨(.cons kS (.cons kI (.cons kS (anyN 50 .nil)))), [], [], []⟩)]⟩), ([15], ⟨none, [(.normal, ⟨(.cons kS (.cons kI (.cons kS (anyN 4 (.cons kS (anyN 45 .nil)))))), [], [], []⟩), (.exit 0, ⟨(anyN 2 (.cons kS (anyN 50 .nil))), [], [], []⟩)]⟩), ([14], ⟨some ⟨(.cons kS (.cons kI (.cons kS (anyN 4 (.cons (.ty .str) (.cons (.ty .bool) (anyN 44 .nil))))))), [], [], []⟩, [(.ret, ⟨(anyN 6 (.cons (.ty .str) (anyN 46 .nil))), [], [], []⟩), (.exit 0, ⟨(anyN 2 (.cons kS (anyN 50 .nil))), [], [], []⟩)]⟩)]
@[reducible] def fs_comp_Write : List (Nat × SFn) := [(85, .pure [.str, .str] [tI] (fun x => F_comp_place x.1 x.2)), (86, .pure [.str, .str] [.str] (fun x => F_strings_TrimSuffix x.1 x.2)), (35, .pure [tI, tI] [.str] (fun x => F_octet_Put x.1 x.2)), (84, .pure [.str] [.str, .bool] (fun x => F_name_Up x)), (46, .pure [.str] [.bool] (fun x => F_name_Check x))]
def cfg_comp_Write : SCfg := SCfg.of (fs_comp_Write ++ inlL) ann_comp_Write keepL
theorem eq_comp_Write (x : HL [.str, tI, .str]) : fnK cfg_comp_Write Try.prog 100000 70 [.str, tI, .str] [.str] x = (fun x => F_comp_Write x.1 x.2.1 x.2.2) x := by kernel_rfl
theorem told_comp_Write : Told CC Try.prog 70 [.str, tI, .str] [.str] (fun x => F_comp_Write x.1 x.2.1 x.2.2) := told_of (gok (an := ann_comp_Write) (fs := fs_comp_Write) ⟨told_comp_place, told_strings_TrimSuffix, told_octet_Put, told_name_Up, told_name_Check, trivial⟩) rfl rfl eq_comp_Write
def step_octet_Get_0 (size_3 : Int) (v4 : List UInt8) : (Int × Int) → Option ((Int × Int) ⊕ Int) := fun (n_10, s27_11) =>
 if decide (s27_11 < size_3) = true then
  natOf s27_11 fun n12 =>
  bnd (v4[n12]?) fun x13 =>
  grdEq v4 v4 <|
  grdEq size_3 size_3 <|
  some (.inl ((bits BinOp.or IntKind.i64 (IntKind.i64.wrap (n_10 * 256)) (IntKind.i64.wrap (↑x13.toNat : Int)), IntKind.i64.wrap (s27_11 + 1))))
 else
  some (.inr n_10)
def F_octet_Get (s_1 : List UInt8) (at_2 : Int) (size_3 : Int) : Option ((Int × Bool)) :=
 bnd (F_octet_Take s_1 at_2 size_3) fun (v4, v5) =>
 bnd (α := ((Int × Bool) ⊕ Unit)) (if (!v5) = false then
   bnd (F_octet_sized size_3) fun v6 =>
   if (!v6) = true then
    some (.inl ((0, false)))
   else
    grdEq size_3 size_3 <|
    grdEq v4 v4 <|
    some (.inr (()))
  else
   some (.inl ((0, false)))) fun o7 =>
 match o7 with
 | .inl (s6_8, s7_9) =>
  some ((s6_8, s7_9))
 | .inr _ =>
  bnd (loopS (step_octet_Get_0 size_3 v4) ((0, 0))) fun n_14 =>
  some ((n_14, true))
def ann_octet_Get : List (List Nat × Ann) := [([4], ⟨none, [(.ret, ⟨(anyN 6 (.cons yI (.cons (.ty .bool) (anyN 31 .nil)))), [], [], []⟩), (.normal, ⟨(anyN 2 (.cons kI (anyN 5 (.cons kS (anyN 30 .nil))))), [], [], []⟩)]⟩), ([18], ⟨some ⟨(anyN 8 (.cons kS (anyN 1 (.cons yI (anyN 15 (.cons kI (.cons yI (anyN 11 .nil)))))))), [], [], []⟩, [(.exit 0, ⟨(anyN 10 (.cons yI (anyN 28 .nil))), [], [], []⟩)]⟩)]
@[reducible] def fs_octet_Get : List (Nat × SFn) := [(98, .pure [.str, tI, tI] [.str, .bool] (fun x => F_octet_Take x.1 x.2.1 x.2.2)), (56, .pure [tI] [.bool] (fun x => F_octet_sized x))]
def cfg_octet_Get : SCfg := SCfg.of (fs_octet_Get ++ inlL) ann_octet_Get keepL
theorem eq_octet_Get (x : HL [.str, tI, tI]) : fnK cfg_octet_Get Try.prog 100000 106 [.str, tI, tI] [tI, .bool] x = (fun x => F_octet_Get x.1 x.2.1 x.2.2) x := by kernel_rfl
theorem told_octet_Get : Told CC Try.prog 106 [.str, tI, tI] [tI, .bool] (fun x => F_octet_Get x.1 x.2.1 x.2.2) := told_of (gok (an := ann_octet_Get) (fs := fs_octet_Get) ⟨told_octet_Take, told_octet_sized, trivial⟩) rfl rfl eq_octet_Get
end
end Go.Abs
